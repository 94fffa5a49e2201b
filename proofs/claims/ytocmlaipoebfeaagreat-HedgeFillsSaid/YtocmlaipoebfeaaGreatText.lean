/- A part of the proof of HedgeFills of layer 22: the functions as equations between values, printed by a program. -/
import Derived.Test.YtocmlaipoebfeaaGreatVm0
set_option linter.all false
namespace VM.F
open Go VM
set_option maxRecDepth 100000
noncomputable section
abbrev qY:Ty:=(.pair .str .unit)
abbrev iA:Ty:=(.pair .str (.pair (.int .u64) .unit))
abbrev gC:Ty:=(.pair (.int .i64) (.pair (.int .i64) .unit))
abbrev cn:Ty:=(.pair (.int .i64) (.pair (.int .u64) .unit))
abbrev bY:Ty:=(.pair .bool (.pair (.slice (.int .u64)) .unit))
abbrev dj:Ty:=(.pair (.slice (.int .u64)) (.pair (.int .i64) .unit))
abbrev fA:Ty:=(.pair (.int .i64) gC)
abbrev qZ:Ty:=(.pair (.int .i64) (.pair (.int .i64) (.pair .bool (.pair (.int .u8) .unit))))
abbrev cU:Ty:=(.pair (.int .i64) fA)
abbrev q3:Ty:=(.pair (.int .i64) (.pair (.int .i64) (.pair cn .unit)))
abbrev oi:Ty:=(.pair (.int .i64) cU)
abbrev oc:Ty:=(.pair (.int .i64) (.pair (.int .i64) (.pair bY .unit)))
abbrev jg:Ty:=(.pair (.int .i64) oi)
abbrev nj:Ty:=(.pair (.int .i64) (.pair (.int .i64) jg))
abbrev gA:Ty:=(.pair (.int .i64) (.pair (.slice gC) cU))
abbrev dZ:Ty:=(.pair (.int .i64) (.pair (.int .i64) (.pair (.slice oi) (.pair (.int .i64) .unit))))
abbrev aq:Ty:=(.pair (.slice cU) jg)
abbrev az:Ty:=(.pair (.slice gC) (.pair (.slice cU) (.pair (.slice fA) (.pair (.slice fA) (.pair (.slice (.int .i64)) (.pair (.slice jg) .unit))))))
abbrev lZ:Ty:=(.pair (.int .i64) (.pair (.int .i64) (.pair (.int .i64) (.pair (.int .i64) (.pair (.slice cU) (.pair (.slice gA) (.pair (.slice cU) (.pair (.slice (.int .i64)) (.pair (.slice gC) (.pair (.slice gC) .unit))))))))))
abbrev cz:Ty:=(.pair (.int .i64) (.pair (.int .i64) (.pair az (.pair lZ (.pair dZ .unit)))))
abbrev Tm:=Ty.den qY
abbrev Tn:=List (Ty.den qY)
abbrev H8:=Ty.den iA
abbrev H9:=List (Ty.den iA)
abbrev Ks:=Ty.den gC
abbrev au:=List (Ty.den gC)
abbrev aS:=Ty.den cn
abbrev de:=List (Ty.den cn)
abbrev aw:=Ty.den bY
abbrev ku:=List (Ty.den bY)
abbrev aK:=Ty.den dj
abbrev anQ:=List (Ty.den dj)
abbrev bW:=Ty.den fA
abbrev aj:=List (Ty.den fA)
abbrev To:=Ty.den qZ
abbrev Tp:=List (Ty.den qZ)
abbrev bh:=Ty.den cU
abbrev aD:=List (Ty.den cU)
abbrev o1:=Ty.den q3
abbrev cy:=List (Ty.den q3)
abbrev fZ:=Ty.den oi
abbrev aX:=List (Ty.den oi)
abbrev anR:=Ty.den oc
abbrev br:=List (Ty.den oc)
abbrev cq:=Ty.den jg
abbrev aT:=List (Ty.den jg)
abbrev fO:=Ty.den nj
abbrev gg:=List (Ty.den nj)
abbrev gr:=Ty.den gA
abbrev aZ:=List (Ty.den gA)
abbrev c3:=Ty.den dZ
abbrev aih:=List (Ty.den dZ)
abbrev aa:=Ty.den aq
abbrev aii:=List (Ty.den aq)
abbrev ag:=Ty.den az
abbrev anS:=List (Ty.den az)
abbrev agn:=Ty.den lZ
abbrev ago:=List (Ty.den lZ)
abbrev aM:=Ty.den cz
abbrev al3:=List (Ty.den cz)
def F99(N:Nat):Option (aa×ag):=
 some (([((0:Int),((100:Int),((1:Int),((0:Int),())))),((0:Int),((7:Int),bI))],((0:Int),((0:Int),((0:Int),((0:Int),((1:Int),((10:Int),()))))))),([((1:Int),((1:Int),()))],([((1:Int),((1:Int),((1:Int),((50:Int),()))))],([((1:Int),((0:Int),((-90:Int),()))),((5:Int),((1:Int),((90:Int),())))],([((0:Int),((0:Int),((5:Int),()))),((0:Int),((1:Int),((20:Int),()))),((1:Int),((0:Int),((-5:Int),()))),((1:Int),((1:Int),((-20:Int),())))],([(100:Int),(7:Int)],(cF,())))))))
def yF(N:Nat)(a0:Int)(a1:Int)(a2:Int):Option (Bool):=
 cond (bU a1 a0) (some (bU a0 a2)) (some false)
abbrev wi.bn:=aa→aD→Int→Int→Option (Bool)
def wi.c5(N:Nat)(bJ:wi.bn)(x1:aa)(aI:aD)(aO:Int)(ba:Int):Option (Bool):=
 cond (aH ba aO) (cond (aL ba (List.length aI)) ((yF N ((List.getD aI ba.toNat aJ).1) (0:Int) (3:Int)).bind fun r3=>cond (!r3) (some false) ((yF N (((List.getD aI ba.toNat aJ).2).1) (1:Int) (1000000000000:Int)).bind fun r4=>cond (!r4) (some false) ((yF N ((((List.getD aI ba.toNat aJ).2).2).1) (0:Int) (1000000000:Int)).bind fun r5=>cond (!r5) (some false) ((yF N (((((List.getD aI ba.toNat aJ).2).2).2).1) (0:Int) (1000000000:Int)).bind fun r6=>cond (!r6) (some false) (bJ x1 aI aO (W .i64 (ba+1))))))) (none)) (cond (bU 0 x1.2.1) ((yF N x1.2.2.1 (0:Int) (4:Int)).bind fun r8=>cond (r8) ((yF N x1.2.2.2.1 (0:Int) (1000000:Int)).bind fun r9=>cond (r9) ((yF N x1.2.2.2.2.1 (0:Int) (1000000:Int)).bind fun iB=>cond (iB) ((yF N x1.2.2.2.2.2.1 (1:Int) (4611686018427387904:Int)).bind fun kv=>cond (kv) (some (bU 0 x1.2.2.2.2.2.2.1)) (some false)) (some false)) (some false)) (some false)) (some false))
def wi.l4(N:Nat):Nat→wi.bn
 |0,_,_,_,_=>none
 |n+1,x1,aI,aO,ba=>wi.c5 N (wi.l4 N n) x1 aI aO ba
def wi.b(N:Nat)(dz:wi.bn)(a0:aa):Option (Bool):=
 (yF N (List.length a0.1:Int) (1:Int) (6:Int)).bind fun r1=>cond (!r1) (some false) (dz a0 a0.1 (List.length a0.1:Int) (0:Int))
def wi(N:Nat)(a0:aa):Option (Bool):=wi.b N (wi.l4 N N) a0
abbrev lF.bP:=au→au→Int→Int→Option (Bool)
def lF.dr(N:Nat)(cH:lF.bP)(x0:au)(x5:au)(x6:Int)(x7:Int):Option (Bool):=
 cond (aH x7 x6) (cond (aL x7 (List.length x5)) (cond (aH ((List.getD x5 x7.toNat bI).1) (1:Int)) (some false) (cond (aH 12 ((List.getD x5 x7.toNat bI).1)) (some false) (cond (aH (((List.getD x5 x7.toNat bI).2).1) (1:Int)) (some false) (cond (aH 4 (((List.getD x5 x7.toNat bI).2).1)) (some false) (cond (aH 0 x7) (let v2:Int:=W .i64 (x7-1);cond (aL v2 (List.length x0)) (cond (bU ((List.getD x5 x7.toNat bI).1) ((List.getD x0 v2.toNat bI).1)) (some false) (cH x0 x5 x6 (W .i64 (x7+1)))) (none)) (cH x0 x5 x6 (W .i64 (x7+1)))))))) (none)) (some true)
def lF.l2(N:Nat):Nat→lF.bP
 |0,_,_,_,_=>none
 |n+1,x0,x5,x6,x7=>lF.dr N (lF.l2 N n) x0 x5 x6 x7
def lF.b(N:Nat)(ey:lF.bP)(a0:au):Option (Bool):=
 ey a0 a0 (List.length a0:Int) (0:Int)
def lF(N:Nat)(a0:au):Option (Bool):=lF.b N (lF.l2 N N) a0
abbrev jD.cO:=aD→(List (Bool))→aD→Int→Int→Option (Bool)
def jD.kq(N:Nat)(ct:jD.cO)(x0:aD)(x3:List (Bool))(x6:aD)(x7:Int)(x8:Int):Option (Bool):=
 cond (aH x8 x7) (cond (aL x8 (List.length x6)) (cond (aH ((List.getD x6 x8.toNat aJ).1) (1:Int)) (some false) (cond (aH 24 ((List.getD x6 x8.toNat aJ).1)) (some false) (cond (aH (((List.getD x6 x8.toNat aJ).2).1) (1:Int)) (some false) (cond (aH 12 (((List.getD x6 x8.toNat aJ).2).1)) (some false) (cond (!ay ((((List.getD x6 x8.toNat aJ).2).2).1) (1:Int)) (cond (!ay ((((List.getD x6 x8.toNat aJ).2).2).1) (2:Int)) (some false) (cond (aH (((((List.getD x6 x8.toNat aJ).2).2).2).1) (0:Int)) (some false) (cond (aH 1000000000000 (((((List.getD x6 x8.toNat aJ).2).2).2).1)) (some false) (cond (aH 0 x8) (let v2:Int:=W .i64 (x8-1);cond (aL v2 (List.length x0)) (cond (bU ((List.getD x6 x8.toNat aJ).1) ((List.getD x0 v2.toNat aJ).1)) (some false) (cond (ay ((((List.getD x6 x8.toNat aJ).2).2).1) (1:Int)) (cond (aL (((List.getD x6 x8.toNat aJ).2).1) 13) (cond (List.getD x3 (((List.getD x6 x8.toNat aJ).2).1).toNat false) (some false) (cond (aL (((List.getD x6 x8.toNat aJ).2).1) 13) (ct x0 (List.set x3 (((List.getD x6 x8.toNat aJ).2).1).toNat true) x6 x7 (W .i64 (x8+1))) (none))) (none)) (ct x0 x3 x6 x7 (W .i64 (x8+1))))) (none)) (cond (ay ((((List.getD x6 x8.toNat aJ).2).2).1) (1:Int)) (cond (aL (((List.getD x6 x8.toNat aJ).2).1) 13) (cond (List.getD x3 (((List.getD x6 x8.toNat aJ).2).1).toNat false) (some false) (cond (aL (((List.getD x6 x8.toNat aJ).2).1) 13) (ct x0 (List.set x3 (((List.getD x6 x8.toNat aJ).2).1).toNat true) x6 x7 (W .i64 (x8+1))) (none))) (none)) (ct x0 x3 x6 x7 (W .i64 (x8+1)))))))) (cond (aH (((((List.getD x6 x8.toNat aJ).2).2).2).1) (0:Int)) (some false) (cond (aH 1000000000000 (((((List.getD x6 x8.toNat aJ).2).2).2).1)) (some false) (cond (aH 0 x8) (let v7:Int:=W .i64 (x8-1);cond (aL v7 (List.length x0)) (cond (bU ((List.getD x6 x8.toNat aJ).1) ((List.getD x0 v7.toNat aJ).1)) (some false) (cond (ay ((((List.getD x6 x8.toNat aJ).2).2).1) (1:Int)) (cond (aL (((List.getD x6 x8.toNat aJ).2).1) 13) (cond (List.getD x3 (((List.getD x6 x8.toNat aJ).2).1).toNat false) (some false) (cond (aL (((List.getD x6 x8.toNat aJ).2).1) 13) (ct x0 (List.set x3 (((List.getD x6 x8.toNat aJ).2).1).toNat true) x6 x7 (W .i64 (x8+1))) (none))) (none)) (ct x0 x3 x6 x7 (W .i64 (x8+1))))) (none)) (cond (ay ((((List.getD x6 x8.toNat aJ).2).2).1) (1:Int)) (cond (aL (((List.getD x6 x8.toNat aJ).2).1) 13) (cond (List.getD x3 (((List.getD x6 x8.toNat aJ).2).1).toNat false) (some false) (cond (aL (((List.getD x6 x8.toNat aJ).2).1) 13) (ct x0 (List.set x3 (((List.getD x6 x8.toNat aJ).2).1).toNat true) x6 x7 (W .i64 (x8+1))) (none))) (none)) (ct x0 x3 x6 x7 (W .i64 (x8+1)))))))))))) (none)) (some true)
def jD.l3(N:Nat):Nat→jD.cO
 |0,_,_,_,_,_=>none
 |n+1,x0,x3,x6,x7,x8=>jD.kq N (jD.l3 N n) x0 x3 x6 x7 x8
def jD.b(N:Nat)(kW:jD.cO)(a0:aD):Option (Bool):=
 kW a0 (List.replicate 13 false) a0 (List.length a0:Int) (0:Int)
def jD(N:Nat)(a0:aD):Option (Bool):=jD.b N (jD.l3 N N) a0
abbrev vr.bn:=Int→au→Int→Int→Option (Int)
def vr.c5(N:Nat)(bJ:vr.bn)(x1:Int)(aP:au)(aI:Int)(aO:Int):Option (Int):=
 cond (aH aO aI) (cond (aL aO (List.length aP)) (cond (ay ((List.getD aP aO.toNat bI).1) x1) (some (((List.getD aP aO.toNat bI).2).1)) (bJ x1 aP aI (W .i64 (aO+1)))) (none)) (some (0:Int))
def vr.l4(N:Nat):Nat→vr.bn
 |0,_,_,_,_=>none
 |n+1,x1,aP,aI,aO=>vr.c5 N (vr.l4 N n) x1 aP aI aO
def vr.b(N:Nat)(dz:vr.bn)(a0:au)(a1:Int):Option (Int):=
 (lF N a0).bind fun r1=>cond (!r1) (some (0:Int)) (dz a1 a0 (List.length a0:Int) (0:Int))
def vr(N:Nat)(a0:au)(a1:Int):Option (Int):=vr.b N (vr.l4 N N) a0 a1
abbrev yI.bn:=au→aD→Int→Int→Option (Bool)
def yI.c5(N:Nat)(bJ:yI.bn)(x0:au)(b7:aD)(cT:Int)(cQ:Int):Option (Bool):=
 cond (aH cQ cT) (cond (aL cQ (List.length b7)) ((vr N x0 (((List.getD b7 cQ.toNat aJ).2).1)).bind fun r4=>cond (ay r4 0) (some false) (bJ x0 b7 cT (W .i64 (cQ+1)))) (none)) (some true)
def yI.l4(N:Nat):Nat→yI.bn
 |0,_,_,_,_=>none
 |n+1,x0,b7,cT,cQ=>yI.c5 N (yI.l4 N n) x0 b7 cT cQ
def yI.b(N:Nat)(dz:yI.bn)(a0:au)(a1:aD):Option (Bool):=
 (lF N a0).bind fun r1=>cond (!r1) (some false) ((jD N a1).bind fun r2=>cond (!r2) (some false) (dz a0 a1 (List.length a1:Int) (0:Int)))
def yI(N:Nat)(a0:au)(a1:aD):Option (Bool):=yI.b N (yI.l4 N N) a0 a1
def Kk(N:Nat)(a0:Int)(a1:Int):Option (Bool):=
 cond (ay a0 1) (some (ay a1 0)) (cond (ay a0 2) (some (ay a1 0)) (cond (ay a0 3) (some (ay a1 0)) (cond (ay a0 4) (some (ay a1 0)) (cond (ay a0 5) (cond (bU 1 a1) (some (bU a1 24)) (some false)) (cond (ay a0 6) (cond (bU 1 a1) (some (bU a1 12)) (some false)) (cond (ay a0 7) (cond (bU 1 a1) (some (bU a1 12)) (some false)) (some false)))))))
def Km(N:Nat)(a0:Int)(a1:Int)(a2:bW):Option (Int):=
 cond (!ay a0 a2.1) (some (W .i64 (a0-a2.1))) (some (W .i64 (a1-a2.2.1)))
abbrev wj.bP:=aj→aj→Int→Int→Option (Bool)
def wj.dr(N:Nat)(cH:wj.bP)(x0:aj)(x5:aj)(x6:Int)(x7:Int):Option (Bool):=
 cond (aH x7 x6) (cond (aL x7 (List.length x5)) ((Kk N ((List.getD x5 x7.toNat aQ).1) (((List.getD x5 x7.toNat aQ).2).1)).bind fun r2=>cond (!r2) (some false) (cond (ay ((((List.getD x5 x7.toNat aQ).2).2).1) (0:Int)) (some false) (cond (aH 0 x7) (let v3:Int:=W .i64 (x7-1);cond (aL v3 (List.length x0)) ((Km N ((List.getD x5 x7.toNat aQ).1) (((List.getD x5 x7.toNat aQ).2).1) (List.getD x0 v3.toNat aQ)).bind fun r4=>cond (bU r4 0) (some false) (cH x0 x5 x6 (W .i64 (x7+1)))) (none)) (cH x0 x5 x6 (W .i64 (x7+1)))))) (none)) (some true)
def wj.l2(N:Nat):Nat→wj.bP
 |0,_,_,_,_=>none
 |n+1,x0,x5,x6,x7=>wj.dr N (wj.l2 N n) x0 x5 x6 x7
def wj.b(N:Nat)(ey:wj.bP)(a0:aj):Option (Bool):=
 ey a0 a0 (List.length a0:Int) (0:Int)
def wj(N:Nat)(a0:aj):Option (Bool):=wj.b N (wj.l2 N N) a0
def B8(N:Nat)(a0:Int):Option aS:=
 cond (aH 63 0) (none) (some ((shr .i64 a0 63),((W .u64 a0),())))
abbrev jA.cO:=aS→Int→Int→Int→de→Int→Int→Option (aS×(Bool))
def jA.kq(N:Nat)(ct:jA.cO)(x2:aS)(x4:Int)(x5:Int)(x6:Int)(aP:de)(aI:Int)(aO:Int):Option (aS×(Bool)):=
 cond (aH aO aI) (cond (aL aO (List.length aP)) ((oC N x6 (((List.getD aP aO.toNat bI).2).1) (0:Int)).bind fun r2=>(oC N x5 (W .u64 ((List.getD aP aO.toNat bI).1)) r2.2).bind fun r4=>cond (aH 63 0) (none) (ct x2 (W .i64 ((W .i64 (x4+(shr .i64 ((List.getD aP aO.toNat bI).1) (63:Int))))+(W .i64 r4.2))) r4.1 r2.1 aP aI (W .i64 (aO+1)))) (none)) (cond (aH 63 0) (none) (cond (!ay x4 (shr .i64 (W .i64 x5) 63)) (some (bI,false)) (some (((W .i64 x5),(x6,())),true))))
def jA.l3(N:Nat):Nat→jA.cO
 |0,_,_,_,_,_,_,_=>none
 |n+1,x2,x4,x5,x6,aP,aI,aO=>jA.kq N (jA.l3 N n) x2 x4 x5 x6 aP aI aO
def jA.b(N:Nat)(kW:jA.cO)(a0:de):Option (aS×(Bool)):=
 kW bI (0:Int) (0:Int) (0:Int) a0 (List.length a0:Int) (0:Int)
def jA(N:Nat)(a0:de):Option (aS×(Bool)):=jA.b N (jA.l3 N N) a0
abbrev xO.bb:=aS→de→aj→Int→Int→Option aS
def xO.c0(N:Nat)(bf:xO.bb)(x2:aS)(x3:de)(aO:aj)(ba:Int)(bl:Int):Option aS:=
 cond (aH bl ba) (cond (aL bl (List.length aO)) ((B8 N ((((List.getD aO bl.toNat aQ).2).2).1)).bind fun r3=>cond (small (List.length x3+List.length ([r3]))) (bf x2 (x3++([r3])) aO ba (W .i64 (bl+1))) (none)) (none)) ((jA N x3).bind fun r6=>some r6.1)
def xO.l5(N:Nat):Nat→xO.bb
 |0,_,_,_,_,_=>none
 |n+1,x2,x3,aO,ba,bl=>xO.c0 N (xO.l5 N n) x2 x3 aO ba bl
def xO.b(N:Nat)(dk:xO.bb)(a0:aj):Option aS:=
 (wj N a0).bind fun r1=>cond (!r1) (some bI) (dk bI ([]) a0 (List.length a0:Int) (0:Int))
def xO(N:Nat)(a0:aj):Option aS:=xO.b N (xO.l5 N N) a0
def Cb(N:Nat)(a0:aS)(a1:aS):Option (Int):=
 cond (aH a0.1 a1.1) (some (-1:Int)) (cond (ay a0.1 a1.1) (cond (aH a0.2.1 a1.2.1) (some (-1:Int)) (cond (kZ (.pair (.int .i64) (.pair (.int .u64) .unit)) a0 a1) (some (0:Int)) (some (1:Int)))) (cond (kZ (.pair (.int .i64) (.pair (.int .u64) .unit)) a0 a1) (some (0:Int)) (some (1:Int))))
def Py(N:Nat)(a0:aS):Option (Int):=
 (Cb N a0 bI).bind fun r1=>some r1
def QQ(N:Nat)(a0:Int)(a1:Int):Option (Bool):=
 cond (bU 0 a0) (cond (bU a0 24) (cond (bU 0 a1) (some (aH a1 6)) (some false)) (some false)) (some false)
def Kp(N:Nat)(a0:Int):Option (Bool):=
 some (!ay a0 (-9223372036854775808))
def NY(N:Nat)(a0:Int)(a1:Int)(a2:bW):Option (Int):=
 cond (!ay a0 a2.1) (some (W .i64 (a0-a2.1))) (some (W .i64 (a1-a2.2.1)))
abbrev ki.bP:=aj→aj→Int→Int→Option (Bool)
def ki.dr(N:Nat)(cH:ki.bP)(x0:aj)(x5:aj)(x6:Int)(x7:Int):Option (Bool):=
 cond (aH x7 x6) (cond (aL x7 (List.length x5)) ((QQ N ((List.getD x5 x7.toNat aQ).1) (((List.getD x5 x7.toNat aQ).2).1)).bind fun r2=>cond (!r2) (some false) (cond (ay ((((List.getD x5 x7.toNat aQ).2).2).1) (0:Int)) (some false) ((Kp N ((((List.getD x5 x7.toNat aQ).2).2).1)).bind fun r3=>cond (!r3) (some false) (cond (aH 0 x7) (let v4:Int:=W .i64 (x7-1);cond (aL v4 (List.length x0)) ((NY N ((List.getD x5 x7.toNat aQ).1) (((List.getD x5 x7.toNat aQ).2).1) (List.getD x0 v4.toNat aQ)).bind fun r5=>cond (bU r5 0) (some false) (cH x0 x5 x6 (W .i64 (x7+1)))) (none)) (cH x0 x5 x6 (W .i64 (x7+1))))))) (none)) (some true)
def ki.l2(N:Nat):Nat→ki.bP
 |0,_,_,_,_=>none
 |n+1,x0,x5,x6,x7=>ki.dr N (ki.l2 N n) x0 x5 x6 x7
def ki.b(N:Nat)(ey:ki.bP)(a0:aj):Option (Bool):=
 ey a0 a0 (List.length a0:Int) (0:Int)
def ki(N:Nat)(a0:aj):Option (Bool):=ki.b N (ki.l2 N N) a0
abbrev lI.bb:=Int→aS→de→aj→Int→Int→Option aS
def lI.c0(N:Nat)(bf:lI.bb)(x1:Int)(x4:aS)(x5:de)(bl:aj)(b7:Int)(cT:Int):Option aS:=
 cond (aH cT b7) (cond (aL cT (List.length bl)) (cond (ay (((List.getD bl cT.toNat aQ).2).1) x1) ((B8 N ((((List.getD bl cT.toNat aQ).2).2).1)).bind fun r3=>cond (small (List.length x5+List.length ([r3]))) (bf x1 x4 (x5++([r3])) bl b7 (W .i64 (cT+1))) (none)) (bf x1 x4 x5 bl b7 (W .i64 (cT+1)))) (none)) ((jA N x5).bind fun r7=>some r7.1)
def lI.l5(N:Nat):Nat→lI.bb
 |0,_,_,_,_,_,_=>none
 |n+1,x1,x4,x5,bl,b7,cT=>lI.c0 N (lI.l5 N n) x1 x4 x5 bl b7 cT
def lI.b(N:Nat)(dk:lI.bb)(a0:aj)(a1:Int):Option aS:=
 (ki N a0).bind fun r1=>cond (!r1) (some bI) (dk a1 bI ([]) a0 (List.length a0:Int) (0:Int))
def lI(N:Nat)(a0:aj)(a1:Int):Option aS:=lI.b N (lI.l5 N N) a0 a1
abbrev yJ.bP:=aj→Int→Option (Bool)
def yJ.dr(N:Nat)(cH:yJ.bP)(x0:aj)(x4:Int):Option (Bool):=
 cond (aH x4 6) ((lI N x0 x4).bind fun r2=>(Py N r2).bind fun r3=>cond (!ay r3 0) (some false) (cH x0 (W .i64 (x4+1)))) ((ki N x0).bind fun r5=>some r5)
def yJ.l2(N:Nat):Nat→yJ.bP
 |0,_,_=>none
 |n+1,x0,x4=>yJ.dr N (yJ.l2 N n) x0 x4
def yJ.b(N:Nat)(ey:yJ.bP)(a0:aj):Option (Bool):=
 ey a0 (0:Int)
def yJ(N:Nat)(a0:aj):Option (Bool):=yJ.b N (yJ.l2 N N) a0
def NZ(N:Nat)(a0:cq):Option (Bool):=
 cond (bU 1 a0.1) (cond (bU a0.1 1099511627776) (cond (bU 1 a0.2.1) (cond (bU a0.2.1 24) (cond (bU 0 a0.2.2.1) (cond (aH a0.2.2.1 6) (cond (ay a0.2.2.2.1 1) (cond (bU 1 a0.2.2.2.2.1) (cond (bU a0.2.2.2.2.1 1000000000) (cond (bU 1 a0.2.2.2.2.2.1) (some (bU a0.2.2.2.2.2.1 1000000000000)) (some false)) (some false)) (some false)) (cond (ay a0.2.2.2.1 2) (cond (bU 1 a0.2.2.2.2.1) (cond (bU a0.2.2.2.2.1 1000000000) (cond (bU 1 a0.2.2.2.2.2.1) (some (bU a0.2.2.2.2.2.1 1000000000000)) (some false)) (some false)) (some false)) (some false))) (some false)) (some false)) (some false)) (some false)) (some false)) (some false)
abbrev xM.bP:=aT→aT→Int→Int→Option (Bool)
def xM.dr(N:Nat)(cH:xM.bP)(x0:aT)(x5:aT)(x6:Int)(x7:Int):Option (Bool):=
 cond (aH x7 x6) (cond (aL x7 (List.length x5)) ((NZ N (List.getD x5 x7.toNat dQ)).bind fun r2=>cond (!r2) (some false) (cond (aH 0 x7) (let v3:Int:=W .i64 (x7-1);cond (aL v3 (List.length x0)) (cond (bU ((List.getD x5 x7.toNat dQ).1) ((List.getD x0 v3.toNat dQ).1)) (some false) (cH x0 x5 x6 (W .i64 (x7+1)))) (none)) (cH x0 x5 x6 (W .i64 (x7+1))))) (none)) (some (bU (List.length x0:Int) 32))
def xM.l2(N:Nat):Nat→xM.bP
 |0,_,_,_,_=>none
 |n+1,x0,x5,x6,x7=>xM.dr N (xM.l2 N n) x0 x5 x6 x7
def xM.b(N:Nat)(ey:xM.bP)(a0:aT):Option (Bool):=
 ey a0 a0 (List.length a0:Int) (0:Int)
def xM(N:Nat)(a0:aT):Option (Bool):=xM.b N (xM.l2 N N) a0
abbrev kJ.bn:=Int→bh→aD→Int→Int→Option (bh×(Bool))
def kJ.c5(N:Nat)(bJ:kJ.bn)(x1:Int)(x4:bh)(aO:aD)(ba:Int)(bl:Int):Option (bh×(Bool)):=
 cond (aH bl ba) (cond (aL bl (List.length aO)) (cond (ay ((List.getD aO bl.toNat aJ).1) x1) (some (List.getD aO bl.toNat aJ,true)) (bJ x1 x4 aO ba (W .i64 (bl+1)))) (none)) (some (aJ,false))
def kJ.l4(N:Nat):Nat→kJ.bn
 |0,_,_,_,_,_=>none
 |n+1,x1,x4,aO,ba,bl=>kJ.c5 N (kJ.l4 N n) x1 x4 aO ba bl
def kJ.b(N:Nat)(dz:kJ.bn)(a0:aD)(a1:Int):Option (bh×(Bool)):=
 (jD N a0).bind fun r1=>cond (!r1) (some (aJ,false)) (dz a1 aJ a0 (List.length a0:Int) (0:Int))
def kJ(N:Nat)(a0:aD)(a1:Int):Option (bh×(Bool)):=kJ.b N (kJ.l4 N N) a0 a1
def UB(N:Nat)(a0:ag)(a1:Int):Option (Bool):=
 (kJ N a0.2.1 a1).bind fun r1=>some r1.2
def Ux(N:Nat)(a0:Int):Option (Bool):=
 cond (bU 1 a0) (some (bU a0 1000000000000)) (some false)
def F84(N:Nat)(a0:Int):Option (Bool):=
 (Ux N a0).bind fun r1=>some (!r1)
abbrev ot.bP:=(List (Int))→Unit→Int→Int→Option (Int)
def ot.dr(N:Nat)(cH:ot.bP)(x0:List (Int))(x1:Unit)(x7:Int)(x8:Int):Option (Int):=
 cond (aH x8 x7) (cond (aL x8 (List.length x0)) ((F84 N (List.getD x0 x8.toNat (0:Int))).bind fun r2=>cond (r2) (some x8) (cH x0 () x7 (W .i64 (x8+1)))) (none)) (some (-1:Int))
def ot.l2(N:Nat):Nat→ot.bP
 |0,_,_,_,_=>none
 |n+1,x0,x1,x7,x8=>ot.dr N (ot.l2 N n) x0 x1 x7 x8
def ot.b(N:Nat)(ey:ot.bP)(a0:List (Int))(a1:Unit):Option (Int):=
 ey a0 () (List.length a0:Int) (0:Int)
def ot(N:Nat)(a0:List (Int))(a1:Unit):Option (Int):=ot.b N (ot.l2 N N) a0 a1
def F83(N:Nat)(a0:List (Int))(a1:Unit):Option (Bool):=
 (ot N a0 ()).bind fun r1=>some (bU 0 r1)
abbrev ix.od:=aa→ag→aT→Int→Int→Option (Bool)
abbrev ix.jt:=aa→ag→aj→Int→Int→Option (Bool)
abbrev ix.bn:=aa→ag→aj→Int→Int→Option (Bool)
def ix.sf(N:Nat)(Bh:ix.od)(x2:aa)(x3:ag)(oy:aT)(VL:Int)(Lo:Int):Option (Bool):=
 cond (aH Lo VL) (cond (aL Lo (List.length oy)) ((UB N x3 (((List.getD oy Lo.toNat dQ).2).1)).bind fun JP=>cond (!JP) (some false) (cond (bU (List.length x2.1:Int) ((((List.getD oy Lo.toNat dQ).2).2).1)) (some false) (Bh x2 x3 oy VL (W .i64 (Lo+1))))) (none)) ((F83 N x3.2.2.2.2.1 ()).bind fun Bi=>some (!Bi))
def ix.tq(N:Nat):Nat→ix.od
 |0,_,_,_,_,_=>none
 |n+1,x2,x3,oy,VL,Lo=>ix.sf N (ix.tq N n) x2 x3 oy VL Lo
def ix.se(N:Nat)(Bj:ix.od)(kz:ix.jt)(x2:aa)(x3:ag)(VN:aj)(x84:Int)(Tq:Int):Option (Bool):=
 cond (aH Tq x84) (cond (aL Tq (List.length VN)) (cond (!ay ((List.getD VN Tq.toNat aQ).1) (0:Int)) ((UB N x3 ((List.getD VN Tq.toNat aQ).1)).bind fun o8=>cond (!o8) (some false) (cond (bU (List.length x2.1:Int) (((List.getD VN Tq.toNat aQ).2).1)) (some false) (kz x2 x3 VN x84 (W .i64 (Tq+1))))) (cond (bU (List.length x2.1:Int) (((List.getD VN Tq.toNat aQ).2).1)) (some false) (kz x2 x3 VN x84 (W .i64 (Tq+1))))) (none)) (Bj x2 x3 x3.2.2.2.2.2.1 (List.length x3.2.2.2.2.2.1:Int) (0:Int))
def ix.tp(N:Nat):Nat→ix.jt
 |0,_,_,_,_,_=>none
 |n+1,x2,x3,VN,x84,Tq=>ix.se N (ix.tq N N) (ix.tp N n) x2 x3 VN x84 Tq
def ix.c5(N:Nat)(Bk:ix.jt)(bJ:ix.bn)(x2:aa)(x3:ag)(BG:aj)(Pb:Int)(zn:Int):Option (Bool):=
 cond (aH zn Pb) (cond (aL zn (List.length BG)) (cond (ay ((List.getD BG zn.toNat aQ).1) (5:Int)) ((UB N x3 (((List.getD BG zn.toNat aQ).2).1)).bind fun r9=>cond (!r9) (some false) (bJ x2 x3 BG Pb (W .i64 (zn+1)))) (cond (ay ((List.getD BG zn.toNat aQ).1) (6:Int)) ((vr N x3.1 (((List.getD BG zn.toNat aQ).2).1)).bind fun kv=>cond (ay kv 0) (some false) (bJ x2 x3 BG Pb (W .i64 (zn+1)))) (cond (ay ((List.getD BG zn.toNat aQ).1) (7:Int)) ((vr N x3.1 (((List.getD BG zn.toNat aQ).2).1)).bind fun kV=>cond (ay kV 0) (some false) (bJ x2 x3 BG Pb (W .i64 (zn+1)))) (bJ x2 x3 BG Pb (W .i64 (zn+1)))))) (none)) (Bk x2 x3 x3.2.2.2.1 (List.length x3.2.2.2.1:Int) (0:Int))
def ix.l4(N:Nat):Nat→ix.bn
 |0,_,_,_,_,_=>none
 |n+1,x2,x3,BG,Pb,zn=>ix.c5 N (ix.tp N N) (ix.l4 N n) x2 x3 BG Pb zn
def ix.b(N:Nat)(dz:ix.bn)(a0:aa)(a1:ag):Option (Bool):=
 (wi N a0).bind fun r1=>cond (!r1) (some false) ((yI N a1.1 a1.2.1).bind fun r2=>cond (!r2) (some false) ((wj N a1.2.2.1).bind fun r3=>cond (!r3) (some false) ((xO N a1.2.2.1).bind fun r4=>(Py N r4).bind fun r5=>cond (!ay r5 0) (some false) ((yJ N a1.2.2.2.1).bind fun r6=>cond (!r6) (some false) ((xM N a1.2.2.2.2.2.1).bind fun r7=>cond (!r7) (some false) (cond (!ay (List.length a1.2.2.2.2.1:Int) (List.length a0.1:Int)) (some false) (dz a0 a1 a1.2.2.1 (List.length a1.2.2.1:Int) (0:Int))))))))
def ix(N:Nat)(a0:aa)(a1:ag):Option (Bool):=ix.b N (ix.l4 N N) a0 a1
abbrev kO.bb:=Int→au→aj→Int→Int→Option au
def kO.c0(N:Nat)(bf:kO.bb)(x1:Int)(x5:au)(aI:aj)(aO:Int)(ba:Int):Option au:=
 cond (aH ba aO) (cond (aL ba (List.length aI)) (cond (ay ((List.getD aI ba.toNat aQ).1) x1) (cond (small (List.length x5+List.length ([(((List.getD aI ba.toNat aQ).2).1,((((List.getD aI ba.toNat aQ).2).2).1,()))]))) (bf x1 (x5++([(((List.getD aI ba.toNat aQ).2).1,((((List.getD aI ba.toNat aQ).2).2).1,()))])) aI aO (W .i64 (ba+1))) (none)) (bf x1 x5 aI aO (W .i64 (ba+1)))) (none)) (some x5)
def kO.l5(N:Nat):Nat→kO.bb
 |0,_,_,_,_,_=>none
 |n+1,x1,x5,aI,aO,ba=>kO.c0 N (kO.l5 N n) x1 x5 aI aO ba
def kO.b(N:Nat)(dk:kO.bb)(a0:aj)(a1:Int):Option au:=
 (ki N a0).bind fun r1=>cond (!r1) (some ([])) (dk a1 ([]) a0 (List.length a0:Int) (0:Int))
def kO(N:Nat)(a0:aj)(a1:Int):Option au:=kO.b N (kO.l5 N N) a0 a1
def F96(N:Nat)(a0:Int):Option (Int):=
 cond (aH a0 0) (some (W .u64 (0-(W .u64 a0)))) (some (W .u64 a0))
def NU(N:Nat)(a0:Int)(a1:Int):Option ((Int)×(Int)):=
 let v1:Int:=jx .and .u64 a0 4294967295;cond (aH 32 0) (none) (let v2:Int:=shr .u64 a0 32;let v3:Int:=jx .and .u64 a1 4294967295;cond (aH 32 0) (none) (let v4:Int:=shr .u64 a1 32;cond (aH 32 0) (none) (let v8:Int:=W .u64 ((W .u64 (v2*v3))+(shr .u64 (W .u64 (v1*v3)) (32:Int)));cond (aH 32 0) (none) (cond (aH 32 0) (none) (some ((W .u64 ((W .u64 ((W .u64 (v2*v4))+(shr .u64 v8 32)))+(shr .u64 (W .u64 ((jx .and .u64 v8 4294967295)+(W .u64 (v1*v4)))) (32:Int)))),(W .u64 (a0*a1))))))))
abbrev mg.Lp:=Int→Int→aS→Option (aS×(Bool))
def mg.Kh(N:Nat)(x1:Int)(x2:Int)(x6:aS):Option (aS×(Bool)):=
 (oD N (0:Int) x2 (0:Int)).bind fun r3=>(oD N (0:Int) x1 r3.2).bind fun r4=>some (((W .i64 r4.1),(r3.1,())),true)
def mg.j7(N:Nat)(x1:Int)(x2:Int)(x6:aS):Option (aS×(Bool)):=mg.Kh N x1 x2 x6
def mg.b(N:Nat)(w4:mg.Lp)(a0:Bool)(a1:Int)(a2:Int):Option (aS×(Bool)):=
 cond (!a0) (cond (bU 9223372036854775808 a1) (some (bI,false)) (some (((W .i64 a1),(a2,())),true))) (cond (aH 9223372036854775808 a1) (some (bI,false)) (cond (ay a1 9223372036854775808) (cond (aH 0 a2) (some (bI,false)) (w4 a1 a2 bI)) (w4 a1 a2 bI)))
def mg(N:Nat)(a0:Bool)(a1:Int)(a2:Int):Option (aS×(Bool)):=mg.b N (mg.j7 N) a0 a1 a2
def B7(N:Nat)(a0:Int)(a1:Int):Option aS:=
 (F96 N a0).bind fun r1=>(F96 N a1).bind fun r2=>(NU N r1 r2).bind fun r3=>(mg N (!(kZ .bool (aH a0 0) (aH a1 0))) r3.1 r3.2).bind fun r4=>some r4.1
def Hf(N:Nat)(a0:aS)(a1:aS):Option (aS×(Bool)):=
 (oC N a0.2.1 a1.2.1 (0:Int)).bind fun r1=>(oC N (W .u64 a0.1) (W .u64 a1.1) r1.2).bind fun r4=>let v5:Int:=W .i64 r4.1;cond (kZ .bool (aH a0.1 0) (aH a1.1 0)) (cond (!(kZ .bool (aH v5 0) (aH a0.1 0))) (some (bI,false)) (some ((v5,(r1.1,())),true))) (some ((v5,(r1.1,())),true))
abbrev wm.bb:=aa→ag→de→au→Int→Int→Option (de×(Int))
def wm.c0(N:Nat)(bf:wm.bb)(x2:aa)(x3:ag)(x6:de)(cQ:au)(fe:Int)(fu:Int):Option (de×(Int)):=
 cond (aH fu fe) (cond (aL fu (List.length cQ)) (cond (aL ((List.getD cQ fu.toNat bI).1) (List.length x2.1)) (cond (aL ((List.getD x2.1 ((List.getD cQ fu.toNat bI).1).toNat aJ).1) (List.length x6)) (cond (aL ((List.getD cQ fu.toNat bI).1) (List.length x3.2.2.2.2.1)) ((B7 N (((List.getD cQ fu.toNat bI).2).1) (List.getD x3.2.2.2.2.1 ((List.getD cQ fu.toNat bI).1).toNat (0:Int))).bind fun r5=>(Hf N (List.getD x6 ((List.getD x2.1 ((List.getD cQ fu.toNat bI).1).toNat aJ).1).toNat bI) r5).bind fun r6=>cond (aL ((List.getD x2.1 ((List.getD cQ fu.toNat bI).1).toNat aJ).1) (List.length x6)) (bf x2 x3 (List.set x6 ((List.getD x2.1 ((List.getD cQ fu.toNat bI).1).toNat aJ).1).toNat r6.1) cQ fe (W .i64 (fu+1))) (none)) (none)) (none)) (none)) (none)) (some (x6,(0:Int)))
def wm.l5(N:Nat):Nat→wm.bb
 |0,_,_,_,_,_,_=>none
 |n+1,x2,x3,x6,cQ,fe,fu=>wm.c0 N (wm.l5 N n) x2 x3 x6 cQ fe fu
def wm.b(N:Nat)(dk:wm.bb)(a0:aa)(a1:ag):Option (de×(Int)):=
 (ix N a0 a1).bind fun r1=>cond (!r1) (some ([],(1:Int))) (cond (fX 4 4) ((kO N a1.2.2.2.1 (0:Int)).bind fun r3=>dk a0 a1 (List.replicate (4:Int).toNat bI) r3 (List.length r3:Int) (0:Int)) (none))
def wm(N:Nat)(a0:aa)(a1:ag):Option (de×(Int)):=wm.b N (wm.l5 N N) a0 a1
def KS(N:Nat)(a0:aS)(a1:aS):Option (aS×(Bool)):=
 (oD N a0.2.1 a1.2.1 (0:Int)).bind fun r1=>(oD N (W .u64 a0.1) (W .u64 a1.1) r1.2).bind fun r4=>let v5:Int:=W .i64 r4.1;cond (!(kZ .bool (aH a0.1 0) (aH a1.1 0))) (cond (!(kZ .bool (aH v5 0) (aH a0.1 0))) (some (bI,false)) (some ((v5,(r1.1,())),true))) (some ((v5,(r1.1,())),true))
def UT(N:Nat)(a0:aS):Option (aS×(Bool)):=
 (KS N bI a0).bind fun r1=>some (r1.1,r1.2)
def Hu(N:Nat)(a0:aS):Option (aS×(Bool)):=
 cond (aH a0.1 0) ((UT N a0).bind fun r1=>some (r1.1,r1.2)) (some (a0,true))
abbrev lQ.bb:=Int→(List (Int))→aD→Int→Int→Option (List (Int))
def lQ.c0(N:Nat)(bf:lQ.bb)(x1:Int)(x5:List (Int))(aO:aD)(ba:Int)(bl:Int):Option (List (Int)):=
 cond (aH bl ba) (cond (aL bl (List.length aO)) (cond (ay ((List.getD aO bl.toNat aJ).1) x1) (cond (small (List.length x5+List.length ([bl]))) (bf x1 (x5++([bl])) aO ba (W .i64 (bl+1))) (none)) (bf x1 x5 aO ba (W .i64 (bl+1)))) (none)) (some x5)
def lQ.l5(N:Nat):Nat→lQ.bb
 |0,_,_,_,_,_=>none
 |n+1,x1,x5,aO,ba,bl=>lQ.c0 N (lQ.l5 N n) x1 x5 aO ba bl
def lQ.b(N:Nat)(dk:lQ.bb)(a0:aa)(a1:Int):Option (List (Int)):=
 (wi N a0).bind fun r1=>cond (!r1) (some ([])) (dk a1 ([]) a0.1 (List.length a0.1:Int) (0:Int))
def lQ(N:Nat)(a0:aa)(a1:Int):Option (List (Int)):=lQ.b N (lQ.l5 N N) a0 a1
def QO(N:Nat)(a0:aS):Option ((Int)×(Int)):=
 cond (bU 0 a0.1) (some ((W .u64 a0.1),a0.2.1)) ((oD N (0:Int) a0.2.1 (0:Int)).bind fun r2=>(oD N (0:Int) (W .u64 a0.1) r2.2).bind fun r4=>some (r4.1,r2.1))
abbrev jz.Lp:=Int→Int→Option (Int)
abbrev jz.acQ:=Int→Int→Option (Int)
def jz.Kh(N:Nat)(x0:Int)(x2:Int):Option (Int):=
 cond (bU 256 x0) (cond (aH 8 0) (none) (let v8:Int:=W .u8 (shr .u64 x0 8);cond (aL v8 (ByteArray.size (strOf [0,1,2,2,3,3,3,3,4,4,4,4,4,4,4,4,5,5,5,5,5,5,5,5,5,5,5,5,5,5,5,5,6,6,6,6,6,6,6,6,6,6,6,6,6,6,6,6,6,6,6,6,6,6,6,6,6,6,6,6,6,6,6,6,7,7,7,7,7,7,7,7,7,7,7,7,7,7,7,7,7,7,7,7,7,7,7,7,7,7,7,7,7,7,7,7,7,7,7,7,7,7,7,7,7,7,7,7,7,7,7,7,7,7,7,7,7,7,7,7,7,7,7,7,7,7,7,7,8,8,8,8,8,8,8,8,8,8,8,8,8,8,8,8,8,8,8,8,8,8,8,8,8,8,8,8,8,8,8,8,8,8,8,8,8,8,8,8,8,8,8,8,8,8,8,8,8,8,8,8,8,8,8,8,8,8,8,8,8,8,8,8,8,8,8,8,8,8,8,8,8,8,8,8,8,8,8,8,8,8,8,8,8,8,8,8,8,8,8,8,8,8,8,8,8,8,8,8,8,8,8,8,8,8,8,8,8,8,8,8,8,8,8,8,8,8,8,8,8,8,8,8,8,8,8,8]))) (some (W .i64 ((W .i64 (x2+8))+(W .i64 (((strOf [0,1,2,2,3,3,3,3,4,4,4,4,4,4,4,4,5,5,5,5,5,5,5,5,5,5,5,5,5,5,5,5,6,6,6,6,6,6,6,6,6,6,6,6,6,6,6,6,6,6,6,6,6,6,6,6,6,6,6,6,6,6,6,6,7,7,7,7,7,7,7,7,7,7,7,7,7,7,7,7,7,7,7,7,7,7,7,7,7,7,7,7,7,7,7,7,7,7,7,7,7,7,7,7,7,7,7,7,7,7,7,7,7,7,7,7,7,7,7,7,7,7,7,7,7,7,7,7,8,8,8,8,8,8,8,8,8,8,8,8,8,8,8,8,8,8,8,8,8,8,8,8,8,8,8,8,8,8,8,8,8,8,8,8,8,8,8,8,8,8,8,8,8,8,8,8,8,8,8,8,8,8,8,8,8,8,8,8,8,8,8,8,8,8,8,8,8,8,8,8,8,8,8,8,8,8,8,8,8,8,8,8,8,8,8,8,8,8,8,8,8,8,8,8,8,8,8,8,8,8,8,8,8,8,8,8,8,8,8,8,8,8,8,8,8,8,8,8,8,8,8,8,8,8,8,8]).data.getD v8.toNat 0).toNat:Int))))) (none))) (let v11:Int:=W .u8 x0;cond (aL v11 (ByteArray.size (strOf [0,1,2,2,3,3,3,3,4,4,4,4,4,4,4,4,5,5,5,5,5,5,5,5,5,5,5,5,5,5,5,5,6,6,6,6,6,6,6,6,6,6,6,6,6,6,6,6,6,6,6,6,6,6,6,6,6,6,6,6,6,6,6,6,7,7,7,7,7,7,7,7,7,7,7,7,7,7,7,7,7,7,7,7,7,7,7,7,7,7,7,7,7,7,7,7,7,7,7,7,7,7,7,7,7,7,7,7,7,7,7,7,7,7,7,7,7,7,7,7,7,7,7,7,7,7,7,7,8,8,8,8,8,8,8,8,8,8,8,8,8,8,8,8,8,8,8,8,8,8,8,8,8,8,8,8,8,8,8,8,8,8,8,8,8,8,8,8,8,8,8,8,8,8,8,8,8,8,8,8,8,8,8,8,8,8,8,8,8,8,8,8,8,8,8,8,8,8,8,8,8,8,8,8,8,8,8,8,8,8,8,8,8,8,8,8,8,8,8,8,8,8,8,8,8,8,8,8,8,8,8,8,8,8,8,8,8,8,8,8,8,8,8,8,8,8,8,8,8,8,8,8,8,8,8,8]))) (some (W .i64 (x2+(W .i64 (((strOf [0,1,2,2,3,3,3,3,4,4,4,4,4,4,4,4,5,5,5,5,5,5,5,5,5,5,5,5,5,5,5,5,6,6,6,6,6,6,6,6,6,6,6,6,6,6,6,6,6,6,6,6,6,6,6,6,6,6,6,6,6,6,6,6,7,7,7,7,7,7,7,7,7,7,7,7,7,7,7,7,7,7,7,7,7,7,7,7,7,7,7,7,7,7,7,7,7,7,7,7,7,7,7,7,7,7,7,7,7,7,7,7,7,7,7,7,7,7,7,7,7,7,7,7,7,7,7,7,8,8,8,8,8,8,8,8,8,8,8,8,8,8,8,8,8,8,8,8,8,8,8,8,8,8,8,8,8,8,8,8,8,8,8,8,8,8,8,8,8,8,8,8,8,8,8,8,8,8,8,8,8,8,8,8,8,8,8,8,8,8,8,8,8,8,8,8,8,8,8,8,8,8,8,8,8,8,8,8,8,8,8,8,8,8,8,8,8,8,8,8,8,8,8,8,8,8,8,8,8,8,8,8,8,8,8,8,8,8,8,8,8,8,8,8,8,8,8,8,8,8,8,8,8,8,8,8]).data.getD v11.toNat 0).toNat:Int))))) (none))
def jz.j7(N:Nat)(x0:Int)(x2:Int):Option (Int):=jz.Kh N x0 x2
def jz.j4b(N:Nat)(w4:jz.Lp)(x0:Int)(x2:Int):Option (Int):=
 cond (bU 65536 x0) (cond (aH 16 0) (none) (w4 (shr .u64 x0 16) (W .i64 (x2+16)))) (w4 x0 x2)
def jz.j4(N:Nat)(x0:Int)(x2:Int):Option (Int):=jz.j4b N (jz.j7 N) x0 x2
def jz.b(N:Nat)(Su:jz.acQ)(a0:Int):Option (Int):=
 cond (bU 4294967296 a0) (cond (aH 32 0) (none) (Su (shr .u64 a0 32) (32:Int))) (Su a0 (0:Int))
def jz(N:Nat)(a0:Int):Option (Int):=jz.b N (jz.j4 N) a0
def Uk(N:Nat)(a0:Int):Option (Int):=
 (jz N a0).bind fun r1=>some (W .i64 ((64:Int)-r1))
abbrev cV.aik:=Int→Int→Int→Int→Int→Int→Option ((Int)×(Int))
abbrev cV.oe:=Int→Int→Int→Int→Int→Int→Int→Int→Int→Option ((Int)×(Int))
abbrev cV.Ia:=Int→Int→Int→Int→Int→Int→Int→Int→Option ((Int)×(Int))
abbrev cV.Bl:=Int→Int→Int→Int→Int→Int→Int→Int→Int→Option ((Int)×(Int))
def cV.aca(N:Nat)(x2:Int)(x8:Int)(bl:Int)(b7:Int)(cQ:Int)(fe:Int):Option ((Int)×(Int)):=
 cond (aH x8 0) (none) (some ((W .u64 ((W .u64 (b7*4294967296))+fe)),(shr .u64 (W .u64 ((W .u64 ((W .u64 (cQ*4294967296))+bl))-(W .u64 (fe*x2)))) x8)))
def cV.j28(N:Nat)(x2:Int)(x8:Int)(bl:Int)(b7:Int)(cQ:Int)(fe:Int):Option ((Int)×(Int)):=cV.aca N x2 x8 bl b7 cQ fe
def cV.z5(N:Nat)(Sv:cV.aik)(og:cV.oe)(x2:Int)(x8:Int)(x9:Int)(aP:Int)(bl:Int)(b7:Int)(cT:Int)(cQ:Int)(fe:Int):Option ((Int)×(Int)):=
 cond (bU 4294967296 fe) (let v30:Int:=W .u64 (fe-1);let v31:Int:=W .u64 (cT+x9);cond (bU 4294967296 v31) (Sv x2 x8 bl b7 cQ v30) (og x2 x8 x9 aP bl b7 v31 cQ v30)) (cond (aH (W .u64 ((W .u64 ((4294967296:Int)*cT))+bl)) (W .u64 (fe*aP))) (let v43:Int:=W .u64 (fe-1);let v44:Int:=W .u64 (cT+x9);cond (bU 4294967296 v44) (Sv x2 x8 bl b7 cQ v43) (og x2 x8 x9 aP bl b7 v44 cQ v43)) (Sv x2 x8 bl b7 cQ fe))
def cV.y5(N:Nat):Nat→cV.oe
 |0,_,_,_,_,_,_,_,_,_=>none
 |n+1,x2,x8,x9,aP,bl,b7,cT,cQ,fe=>cV.z5 N (cV.j28 N) (cV.y5 N n) x2 x8 x9 aP bl b7 cT cQ fe
def cV.z6(N:Nat)(Ib:cV.oe)(x2:Int)(x8:Int)(x9:Int)(aP:Int)(aI:Int)(ba:Int)(bl:Int)(b7:Int):Option ((Int)×(Int)):=
 let v25:Int:=W .u64 ((W .u64 ((W .u64 (aI*4294967296))+ba))-(W .u64 (b7*x2)));cond (ay x9 0) (none) (let v26:Int:=W .u64 (quo v25 x9);Ib x2 x8 x9 aP bl b7 (W .u64 (v25-(W .u64 (v26*x9)))) v25 v26)
def cV.Gy(N:Nat)(x2:Int)(x8:Int)(x9:Int)(aP:Int)(aI:Int)(ba:Int)(bl:Int)(b7:Int):Option ((Int)×(Int)):=cV.z6 N (cV.y5 N N) x2 x8 x9 aP aI ba bl b7
def cV.Gz(N:Nat)(vX:cV.Ia)(M4:cV.Bl)(x2:Int)(x8:Int)(x9:Int)(aP:Int)(aI:Int)(ba:Int)(bl:Int)(b7:Int)(cT:Int):Option ((Int)×(Int)):=
 cond (bU 4294967296 b7) (let v19:Int:=W .u64 (b7-1);let v20:Int:=W .u64 (cT+x9);cond (bU 4294967296 v20) (vX x2 x8 x9 aP aI ba bl v19) (M4 x2 x8 x9 aP aI ba bl v19 v20)) (cond (aH (W .u64 ((W .u64 ((4294967296:Int)*cT))+ba)) (W .u64 (b7*aP))) (let v48:Int:=W .u64 (b7-1);let v49:Int:=W .u64 (cT+x9);cond (bU 4294967296 v49) (vX x2 x8 x9 aP aI ba bl v48) (M4 x2 x8 x9 aP aI ba bl v48 v49)) (vX x2 x8 x9 aP aI ba bl b7))
def cV.Gx(N:Nat):Nat→cV.Bl
 |0,_,_,_,_,_,_,_,_,_=>none
 |n+1,x2,x8,x9,aP,aI,ba,bl,b7,cT=>cV.Gz N (cV.Gy N) (cV.Gx N n) x2 x8 x9 aP aI ba bl b7 cT
def cV.b(N:Nat)(Sw:cV.Bl)(a0:Int)(a1:Int)(a2:Int):Option ((Int)×(Int)):=
 cond (ay a2 0) (none) (cond (bU a2 a0) (none) (cond (ay a0 0) (cond (ay a2 0) (none) (cond (ay a2 0) (none) (some ((W .u64 (quo a1 a2)),(rem a1 a2))))) ((Uk N a2).bind fun r3=>let v4:Int:=W .u64 r3;cond (aH v4 0) (none) (let v5:Int:=W .u64 (shl .u64 a2 v4);cond (aH 32 0) (none) (let v6:Int:=shr .u64 v5 32;cond (aH v4 0) (none) (let v9:Int:=W .u64 ((64:Int)-v4);cond (aH v9 0) (none) (let v11:Int:=jx .or .u64 (W .u64 (shl .u64 a0 v4)) (shr .u64 a1 v9);cond (aH v4 0) (none) (let JQ:Int:=W .u64 (shl .u64 a1 v4);cond (aH 32 0) (none) (cond (ay v6 0) (none) (let VO:Int:=W .u64 (quo v11 v6);Sw v5 v4 v6 (jx .and .u64 v5 4294967295) v11 (shr .u64 JQ 32) (jx .and .u64 JQ 4294967295) VO (W .u64 (v11-(W .u64 (VO*v6))))))))))))))
def cV(N:Nat)(a0:Int)(a1:Int)(a2:Int):Option ((Int)×(Int)):=cV.b N (cV.Gx N N) a0 a1 a2
abbrev pT.Ic:=aS→Int→Int→Int→Option (aS×(Int)×(Bool))
def pT.yD(N:Nat)(x4:aS)(aP:Int)(aI:Int)(aO:Int):Option (aS×(Int)×(Bool)):=
 (mg N true aP aO).bind fun kv=>some (kv.1,(W .i64 aI),true)
def pT.JM(N:Nat)(x4:aS)(aP:Int)(aI:Int)(aO:Int):Option (aS×(Int)×(Bool)):=pT.yD N x4 aP aI aO
def pT.b(N:Nat)(rj:pT.Ic)(a0:aS)(a1:Int):Option (aS×(Int)×(Bool)):=
 cond (aH a1 1) (some (bI,(0:Int),false)) ((QO N a0).bind fun r1=>let v2:Int:=W .u64 a1;(cV N (0:Int) r1.1 v2).bind fun r3=>(cV N r3.2 r1.2 v2).bind fun r4=>cond (bU 0 a0.1) (some (((W .i64 r3.1),(r4.1,())),(W .i64 r4.2),true)) (cond (aH 0 r4.2) ((oC N r4.1 (1:Int) (0:Int)).bind fun r7=>rj bI (W .u64 (r3.1+r7.2)) (W .u64 (v2-r4.2)) r7.1) (rj bI r3.1 r4.2 r4.1)))
def pT(N:Nat)(a0:aS)(a1:Int):Option (aS×(Int)×(Bool)):=pT.b N (pT.JM N) a0 a1
def GO(N:Nat)(a0:aS):Option ((Int)×(Bool)):=
 cond (aH 63 0) (none) (cond (!ay a0.1 (shr .i64 (W .i64 a0.2.1) 63)) (some ((0:Int),false)) (some ((W .i64 a0.2.1),true)))
abbrev qP.sB:=Int→aa→ag→aD→aS→Int→Int→de→Int→Int→Option (aD×(Int))
abbrev qP.eX:=Int→aa→ag→aD→de→Int→Int→Option (aD×(Int))
def qP.mu(N:Nat)(eY:qP.eX)(x2:Int)(x3:aa)(x4:ag)(aP:aD)(aO:aS)(b7:Int)(fu:Int)(w5:de)(Pd:Int)(E6:Int):Option (aD×(Int)):=
 cond (ay fu 0) (eY x2 x3 x4 aP w5 Pd (W .i64 (E6+1))) (let JQ:Int:=W .i64 (x2+(List.length aP:Int));(Py N aO).bind fun kV=>cond (aH 0 kV) (cond (small (List.length aP+List.length ([(JQ,(b7,((2:Int),(fu,()))))]))) (eY x2 x3 x4 (aP++([(JQ,(b7,((2:Int),(fu,()))))])) w5 Pd (W .i64 (E6+1))) (none)) (cond (small (List.length aP+List.length ([(JQ,(b7,((1:Int),(fu,()))))]))) (eY x2 x3 x4 (aP++([(JQ,(b7,((1:Int),(fu,()))))])) w5 Pd (W .i64 (E6+1))) (none)))
def qP.rA(N:Nat)(eY:qP.eX)(x2:Int)(x3:aa)(x4:ag)(aP:aD)(aO:aS)(b7:Int)(fu:Int)(w5:de)(Pd:Int)(E6:Int):Option (aD×(Int)):=qP.mu N eY x2 x3 x4 aP aO b7 fu w5 Pd E6
def qP.pn(N:Nat)(kd:qP.sB)(eY:qP.eX)(x2:Int)(x3:aa)(x4:ag)(aP:aD)(w5:de)(Pd:Int)(E6:Int):Option (aD×(Int)):=
 cond (aH E6 Pd) (cond (aL E6 (List.length w5)) ((Hu N (List.getD w5 E6.toNat bI)).bind fun r3=>(B8 N x3.2.2.2.2.2.2.1).bind fun r4=>(Cb N r3.1 r4).bind fun r5=>cond (bU r5 0) (eY x2 x3 x4 aP w5 Pd (W .i64 (E6+1))) ((lQ N x3 E6).bind fun r7=>cond (aL 0 (List.length r7)) (cond (aL (List.getD r7 (0:Int).toNat (0:Int)) (List.length x4.2.2.2.2.1)) ((pT N r3.1 (List.getD x4.2.2.2.2.1 (List.getD r7 (0:Int).toNat (0:Int)).toNat (0:Int))).bind fun r8=>(GO N r8.1).bind fun r9=>cond (!r9.2) (kd x2 x3 x4 aP (List.getD w5 E6.toNat bI) (List.getD r7 (0:Int).toNat (0:Int)) (1000000000:Int) w5 Pd E6) (cond (aH 1000000000 r9.1) (kd x2 x3 x4 aP (List.getD w5 E6.toNat bI) (List.getD r7 (0:Int).toNat (0:Int)) (1000000000:Int) w5 Pd E6) (kd x2 x3 x4 aP (List.getD w5 E6.toNat bI) (List.getD r7 (0:Int).toNat (0:Int)) r9.1 w5 Pd E6))) (none)) (none))) (none)) (some (aP,(0:Int)))
def qP.l6(N:Nat):Nat→qP.eX
 |0,_,_,_,_,_,_,_=>none
 |n+1,x2,x3,x4,aP,w5,Pd,E6=>qP.pn N (qP.rA N (qP.l6 N n)) (qP.l6 N n) x2 x3 x4 aP w5 Pd E6
def qP.b(N:Nat)(q4:qP.eX)(a0:aa)(a1:ag)(a2:Int):Option (aD×(Int)):=
 (wm N a0 a1).bind fun r1=>cond (!ay r1.2 0) (some ([],(1:Int))) (cond (aH a2 1) (some ([],(1:Int))) (cond (aH 1099511627772 a2) (some ([],(1:Int))) (q4 a2 a0 a1 ([]) r1.1 (List.length r1.1:Int) (0:Int))))
def qP(N:Nat)(a0:aa)(a1:ag)(a2:Int):Option (aD×(Int)):=qP.b N (qP.l6 N N) a0 a1 a2
def KY(N:Nat)(a0:Int):Option (Bool):=
 cond (bU 1 a0) (some (bU a0 1000000000)) (some false)
def F48(N:Nat)(a0:bh):Option (Bool):=
 cond (bU 1 a0.1) (cond (bU a0.1 1099511627776) (cond (bU 0 a0.2.1) (cond (aH a0.2.1 6) (cond (ay a0.2.2.1 1) ((KY N a0.2.2.2.1).bind fun r1=>some r1) (cond (ay a0.2.2.1 2) ((KY N a0.2.2.2.1).bind fun r2=>some r2) (some false))) (some false)) (some false)) (some false)) (some false)
abbrev eh.ji:=aT→Int→aj→Int→bW→Int→aT→Int→Int→Option aj
abbrev eh.bb:=aT→Int→aj→Int→Option aj
def eh.tk(N:Nat)(bf:eh.bb)(my:eh.ji)(x0:aT)(x1:Int)(x5:aj)(x6:Int)(x7:bW)(ba:Int)(fe:aT)(fu:Int)(uI:Int):Option aj:=
 cond (aH uI fu) (cond (aL uI (List.length fe)) (cond (!ay (((List.getD fe uI.toNat dQ).2).1) x1) (my x0 x1 x5 x6 x7 ba fe fu (W .i64 (uI+1))) (cond (!ay ((((List.getD fe uI.toNat dQ).2).2).1) x6) (my x0 x1 x5 x6 x7 ba fe fu (W .i64 (uI+1))) (cond (ay (((((List.getD fe uI.toNat dQ).2).2).2).1) (1:Int)) (my x0 x1 x5 x6 (x7.1,((W .i64 (x7.2.1+((((((List.getD fe uI.toNat dQ).2).2).2).2).1))),x7.2.2)) ba fe fu (W .i64 (uI+1))) (my x0 x1 x5 x6 (x7.1,(x7.2.1,((W .i64 (x7.2.2.1+((((((List.getD fe uI.toNat dQ).2).2).2).2).1))),x7.2.2.2))) ba fe fu (W .i64 (uI+1)))))) (none)) (cond (aH 0 (W .i64 (x7.2.1+x7.2.2.1))) (cond (small (List.length x5+List.length ([x7]))) (bf x0 x1 (x5++([x7])) (W .i64 (ba+1))) (none)) (bf x0 x1 x5 (W .i64 (ba+1))))
def eh.l9(N:Nat)(bf:eh.bb):Nat→eh.ji
 |0,_,_,_,_,_,_,_,_,_=>none
 |n+1,x0,x1,x5,x6,x7,ba,fe,fu,uI=>eh.tk N bf (eh.l9 N bf n) x0 x1 x5 x6 x7 ba fe fu uI
def eh.c0(N:Nat)(uB:eh.ji)(bf:eh.bb)(x0:aT)(x1:Int)(x5:aj)(ba:Int):Option aj:=
 cond (aH ba 6) (uB x0 x1 x5 ba (ba,bI) ba x0 (List.length x0:Int) (0:Int)) (some x5)
def eh.l5(N:Nat):Nat→eh.bb
 |0,_,_,_,_=>none
 |n+1,x0,x1,x5,ba=>eh.c0 N (eh.l9 N (eh.l5 N n) N) (eh.l5 N n) x0 x1 x5 ba
def eh.b(N:Nat)(dk:eh.bb)(a0:aT)(a1:Int):Option aj:=
 (xM N a0).bind fun r1=>cond (!r1) (some ([])) (dk a0 a1 ([]) (0:Int))
def eh(N:Nat)(a0:aT)(a1:Int):Option aj:=eh.b N (eh.l5 N N) a0 a1
abbrev eD.Lq:=aj→cq→Int→Option aj
abbrev eD.acQ:=aj→cq→Int→Option aj
abbrev eD.bP:=aj→cq→Int→Option aj
def eD.JK(N:Nat)(x0:aj)(x3:cq)(x5:Int):Option aj:=
 cond (ay x3.2.2.2.1 1) (cond (aL x5 (List.length x0)) (cond (aL x5 (List.length x0)) (some (List.set x0 x5.toNat ((List.getD x0 x5.toNat aQ).1,((W .i64 ((((List.getD x0 x5.toNat aQ).2).1)+x3.2.2.2.2.1)),((List.getD x0 x5.toNat aQ).2).2)))) (none)) (none)) (cond (aL x5 (List.length x0)) (cond (aL x5 (List.length x0)) (some (List.set x0 x5.toNat ((List.getD x0 x5.toNat aQ).1,(((List.getD x0 x5.toNat aQ).2).1,((W .i64 (((((List.getD x0 x5.toNat aQ).2).2).1)+x3.2.2.2.2.1)),(((List.getD x0 x5.toNat aQ).2).2).2))))) (none)) (none))
def eD.j6(N:Nat)(x0:aj)(x3:cq)(x5:Int):Option aj:=eD.JK N x0 x3 x5
def eD.j4b(N:Nat)(w6:eD.Lq)(x0:aj)(x3:cq)(x5:Int):Option aj:=
 cond (ay x5 (List.length x0:Int)) ((gY N x0 x5 ([(x3.2.2.1,bI)])).bind fun r4=>w6 r4 x3 x5) (cond (aL x5 (List.length x0)) (cond (!ay ((List.getD x0 x5.toNat aQ).1) x3.2.2.1) ((gY N x0 x5 ([(x3.2.2.1,bI)])).bind fun iB=>w6 iB x3 x5) (w6 x0 x3 x5)) (none))
def eD.j4(N:Nat)(x0:aj)(x3:cq)(x5:Int):Option aj:=eD.j4b N (eD.j6 N) x0 x3 x5
def eD.dr(N:Nat)(Su:eD.acQ)(cH:eD.bP)(x0:aj)(x3:cq)(x5:Int):Option aj:=
 cond (aH x5 (List.length x0:Int)) (cond (aL x5 (List.length x0)) (cond (aH ((List.getD x0 x5.toNat aQ).1) x3.2.2.1) (cH x0 x3 (W .i64 (x5+1))) (Su x0 x3 x5)) (none)) (Su x0 x3 x5)
def eD.l2(N:Nat):Nat→eD.bP
 |0,_,_,_=>none
 |n+1,x0,x3,x5=>eD.dr N (eD.j4 N) (eD.l2 N n) x0 x3 x5
def eD.b(N:Nat)(ey:eD.bP)(a0:aj)(a1:cq):Option aj:=
 ey a0 a1 (0:Int)
def eD(N:Nat)(a0:aj)(a1:cq):Option aj:=eD.b N (eD.l2 N N) a0 a1
abbrev lM.bP:=au→aa→au→Int→Int→Option (Bool)
def lM.dr(N:Nat)(cH:lM.bP)(x1:au)(x2:aa)(x7:au)(x8:Int)(x9:Int):Option (Bool):=
 cond (aH x9 x8) (cond (aL x9 (List.length x7)) (cond (aH ((List.getD x7 x9.toNat bI).1) (0:Int)) (some false) (cond (bU (List.length x2.1:Int) ((List.getD x7 x9.toNat bI).1)) (some false) (cond (ay (((List.getD x7 x9.toNat bI).2).1) (0:Int)) (some false) ((Kp N (((List.getD x7 x9.toNat bI).2).1)).bind fun r2=>cond (!r2) (some false) (cond (aH 0 x9) (let v3:Int:=W .i64 (x9-1);cond (aL v3 (List.length x1)) (cond (bU ((List.getD x7 x9.toNat bI).1) ((List.getD x1 v3.toNat bI).1)) (some false) (cH x1 x2 x7 x8 (W .i64 (x9+1)))) (none)) (cH x1 x2 x7 x8 (W .i64 (x9+1)))))))) (none)) ((wi N x2).bind fun r6=>some r6)
def lM.l2(N:Nat):Nat→lM.bP
 |0,_,_,_,_,_=>none
 |n+1,x1,x2,x7,x8,x9=>lM.dr N (lM.l2 N n) x1 x2 x7 x8 x9
def lM.b(N:Nat)(ey:lM.bP)(a0:aa)(a1:au):Option (Bool):=
 ey a1 a0 a1 (List.length a1:Int) (0:Int)
def lM(N:Nat)(a0:aa)(a1:au):Option (Bool):=lM.b N (lM.l2 N N) a0 a1
abbrev lV.bP:=aj→aa→aj→Int→Int→Option (Bool)
def lV.dr(N:Nat)(cH:lV.bP)(x1:aj)(x2:aa)(x7:aj)(x8:Int)(x9:Int):Option (Bool):=
 cond (aH x9 x8) (cond (aL x9 (List.length x7)) (cond (aH ((List.getD x7 x9.toNat aQ).1) (0:Int)) (some false) (cond (bU (List.length x2.1:Int) ((List.getD x7 x9.toNat aQ).1)) (some false) (cond (aH (((List.getD x7 x9.toNat aQ).2).1) (0:Int)) (some false) (cond (aH 33000000000 (((List.getD x7 x9.toNat aQ).2).1)) (some false) (cond (aH ((((List.getD x7 x9.toNat aQ).2).2).1) (0:Int)) (some false) (cond (aH 33000000000 ((((List.getD x7 x9.toNat aQ).2).2).1)) (some false) (cond (ay (((List.getD x7 x9.toNat aQ).2).1) (0:Int)) (cond (ay ((((List.getD x7 x9.toNat aQ).2).2).1) (0:Int)) (some false) (cond (aH 0 x9) (let v2:Int:=W .i64 (x9-1);cond (aL v2 (List.length x1)) (cond (bU ((List.getD x7 x9.toNat aQ).1) ((List.getD x1 v2.toNat aQ).1)) (some false) (cH x1 x2 x7 x8 (W .i64 (x9+1)))) (none)) (cH x1 x2 x7 x8 (W .i64 (x9+1))))) (cond (aH 0 x9) (let v5:Int:=W .i64 (x9-1);cond (aL v5 (List.length x1)) (cond (bU ((List.getD x7 x9.toNat aQ).1) ((List.getD x1 v5.toNat aQ).1)) (some false) (cH x1 x2 x7 x8 (W .i64 (x9+1)))) (none)) (cH x1 x2 x7 x8 (W .i64 (x9+1))))))))))) (none)) ((wi N x2).bind fun r8=>some r8)
def lV.l2(N:Nat):Nat→lV.bP
 |0,_,_,_,_,_=>none
 |n+1,x1,x2,x7,x8,x9=>lV.dr N (lV.l2 N n) x1 x2 x7 x8 x9
def lV.b(N:Nat)(ey:lV.bP)(a0:aa)(a1:aj):Option (Bool):=
 ey a1 a0 a1 (List.length a1:Int) (0:Int)
def lV(N:Nat)(a0:aa)(a1:aj):Option (Bool):=lV.b N (lV.l2 N N) a0 a1
abbrev eH.ec:=Int→aS→Int→Int→Int→aj→Int→Int→Option (aS×(Int))
abbrev eH.dm:=aj→Int→aS→Int→Int→Int→au→Int→Int→Option (aS×(Int))
def eH.jY(N:Nat)(fv:eH.ec)(x3:Int)(x8:aS)(aP:Int)(aI:Int)(aO:Int)(BG:aj)(Pb:Int)(zn:Int):Option (aS×(Int)):=
 cond (aH zn Pb) (cond (aL zn (List.length BG)) (cond (ay ((List.getD BG zn.toNat aQ).1) x3) (fv x3 x8 aP (((List.getD BG zn.toNat aQ).2).1) ((((List.getD BG zn.toNat aQ).2).2).1) BG Pb (W .i64 (zn+1))) (fv x3 x8 aP aI aO BG Pb (W .i64 (zn+1)))) (none)) ((B8 N aP).bind fun r9=>(B8 N aI).bind fun iB=>(Hf N r9 iB).bind fun kv=>(B8 N aP).bind fun lx=>(B8 N aO).bind fun kV=>(KS N lx kV).bind fun mE=>(Hu N kv.1).bind fun pA=>(Hu N mE.1).bind fun tt=>(Cb N pA.1 tt.1).bind fun o8=>cond (aH o8 0) (some (tt.1,(0:Int))) (some (pA.1,(0:Int))))
def eH.lN(N:Nat):Nat→eH.ec
 |0,_,_,_,_,_,_,_,_=>none
 |n+1,x3,x8,aP,aI,aO,BG,Pb,zn=>eH.jY N (eH.lN N n) x3 x8 aP aI aO BG Pb zn
def eH.oT(N:Nat)(p5:eH.ec)(c8:eH.dm)(x2:aj)(x3:Int)(x8:aS)(aP:Int)(aI:Int)(aO:Int)(x44:au)(x45:Int)(x46:Int):Option (aS×(Int)):=
 cond (aH x46 x45) (cond (aL x46 (List.length x44)) (cond (ay ((List.getD x44 x46.toNat bI).1) x3) (c8 x2 x3 x8 (((List.getD x44 x46.toNat bI).2).1) aI aO x44 x45 (W .i64 (x46+1))) (c8 x2 x3 x8 aP aI aO x44 x45 (W .i64 (x46+1)))) (none)) (p5 x3 x8 aP aI aO x2 (List.length x2:Int) (0:Int))
def eH.l7(N:Nat):Nat→eH.dm
 |0,_,_,_,_,_,_,_,_,_=>none
 |n+1,x2,x3,x8,aP,aI,aO,x44,x45,x46=>eH.oT N (eH.lN N N) (eH.l7 N n) x2 x3 x8 aP aI aO x44 x45 x46
def eH.b(N:Nat)(px:eH.dm)(a0:aa)(a1:au)(a2:aj)(a3:Int):Option (aS×(Int)):=
 (lM N a0 a1).bind fun r1=>cond (!r1) (some (bI,(1:Int))) ((lV N a0 a2).bind fun r2=>cond (!r2) (some (bI,(1:Int))) (cond (aH a3 0) (some (bI,(3:Int))) (cond (bU (List.length a0.1:Int) a3) (some (bI,(3:Int))) (px a2 a3 bI (0:Int) (0:Int) (0:Int) a1 (List.length a1:Int) (0:Int)))))
def eH(N:Nat)(a0:aa)(a1:au)(a2:aj)(a3:Int):Option (aS×(Int)):=eH.b N (eH.l7 N N) a0 a1 a2 a3
def U0(N:Nat)(a0:aS)(a1:Int):Option (aS×(Bool)):=
 (QO N a0).bind fun r1=>(F96 N a1).bind fun r2=>(NU N r1.2 r2).bind fun r3=>(NU N r1.1 r2).bind fun r4=>(oC N r4.2 r3.1 (0:Int)).bind fun r5=>cond (!ay (W .u64 (r4.1+r5.2)) (0:Int)) (some (bI,false)) ((mg N (!(kZ .bool (aH a0.1 0) (aH a1 0))) r5.1 r3.2).bind fun r7=>some (r7.1,r7.2))
abbrev mU.bb:=au→aj→aa→aS→de→aD→Int→Int→Option (aS×(Int))
def mU.c0(N:Nat)(bf:mU.bb)(x1:au)(x2:aj)(x3:aa)(x6:aS)(x8:de)(x29:aD)(uK:Int)(DD:Int):Option (aS×(Int)):=
 cond (aH DD uK) (cond (aL DD (List.length x29)) ((eH N x3 x1 x2 DD).bind fun r4=>(U0 N r4.1 ((((List.getD x29 DD.toNat aJ).2).2).1)).bind fun r5=>cond (small (List.length x8+List.length ([r5.1]))) (bf x1 x2 x3 x6 (x8++([r5.1])) x29 uK (W .i64 (DD+1))) (none)) (none)) ((jA N x8).bind fun r8=>some (r8.1,(0:Int)))
def mU.l5(N:Nat):Nat→mU.bb
 |0,_,_,_,_,_,_,_,_=>none
 |n+1,x1,x2,x3,x6,x8,x29,uK,DD=>mU.c0 N (mU.l5 N n) x1 x2 x3 x6 x8 x29 uK DD
def mU.b(N:Nat)(dk:mU.bb)(a0:aa)(a1:au)(a2:aj):Option (aS×(Int)):=
 (lM N a0 a1).bind fun r1=>cond (!r1) (some (bI,(1:Int))) ((lV N a0 a2).bind fun r2=>cond (!r2) (some (bI,(1:Int))) (dk a1 a2 a0 bI ([]) a0.1 (List.length a0.1:Int) (0:Int)))
def mU(N:Nat)(a0:aa)(a1:au)(a2:aj):Option (aS×(Int)):=mU.b N (mU.l5 N N) a0 a1 a2
def RI(N:Nat)(a0:cq)(a1:Int):Option (aS×(Int)):=
 (NZ N a0).bind fun r1=>cond (!r1) (some (bI,(1:Int))) ((Ux N a1).bind fun r2=>cond (!r2) (some (bI,(1:Int))) ((B7 N a0.2.2.2.2.1 (W .i64 (a0.2.2.2.2.2.1-a1))).bind fun r4=>cond (ay a0.2.2.2.1 2) ((B7 N a0.2.2.2.2.1 (W .i64 (a1-a0.2.2.2.2.2.1))).bind fun r6=>(Py N r6).bind fun r7=>cond (aH r7 0) (some (bI,(0:Int))) (some (r6,(0:Int)))) ((Py N r4).bind fun r8=>cond (aH r8 0) (some (bI,(0:Int))) (some (r4,(0:Int))))))
abbrev lO.bn:=Int→Int→aj→Int→Int→Option (Int)
def lO.c5(N:Nat)(bJ:lO.bn)(x1:Int)(x2:Int)(aO:aj)(ba:Int)(bl:Int):Option (Int):=
 cond (aH bl ba) (cond (aL bl (List.length aO)) (cond (ay ((List.getD aO bl.toNat aQ).1) x1) (cond (ay (((List.getD aO bl.toNat aQ).2).1) x2) (some ((((List.getD aO bl.toNat aQ).2).2).1)) (bJ x1 x2 aO ba (W .i64 (bl+1)))) (bJ x1 x2 aO ba (W .i64 (bl+1)))) (none)) (some (0:Int))
def lO.l4(N:Nat):Nat→lO.bn
 |0,_,_,_,_,_=>none
 |n+1,x1,x2,aO,ba,bl=>lO.c5 N (lO.l4 N n) x1 x2 aO ba bl
def lO.b(N:Nat)(dz:lO.bn)(a0:aj)(a1:Int)(a2:Int):Option (Int):=
 (wj N a0).bind fun r1=>cond (!r1) (some (0:Int)) (dz a1 a2 a0 (List.length a0:Int) (0:Int))
def lO(N:Nat)(a0:aj)(a1:Int)(a2:Int):Option (Int):=lO.b N (lO.l4 N N) a0 a1 a2
def U4(N:Nat)(a0:Int)(a1:aS):Option (Bool):=
 (B8 N a0).bind fun r1=>(Cb N r1 a1).bind fun r2=>some (bU 0 r2)
def F50(N:Nat)(a0:aa)(a1:ag)(a2:cq):Option (Int):=
 (ix N a0 a1).bind fun r1=>cond (!r1) (some (1:Int)) ((NZ N a2).bind fun r2=>cond (!r2) (some (1:Int)) ((kJ N a1.2.1 a2.2.1).bind fun r3=>cond (!r3.2) (some (3:Int)) ((vr N a1.1 r3.1.2.1).bind fun r4=>cond (!ay r4 1) (some (7:Int)) (cond (bU (List.length a0.1:Int) a2.2.2.1) (some (3:Int)) ((kO N a1.2.2.2.1 a2.2.1).bind fun r5=>(eh N a1.2.2.2.2.2.1 a2.2.1).bind fun r6=>(eD N r6 a2).bind fun r7=>(eH N a0 r5 r7 a2.2.2.1).bind fun r8=>(B8 N r3.1.2.2.2.1).bind fun r9=>(Cb N r8.1 r9).bind fun iB=>cond (aH 0 iB) (some (9:Int)) ((mU N a0 r5 r7).bind fun kv=>cond (aL a2.2.2.1 (List.length a1.2.2.2.2.1)) ((RI N a2 (List.getD a1.2.2.2.2.1 a2.2.2.1.toNat (0:Int))).bind fun lx=>(Hf N kv.1 lx.1).bind fun kV=>(lO N a1.2.2.1 (5:Int) a2.2.1).bind fun mE=>(U4 N mE kV.1).bind fun pA=>cond (!pA) (some (10:Int)) (some (0:Int))) (none)))))))
abbrev kP.bP:=fZ→(List (Int))→Int→Option (Bool)
def kP.dr(N:Nat)(cH:kP.bP)(x1:fZ)(x9:List (Int))(aP:Int):Option (Bool):=
 cond (aH aP 2) (cond (aL aP 2) (cond (aH (List.getD x9 aP.toNat (0:Int)) (0:Int)) (some false) (cond (aH 24 (List.getD x9 aP.toNat (0:Int))) (some false) (cH x1 x9 (W .i64 (aP+1))))) (none)) (cond (!ay x1.1 x1.2.1) (cond (bU 0 x1.2.2.1) (cond (aH x1.2.2.1 6) (cond (bU 1 x1.2.2.2.1) (cond (bU x1.2.2.2.1 1000000000) ((Ux N x1.2.2.2.2.1).bind fun r4=>some r4) (some false)) (some false)) (some false)) (some false)) (some false))
def kP.l2(N:Nat):Nat→kP.bP
 |0,_,_,_=>none
 |n+1,x1,x9,aP=>kP.dr N (kP.l2 N n) x1 x9 aP
def kP.b(N:Nat)(ey:kP.bP)(a0:fZ):Option (Bool):=
 ey a0 (List.set (List.set (List.replicate 2 (0:Int)) 0 a0.1) 1 a0.2.1) (0:Int)
def kP(N:Nat)(a0:fZ):Option (Bool):=kP.b N (kP.l2 N N) a0
def aco(N:Nat)(a0:fZ):Option (Bool):=
 (kP N a0).bind fun r1=>some (!r1)
abbrev ou.bP:=aX→Unit→Int→Int→Option (Int)
def ou.dr(N:Nat)(cH:ou.bP)(x0:aX)(x1:Unit)(x7:Int)(x8:Int):Option (Int):=
 cond (aH x8 x7) (cond (aL x8 (List.length x0)) ((aco N (List.getD x0 x8.toNat eC)).bind fun r2=>cond (r2) (some x8) (cH x0 () x7 (W .i64 (x8+1)))) (none)) (some (-1:Int))
def ou.l2(N:Nat):Nat→ou.bP
 |0,_,_,_,_=>none
 |n+1,x0,x1,x7,x8=>ou.dr N (ou.l2 N n) x0 x1 x7 x8
def ou.b(N:Nat)(ey:ou.bP)(a0:aX)(a1:Unit):Option (Int):=
 ey a0 () (List.length a0:Int) (0:Int)
def ou(N:Nat)(a0:aX)(a1:Unit):Option (Int):=ou.b N (ou.l2 N N) a0 a1
def UN(N:Nat)(a0:aX)(a1:Unit):Option (Bool):=
 (ou N a0 ()).bind fun r1=>some (bU 0 r1)
def Rm(N:Nat)(a0:Int)(a1:aS):Option o1:=
 cond (ay a0 0) (some ((2:Int),((0:Int),(a1,())))) (some ((5:Int),(a0,(a1,()))))
def Rn(N:Nat)(a0:fZ)(a1:Int):Option (cy×(Int)):=
 (kP N a0).bind fun r1=>cond (!r1) (some ([],(1:Int))) ((Ux N a1).bind fun r2=>cond (!r2) (some ([],(1:Int))) (cond (ay a1 a0.2.2.2.2.1) (some ([],(0:Int))) ((B7 N a0.2.2.2.1 (W .i64 (a1-a0.2.2.2.2.1))).bind fun r4=>(Rm N a0.1 r4).bind fun r5=>(B7 N a0.2.2.2.1 (W .i64 (a0.2.2.2.2.1-a1))).bind fun r7=>(Rm N a0.2.1 r7).bind fun r8=>some ([r5,r8],(0:Int)))))
def UK(N:Nat)(a0:ag):Option ag:=
 (kB N a0.1).bind fun r1=>(kB N a0.2.1).bind fun r2=>(kB N a0.2.2.1).bind fun r3=>(kB N a0.2.2.2.1).bind fun r4=>(kB N a0.2.2.2.2.1).bind fun r5=>(kB N a0.2.2.2.2.2.1).bind fun r6=>some (r1,(r2,(r3,(r4,(r5,(r6,()))))))
abbrev ed.eX:=aj→Int→de→Int→aj→Int→Int→Option (Bool)
abbrev ed.bP:=aj→Int→Option (Bool)
def ed.pn(N:Nat)(cH:ed.bP)(eY:ed.eX)(x0:aj)(x3:Int)(x4:de)(x9:Int)(aO:aj)(ba:Int)(bl:Int):Option (Bool):=
 cond (aH bl ba) (cond (aL bl (List.length aO)) (cond (ay (((List.getD aO bl.toNat aQ).2).1) x3) ((B8 N ((((List.getD aO bl.toNat aQ).2).2).1)).bind fun r3=>cond (small (List.length x4+List.length ([r3]))) (eY x0 x3 (x4++([r3])) x9 aO ba (W .i64 (bl+1))) (none)) (eY x0 x3 x4 x9 aO ba (W .i64 (bl+1)))) (none)) ((jA N x4).bind fun r7=>cond (!r7.2) (some false) ((Py N r7.1).bind fun r8=>cond (!ay r8 0) (some false) (cH x0 (W .i64 (x9+1)))))
def ed.l6(N:Nat)(cH:ed.bP):Nat→ed.eX
 |0,_,_,_,_,_,_,_=>none
 |n+1,x0,x3,x4,x9,aO,ba,bl=>ed.pn N cH (ed.l6 N cH n) x0 x3 x4 x9 aO ba bl
def ed.dr(N:Nat)(q4:ed.eX)(cH:ed.bP)(x0:aj)(x9:Int):Option (Bool):=
 cond (aH x9 6) (q4 x0 x9 ([]) x9 x0 (List.length x0:Int) (0:Int)) (some true)
def ed.l2(N:Nat):Nat→ed.bP
 |0,_,_=>none
 |n+1,x0,x9=>ed.dr N (ed.l6 N (ed.l2 N n) N) (ed.l2 N n) x0 x9
def ed.b(N:Nat)(ey:ed.bP)(a0:aj):Option (Bool):=
 ey a0 (0:Int)
def ed(N:Nat)(a0:aj):Option (Bool):=ed.b N (ed.l2 N N) a0
def UC(N:Nat)(a0:aj):Option aj:=
 cond (gD 0 (List.length a0:Int) (List.length a0:Int) (List.length a0:Int)) (some (List.drop (0:Int).toNat (List.take (List.length a0:Int).toNat a0))) (none)
abbrev bA.ain:=aj→aj→bW→Int→aj→Int→Int→Option (aj×(Int))
abbrev bA.jt:=aj→aj→bW→Int→aj→Int→Int→Option (aj×(Int))
abbrev bA.Sx:=aj→aj→bW→de→aj→Int→Int→aj→Int→Int→Option (aj×(Int))
abbrev bA.CT:=aj→aj→aj→Int→Int→Option (aj×(Int))
abbrev bA.ec:=aj→aj→aj→Int→Int→Option (aj×(Int))
abbrev bA.bn:=aj→aj→aj→Int→Int→Option (aj×(Int))
def bA.acf(N:Nat)(fv:bA.ec)(x1:aj)(x8:aj)(aP:bW)(aI:Int)(Ie:aj)(JR:Int)(FA:Int):Option (aj×(Int)):=
 cond (ay aI (List.length x8:Int)) ((gY N x8 aI ([(aP.1,(aP.2.1,((0:Int),())))])).bind fun kV=>fv x1 kV Ie JR (W .i64 (FA+1))) (cond (aL aI (List.length x8)) ((NY N aP.1 aP.2.1 (List.getD x8 aI.toNat aQ)).bind fun pA=>cond (!ay pA 0) ((gY N x8 aI ([(aP.1,(aP.2.1,((0:Int),())))])).bind fun tt=>fv x1 tt Ie JR (W .i64 (FA+1))) (fv x1 x8 Ie JR (W .i64 (FA+1)))) (none))
def bA.j18(N:Nat)(fv:bA.ec)(x1:aj)(x8:aj)(aP:bW)(aI:Int)(Ie:aj)(JR:Int)(FA:Int):Option (aj×(Int)):=bA.acf N fv x1 x8 aP aI Ie JR FA
def bA.se(N:Nat)(aaE:bA.ain)(fv:bA.ec)(kz:bA.jt)(x1:aj)(x8:aj)(aP:bW)(aI:Int)(Ie:aj)(JR:Int)(FA:Int):Option (aj×(Int)):=
 cond (aH aI (List.length x8:Int)) (cond (aL aI (List.length x8)) ((NY N aP.1 aP.2.1 (List.getD x8 aI.toNat aQ)).bind fun iB=>cond (aH 0 iB) (kz x1 x8 aP (W .i64 (aI+1)) Ie JR FA) (aaE x1 x8 aP aI Ie JR FA)) (none)) (aaE x1 x8 aP aI Ie JR FA)
def bA.tp(N:Nat)(fv:bA.ec):Nat→bA.jt
 |0,_,_,_,_,_,_,_=>none
 |n+1,x1,x8,aP,aI,Ie,JR,FA=>bA.se N (bA.j18 N fv) fv (bA.tp N fv n) x1 x8 aP aI Ie JR FA
def bA.UD(N:Nat)(DE:bA.CT)(Sy:bA.Sx)(x1:aj)(aO:aj)(bl:bW)(b7:de)(vY:aj)(yO:Int)(oy:Int)(E7:aj)(Pe:Int)(Cj:Int):Option (aj×(Int)):=
 cond (aH Cj Pe) (cond (aL Cj (List.length E7)) (cond (ay ((List.getD E7 Cj.toNat aQ).1) bl.1) (cond (ay (((List.getD E7 Cj.toNat aQ).2).1) bl.2.1) ((B8 N ((((List.getD E7 Cj.toNat aQ).2).2).1)).bind fun Bi=>cond (small (List.length b7+List.length ([Bi]))) (Sy x1 aO bl (b7++([Bi])) vY yO oy E7 Pe (W .i64 (Cj+1))) (none)) (Sy x1 aO bl b7 vY yO oy E7 Pe (W .i64 (Cj+1)))) (Sy x1 aO bl b7 vY yO oy E7 Pe (W .i64 (Cj+1)))) (none)) ((jA N b7).bind fun Ts=>(GO N Ts.1).bind fun BH=>cond (!BH.2) (some (aY,(2:Int))) ((Kp N BH.1).bind fun Lr=>cond (!Lr) (some (aY,(2:Int))) (cond (!ay BH.1 0) (cond (small (List.length aO+List.length ([(bl.1,(bl.2.1,(BH.1,())))]))) (DE x1 (aO++([(bl.1,(bl.2.1,(BH.1,())))])) vY yO (W .i64 (oy+1))) (none)) (DE x1 aO vY yO (W .i64 (oy+1))))))
def bA.l27(N:Nat)(DE:bA.CT):Nat→bA.Sx
 |0,_,_,_,_,_,_,_,_,_,_=>none
 |n+1,x1,aO,bl,b7,vY,yO,oy,E7,Pe,Cj=>bA.UD N DE (bA.l27 N DE n) x1 aO bl b7 vY yO oy E7 Pe Cj
def bA.UF(N:Nat)(aio:bA.Sx)(DE:bA.CT)(x1:aj)(aO:aj)(vY:aj)(yO:Int)(oy:Int):Option (aj×(Int)):=
 cond (aH oy yO) (cond (aL oy (List.length vY)) ((B8 N ((((List.getD vY oy.toNat aQ).2).2).1)).bind fun JP=>aio x1 aO (List.getD vY oy.toNat aQ) ([JP]) vY yO oy x1 (List.length x1:Int) (0:Int)) (none)) ((UC N aO).bind fun Sz=>some (Sz,(0:Int)))
def bA.UE(N:Nat):Nat→bA.CT
 |0,_,_,_,_,_=>none
 |n+1,x1,aO,vY,yO,oy=>bA.UF N (bA.l27 N (bA.UE N n) N) (bA.UE N n) x1 aO vY yO oy
def bA.jY(N:Nat)(Bk:bA.jt)(aip:bA.CT)(fv:bA.ec)(x1:aj)(x8:aj)(Ie:aj)(JR:Int)(FA:Int):Option (aj×(Int)):=
 cond (aH FA JR) (cond (aL FA (List.length Ie)) (Bk x1 x8 (List.getD Ie FA.toNat aQ) (0:Int) Ie JR FA) (none)) (cond (fX 0 (List.length x8:Int)) (aip x1 (List.replicate (0:Int).toNat aQ) x8 (List.length x8:Int) (0:Int)) (none))
def bA.lN(N:Nat):Nat→bA.ec
 |0,_,_,_,_,_=>none
 |n+1,x1,x8,Ie,JR,FA=>bA.jY N (bA.tp N (bA.lN N n) N) (bA.UE N N) (bA.lN N n) x1 x8 Ie JR FA
def bA.c5(N:Nat)(p5:bA.ec)(bJ:bA.bn)(x0:aj)(x1:aj)(uK:aj)(DD:Int)(w7:Int):Option (aj×(Int)):=
 cond (aH w7 DD) (cond (aL w7 (List.length uK)) ((QQ N ((List.getD uK w7.toNat aQ).1) (((List.getD uK w7.toNat aQ).2).1)).bind fun r3=>cond (!r3) (some (aY,(1:Int))) ((Kp N ((((List.getD uK w7.toNat aQ).2).2).1)).bind fun r4=>cond (!r4) (some (aY,(1:Int))) (bJ x0 x1 uK DD (W .i64 (w7+1))))) (none)) ((ed N x1).bind fun r6=>cond (!r6) (some (aY,(1:Int))) ((kB N x0).bind fun r7=>p5 x1 r7 x1 (List.length x1:Int) (0:Int)))
def bA.l4(N:Nat):Nat→bA.bn
 |0,_,_,_,_,_=>none
 |n+1,x0,x1,uK,DD,w7=>bA.c5 N (bA.lN N N) (bA.l4 N n) x0 x1 uK DD w7
def bA.b(N:Nat)(dz:bA.bn)(a0:aj)(a1:aj):Option (aj×(Int)):=
 (ki N a0).bind fun r1=>cond (!r1) (some (aY,(1:Int))) (cond (aH 400 (List.length a1:Int)) (some (aY,(1:Int))) (dz a0 a1 a1 (List.length a1:Int) (0:Int)))
def bA(N:Nat)(a0:aj)(a1:aj):Option (aj×(Int)):=bA.b N (bA.l4 N N) a0 a1
def ach(N:Nat)(a0:aj):Option aj:=
 cond (gD 0 (List.length a0:Int) (List.length a0:Int) (List.length a0:Int)) (some (List.drop (0:Int).toNat (List.take (List.length a0:Int).toNat a0))) (none)
abbrev bB.Ia:=cy→aj→o1→Int→cy→Int→Int→Option (aj×(Int))
abbrev bB.Bm:=cy→aj→o1→Int→cy→Int→Int→Option (aj×(Int))
abbrev bB.Bn:=cy→aj→bW→de→aj→Int→Int→cy→Int→Int→Option (aj×(Int))
abbrev bB.CY:=cy→aj→aj→Int→Int→Option (aj×(Int))
abbrev bB.jt:=cy→aj→cy→Int→Int→Option (aj×(Int))
abbrev bB.bb:=aj→cy→de→cy→Int→Int→Option (aj×(Int))
def bB.z6(N:Nat)(kz:bB.jt)(x1:cy)(aI:aj)(ba:o1)(bl:Int)(rB:cy)(Ck:Int)(rk:Int):Option (aj×(Int)):=
 cond (ay bl (List.length aI:Int)) ((gY N aI bl ([(ba.1,(ba.2.1,((0:Int),())))])).bind fun pA=>kz x1 pA rB Ck (W .i64 (rk+1))) (cond (aL bl (List.length aI)) ((Km N ba.1 ba.2.1 (List.getD aI bl.toNat aQ)).bind fun o8=>cond (!ay o8 0) ((gY N aI bl ([(ba.1,(ba.2.1,((0:Int),())))])).bind fun wo=>kz x1 wo rB Ck (W .i64 (rk+1))) (kz x1 aI rB Ck (W .i64 (rk+1)))) (none))
def bB.Gy(N:Nat)(kz:bB.jt)(x1:cy)(aI:aj)(ba:o1)(bl:Int)(rB:cy)(Ck:Int)(rk:Int):Option (aj×(Int)):=bB.z6 N kz x1 aI ba bl rB Ck rk
def bB.KA(N:Nat)(vX:bB.Ia)(kz:bB.jt)(SA:bB.Bm)(x1:cy)(aI:aj)(ba:o1)(bl:Int)(rB:cy)(Ck:Int)(rk:Int):Option (aj×(Int)):=
 cond (aH bl (List.length aI:Int)) (cond (aL bl (List.length aI)) ((Km N ba.1 ba.2.1 (List.getD aI bl.toNat aQ)).bind fun lx=>cond (aH 0 lx) (SA x1 aI ba (W .i64 (bl+1)) rB Ck rk) (vX x1 aI ba bl rB Ck rk)) (none)) (vX x1 aI ba bl rB Ck rk)
def bB.Oc(N:Nat)(kz:bB.jt):Nat→bB.Bm
 |0,_,_,_,_,_,_,_=>none
 |n+1,x1,aI,ba,bl,rB,Ck,rk=>bB.KA N (bB.Gy N kz) kz (bB.Oc N kz n) x1 aI ba bl rB Ck rk
def bB.G7(N:Nat)(DF:bB.CY)(yf:bB.Bn)(x1:cy)(b7:aj)(cQ:bW)(fe:de)(vZ:aj)(yP:Int)(uC:Int)(Cl:cy)(Pf:Int)(Bo:Int):Option (aj×(Int)):=
 cond (aH Bo Pf) (cond (aL Bo (List.length Cl)) (cond (ay ((List.getD Cl Bo.toNat ((0:Int),((0:Int),(bI,())))).1) cQ.1) (cond (ay (((List.getD Cl Bo.toNat ((0:Int),((0:Int),(bI,())))).2).1) cQ.2.1) (cond (small (List.length fe+List.length ([(((List.getD Cl Bo.toNat ((0:Int),((0:Int),(bI,())))).2).2).1]))) (yf x1 b7 cQ (fe++([(((List.getD Cl Bo.toNat ((0:Int),((0:Int),(bI,())))).2).2).1])) vZ yP uC Cl Pf (W .i64 (Bo+1))) (none)) (yf x1 b7 cQ fe vZ yP uC Cl Pf (W .i64 (Bo+1)))) (yf x1 b7 cQ fe vZ yP uC Cl Pf (W .i64 (Bo+1)))) (none)) ((jA N fe).bind fun BH=>(GO N BH.1).bind fun Lr=>cond (!BH.2) (some (aY,(2:Int))) (cond (!Lr.2) (some (aY,(2:Int))) (cond (!ay Lr.1 0) (cond (small (List.length b7+List.length ([(cQ.1,(cQ.2.1,(Lr.1,())))]))) (DF x1 (b7++([(cQ.1,(cQ.2.1,(Lr.1,())))])) vZ yP (W .i64 (uC+1))) (none)) (DF x1 b7 vZ yP (W .i64 (uC+1))))))
def bB.Kz(N:Nat)(DF:bB.CY):Nat→bB.Bn
 |0,_,_,_,_,_,_,_,_,_,_=>none
 |n+1,x1,b7,cQ,fe,vZ,yP,uC,Cl,Pf,Bo=>bB.G7 N DF (bB.Kz N DF n) x1 b7 cQ fe vZ yP uC Cl Pf Bo
def bB.UJ(N:Nat)(SB:bB.Bn)(DF:bB.CY)(x1:cy)(b7:aj)(vZ:aj)(yP:Int)(uC:Int):Option (aj×(Int)):=
 cond (aH uC yP) (cond (aL uC (List.length vZ)) ((B8 N ((((List.getD vZ uC.toNat aQ).2).2).1)).bind fun Bi=>SB x1 b7 (List.getD vZ uC.toNat aQ) ([Bi]) vZ yP uC x1 (List.length x1:Int) (0:Int)) (none)) ((ach N b7).bind fun Sz=>some (Sz,(0:Int)))
def bB.UI(N:Nat):Nat→bB.CY
 |0,_,_,_,_,_=>none
 |n+1,x1,b7,vZ,yP,uC=>bB.UJ N (bB.Kz N (bB.UI N n) N) (bB.UI N n) x1 b7 vZ yP uC
def bB.se(N:Nat)(SC:bB.Bm)(aiq:bB.CY)(kz:bB.jt)(x1:cy)(aI:aj)(rB:cy)(Ck:Int)(rk:Int):Option (aj×(Int)):=
 cond (aH rk Ck) (cond (aL rk (List.length rB)) (SC x1 aI (List.getD rB rk.toNat ((0:Int),((0:Int),(bI,())))) (0:Int) rB Ck rk) (none)) (cond (fX 0 (List.length aI:Int)) (aiq x1 (List.replicate (0:Int).toNat aQ) aI (List.length aI:Int) (0:Int)) (none))
def bB.tp(N:Nat):Nat→bB.jt
 |0,_,_,_,_,_=>none
 |n+1,x1,aI,rB,Ck,rk=>bB.se N (bB.Oc N (bB.tp N n) N) (bB.UI N N) (bB.tp N n) x1 aI rB Ck rk
def bB.c0(N:Nat)(Bk:bB.jt)(bf:bB.bb)(x0:aj)(x1:cy)(x6:de)(x36:cy)(x37:Int)(w5:Int):Option (aj×(Int)):=
 cond (aH w5 x37) (cond (aL w5 (List.length x36)) ((Kk N ((List.getD x36 w5.toNat ((0:Int),((0:Int),(bI,())))).1) (((List.getD x36 w5.toNat ((0:Int),((0:Int),(bI,())))).2).1)).bind fun r4=>cond (!r4) (some (aY,(1:Int))) (cond (small (List.length x6+List.length ([(((List.getD x36 w5.toNat ((0:Int),((0:Int),(bI,())))).2).2).1]))) (bf x0 x1 (x6++([(((List.getD x36 w5.toNat ((0:Int),((0:Int),(bI,())))).2).2).1])) x36 x37 (W .i64 (w5+1))) (none))) (none)) ((jA N x6).bind fun r7=>cond (!r7.2) (some (aY,(1:Int))) ((Py N r7.1).bind fun r8=>cond (!ay r8 0) (some (aY,(1:Int))) ((kB N x0).bind fun r9=>Bk x1 r9 x1 (List.length x1:Int) (0:Int))))
def bB.l5(N:Nat):Nat→bB.bb
 |0,_,_,_,_,_,_=>none
 |n+1,x0,x1,x6,x36,x37,w5=>bB.c0 N (bB.tp N N) (bB.l5 N n) x0 x1 x6 x36 x37 w5
def bB.b(N:Nat)(dk:bB.bb)(a0:aj)(a1:cy):Option (aj×(Int)):=
 (wj N a0).bind fun r1=>cond (!r1) (some (aY,(1:Int))) (cond (aH 400 (List.length a1:Int)) (some (aY,(1:Int))) (cond (fX 0 (List.length a1:Int)) (dk a0 a1 (List.replicate (0:Int).toNat bI) a1 (List.length a1:Int) (0:Int)) (none)))
def bB(N:Nat)(a0:aj)(a1:cy):Option (aj×(Int)):=bB.b N (bB.l5 N N) a0 a1
def F65(N:Nat)(a0:ag)(a1:aj)(a2:cy):Option (ag×(Int)):=
 (UK N a0).bind fun r1=>(bA N a0.2.2.2.1 a1).bind fun r2=>cond (!ay r2.2 0) (some ((bF,(cc,(aY,(aY,(cv,(cF,())))))),r2.2)) ((bB N a0.2.2.1 a2).bind fun r3=>cond (!ay r3.2 0) (some ((bF,(cc,(aY,(aY,(cv,(cF,())))))),r3.2)) (some ((r1.1,(r1.2.1,(r3.1,(r2.1,r1.2.2.2.2)))),(0:Int))))
abbrev fk.eT:=ag→ag→aj→cy→aX→Int→Int→Option (ag×(Int))
abbrev fk.bn:=aX→aa→ag→ag→aX→Int→Int→Option (ag×(Int))
def fk.jV(N:Nat)(gV:fk.eT)(x4:ag)(x6:ag)(aP:aj)(aI:cy)(rB:aX)(Ck:Int)(rk:Int):Option (ag×(Int)):=
 cond (aH rk Ck) (cond (aL rk (List.length rB)) (let JQ:Int:=W .i64 (0-(((((List.getD rB rk.toNat eC).2).2).2).1));cond (small (List.length aP+List.length ([((List.getD rB rk.toNat eC).1,((((List.getD rB rk.toNat eC).2).2).1,(((((List.getD rB rk.toNat eC).2).2).2).1,()))),(((List.getD rB rk.toNat eC).2).1,((((List.getD rB rk.toNat eC).2).2).1,(JQ,())))]))) (cond (aL ((((List.getD rB rk.toNat eC).2).2).1) (List.length x4.2.2.2.2.1)) ((Rn N (List.getD rB rk.toNat eC) (List.getD x4.2.2.2.2.1 ((((List.getD rB rk.toNat eC).2).2).1).toNat (0:Int))).bind fun mE=>cond (small (List.length aI+List.length mE.1)) (gV x4 x6 (aP++([((List.getD rB rk.toNat eC).1,((((List.getD rB rk.toNat eC).2).2).1,(((((List.getD rB rk.toNat eC).2).2).2).1,()))),(((List.getD rB rk.toNat eC).2).1,((((List.getD rB rk.toNat eC).2).2).1,(JQ,())))])) (aI++mE.1) rB Ck (W .i64 (rk+1))) (none)) (none)) (none)) (none)) ((F65 N x4 aP aI).bind fun o8=>some (o8.1,o8.2))
def fk.kL(N:Nat):Nat→fk.eT
 |0,_,_,_,_,_,_,_=>none
 |n+1,x4,x6,aP,aI,rB,Ck,rk=>fk.jV N (fk.kL N n) x4 x6 aP aI rB Ck rk
def fk.c5(N:Nat)(p6:fk.eT)(bJ:fk.bn)(x2:aX)(x3:aa)(x4:ag)(x6:ag)(uK:aX)(DD:Int)(w7:Int):Option (ag×(Int)):=
 cond (aH w7 DD) (cond (aL w7 (List.length uK)) (cond (!ay ((List.getD uK w7.toNat eC).1) (0:Int)) ((UB N x4 ((List.getD uK w7.toNat eC).1)).bind fun r4=>cond (!r4) (some ((bF,(cc,(aY,(aY,(cv,(cF,())))))),(3:Int))) (cond (!ay (((List.getD uK w7.toNat eC).2).1) (0:Int)) ((UB N x4 (((List.getD uK w7.toNat eC).2).1)).bind fun r5=>cond (!r5) (some ((bF,(cc,(aY,(aY,(cv,(cF,())))))),(3:Int))) (cond (bU (List.length x3.1:Int) ((((List.getD uK w7.toNat eC).2).2).1)) (some ((bF,(cc,(aY,(aY,(cv,(cF,())))))),(3:Int))) (bJ x2 x3 x4 x6 uK DD (W .i64 (w7+1))))) (cond (bU (List.length x3.1:Int) ((((List.getD uK w7.toNat eC).2).2).1)) (some ((bF,(cc,(aY,(aY,(cv,(cF,())))))),(3:Int))) (bJ x2 x3 x4 x6 uK DD (W .i64 (w7+1)))))) (cond (!ay (((List.getD uK w7.toNat eC).2).1) (0:Int)) ((UB N x4 (((List.getD uK w7.toNat eC).2).1)).bind fun r8=>cond (!r8) (some ((bF,(cc,(aY,(aY,(cv,(cF,())))))),(3:Int))) (cond (bU (List.length x3.1:Int) ((((List.getD uK w7.toNat eC).2).2).1)) (some ((bF,(cc,(aY,(aY,(cv,(cF,())))))),(3:Int))) (bJ x2 x3 x4 x6 uK DD (W .i64 (w7+1))))) (cond (bU (List.length x3.1:Int) ((((List.getD uK w7.toNat eC).2).2).1)) (some ((bF,(cc,(aY,(aY,(cv,(cF,())))))),(3:Int))) (bJ x2 x3 x4 x6 uK DD (W .i64 (w7+1)))))) (none)) (p6 x4 x6 ([]) ([]) x2 (List.length x2:Int) (0:Int))
def fk.l4(N:Nat):Nat→fk.bn
 |0,_,_,_,_,_,_,_=>none
 |n+1,x2,x3,x4,x6,uK,DD,w7=>fk.c5 N (fk.kL N N) (fk.l4 N n) x2 x3 x4 x6 uK DD w7
def fk.b(N:Nat)(dz:fk.bn)(a0:aa)(a1:ag)(a2:aX):Option (ag×(Int)):=
 (ix N a0 a1).bind fun r1=>cond (!r1) (some ((bF,(cc,(aY,(aY,(cv,(cF,())))))),(1:Int))) (cond (aH 200 (List.length a2:Int)) (some ((bF,(cc,(aY,(aY,(cv,(cF,())))))),(1:Int))) ((UN N a2 ()).bind fun r2=>cond (r2) (some ((bF,(cc,(aY,(aY,(cv,(cF,())))))),(1:Int))) (dz a2 a0 a1 (bF,(cc,(aY,(aY,(cv,(cF,())))))) a2 (List.length a2:Int) (0:Int))))
def fk(N:Nat)(a0:aa)(a1:ag)(a2:aX):Option (ag×(Int)):=fk.b N (fk.l4 N N) a0 a1 a2
abbrev A0.air:=Int→aa→ag→bh→ag→bh→fZ→Option (ag×bh×(Int))
def A0.acv(N:Nat)(x4:Int)(x6:aa)(x7:ag)(x8:bh)(aO:ag)(ba:bh)(cQ:fZ):Option (ag×bh×(Int)):=
 (fk N x6 x7 ([cQ])).bind fun r8=>cond (!ay r8.2 0) (some ((bF,(cc,(aY,(aY,(cv,(cF,())))))),aJ,r8.2)) (some (r8.1,(x8.1,(x8.2.1,(x8.2.2.1,((W .i64 (x8.2.2.2.1-x4)),x8.2.2.2.2)))),(0:Int)))
def A0.j12(N:Nat)(x4:Int)(x6:aa)(x7:ag)(x8:bh)(aO:ag)(ba:bh)(cQ:fZ):Option (ag×bh×(Int)):=A0.acv N x4 x6 x7 x8 aO ba cQ
def A0.b(N:Nat)(aaG:A0.air)(a0:aa)(a1:ag)(a2:bh)(a3:Int)(a4:Int)(a5:Int):Option (ag×bh×(Int)):=
 (ix N a0 a1).bind fun r1=>cond (!r1) (some ((bF,(cc,(aY,(aY,(cv,(cF,())))))),aJ,(1:Int))) ((F48 N a2).bind fun r2=>cond (!r2) (some ((bF,(cc,(aY,(aY,(cv,(cF,())))))),aJ,(1:Int))) ((KY N a4).bind fun r3=>cond (!r3) (some ((bF,(cc,(aY,(aY,(cv,(cF,())))))),aJ,(1:Int))) ((Ux N a5).bind fun r4=>cond (!r4) (some ((bF,(cc,(aY,(aY,(cv,(cF,())))))),aJ,(1:Int))) (cond (aH a2.2.2.2.1 a4) (some ((bF,(cc,(aY,(aY,(cv,(cF,())))))),aJ,(9:Int))) ((F50 N a0 a1 (a2.1,(a3,(a2.2.1,((W .i64 ((3:Int)-a2.2.2.1)),(a4,(a5,()))))))).bind fun r6=>cond (!ay r6 0) (some ((bF,(cc,(aY,(aY,(cv,(cF,())))))),aJ,r6)) (cond (ay a2.2.2.1 1) (aaG a4 a0 a1 a2 (bF,(cc,(aY,(aY,(cv,(cF,())))))) aJ ((0:Int),(a3,(a2.2.1,(a4,(a5,())))))) (aaG a4 a0 a1 a2 (bF,(cc,(aY,(aY,(cv,(cF,())))))) aJ (a3,((0:Int),(a2.2.1,(a4,(a5,()))))))))))))
def A0(N:Nat)(a0:aa)(a1:ag)(a2:bh)(a3:Int)(a4:Int)(a5:Int):Option (ag×bh×(Int)):=A0.b N (A0.j12 N) a0 a1 a2 a3 a4 a5
abbrev uH.bP:=aj→Int→Option (Bool)
def uH.dr(N:Nat)(cH:uH.bP)(x0:aj)(x3:Int):Option (Bool):=
 cond (aH x3 (List.length x0:Int)) (cond (aL x3 (List.length x0)) (cond (aH ((List.getD x0 x3.toNat aQ).1) (0:Int)) (some false) (cond (aH 24 ((List.getD x0 x3.toNat aQ).1)) (some false) (cond (aH (((List.getD x0 x3.toNat aQ).2).1) (0:Int)) (some false) (cond (bU 6 (((List.getD x0 x3.toNat aQ).2).1)) (some false) (cond (ay ((((List.getD x0 x3.toNat aQ).2).2).1) (0:Int)) (some false) (cond (ay ((((List.getD x0 x3.toNat aQ).2).2).1) (-9223372036854775808:Int)) (some false) (cond (aH 0 x3) (let v2:Int:=W .i64 (x3-1);cond (aL v2 (List.length x0)) (cond (aH ((List.getD x0 x3.toNat aQ).1) ((List.getD x0 v2.toNat aQ).1)) (some false) (let v3:Int:=W .i64 (x3-1);cond (aL v3 (List.length x0)) (cond (ay ((List.getD x0 x3.toNat aQ).1) ((List.getD x0 v3.toNat aQ).1)) (let v4:Int:=W .i64 (x3-1);cond (aL v4 (List.length x0)) (cond (bU (((List.getD x0 x3.toNat aQ).2).1) (((List.getD x0 v4.toNat aQ).2).1)) (some false) (cH x0 (W .i64 (x3+1)))) (none)) (cH x0 (W .i64 (x3+1)))) (none))) (none)) (cH x0 (W .i64 (x3+1)))))))))) (none)) (some true)
def uH.l2(N:Nat):Nat→uH.bP
 |0,_,_=>none
 |n+1,x0,x3=>uH.dr N (uH.l2 N n) x0 x3
def uH.b(N:Nat)(ey:uH.bP)(a0:aj):Option (Bool):=
 ey a0 (0:Int)
def uH(N:Nat)(a0:aj):Option (Bool):=uH.b N (uH.l2 N N) a0
abbrev tJ.bn:=aj→Int→Int→Int→Option (Int)
def tJ.c5(N:Nat)(bJ:tJ.bn)(x0:aj)(x1:Int)(x2:Int)(x7:Int):Option (Int):=
 cond (aH x7 (List.length x0:Int)) (cond (aL x7 (List.length x0)) (cond (ay ((List.getD x0 x7.toNat aQ).1) x1) (cond (aL x7 (List.length x0)) (cond (ay (((List.getD x0 x7.toNat aQ).2).1) x2) (cond (aL x7 (List.length x0)) (some ((((List.getD x0 x7.toNat aQ).2).2).1)) (none)) (bJ x0 x1 x2 (W .i64 (x7+1)))) (none)) (bJ x0 x1 x2 (W .i64 (x7+1)))) (none)) (some (0:Int))
def tJ.l4(N:Nat):Nat→tJ.bn
 |0,_,_,_,_=>none
 |n+1,x0,x1,x2,x7=>tJ.c5 N (tJ.l4 N n) x0 x1 x2 x7
def tJ.b(N:Nat)(dz:tJ.bn)(a0:aj)(a1:Int)(a2:Int):Option (Int):=
 (uH N a0).bind fun r1=>cond (!r1) (some (0:Int)) (dz a0 a1 a2 (0:Int))
def tJ(N:Nat)(a0:aj)(a1:Int)(a2:Int):Option (Int):=tJ.b N (tJ.l4 N N) a0 a1 a2
def Kl(N:Nat)(a0:Int)(a1:Int):Option (Bool):=
 cond (ay a0 1) (some (ay a1 0)) (cond (ay a0 2) (some (ay a1 0)) (cond (ay a0 3) (some (ay a1 0)) (cond (ay a0 4) (some (ay a1 0)) (cond (ay a0 5) (cond (bU 1 a1) (some (bU a1 24)) (some false)) (cond (ay a0 6) (cond (bU 1 a1) (some (bU a1 12)) (some false)) (cond (ay a0 7) (cond (bU 1 a1) (some (bU a1 12)) (some false)) (some false)))))))
abbrev wL.bP:=aj→Int→Option (Bool)
def wL.dr(N:Nat)(cH:wL.bP)(x0:aj)(x3:Int):Option (Bool):=
 cond (aH x3 (List.length x0:Int)) (cond (aL x3 (List.length x0)) (cond (aL x3 (List.length x0)) ((Kl N ((List.getD x0 x3.toNat aQ).1) (((List.getD x0 x3.toNat aQ).2).1)).bind fun r2=>cond (!r2) (some false) (cond (aL x3 (List.length x0)) (cond (ay ((((List.getD x0 x3.toNat aQ).2).2).1) (0:Int)) (some false) (cond (aH 0 x3) (cond (aL x3 (List.length x0)) (let v3:Int:=W .i64 (x3-1);cond (aL v3 (List.length x0)) (cond (aH ((List.getD x0 x3.toNat aQ).1) ((List.getD x0 v3.toNat aQ).1)) (some false) (cond (aL x3 (List.length x0)) (let v4:Int:=W .i64 (x3-1);cond (aL v4 (List.length x0)) (cond (ay ((List.getD x0 x3.toNat aQ).1) ((List.getD x0 v4.toNat aQ).1)) (cond (aL x3 (List.length x0)) (let v5:Int:=W .i64 (x3-1);cond (aL v5 (List.length x0)) (cond (bU (((List.getD x0 x3.toNat aQ).2).1) (((List.getD x0 v5.toNat aQ).2).1)) (some false) (cH x0 (W .i64 (x3+1)))) (none)) (none)) (cH x0 (W .i64 (x3+1)))) (none)) (none))) (none)) (none)) (cH x0 (W .i64 (x3+1))))) (none))) (none)) (none)) (some true)
def wL.l2(N:Nat):Nat→wL.bP
 |0,_,_=>none
 |n+1,x0,x3=>wL.dr N (wL.l2 N n) x0 x3
def wL.b(N:Nat)(ey:wL.bP)(a0:aj):Option (Bool):=
 ey a0 (0:Int)
def wL(N:Nat)(a0:aj):Option (Bool):=wL.b N (wL.l2 N N) a0
abbrev ri.bn:=aj→Int→Int→Int→Option (Int)
def ri.c5(N:Nat)(bJ:ri.bn)(x0:aj)(x1:Int)(x2:Int)(x7:Int):Option (Int):=
 cond (aH x7 (List.length x0:Int)) (cond (aL x7 (List.length x0)) (cond (ay ((List.getD x0 x7.toNat aQ).1) x1) (cond (aL x7 (List.length x0)) (cond (ay (((List.getD x0 x7.toNat aQ).2).1) x2) (cond (aL x7 (List.length x0)) (some ((((List.getD x0 x7.toNat aQ).2).2).1)) (none)) (bJ x0 x1 x2 (W .i64 (x7+1)))) (none)) (bJ x0 x1 x2 (W .i64 (x7+1)))) (none)) (some (0:Int))
def ri.l4(N:Nat):Nat→ri.bn
 |0,_,_,_,_=>none
 |n+1,x0,x1,x2,x7=>ri.c5 N (ri.l4 N n) x0 x1 x2 x7
def ri.b(N:Nat)(dz:ri.bn)(a0:aj)(a1:Int)(a2:Int):Option (Int):=
 (wL N a0).bind fun r1=>cond (!r1) (some (0:Int)) (dz a0 a1 a2 (0:Int))
def ri(N:Nat)(a0:aj)(a1:Int)(a2:Int):Option (Int):=ri.b N (ri.l4 N N) a0 a1 a2
def F38(N:Nat):Option (Bool):=
 (F99 N).bind fun r1=>(wm N r1.1 r1.2).bind fun r2=>(qP N r1.1 r1.2 (4:Int)).bind fun r3=>cond (!ay r2.2 0) (some false) (cond (!ay r3.2 0) (some false) (cond (!ay (List.length r2.1:Int) 4) (some false) (cond (!ay (List.length r3.1:Int) 1) (some false) (cond (aL 0 (List.length r3.1)) ((A0 N r1.1 r1.2 (List.getD r3.1 (0:Int).toNat aJ) (1:Int) (2:Int) (99:Int)).bind fun r4=>cond (aL 0 (List.length r3.1)) ((A0 N r1.1 r1.2 (List.getD r3.1 (0:Int).toNat aJ) (1:Int) (7:Int) (99:Int)).bind fun r5=>cond (aL 0 (List.length r2.1)) (cond (ay (((List.getD r2.1 (0:Int).toNat bI).2).1) (640:Int)) (cond (aL 0 (List.length r3.1)) (cond (kZ (.pair (.int .i64) (.pair (.int .i64) (.pair (.int .i64) (.pair (.int .i64) .unit)))) (List.getD r3.1 (0:Int).toNat aJ) ((4:Int),((0:Int),((2:Int),((6:Int),()))))) (cond (ay r4.2.2 0) (cond (ay r4.2.1.2.2.2.1 4) ((tJ N r4.1.2.2.2.1 (0:Int) (0:Int)).bind fun r6=>cond (ay r6 3) ((ri N r4.1.2.2.1 (2:Int) (0:Int)).bind fun r7=>cond (ay r7 (-2)) (cond (ay r5.2.2 9) (cond (aL 0 (List.length r3.1)) ((F48 N (List.getD r3.1 (0:Int).toNat aJ)).bind fun r8=>some r8) (none)) (some false)) (some false)) (some false)) (some false)) (some false)) (some false)) (none)) (some false)) (none)) (none)) (none)))))
def F13(N:Nat)(a0:List (Int)):Option aK:=
 some (a0,((0:Int),()))
def F42(N:Nat)(a0:aK):Option ((Int)×aK):=
 cond (aH a0.2.1 (List.length a0.1:Int)) (cond (aL a0.2.1 (List.length a0.1)) (some (List.getD a0.1 a0.2.1.toNat (0:Int),(a0.1,((W .i64 (a0.2.1+1)),a0.2.2)))) (none)) (some ((0:Int),(a0.1,((W .i64 (a0.2.1+1)),a0.2.2))))
def ox(N:Nat)(a0:aK)(a1:Int):Option ((Int)×aK):=
 (F42 N a0).bind fun r1=>let v2:Int:=W .u64 a1;cond (ay v2 0) (none) (some ((W .i64 (rem r1.1 v2)),r1.2))
def Tk(N:Nat)(a0:aK)(a1:Int):Option ((Bool)×aK):=
 (ox N a0 a1).bind fun r1=>some (ay r1.1 (W .i64 (a1-1)),r1.2)
def JN(N:Nat)(a0:aK):Option ((Int)×aK):=
 (F42 N a0).bind fun r1=>cond (ay 8 0) (none) (let v2:Int:=rem r1.1 8;cond (ay v2 0) (cond (aH 1 0) (none) (some ((W .i64 (shr .u64 r1.1 1)),r1.2))) (cond (ay v2 1) (cond (aH 3 0) (none) (cond (ay 1000000000000 0) (none) (some ((W .i64 (rem (shr .u64 r1.1 3) 1000000000000)),r1.2)))) (cond (ay v2 2) (cond (aH 3 0) (none) (cond (ay 2 0) (none) (some ((W .i64 (rem (shr .u64 r1.1 3) 2)),r1.2)))) (cond (aH 3 0) (none) (cond (ay 5000 0) (none) (some ((W .i64 (rem (shr .u64 r1.1 3) 5000)),r1.2)))))))
abbrev qV.SD:=aK→aa→aa→aD→Int→bh→Option (aa×aK)
abbrev qV.cO:=aK→aa→aa→aD→Int→Option (aa×aK)
def qV.Rb(N:Nat)(ct:qV.cO)(x0:aK)(x2:aa)(x3:aa)(Pg:aD)(x4:Int)(x5:bh):Option (aa×aK):=
 (Tk N x0 (12:Int)).bind fun mE=>cond (mE.1) ((JN N mE.2).bind fun pA=>cond (ay 1000000001 0) (none) (let M5:Int:=rem pA.1 1000000001;(JN N pA.2).bind fun o8=>cond (ay 1000000001 0) (none) (let v18:Int:=rem o8.1 1000000001;cond (small (List.length Pg+List.length ([(x5.1,(x5.2.1,(M5,(v18,x5.2.2.2.2))))]))) (ct o8.2 x2 (cc,x3.2) (Pg++([(x5.1,(x5.2.1,(M5,(v18,x5.2.2.2.2))))])) (W .i64 (x4-1))) (none)))) (cond (small (List.length Pg+List.length ([x5]))) (ct mE.2 x2 (cc,x3.2) (Pg++([x5])) (W .i64 (x4-1))) (none))
def qV.j8(N:Nat)(ct:qV.cO)(x0:aK)(x2:aa)(x3:aa)(Pg:aD)(x4:Int)(x5:bh):Option (aa×aK):=qV.Rb N ct x0 x2 x3 Pg x4 x5
def qV.kq(N:Nat)(Ig:qV.SD)(ct:qV.cO)(x0:aK)(x2:aa)(x3:aa)(Pg:aD)(x4:Int):Option (aa×aK):=
 cond (aH 0 x4) ((ox N x0 (3:Int)).bind fun r4=>(ox N r4.2 (300:Int)).bind fun r5=>(ox N r5.2 (12:Int)).bind fun r7=>(ox N r7.2 (6:Int)).bind fun r8=>(Tk N r8.2 (12:Int)).bind fun r9=>cond (r9.1) ((JN N r9.2).bind fun iB=>cond (ay 1000000000000 0) (none) (Ig iB.2 x2 x3 Pg x4 (r4.1,((W .i64 ((1:Int)+(rem iB.1 1000000000000))),(r7.1,(r8.1,())))))) (Ig r9.2 x2 x3 Pg x4 (r4.1,((W .i64 ((1:Int)+r5.1)),(r7.1,(r8.1,())))))) ((ox N x0 (300:Int)).bind fun Bi=>(ox N Bi.2 (5:Int)).bind fun FB=>(ox N FB.2 (3:Int)).bind fun DG=>(ox N DG.2 (3:Int)).bind fun wq=>(ox N wq.2 (20:Int)).bind fun Ph=>let v28:Int:=W .i64 ((1:Int)+Ph.1);(ox N Ph.2 (100:Int)).bind fun BH=>(Tk N BH.2 (15:Int)).bind fun Lr=>cond (Lr.1) ((JN N Lr.2).bind fun JS=>some ((Pg,(JS.1,(FB.1,(DG.1,(wq.1,(v28,(BH.1,x3.2.2.2.2.2.2.2))))))),JS.2)) (some ((Pg,(Bi.1,(FB.1,(DG.1,(wq.1,(v28,(BH.1,x3.2.2.2.2.2.2.2))))))),Lr.2)))
def qV.l3(N:Nat):Nat→qV.cO
 |0,_,_,_,_,_=>none
 |n+1,x0,x2,x3,Pg,x4=>qV.kq N (qV.j8 N (qV.l3 N n)) (qV.l3 N n) x0 x2 x3 Pg x4
def qV.b(N:Nat)(kW:qV.cO)(a0:aK):Option (aa×aK):=
 (ox N a0 (4:Int)).bind fun r1=>kW r1.2 (cc,dQ) (cc,dQ) cc (W .i64 ((1:Int)+r1.1))
def qV(N:Nat)(a0:aK):Option (aa×aK):=qV.b N (qV.l3 N N) a0
abbrev dL.ec:=aK→gg→Int→Option (gg×aK)
abbrev dL.ji:=aK→gg→Int→Option (gg×aK)
abbrev dL.cO:=aK→gg→Int→Option (gg×aK)
def dL.jY(N:Nat)(fv:dL.ec)(x0:aK)(x5:gg)(x8:Int):Option (gg×aK):=
 cond (bU x8 7) ((ox N x0 (3000:Int)).bind fun pA=>let M5:Int:=W .i64 ((200:Int)+pA.1);(ox N pA.2 (200:Int)).bind fun o8=>let v18:Int:=W .i64 ((20:Int)+o8.1);cond (small (List.length x5+List.length ([((3:Int),((0:Int),(x8,((0:Int),((0:Int),((0:Int),(M5,((0:Int),())))))))),((6:Int),((0:Int),(x8,((0:Int),((0:Int),((0:Int),(v18,((0:Int),()))))))))]))) (fv o8.2 (x5++([((3:Int),((0:Int),(x8,((0:Int),((0:Int),((0:Int),(M5,((0:Int),())))))))),((6:Int),((0:Int),(x8,((0:Int),((0:Int),((0:Int),(v18,((0:Int),()))))))))])) (W .i64 (x8+1))) (none)) (some (x5,x0))
def dL.lN(N:Nat):Nat→dL.ec
 |0,_,_,_=>none
 |n+1,x0,x5,x8=>dL.jY N (dL.lN N n) x0 x5 x8
def dL.tk(N:Nat)(p5:dL.ec)(my:dL.ji)(x0:aK)(x5:gg)(x7:Int):Option (gg×aK):=
 cond (bU x7 7) ((ox N x0 (2:Int)).bind fun iB=>let v11:Int:=W .i64 ((1:Int)+iB.1);cond (small (List.length x5+List.length ([((2:Int),(v11,(x7,((0:Int),((2:Int),aQ)))))]))) (my iB.2 (x5++([((2:Int),(v11,(x7,((0:Int),((2:Int),aQ)))))])) (W .i64 (x7+1))) (none)) (p5 x0 x5 (1:Int))
def dL.l9(N:Nat):Nat→dL.ji
 |0,_,_,_=>none
 |n+1,x0,x5,x7=>dL.tk N (dL.lN N N) (dL.l9 N n) x0 x5 x7
def dL.kq(N:Nat)(uB:dL.ji)(ct:dL.cO)(x0:aK)(x5:gg)(x6:Int):Option (gg×aK):=
 cond (bU x6 4) (cond (small (List.length x5+List.length ([((1:Int),(x6,dQ)),((2:Int),(x6,(x6,((0:Int),((1:Int),aQ)))))]))) (let v2:List ((Int)×((Int)×((Int)×((Int)×((Int)×((Int)×((Int)×((Int)×(Unit))))))))):=x5++([((1:Int),(x6,dQ)),((2:Int),(x6,(x6,((0:Int),((1:Int),aQ)))))]);(Tk N x0 (5:Int)).bind fun r3=>cond (!r3.1) ((ox N r3.2 (400:Int)).bind fun r4=>let v5:Int:=W .i64 ((1:Int)+r4.1);cond (small (List.length v2+List.length ([((5:Int),(x6,((0:Int),((0:Int),((0:Int),((0:Int),(v5,((0:Int),()))))))))]))) (ct r4.2 (v2++([((5:Int),(x6,((0:Int),((0:Int),((0:Int),((0:Int),(v5,((0:Int),()))))))))])) (W .i64 (x6+1))) (none)) (ct r3.2 v2 (W .i64 (x6+1)))) (none)) (uB x0 x5 (5:Int))
def dL.l3(N:Nat):Nat→dL.cO
 |0,_,_,_=>none
 |n+1,x0,x5,x6=>dL.kq N (dL.l9 N N) (dL.l3 N n) x0 x5 x6
def dL.b(N:Nat)(kW:dL.cO)(a0:aK)(a1:aa):Option (gg×aK):=
 kW a0 ([]) (1:Int)
def dL(N:Nat)(a0:aK)(a1:aa):Option (gg×aK):=dL.b N (dL.l3 N N) a0 a1
def OO(N:Nat)(a0:aK)(a1:aa)(a2:Int):Option (fO×aK):=
 cond (aL a2 (List.length a1.1)) ((ox N a0 (61:Int)).bind fun r1=>(Tk N r1.2 (20:Int)).bind fun r6=>cond (r6.1) ((JN N r6.2).bind fun r7=>cond (ay 1000000000000 0) (none) (some (((9:Int),((0:Int),((0:Int),(a2,((0:Int),((0:Int),((0:Int),((W .i64 ((1:Int)+(rem r7.1 1000000000000))),())))))))),r7.2))) (some (((9:Int),((0:Int),((0:Int),(a2,((0:Int),((0:Int),((0:Int),((mx 1 (mn 1000000000000 (W .i64 ((W .i64 ((((List.getD a1.1 a2.toNat aJ).2).1)+r1.1))-30)))),())))))))),r6.2))) (none)
def RQ(N:Nat)(a0:aK)(a1:aa):Option (fO×aK):=
 (ox N a0 (List.length a1.1:Int)).bind fun r1=>(ox N r1.2 (7:Int)).bind fun r2=>let v3:Int:=W .i64 ((1:Int)+r2.1);(ox N r2.2 (2:Int)).bind fun r4=>let v5:Int:=W .i64 ((1:Int)+r4.1);(ox N r4.2 (30:Int)).bind fun r6=>cond (aL r1.1 (List.length a1.1)) ((ox N r6.2 (21:Int)).bind fun r8=>(Tk N r8.2 (30:Int)).bind fun kV=>cond (kV.1) ((JN N kV.2).bind fun mE=>cond (ay 1000000000 0) (none) ((JN N mE.2).bind fun o8=>cond (ay 1000000000000 0) (none) (some (((7:Int),((0:Int),(v3,(r1.1,(v5,((0:Int),((W .i64 ((1:Int)+(rem mE.1 1000000000))),((W .i64 ((1:Int)+(rem o8.1 1000000000000))),())))))))),o8.2)))) (some (((7:Int),((0:Int),(v3,(r1.1,(v5,((0:Int),((W .i64 ((1:Int)+r6.1)),((mx 1 (mn 1000000000000 (W .i64 ((W .i64 ((((List.getD a1.1 r1.1.toNat aJ).2).1)+r8.1))-10)))),())))))))),kV.2))) (none)
def RS(N:Nat)(a0:aK)(a1:aa):Option (fO×aK):=
 (ox N a0 (4:Int)).bind fun r1=>let v2:Int:=W .i64 ((1:Int)+r1.1);(ox N r1.2 (7:Int)).bind fun r3=>let v4:Int:=W .i64 ((1:Int)+r3.1);(ox N r3.2 (List.length a1.1:Int)).bind fun r5=>(ox N r5.2 (36:Int)).bind fun r6=>let v7:Int:=W .i64 ((1:Int)+r6.1);cond (ay v7 1) (some ((v7,(v2,dQ)),r6.2)) (cond (ay v7 11) (some ((v7,(v2,dQ)),r6.2)) (cond (ay v7 12) (some ((v7,(v2,dQ)),r6.2)) (cond (ay v7 13) (some ((v7,(v2,dQ)),r6.2)) (cond (ay v7 2) ((ox N r6.2 (2:Int)).bind fun r8=>some ((v7,(v2,(v4,((0:Int),((W .i64 ((1:Int)+r8.1)),aQ))))),r8.2)) (cond (ay v7 3) ((JN N r6.2).bind fun iB=>some ((v7,((0:Int),(v4,((0:Int),((0:Int),((0:Int),((mx iB.1 1),((0:Int),())))))))),iB.2)) (cond (ay v7 4) ((JN N r6.2).bind fun lx=>some ((v7,((0:Int),(v4,((0:Int),((0:Int),((0:Int),((mx lx.1 1),((0:Int),())))))))),lx.2)) (cond (ay v7 5) ((JN N r6.2).bind fun mE=>some ((v7,(v2,((0:Int),((0:Int),((0:Int),((0:Int),((mx mE.1 1),((0:Int),())))))))),mE.2)) (cond (ay v7 22) ((JN N r6.2).bind fun tt=>some ((v7,(v2,((0:Int),((0:Int),((0:Int),((0:Int),((mx tt.1 1),((0:Int),())))))))),tt.2)) (cond (ay v7 6) ((JN N r6.2).bind fun wo=>cond (ay 1000000000001 0) (none) (some ((v7,((0:Int),(v4,((0:Int),((0:Int),((0:Int),((rem wo.1 1000000000001),((0:Int),())))))))),wo.2))) (cond (ay v7 8) ((ox N r6.2 (40:Int)).bind fun Ih=>some ((v7,((0:Int),(v4,((0:Int),((0:Int),((W .i64 ((1:Int)+Ih.1)),bI)))))),Ih.2)) (cond (ay v7 9) ((OO N r6.2 a1 r5.1).bind fun JT=>some (JT.1,JT.2)) (cond (ay v7 10) ((ox N r6.2 (3:Int)).bind fun Bi=>some ((v7,((0:Int),((0:Int),((0:Int),((0:Int),((0:Int),((W .i64 ((1:Int)+Bi.1)),((0:Int),())))))))),Bi.2)) (cond (ay v7 14) (some ((v7,(v2,(v4,eC))),r6.2)) (cond (ay v7 15) (some ((v7,Z9),r6.2)) (cond (ay v7 16) (some ((v7,Z9),r6.2)) (cond (ay v7 18) (some ((v7,Z9),r6.2)) (cond (ay v7 20) (some ((v7,Z9),r6.2)) (cond (ay v7 21) (some ((v7,Z9),r6.2)) (cond (ay v7 17) ((ox N r6.2 (60:Int)).bind fun DG=>(ox N DG.2 (20:Int)).bind fun Ph=>cond (aL r5.1 (List.length a1.1)) (some ((v7,((0:Int),(v4,((0:Int),((0:Int),((W .i64 ((1:Int)+DG.1)),((W .i64 ((1:Int)+Ph.1)),(((List.getD a1.1 r5.1.toNat aJ).2).1,())))))))),Ph.2)) (none)) (cond (ay v7 19) ((ox N r6.2 (60:Int)).bind fun BH=>(ox N BH.2 (80:Int)).bind fun JS=>some ((v7,(v2,((0:Int),((0:Int),((0:Int),((W .i64 ((1:Int)+BH.1)),((0:Int),((W .i64 (JS.1-60)),())))))))),JS.2)) ((RQ N r6.2 a1).bind fun r33=>some (r33.1,r33.2))))))))))))))))))))))
abbrev zm.cO:=aK→aa→gg→Int→Option (gg×aK)
def zm.kq(N:Nat)(ct:zm.cO)(x0:aK)(x4:aa)(x7:gg)(x8:Int):Option (gg×aK):=
 cond (aH 0 x8) ((ox N x0 (8:Int)).bind fun r5=>cond (ay r5.1 0) ((RS N r5.2 x4).bind fun r6=>cond (small (List.length x7+List.length ([r6.1]))) (ct r6.2 x4 (x7++([r6.1])) (W .i64 (x8-1))) (none)) (cond (ay r5.1 1) ((ox N r5.2 (List.length x4.1:Int)).bind fun r9=>(OO N r9.2 x4 r9.1).bind fun iB=>cond (small (List.length x7+List.length ([iB.1]))) (ct iB.2 x4 (x7++([iB.1])) (W .i64 (x8-1))) (none)) ((RQ N r5.2 x4).bind fun kV=>cond (small (List.length x7+List.length ([kV.1]))) (ct kV.2 x4 (x7++([kV.1])) (W .i64 (x8-1))) (none)))) (some (x7,x0))
def zm.l3(N:Nat):Nat→zm.cO
 |0,_,_,_,_=>none
 |n+1,x0,x4,x7,x8=>zm.kq N (zm.l3 N n) x0 x4 x7 x8
def zm.b(N:Nat)(kW:zm.cO)(a0:aK)(a1:aa)(a2:Int):Option (gg×aK):=
 (dL N a0 a1).bind fun r1=>(ox N r1.2 (W .i64 (a2+1))).bind fun r3=>kW r3.2 a1 r1.1 r3.1
def zm(N:Nat)(a0:aK)(a1:aa)(a2:Int):Option (gg×aK):=zm.b N (zm.l3 N N) a0 a1 a2
abbrev yN.cO:=aK→aa→gg→Int→Option (gg×aK)
def yN.kq(N:Nat)(ct:yN.cO)(x0:aK)(x3:aa)(x5:gg)(x6:Int):Option (gg×aK):=
 cond (aH 0 x6) ((Tk N x0 (2:Int)).bind fun r3=>cond (r3.1) ((ox N r3.2 (List.length x3.1:Int)).bind fun r4=>(OO N r4.2 x3 r4.1).bind fun r5=>cond (small (List.length x5+List.length ([r5.1]))) (ct r5.2 x3 (x5++([r5.1])) (W .i64 (x6-1))) (none)) ((RS N r3.2 x3).bind fun r8=>cond (small (List.length x5+List.length ([r8.1]))) (ct r8.2 x3 (x5++([r8.1])) (W .i64 (x6-1))) (none))) (some (x5,x0))
def yN.l3(N:Nat):Nat→yN.cO
 |0,_,_,_,_=>none
 |n+1,x0,x3,x5,x6=>yN.kq N (yN.l3 N n) x0 x3 x5 x6
def yN.b(N:Nat)(kW:yN.cO)(a0:aK)(a1:aa):Option (gg×aK):=
 (ox N a0 (3:Int)).bind fun r1=>kW r1.2 a1 ([]) r1.1
def yN(N:Nat)(a0:aK)(a1:aa):Option (gg×aK):=yN.b N (yN.l3 N N) a0 a1
def B9(N:Nat)(a0:Int)(a1:Int)(a2:Int):Option (Bool):=
 cond (bU a1 a0) (some (bU a0 a2)) (some false)
abbrev iZ.bn:=aa→Int→Option (Bool)
def iZ.c5(N:Nat)(bJ:iZ.bn)(x1:aa)(x3:Int):Option (Bool):=
 cond (aH x3 (List.length x1.1:Int)) (cond (aL x3 (List.length x1.1)) ((B9 N ((List.getD x1.1 x3.toNat aJ).1) (0:Int) (3:Int)).bind fun r2=>cond (!r2) (some false) ((B9 N (((List.getD x1.1 x3.toNat aJ).2).1) (1:Int) (1000000000000:Int)).bind fun r3=>cond (!r3) (some false) ((B9 N ((((List.getD x1.1 x3.toNat aJ).2).2).1) (0:Int) (1000000000:Int)).bind fun r4=>cond (!r4) (some false) ((B9 N (((((List.getD x1.1 x3.toNat aJ).2).2).2).1) (0:Int) (1000000000:Int)).bind fun r5=>cond (!r5) (some false) (bJ x1 (W .i64 (x3+1))))))) (none)) (cond (bU 0 x1.2.1) ((B9 N x1.2.2.1 (0:Int) (4:Int)).bind fun r7=>cond (r7) ((B9 N x1.2.2.2.1 (0:Int) (1000000:Int)).bind fun r8=>cond (r8) ((B9 N x1.2.2.2.2.1 (0:Int) (1000000:Int)).bind fun r9=>cond (r9) ((B9 N x1.2.2.2.2.2.1 (1:Int) (4611686018427387904:Int)).bind fun iB=>cond (iB) (some (bU 0 x1.2.2.2.2.2.2.1)) (some false)) (some false)) (some false)) (some false)) (some false))
def iZ.l4(N:Nat):Nat→iZ.bn
 |0,_,_=>none
 |n+1,x1,x3=>iZ.c5 N (iZ.l4 N n) x1 x3
def iZ.b(N:Nat)(dz:iZ.bn)(a0:aa):Option (Bool):=
 cond (aH (List.length a0.1:Int) 1) (some false) (cond (aH 6 (List.length a0.1:Int)) (some false) (dz a0 (0:Int)))
def iZ(N:Nat)(a0:aa):Option (Bool):=iZ.b N (iZ.l4 N N) a0
abbrev gU.dm:=aa→ag→ag→(List (Int))→Int→Option (ag×(Int))
abbrev gU.Lq:=aa→ag→ag→(List (Int))→Option (ag×(Int))
def gU.oT(N:Nat)(c8:gU.dm)(x1:aa)(x2:ag)(x4:ag)(VP:List (Int))(x5:Int):Option (ag×(Int)):=
 cond (aH x5 (List.length x1.1:Int)) (cond (aL x5 (List.length x1.1)) (cond (small (List.length VP+List.length ([((List.getD x1.1 x5.toNat aJ).2).1]))) (c8 x1 x2 (x4.1,(x4.2.1,(x4.2.2.1,(x4.2.2.2.1,(cv,x4.2.2.2.2.2))))) (VP++([((List.getD x1.1 x5.toNat aJ).2).1])) (W .i64 (x5+1))) (none)) (none)) (some ((x4.1,(x4.2.1,(x4.2.2.1,(x4.2.2.2.1,(VP,x4.2.2.2.2.2))))),(0:Int)))
def gU.l7(N:Nat):Nat→gU.dm
 |0,_,_,_,_,_=>none
 |n+1,x1,x2,x4,VP,x5=>gU.oT N (gU.l7 N n) x1 x2 x4 VP x5
def gU.JK(N:Nat)(px:gU.dm)(x1:aa)(x2:ag)(x4:ag)(VP:List (Int)):Option (ag×(Int)):=
 px x1 x2 x4 VP (0:Int)
def gU.j6(N:Nat)(x1:aa)(x2:ag)(x4:ag)(VP:List (Int)):Option (ag×(Int)):=gU.JK N (gU.l7 N N) x1 x2 x4 VP
def gU.b(N:Nat)(w6:gU.Lq)(a0:aa):Option (ag×(Int)):=
 (iZ N a0).bind fun r1=>cond (!r1) (some ((bF,(cc,(aY,(aY,(cv,(cF,())))))),(1:Int))) (cond (!ay a0.2.1 0) (w6 a0 (bF,(cc,(aY,(aY,(cv,(cF,())))))) (bF,(cc,([((1:Int),((0:Int),((W .i64 (0-a0.2.1)),()))),((3:Int),((0:Int),(a0.2.1,())))],(aY,(cv,(cF,())))))) cv) (w6 a0 (bF,(cc,(aY,(aY,(cv,(cF,())))))) (bF,(cc,(aY,(aY,(cv,(cF,())))))) cv))
def gU(N:Nat)(a0:aa):Option (ag×(Int)):=gU.b N (gU.j6 N) a0
def acM(N:Nat)(a0:aa):Option (aM×(Int)):=
 (gU N a0).bind fun r1=>cond (!ay r1.2 0) (some (((0:Int),((0:Int),((bF,(cc,(aY,(aY,(cv,(cF,())))))),(((0:Int),((0:Int),((0:Int),((0:Int),(cc,(([]:List ((Int)×((List ((Int)×((Int)×(Unit))))×((Int)×((Int)×((Int)×((Int)×(Unit)))))))),(cc,(cv,(bF,(bF,())))))))))),(((0:Int),((0:Int),(yX,((0:Int),())))),()))))),r1.2)) (some (((0:Int),((1:Int),(r1.1,(((0:Int),((0:Int),((0:Int),((0:Int),(cc,(([]:List ((Int)×((List ((Int)×((Int)×(Unit))))×((Int)×((Int)×((Int)×((Int)×(Unit)))))))),(cc,(cv,(bF,(bF,())))))))))),(((0:Int),((0:Int),(yX,((0:Int),())))),()))))),(0:Int)))
def acA(N:Nat)(a0:Int):Option (Bool):=
 cond (bU 1 a0) (some (bU a0 22)) (some false)
def Vf(N:Nat)(a0:Int):Option (ByteArray):=
 cond (ay a0 1) (some (strOf [77])) (cond (ay a0 11) (some (strOf [77])) (cond (ay a0 12) (some (strOf [77])) (cond (ay a0 13) (some (strOf [77])) (cond (ay a0 2) (some (strOf [77,65,83])) (cond (ay a0 3) (some (strOf [65,81])) (cond (ay a0 4) (some (strOf [65,81])) (cond (ay a0 6) (some (strOf [65,81])) (cond (ay a0 5) (some (strOf [77,81])) (cond (ay a0 22) (some (strOf [77,81])) (cond (ay a0 7) (some (strOf [65,73,83,81,80])) (cond (ay a0 8) (some (strOf [65,68])) (cond (ay a0 9) (some (strOf [73,80])) (cond (ay a0 10) (some (strOf [81])) (cond (ay a0 14) (some (strOf [77,65])) (cond (ay a0 17) (some (strOf [65,68,81,80])) (cond (ay a0 19) (some (strOf [77,68,80])) (some (strOf []))))))))))))))))))
def acy(N:Nat)(a0:Int):Option ((Int)×(Int)):=
 cond (ay a0 6) (some ((0:Int),(1000000000000:Int))) (cond (ay a0 7) (some ((1:Int),(1000000000:Int))) (cond (ay a0 17) (some ((1:Int),(1000000000:Int))) (cond (ay a0 10) (some ((1:Int),(1000000:Int))) (some ((1:Int),(9223372036854775807:Int))))))
def acz(N:Nat)(a0:Int):Option ((Int)×(Int)):=
 cond (ay a0 19) (some ((-1152921504606846976:Int),(1152921504606846976:Int))) (some ((1:Int),(1000000000000:Int)))
def Vg(N:Nat)(a0:Int)(a1:Int):Option ((Int)×(Int)):=
 cond (ay a1 77) (some ((1:Int),(12:Int))) (cond (ay a1 65) (some ((1:Int),(24:Int))) (cond (ay a1 73) (some ((0:Int),(5:Int))) (cond (ay a1 83) (some ((1:Int),(2:Int))) (cond (ay a1 68) (some ((1:Int),(1099511627776:Int))) (cond (ay a1 81) ((acy N a0).bind fun r1=>some (r1.1,r1.2)) ((acz N a0).bind fun r2=>some (r2.1,r2.2)))))))
def Vh(N:Nat)(a0:fO)(a1:Int):Option (Int):=
 cond (ay a1 77) (some a0.2.1) (cond (ay a1 65) (some a0.2.2.1) (cond (ay a1 73) (some a0.2.2.2.1) (cond (ay a1 83) (some a0.2.2.2.2.1) (cond (ay a1 68) (some a0.2.2.2.2.2.1) (cond (ay a1 81) (some a0.2.2.2.2.2.2.1) (some a0.2.2.2.2.2.2.2.1))))))
def Vi(N:Nat)(a0:fO)(a1:Int)(a2:Int):Option fO:=
 cond (ay a1 77) (some (a0.1,(a2,a0.2.2))) (cond (ay a1 65) (some (a0.1,(a0.2.1,(a2,a0.2.2.2)))) (cond (ay a1 73) (some (a0.1,(a0.2.1,(a0.2.2.1,(a2,a0.2.2.2.2))))) (cond (ay a1 83) (some (a0.1,(a0.2.1,(a0.2.2.1,(a0.2.2.2.1,(a2,a0.2.2.2.2.2)))))) (cond (ay a1 68) (some (a0.1,(a0.2.1,(a0.2.2.1,(a0.2.2.2.1,(a0.2.2.2.2.1,(a2,a0.2.2.2.2.2.2))))))) (cond (ay a1 81) (some (a0.1,(a0.2.1,(a0.2.2.1,(a0.2.2.2.1,(a0.2.2.2.2.1,(a0.2.2.2.2.2.1,(a2,a0.2.2.2.2.2.2.2)))))))) (some (a0.1,(a0.2.1,(a0.2.2.1,(a0.2.2.2.1,(a0.2.2.2.2.1,(a0.2.2.2.2.2.1,(a0.2.2.2.2.2.2.1,(a2,a0.2.2.2.2.2.2.2.2))))))))))))))
abbrev nV.eX:=fO→ByteArray→fO→Int→Option (Bool)
def nV.pn(N:Nat)(eY:nV.eX)(x1:fO)(x3:ByteArray)(x4:fO)(x5:Int):Option (Bool):=
 cond (aH x5 (ByteArray.size x3:Int)) (cond (aL x5 (ByteArray.size x3)) ((Vg N x1.1 ((x3.data.getD x5.toNat 0).toNat:Int)).bind fun r4=>cond (aL x5 (ByteArray.size x3)) ((Vh N x1 ((x3.data.getD x5.toNat 0).toNat:Int)).bind fun r5=>cond (aH r5 r4.1) (some false) (cond (aH r4.2 r5) (some false) (cond (aL x5 (ByteArray.size x3)) ((Vi N x4 ((x3.data.getD x5.toNat 0).toNat:Int) r5).bind fun r6=>eY x1 x3 r6 (W .i64 (x5+1))) (none)))) (none)) (none)) (some (kZ (.pair (.int .i64) (.pair (.int .i64) (.pair (.int .i64) (.pair (.int .i64) (.pair (.int .i64) (.pair (.int .i64) (.pair (.int .i64) (.pair (.int .i64) .unit)))))))) x4 x1))
def nV.l6(N:Nat):Nat→nV.eX
 |0,_,_,_,_=>none
 |n+1,x1,x3,x4,x5=>nV.pn N (nV.l6 N n) x1 x3 x4 x5
def nV.b(N:Nat)(q4:nV.eX)(a0:fO):Option (Bool):=
 (acA N a0.1).bind fun r1=>cond (!r1) (some false) ((Vf N a0.1).bind fun r2=>q4 a0 r2 (a0.1,Z9) (0:Int))
def nV(N:Nat)(a0:fO):Option (Bool):=nV.b N (nV.l6 N N) a0
abbrev kg.bP:=au→Int→Option (Bool)
def kg.dr(N:Nat)(cH:kg.bP)(x0:au)(x3:Int):Option (Bool):=
 cond (aH x3 (List.length x0:Int)) (cond (aL x3 (List.length x0)) (cond (aH ((List.getD x0 x3.toNat bI).1) (1:Int)) (some false) (cond (aL x3 (List.length x0)) (cond (aH 12 ((List.getD x0 x3.toNat bI).1)) (some false) (cond (aL x3 (List.length x0)) (cond (aH (((List.getD x0 x3.toNat bI).2).1) (1:Int)) (some false) (cond (aL x3 (List.length x0)) (cond (aH 4 (((List.getD x0 x3.toNat bI).2).1)) (some false) (cond (aH 0 x3) (cond (aL x3 (List.length x0)) (let v2:Int:=W .i64 (x3-1);cond (aL v2 (List.length x0)) (cond (bU ((List.getD x0 x3.toNat bI).1) ((List.getD x0 v2.toNat bI).1)) (some false) (cH x0 (W .i64 (x3+1)))) (none)) (none)) (cH x0 (W .i64 (x3+1))))) (none))) (none))) (none))) (none)) (some true)
def kg.l2(N:Nat):Nat→kg.bP
 |0,_,_=>none
 |n+1,x0,x3=>kg.dr N (kg.l2 N n) x0 x3
def kg.b(N:Nat)(ey:kg.bP)(a0:au):Option (Bool):=
 ey a0 (0:Int)
def kg(N:Nat)(a0:au):Option (Bool):=kg.b N (kg.l2 N N) a0
abbrev jC.bP:=au→Int→Int→Option (Int)
def jC.dr(N:Nat)(cH:jC.bP)(x0:au)(x1:Int)(x5:Int):Option (Int):=
 cond (aH x5 (List.length x0:Int)) (cond (aL x5 (List.length x0)) (cond (ay ((List.getD x0 x5.toNat bI).1) x1) (cond (aL x5 (List.length x0)) (some (((List.getD x0 x5.toNat bI).2).1)) (none)) (cH x0 x1 (W .i64 (x5+1)))) (none)) (some (0:Int))
def jC.l2(N:Nat):Nat→jC.bP
 |0,_,_,_=>none
 |n+1,x0,x1,x5=>jC.dr N (jC.l2 N n) x0 x1 x5
def jC.b(N:Nat)(ey:jC.bP)(a0:au)(a1:Int):Option (Int):=
 ey a0 a1 (0:Int)
def jC(N:Nat)(a0:au)(a1:Int):Option (Int):=jC.b N (jC.l2 N N) a0 a1
abbrev ij.Ls:=au→Int→au→Int→Option (au×(Int))
abbrev ij.dm:=au→Int→au→Int→Option (au×(Int))
def ij.Ki(N:Nat)(x0:au)(x1:Int)(x6:au)(x7:Int):Option (au×(Int)):=
 cond (gD 0 x7 (List.length x0:Int) (List.length x0:Int)) (let v6:List ((Int)×((Int)×(Unit))):=List.drop (0:Int).toNat (List.take x7.toNat x0);cond (small (List.length x6+List.length v6)) (let v7:List ((Int)×((Int)×(Unit))):=x6++v6;cond (small (List.length v7+List.length ([(x1,((1:Int),()))]))) (let v8:List ((Int)×((Int)×(Unit))):=v7++([(x1,((1:Int),()))]);cond (gD x7 (List.length x0:Int) (List.length x0:Int) (List.length x0:Int)) (let v9:List ((Int)×((Int)×(Unit))):=List.drop x7.toNat (List.take (List.length x0:Int).toNat x0);cond (small (List.length v8+List.length v9)) (some ((v8++v9),(0:Int))) (none)) (none)) (none)) (none)) (none)
def ij.j9(N:Nat)(x0:au)(x1:Int)(x6:au)(x7:Int):Option (au×(Int)):=ij.Ki N x0 x1 x6 x7
def ij.oT(N:Nat)(Bp:ij.Ls)(c8:ij.dm)(x0:au)(x1:Int)(x6:au)(x7:Int):Option (au×(Int)):=
 cond (aH x7 (List.length x0:Int)) (cond (aL x7 (List.length x0)) (cond (aH ((List.getD x0 x7.toNat bI).1) x1) (c8 x0 x1 x6 (W .i64 (x7+1))) (Bp x0 x1 x6 x7)) (none)) (Bp x0 x1 x6 x7)
def ij.l7(N:Nat):Nat→ij.dm
 |0,_,_,_,_=>none
 |n+1,x0,x1,x6,x7=>ij.oT N (ij.j9 N) (ij.l7 N n) x0 x1 x6 x7
def ij.b(N:Nat)(px:ij.dm)(a0:au)(a1:Int):Option (au×(Int)):=
 (kg N a0).bind fun r1=>cond (!r1) (some ([],(1:Int))) (cond (aH a1 1) (some ([],(1:Int))) (cond (aH 12 a1) (some ([],(1:Int))) ((jC N a0 a1).bind fun r2=>cond (!ay r2 0) (some ([],(4:Int))) (px a0 a1 ([]) (0:Int)))))
def ij(N:Nat)(a0:au)(a1:Int):Option (au×(Int)):=ij.b N (ij.l7 N N) a0 a1
def ea(N:Nat)(a0:Int):Option bW:=
 some (a0,bI)
abbrev iQ.ej:=aD→Int→bh→Int→Option (Bool)
abbrev iQ.Lp:=aD→Int→bh→Option (Bool)
abbrev iQ.bP:=aD→Int→Option (Bool)
def iQ.wk(N:Nat)(cH:iQ.bP)(dd:iQ.ej)(x0:aD)(x3:Int)(x4:bh)(x5:Int):Option (Bool):=
 cond (aH x5 x3) (cond (ay x4.2.2.1 1) (cond (aL x5 (List.length x0)) (cond (ay ((((List.getD x0 x5.toNat aJ).2).2).1) (1:Int)) (cond (aL x5 (List.length x0)) (cond (ay (((List.getD x0 x5.toNat aJ).2).1) x4.2.1) (some false) (dd x0 x3 x4 (W .i64 (x5+1)))) (none)) (dd x0 x3 x4 (W .i64 (x5+1)))) (none)) (dd x0 x3 x4 (W .i64 (x5+1)))) (cH x0 (W .i64 (x3+1)))
def iQ.l8(N:Nat)(cH:iQ.bP):Nat→iQ.ej
 |0,_,_,_,_=>none
 |n+1,x0,x3,x4,x5=>iQ.wk N cH (iQ.l8 N cH n) x0 x3 x4 x5
def iQ.Kh(N:Nat)(w8:iQ.ej)(cH:iQ.bP)(x0:aD)(x3:Int)(x4:bh):Option (Bool):=
 w8 x0 x3 x4 (0:Int)
def iQ.j7(N:Nat)(cH:iQ.bP)(x0:aD)(x3:Int)(x4:bh):Option (Bool):=iQ.Kh N (iQ.l8 N cH N) cH x0 x3 x4
def iQ.dr(N:Nat)(w4:iQ.Lp)(cH:iQ.bP)(x0:aD)(x3:Int):Option (Bool):=
 cond (aH x3 (List.length x0:Int)) (cond (aL x3 (List.length x0)) (cond (aH ((List.getD x0 x3.toNat aJ).1) (1:Int)) (some false) (cond (aH 24 ((List.getD x0 x3.toNat aJ).1)) (some false) (cond (aH (((List.getD x0 x3.toNat aJ).2).1) (1:Int)) (some false) (cond (aH 12 (((List.getD x0 x3.toNat aJ).2).1)) (some false) (cond (!ay ((((List.getD x0 x3.toNat aJ).2).2).1) (1:Int)) (cond (!ay ((((List.getD x0 x3.toNat aJ).2).2).1) (2:Int)) (some false) (cond (aH (((((List.getD x0 x3.toNat aJ).2).2).2).1) (0:Int)) (some false) (cond (aH 1000000000000 (((((List.getD x0 x3.toNat aJ).2).2).2).1)) (some false) (cond (aH 0 x3) (let v2:Int:=W .i64 (x3-1);cond (aL v2 (List.length x0)) (cond (bU ((List.getD x0 x3.toNat aJ).1) ((List.getD x0 v2.toNat aJ).1)) (some false) (w4 x0 x3 (List.getD x0 x3.toNat aJ))) (none)) (w4 x0 x3 (List.getD x0 x3.toNat aJ)))))) (cond (aH (((((List.getD x0 x3.toNat aJ).2).2).2).1) (0:Int)) (some false) (cond (aH 1000000000000 (((((List.getD x0 x3.toNat aJ).2).2).2).1)) (some false) (cond (aH 0 x3) (let v9:Int:=W .i64 (x3-1);cond (aL v9 (List.length x0)) (cond (bU ((List.getD x0 x3.toNat aJ).1) ((List.getD x0 v9.toNat aJ).1)) (some false) (w4 x0 x3 (List.getD x0 x3.toNat aJ))) (none)) (w4 x0 x3 (List.getD x0 x3.toNat aJ)))))))))) (none)) (some true)
def iQ.l2(N:Nat):Nat→iQ.bP
 |0,_,_=>none
 |n+1,x0,x3=>iQ.dr N (iQ.j7 N (iQ.l2 N n)) (iQ.l2 N n) x0 x3
def iQ.b(N:Nat)(ey:iQ.bP)(a0:aD):Option (Bool):=
 ey a0 (0:Int)
def iQ(N:Nat)(a0:aD):Option (Bool):=iQ.b N (iQ.l2 N N) a0
abbrev kK.bn:=au→aD→Int→Option (Bool)
def kK.c5(N:Nat)(bJ:kK.bn)(x0:au)(x1:aD)(x5:Int):Option (Bool):=
 cond (aH x5 (List.length x1:Int)) (cond (aL x5 (List.length x1)) ((jC N x0 (((List.getD x1 x5.toNat aJ).2).1)).bind fun r4=>cond (ay r4 0) (some false) (bJ x0 x1 (W .i64 (x5+1)))) (none)) (some true)
def kK.l4(N:Nat):Nat→kK.bn
 |0,_,_,_=>none
 |n+1,x0,x1,x5=>kK.c5 N (kK.l4 N n) x0 x1 x5
def kK.b(N:Nat)(dz:kK.bn)(a0:au)(a1:aD):Option (Bool):=
 (kg N a0).bind fun r1=>cond (!r1) (some false) ((iQ N a1).bind fun r2=>cond (!r2) (some false) (dz a0 a1 (0:Int)))
def kK(N:Nat)(a0:au)(a1:aD):Option (Bool):=kK.b N (kK.l4 N N) a0 a1
abbrev kj.bP:=aD→Int→bh→Int→Option (bh×(Bool))
def kj.dr(N:Nat)(cH:kj.bP)(x0:aD)(x1:Int)(x4:bh)(x6:Int):Option (bh×(Bool)):=
 cond (aH x6 (List.length x0:Int)) (cond (aL x6 (List.length x0)) (cond (ay ((List.getD x0 x6.toNat aJ).1) x1) (cond (aL x6 (List.length x0)) (some (List.getD x0 x6.toNat aJ,true)) (none)) (cH x0 x1 x4 (W .i64 (x6+1)))) (none)) (some (aJ,false))
def kj.l2(N:Nat):Nat→kj.bP
 |0,_,_,_,_=>none
 |n+1,x0,x1,x4,x6=>kj.dr N (kj.l2 N n) x0 x1 x4 x6
def kj.b(N:Nat)(ey:kj.bP)(a0:aD)(a1:Int):Option (bh×(Bool)):=
 ey a0 a1 aJ (0:Int)
def kj(N:Nat)(a0:aD)(a1:Int):Option (bh×(Bool)):=kj.b N (kj.l2 N N) a0 a1
abbrev ue.bn:=aD→Int→Int→Option (Int)
def ue.c5(N:Nat)(bJ:ue.bn)(x0:aD)(x1:Int)(x5:Int):Option (Int):=
 cond (aH x5 (List.length x0:Int)) (cond (aL x5 (List.length x0)) (cond (ay (((List.getD x0 x5.toNat aJ).2).1) x1) (cond (aL x5 (List.length x0)) (cond (ay ((((List.getD x0 x5.toNat aJ).2).2).1) (1:Int)) (cond (aL x5 (List.length x0)) (some ((List.getD x0 x5.toNat aJ).1)) (none)) (bJ x0 x1 (W .i64 (x5+1)))) (none)) (bJ x0 x1 (W .i64 (x5+1)))) (none)) (some (0:Int))
def ue.l4(N:Nat):Nat→ue.bn
 |0,_,_,_=>none
 |n+1,x0,x1,x5=>ue.c5 N (ue.l4 N n) x0 x1 x5
def ue.b(N:Nat)(dz:ue.bn)(a0:aD)(a1:Int):Option (Int):=
 (iQ N a0).bind fun r1=>cond (!r1) (some (0:Int)) (dz a0 a1 (0:Int))
def ue(N:Nat)(a0:aD)(a1:Int):Option (Int):=ue.b N (ue.l4 N N) a0 a1
abbrev eI.sB:=aD→bh→aD→Int→Option (aD×(Int))
abbrev eI.ec:=aD→bh→aD→Int→Option (aD×(Int))
abbrev eI.Ii:=aD→bh→Option (aD×(Int))
def eI.mu(N:Nat)(x1:aD)(x5:bh)(aI:aD)(aO:Int):Option (aD×(Int)):=
 cond (gD 0 aO (List.length x1:Int) (List.length x1:Int)) (let v10:List ((Int)×((Int)×((Int)×((Int)×(Unit))))):=List.drop (0:Int).toNat (List.take aO.toNat x1);cond (small (List.length aI+List.length v10)) (let v11:List ((Int)×((Int)×((Int)×((Int)×(Unit))))):=aI++v10;cond (small (List.length v11+List.length ([x5]))) (let JQ:List ((Int)×((Int)×((Int)×((Int)×(Unit))))):=v11++([x5]);cond (gD aO (List.length x1:Int) (List.length x1:Int) (List.length x1:Int)) (let Pj:List ((Int)×((Int)×((Int)×((Int)×(Unit))))):=List.drop aO.toNat (List.take (List.length x1:Int).toNat x1);cond (small (List.length JQ+List.length Pj)) (some ((JQ++Pj),(0:Int))) (none)) (none)) (none)) (none)) (none)
def eI.rA(N:Nat)(x1:aD)(x5:bh)(aI:aD)(aO:Int):Option (aD×(Int)):=eI.mu N x1 x5 aI aO
def eI.jY(N:Nat)(kd:eI.sB)(fv:eI.ec)(x1:aD)(x5:bh)(aI:aD)(aO:Int):Option (aD×(Int)):=
 cond (aH aO (List.length x1:Int)) (cond (aL aO (List.length x1)) (cond (aH ((List.getD x1 aO.toNat aJ).1) x5.1) (fv x1 x5 aI (W .i64 (aO+1))) (kd x1 x5 aI aO)) (none)) (kd x1 x5 aI aO)
def eI.lN(N:Nat):Nat→eI.ec
 |0,_,_,_,_=>none
 |n+1,x1,x5,aI,aO=>eI.jY N (eI.rA N) (eI.lN N n) x1 x5 aI aO
def eI.A7(N:Nat)(p5:eI.ec)(x1:aD)(x5:bh):Option (aD×(Int)):=
 p5 x1 x5 ([]) (0:Int)
def eI.JO(N:Nat)(x1:aD)(x5:bh):Option (aD×(Int)):=eI.A7 N (eI.lN N N) x1 x5
def eI.b(N:Nat)(yg:eI.Ii)(a0:au)(a1:aD)(a2:bh):Option (aD×(Int)):=
 (kK N a0 a1).bind fun r1=>cond (!r1) (some ([],(1:Int))) ((iQ N ([a2])).bind fun r2=>cond (!r2) (some ([],(1:Int))) ((jC N a0 a2.2.1).bind fun r3=>cond (ay r3 0) (some ([],(3:Int))) (cond (!ay r3 1) (some ([],(7:Int))) ((kj N a1 a2.1).bind fun r4=>cond (r4.2) (some ([],(4:Int))) (cond (ay a2.2.2.1 1) ((ue N a1 a2.2.1).bind fun r5=>cond (!ay r5 0) (some ([],(4:Int))) (yg a1 a2)) (yg a1 a2))))))
def eI(N:Nat)(a0:au)(a1:aD)(a2:bh):Option (aD×(Int)):=eI.b N (eI.JO N) a0 a1 a2
def Ai(N:Nat)(a0:aD)(a1:Int):Option (bh×(Bool)):=
 (iQ N a0).bind fun r1=>cond (!r1) (some (aJ,false)) ((kj N a0 a1).bind fun r2=>some (r2.1,r2.2))
def Sp(N:Nat)(a0:aM)(a1:Int):Option (Bool):=
 (Ai N a0.2.2.1.2.1 a1).bind fun r1=>some r1.2
abbrev kG.bP:=(List (Int))→Int→Option (List (Int))
def kG.dr(N:Nat)(cH:kG.bP)(x0:List (Int))(x3:Int):Option (List (Int)):=
 cond (aH 0 x3) (let v2:Int:=W .i64 (x3-1);cond (aL v2 (List.length x0)) (cond (ay (List.getD x0 v2.toNat (0:Int)) (0:Int)) (cH x0 (W .i64 (x3-1))) (cond (gD 0 x3 x3 (List.length x0:Int)) (some (List.drop (0:Int).toNat (List.take x3.toNat x0))) (none))) (none)) (cond (gD 0 x3 x3 (List.length x0:Int)) (some (List.drop (0:Int).toNat (List.take x3.toNat x0))) (none))
def kG.l2(N:Nat):Nat→kG.bP
 |0,_,_=>none
 |n+1,x0,x3=>kG.dr N (kG.l2 N n) x0 x3
def kG.b(N:Nat)(ey:kG.bP)(a0:List (Int)):Option (List (Int)):=
 ey a0 (List.length a0:Int)
def kG(N:Nat)(a0:List (Int)):Option (List (Int)):=kG.b N (kG.l2 N N) a0
def F67(N:Nat)(a0:Int):Option (List (Int)):=
 cond (aH 32 0) (none) ((kG N ([(jx .and .u64 a0 4294967295),(shr .u64 a0 32)])).bind fun r3=>some r3)
def QJ(N:Nat)(a0:Bool)(a1:List (Int)):Option aw:=
 (kG N a1).bind fun r1=>cond (a0) (some (aH 0 (List.length r1:Int),(r1,()))) (some (false,(r1,())))
def gN(N:Nat)(a0:Int):Option aw:=
 let v1:Int:=W .u64 a0;cond (aH a0 0) ((F67 N (W .u64 (0-v1))).bind fun r3=>(QJ N (aH a0 0) r3).bind fun r4=>some r4) ((F67 N v1).bind fun r5=>(QJ N (aH a0 0) r5).bind fun r6=>some r6)
def Pw(N:Nat)(a0:aw):Option aw:=
 (QJ N (!a0.1) a0.2.1).bind fun r1=>some r1
def A9(N:Nat)(a0:Int)(a1:Int)(a2:Int)(a3:Int)(a4:aw):Option br:=
 (Pw N a4).bind fun r1=>some ([(a0,(a1,(r1,()))),(a2,(a3,(a4,())))])
def Ul(N:Nat)(a0:List (Int))(a1:Int):Option (Int):=
 cond (aH a1 (List.length a0:Int)) (cond (aL a1 (List.length a0)) (some (List.getD a0 a1.toNat (0:Int))) (none)) (some (0:Int))
abbrev rf.Lq:=(List (Int))→(List (Int))→(List (Int))→Int→Int→Option (List (Int))
abbrev rf.bn:=(List (Int))→(List (Int))→(List (Int))→Int→Int→Option (List (Int))
def rf.JK(N:Nat)(bJ:rf.bn)(x0:List (Int))(x1:List (Int))(x5:List (Int))(x6:Int)(x7:Int):Option (List (Int)):=
 (Ul N x0 x7).bind fun r3=>(Ul N x1 x7).bind fun r4=>let v6:Int:=W .u64 (x6+(W .u64 (r3+r4)));let v7:Int:=jx .and .u64 v6 4294967295;cond (small (List.length x5+List.length ([v7]))) (cond (aH 32 0) (none) (bJ x0 x1 (x5++([v7])) (shr .u64 v6 32) (W .i64 (x7+1)))) (none)
def rf.j6(N:Nat)(bJ:rf.bn)(x0:List (Int))(x1:List (Int))(x5:List (Int))(x6:Int)(x7:Int):Option (List (Int)):=rf.JK N bJ x0 x1 x5 x6 x7
def rf.c5(N:Nat)(w6:rf.Lq)(bJ:rf.bn)(x0:List (Int))(x1:List (Int))(x5:List (Int))(x6:Int)(x7:Int):Option (List (Int)):=
 cond (aH x7 (List.length x0:Int)) (w6 x0 x1 x5 x6 x7) (cond (aH x7 (List.length x1:Int)) (w6 x0 x1 x5 x6 x7) (cond (aH 0 x6) (w6 x0 x1 x5 x6 x7) (some x5)))
def rf.l4(N:Nat):Nat→rf.bn
 |0,_,_,_,_,_=>none
 |n+1,x0,x1,x5,x6,x7=>rf.c5 N (rf.j6 N (rf.l4 N n)) (rf.l4 N n) x0 x1 x5 x6 x7
def rf.b(N:Nat)(dz:rf.bn)(a0:List (Int))(a1:List (Int)):Option (List (Int)):=
 dz a0 a1 ([]) (0:Int) (0:Int)
def rf(N:Nat)(a0:List (Int))(a1:List (Int)):Option (List (Int)):=rf.b N (rf.l4 N N) a0 a1
abbrev yC.eX:=(List (Int))→(List (Int))→Int→Option (Int)
def yC.pn(N:Nat)(eY:yC.eX)(x0:List (Int))(x1:List (Int))(x5:Int):Option (Int):=
 cond (bU 0 x5) (cond (aL x5 (List.length x0)) (cond (aL x5 (List.length x1)) (cond (aH (List.getD x0 x5.toNat (0:Int)) (List.getD x1 x5.toNat (0:Int))) (some (-1:Int)) (cond (aL x5 (List.length x0)) (cond (aL x5 (List.length x1)) (cond (aH (List.getD x1 x5.toNat (0:Int)) (List.getD x0 x5.toNat (0:Int))) (some (1:Int)) (eY x0 x1 (W .i64 (x5-1)))) (none)) (none))) (none)) (none)) (some (0:Int))
def yC.l6(N:Nat):Nat→yC.eX
 |0,_,_,_=>none
 |n+1,x0,x1,x5=>yC.pn N (yC.l6 N n) x0 x1 x5
def yC.b(N:Nat)(q4:yC.eX)(a0:List (Int))(a1:List (Int)):Option (Int):=
 cond (!ay (List.length a0:Int) (List.length a1:Int)) (cond (aH (List.length a0:Int) (List.length a1:Int)) (some (-1:Int)) (some (1:Int))) (q4 a0 a1 (W .i64 ((List.length a0:Int)-1)))
def yC(N:Nat)(a0:List (Int))(a1:List (Int)):Option (Int):=yC.b N (yC.l6 N N) a0 a1
abbrev y6.bn:=(List (Int))→(List (Int))→(List (Int))→Int→Int→Option (List (Int))
def y6.c5(N:Nat)(bJ:y6.bn)(x0:List (Int))(x1:List (Int))(x5:List (Int))(x6:Int)(x7:Int):Option (List (Int)):=
 cond (aH x7 (List.length x0:Int)) (cond (aL x7 (List.length x0)) ((Ul N x1 x7).bind fun r2=>let v3:Int:=W .u64 (r2+x6);cond (aH (List.getD x0 x7.toNat (0:Int)) v3) (let v5:Int:=W .u64 ((W .u64 ((List.getD x0 x7.toNat (0:Int))+4294967296))-v3);cond (small (List.length x5+List.length ([v5]))) (bJ x0 x1 (x5++([v5])) (1:Int) (W .i64 (x7+1))) (none)) (let v8:Int:=W .u64 ((List.getD x0 x7.toNat (0:Int))-v3);cond (small (List.length x5+List.length ([v8]))) (bJ x0 x1 (x5++([v8])) (0:Int) (W .i64 (x7+1))) (none))) (none)) (some x5)
def y6.l4(N:Nat):Nat→y6.bn
 |0,_,_,_,_,_=>none
 |n+1,x0,x1,x5,x6,x7=>y6.c5 N (y6.l4 N n) x0 x1 x5 x6 x7
def y6.b(N:Nat)(dz:y6.bn)(a0:List (Int))(a1:List (Int)):Option (List (Int)):=
 dz a0 a1 ([]) (0:Int) (0:Int)
def y6(N:Nat)(a0:List (Int))(a1:List (Int)):Option (List (Int)):=y6.b N (y6.l4 N N) a0 a1
def vk(N:Nat)(a0:aw)(a1:aw):Option aw:=
 cond (kZ .bool a0.1 a1.1) ((rf N a0.2.1 a1.2.1).bind fun r1=>(QJ N a0.1 r1).bind fun r2=>some r2) ((yC N a0.2.1 a1.2.1).bind fun r3=>cond (bU 0 r3) ((y6 N a0.2.1 a1.2.1).bind fun r4=>(QJ N a0.1 r4).bind fun r5=>some r5) ((y6 N a1.2.1 a0.2.1).bind fun r6=>(QJ N a1.1 r6).bind fun r7=>some r7))
def rZ(N:Nat)(a0:aw):Option ((Int)×(Bool)):=
 cond (aH 2 (List.length a0.2.1:Int)) (some ((0:Int),false)) ((Ul N a0.2.1 (0:Int)).bind fun r1=>(Ul N a0.2.1 (1:Int)).bind fun r2=>cond (aH 32 0) (none) (let v4:Int:=jx .or .u64 r1 (W .u64 (shl .u64 r2 32));cond (a0.1) (cond (aH 9223372036854775808 v4) (some ((0:Int),false)) (some ((W .i64 (W .u64 (0-v4))),true))) (cond (aH 9223372036854775807 v4) (some ((0:Int),false)) (some ((W .i64 v4),true)))))
def RL(N:Nat)(a0:aw):Option ((Int)×(Bool)):=
 (rZ N a0).bind fun r1=>cond (!r1.2) (some ((0:Int),false)) (cond (ay r1.1 (-9223372036854775808)) (some ((0:Int),false)) (some (r1.1,true)))
abbrev cg.Bq:=aj→aj→aj→Int→Int→Int→Int→Bool→aw→Int→Option (aj×(Bool))
abbrev cg.Ic:=aj→aj→aj→Int→Int→Int→Int→Bool→Option (aj×(Bool))
abbrev cg.dm:=aj→aj→aj→Int→Int→Int→Option (aj×(Bool))
abbrev cg.bn:=aj→aj→aj→Int→Int→Option (aj×(Bool))
def cg.K2(N:Nat)(bJ:cg.bn)(c8:cg.dm)(DH:cg.Bq)(x0:aj)(x1:aj)(x6:aj)(x7:Int)(x8:Int)(x9:Int)(aP:Int)(aI:Bool)(aO:aw)(ba:Int):Option (aj×(Bool)):=
 cond (aH ba (List.length x1:Int)) (cond (aL ba (List.length x1)) (cond (ay ((List.getD x1 ba.toNat aQ).1) x8) (cond (aL ba (List.length x1)) (cond (ay (((List.getD x1 ba.toNat aQ).2).1) x9) (cond (aL ba (List.length x1)) ((gN N ((((List.getD x1 ba.toNat aQ).2).2).1)).bind fun r6=>(vk N aO r6).bind fun r7=>DH x0 x1 x6 x7 x8 x9 aP true r7 (W .i64 (ba+1))) (none)) (DH x0 x1 x6 x7 x8 x9 aP aI aO (W .i64 (ba+1)))) (none)) (DH x0 x1 x6 x7 x8 x9 aP aI aO (W .i64 (ba+1)))) (none)) (cond (aI) ((gN N aP).bind fun kv=>(vk N aO kv).bind fun lx=>(RL N lx).bind fun kV=>cond (!kV.2) (some ([],false)) (cond (!ay kV.1 0) (cond (small (List.length x6+List.length ([(x8,(x9,(kV.1,())))]))) (c8 x0 x1 (x6++([(x8,(x9,(kV.1,())))])) x7 x8 (W .i64 (x9+1))) (none)) (c8 x0 x1 x6 x7 x8 (W .i64 (x9+1))))) (cond (!ay aP 0) (cond (small (List.length x6+List.length ([(x8,(x9,(aP,())))]))) (c8 x0 x1 (x6++([(x8,(x9,(aP,())))])) x7 x8 (W .i64 (x9+1))) (none)) (c8 x0 x1 x6 x7 x8 (W .i64 (x9+1)))))
def cg.OL(N:Nat)(bJ:cg.bn)(c8:cg.dm):Nat→cg.Bq
 |0,_,_,_,_,_,_,_,_,_,_=>none
 |n+1,x0,x1,x6,x7,x8,x9,aP,aI,aO,ba=>cg.K2 N bJ c8 (cg.OL N bJ c8 n) x0 x1 x6 x7 x8 x9 aP aI aO ba
def cg.yD(N:Nat)(SE:cg.Bq)(bJ:cg.bn)(c8:cg.dm)(x0:aj)(x1:aj)(x6:aj)(x7:Int)(x8:Int)(x9:Int)(aP:Int)(aI:Bool):Option (aj×(Bool)):=
 SE x0 x1 x6 x7 x8 x9 aP aI (false,lz) (0:Int)
def cg.JM(N:Nat)(bJ:cg.bn)(c8:cg.dm)(x0:aj)(x1:aj)(x6:aj)(x7:Int)(x8:Int)(x9:Int)(aP:Int)(aI:Bool):Option (aj×(Bool)):=cg.yD N (cg.OL N bJ c8 N) bJ c8 x0 x1 x6 x7 x8 x9 aP aI
def cg.oT(N:Nat)(rj:cg.Ic)(bJ:cg.bn)(c8:cg.dm)(x0:aj)(x1:aj)(x6:aj)(x7:Int)(x8:Int)(x9:Int):Option (aj×(Bool)):=
 cond (aH x9 6) (cond (aH x7 (List.length x0:Int)) (cond (aL x7 (List.length x0)) (cond (ay ((List.getD x0 x7.toNat aQ).1) x8) (cond (aL x7 (List.length x0)) (cond (ay (((List.getD x0 x7.toNat aQ).2).1) x9) (cond (aL x7 (List.length x0)) (rj x0 x1 x6 (W .i64 (x7+1)) x8 x9 ((((List.getD x0 x7.toNat aQ).2).2).1) false) (none)) (rj x0 x1 x6 x7 x8 x9 (0:Int) false)) (none)) (rj x0 x1 x6 x7 x8 x9 (0:Int) false)) (none)) (rj x0 x1 x6 x7 x8 x9 (0:Int) false)) (bJ x0 x1 x6 x7 (W .i64 (x8+1)))
def cg.l7(N:Nat)(bJ:cg.bn):Nat→cg.dm
 |0,_,_,_,_,_,_=>none
 |n+1,x0,x1,x6,x7,x8,x9=>cg.oT N (cg.JM N bJ (cg.l7 N bJ n)) bJ (cg.l7 N bJ n) x0 x1 x6 x7 x8 x9
def cg.c5(N:Nat)(px:cg.dm)(bJ:cg.bn)(x0:aj)(x1:aj)(x6:aj)(x7:Int)(x8:Int):Option (aj×(Bool)):=
 cond (bU x8 24) (px x0 x1 x6 x7 x8 (0:Int)) (some (x6,true))
def cg.l4(N:Nat):Nat→cg.bn
 |0,_,_,_,_,_=>none
 |n+1,x0,x1,x6,x7,x8=>cg.c5 N (cg.l7 N (cg.l4 N n) N) (cg.l4 N n) x0 x1 x6 x7 x8
def cg.b(N:Nat)(dz:cg.bn)(a0:aj)(a1:aj):Option (aj×(Bool)):=
 dz a0 a1 ([]) (0:Int) (0:Int)
def cg(N:Nat)(a0:aj)(a1:aj):Option (aj×(Bool)):=cg.b N (cg.l4 N N) a0 a1
abbrev pt.cO:=Int→Int→Int→br→aw→Bool→Int→Option ((Int)×(Bool))
def pt.kq(N:Nat)(ct:pt.cO)(x0:Int)(x1:Int)(x2:Int)(x3:br)(aP:aw)(aI:Bool)(aO:Int):Option ((Int)×(Bool)):=
 cond (aH aO (List.length x3:Int)) (cond (aL aO (List.length x3)) (cond (ay ((List.getD x3 aO.toNat ((0:Int),((0:Int),((false,lz),())))).1) x1) (cond (aL aO (List.length x3)) (cond (ay (((List.getD x3 aO.toNat ((0:Int),((0:Int),((false,lz),())))).2).1) x2) (cond (aL aO (List.length x3)) ((vk N aP ((((List.getD x3 aO.toNat ((0:Int),((0:Int),((false,lz),())))).2).2).1)).bind fun r2=>ct x0 x1 x2 x3 r2 true (W .i64 (aO+1))) (none)) (ct x0 x1 x2 x3 aP aI (W .i64 (aO+1)))) (none)) (ct x0 x1 x2 x3 aP aI (W .i64 (aO+1)))) (none)) (cond (!aI) (some (x0,true)) ((gN N x0).bind fun r6=>(vk N aP r6).bind fun r7=>(rZ N r7).bind fun r8=>some (r8.1,r8.2)))
def pt.l3(N:Nat):Nat→pt.cO
 |0,_,_,_,_,_,_,_=>none
 |n+1,x0,x1,x2,x3,aP,aI,aO=>pt.kq N (pt.l3 N n) x0 x1 x2 x3 aP aI aO
def pt.b(N:Nat)(kW:pt.cO)(a0:Int)(a1:Int)(a2:Int)(a3:br):Option ((Int)×(Bool)):=
 kW a0 a1 a2 a3 (false,lz) false (0:Int)
def pt(N:Nat)(a0:Int)(a1:Int)(a2:Int)(a3:br):Option ((Int)×(Bool)):=pt.b N (pt.l3 N N) a0 a1 a2 a3
abbrev di.Ic:=aj→br→aj→Int→Int→Int→Int→Option (aj×(Bool))
abbrev di.dm:=aj→br→aj→Int→Int→Int→Option (aj×(Bool))
abbrev di.bn:=aj→br→aj→Int→Int→Option (aj×(Bool))
def di.yD(N:Nat)(bJ:di.bn)(c8:di.dm)(x0:aj)(x1:br)(x6:aj)(x7:Int)(x8:Int)(x9:Int)(aP:Int):Option (aj×(Bool)):=
 (pt N aP x8 x9 x1).bind fun r5=>cond (!r5.2) (some ([],false)) (cond (!ay r5.1 0) (cond (small (List.length x6+List.length ([(x8,(x9,(r5.1,())))]))) (c8 x0 x1 (x6++([(x8,(x9,(r5.1,())))])) x7 x8 (W .i64 (x9+1))) (none)) (c8 x0 x1 x6 x7 x8 (W .i64 (x9+1))))
def di.JM(N:Nat)(bJ:di.bn)(c8:di.dm)(x0:aj)(x1:br)(x6:aj)(x7:Int)(x8:Int)(x9:Int)(aP:Int):Option (aj×(Bool)):=di.yD N bJ c8 x0 x1 x6 x7 x8 x9 aP
def di.oT(N:Nat)(rj:di.Ic)(bJ:di.bn)(c8:di.dm)(x0:aj)(x1:br)(x6:aj)(x7:Int)(x8:Int)(x9:Int):Option (aj×(Bool)):=
 cond (bU x9 24) (cond (aH x7 (List.length x0:Int)) (cond (aL x7 (List.length x0)) (cond (ay ((List.getD x0 x7.toNat aQ).1) x8) (cond (aL x7 (List.length x0)) (cond (ay (((List.getD x0 x7.toNat aQ).2).1) x9) (cond (aL x7 (List.length x0)) (rj x0 x1 x6 (W .i64 (x7+1)) x8 x9 ((((List.getD x0 x7.toNat aQ).2).2).1)) (none)) (rj x0 x1 x6 x7 x8 x9 (0:Int))) (none)) (rj x0 x1 x6 x7 x8 x9 (0:Int))) (none)) (rj x0 x1 x6 x7 x8 x9 (0:Int))) (bJ x0 x1 x6 x7 (W .i64 (x8+1)))
def di.l7(N:Nat)(bJ:di.bn):Nat→di.dm
 |0,_,_,_,_,_,_=>none
 |n+1,x0,x1,x6,x7,x8,x9=>di.oT N (di.JM N bJ (di.l7 N bJ n)) bJ (di.l7 N bJ n) x0 x1 x6 x7 x8 x9
def di.c5(N:Nat)(px:di.dm)(bJ:di.bn)(x0:aj)(x1:br)(x6:aj)(x7:Int)(x8:Int):Option (aj×(Bool)):=
 cond (bU x8 7) (px x0 x1 x6 x7 x8 (0:Int)) (some (x6,true))
def di.l4(N:Nat):Nat→di.bn
 |0,_,_,_,_,_=>none
 |n+1,x0,x1,x6,x7,x8=>di.c5 N (di.l7 N (di.l4 N n) N) (di.l4 N n) x0 x1 x6 x7 x8
def di.b(N:Nat)(dz:di.bn)(a0:aj)(a1:br):Option (aj×(Bool)):=
 dz a0 a1 ([]) (0:Int) (1:Int)
def di(N:Nat)(a0:aj)(a1:br):Option (aj×(Bool)):=di.b N (di.l4 N N) a0 a1
def A4(N:Nat)(a0:ag)(a1:aj)(a2:br):Option (ag×(Int)):=
 (cg N a0.2.2.2.1 a1).bind fun r1=>cond (!r1.2) (some ((bF,(cc,(aY,(aY,(cv,(cF,())))))),(2:Int))) ((di N a0.2.2.1 a2).bind fun r2=>cond (!r2.2) (some ((bF,(cc,(aY,(aY,(cv,(cF,())))))),(2:Int))) (some ((a0.1,(a0.2.1,(r2.1,(r1.1,a0.2.2.2.2)))),(0:Int))))
def O8(N:Nat)(a0:aM)(a1:Int)(a2:Int)(a3:Int)(a4:Int)(a5:Int):Option (aM×bW):=
 (gN N a5).bind fun r1=>(A9 N a1 a2 a3 a4 r1).bind fun r2=>(A4 N a0.2.2.1 aY r2).bind fun r3=>some ((a0.1,(a0.2.1,(r3.1,a0.2.2.2))),(r3.2,bI))
abbrev lJ.bb:=aj→Int→aw→aw→Int→Option aw
def lJ.c0(N:Nat)(bf:lJ.bb)(x0:aj)(x1:Int)(x4:aw)(x5:aw)(x6:Int):Option aw:=
 cond (aH x6 (List.length x0:Int)) (cond (aL x6 (List.length x0)) (cond (ay (((List.getD x0 x6.toNat aQ).2).1) x1) (cond (aL x6 (List.length x0)) ((gN N ((((List.getD x0 x6.toNat aQ).2).2).1)).bind fun r3=>(vk N x5 r3).bind fun r4=>bf x0 x1 x4 r4 (W .i64 (x6+1))) (none)) (bf x0 x1 x4 x5 (W .i64 (x6+1)))) (none)) (some x5)
def lJ.l5(N:Nat):Nat→lJ.bb
 |0,_,_,_,_,_=>none
 |n+1,x0,x1,x4,x5,x6=>lJ.c0 N (lJ.l5 N n) x0 x1 x4 x5 x6
def lJ.b(N:Nat)(dk:lJ.bb)(a0:aj)(a1:Int):Option aw:=
 (uH N a0).bind fun r1=>cond (!r1) (some (false,lz)) (dk a0 a1 (false,lz) (false,lz) (0:Int))
def lJ(N:Nat)(a0:aj)(a1:Int):Option aw:=lJ.b N (lJ.l5 N N) a0 a1
def Mq(N:Nat)(a0:aw):Option (Int):=
 cond (ay (List.length a0.2.1:Int) 0) (some (0:Int)) (cond (a0.1) (some (-1:Int)) (some (1:Int)))
abbrev mj.bP:=aj→Int→Option (Bool)
def mj.dr(N:Nat)(cH:mj.bP)(x0:aj)(x3:Int):Option (Bool):=
 cond (aH x3 6) ((lJ N x0 x3).bind fun r2=>(Mq N r2).bind fun r3=>cond (!ay r3 0) (some false) (cH x0 (W .i64 (x3+1)))) ((uH N x0).bind fun r5=>some r5)
def mj.l2(N:Nat):Nat→mj.bP
 |0,_,_=>none
 |n+1,x0,x3=>mj.dr N (mj.l2 N n) x0 x3
def mj.b(N:Nat)(ey:mj.bP)(a0:aj):Option (Bool):=
 ey a0 (0:Int)
def mj(N:Nat)(a0:aj):Option (Bool):=mj.b N (mj.l2 N N) a0
def yH(N:Nat)(a0:Int):Option (Bool):=
 cond (bU 1 a0) (some (bU a0 1000000000000)) (some false)
def Kr(N:Nat)(a0:cq):Option (Bool):=
 cond (bU 1 a0.1) (cond (bU a0.1 1099511627776) (cond (bU 1 a0.2.1) (cond (bU a0.2.1 24) (cond (bU 0 a0.2.2.1) (cond (aH a0.2.2.1 6) (cond (ay a0.2.2.2.1 1) (cond (bU 1 a0.2.2.2.2.1) (cond (bU a0.2.2.2.2.1 1000000000) ((yH N a0.2.2.2.2.2.1).bind fun r1=>some r1) (some false)) (some false)) (cond (ay a0.2.2.2.1 2) (cond (bU 1 a0.2.2.2.2.1) (cond (bU a0.2.2.2.2.1 1000000000) ((yH N a0.2.2.2.2.2.1).bind fun r2=>some r2) (some false)) (some false)) (some false))) (some false)) (some false)) (some false)) (some false)) (some false)) (some false)
abbrev jB.bn:=aT→Int→Option (Bool)
def jB.c5(N:Nat)(bJ:jB.bn)(x0:aT)(x3:Int):Option (Bool):=
 cond (aH x3 (List.length x0:Int)) (cond (aL x3 (List.length x0)) ((Kr N (List.getD x0 x3.toNat dQ)).bind fun r2=>cond (!r2) (some false) (cond (aH 0 x3) (cond (aL x3 (List.length x0)) (let v3:Int:=W .i64 (x3-1);cond (aL v3 (List.length x0)) (cond (bU ((List.getD x0 x3.toNat dQ).1) ((List.getD x0 v3.toNat dQ).1)) (some false) (bJ x0 (W .i64 (x3+1)))) (none)) (none)) (bJ x0 (W .i64 (x3+1))))) (none)) (some true)
def jB.l4(N:Nat):Nat→jB.bn
 |0,_,_=>none
 |n+1,x0,x3=>jB.c5 N (jB.l4 N n) x0 x3
def jB.b(N:Nat)(dz:jB.bn)(a0:aT):Option (Bool):=
 cond (aH 32 (List.length a0:Int)) (some false) (dz a0 (0:Int))
def jB(N:Nat)(a0:aT):Option (Bool):=jB.b N (jB.l4 N N) a0
abbrev lH.bb:=aj→aw→aw→Int→Option aw
def lH.c0(N:Nat)(bf:lH.bb)(x0:aj)(x2:aw)(x3:aw)(x4:Int):Option aw:=
 cond (aH x4 (List.length x0:Int)) (cond (aL x4 (List.length x0)) ((gN N ((((List.getD x0 x4.toNat aQ).2).2).1)).bind fun r3=>(vk N x3 r3).bind fun r4=>bf x0 x2 r4 (W .i64 (x4+1))) (none)) (some x3)
def lH.l5(N:Nat):Nat→lH.bb
 |0,_,_,_,_=>none
 |n+1,x0,x2,x3,x4=>lH.c0 N (lH.l5 N n) x0 x2 x3 x4
def lH.b(N:Nat)(dk:lH.bb)(a0:aj):Option aw:=
 (wL N a0).bind fun r1=>cond (!r1) (some (false,lz)) (dk a0 (false,lz) (false,lz) (0:Int))
def lH(N:Nat)(a0:aj):Option aw:=lH.b N (lH.l5 N N) a0
def Es(N:Nat)(a0:ag)(a1:Int):Option (Bool):=
 (Ai N a0.2.1 a1).bind fun r1=>cond (r1.2) (some true) (some (ay a1 0))
def vt(N:Nat)(a0:au)(a1:Int):Option (Int):=
 (kg N a0).bind fun r1=>cond (!r1) (some (0:Int)) ((jC N a0 a1).bind fun r2=>some r2)
abbrev bO.od:=aa→ag→Int→Option (Bool)
abbrev bO.Bl:=aa→ag→Int→Option (Bool)
abbrev bO.eT:=aa→ag→Int→Option (Bool)
abbrev bO.eX:=aa→ag→Int→Option (Bool)
def bO.sf(N:Nat)(Bh:bO.od)(x2:aa)(x3:ag)(x9:Int):Option (Bool):=
 cond (aH x9 (List.length x3.2.2.2.2.2.1:Int)) (cond (aL x9 (List.length x3.2.2.2.2.2.1)) ((Es N x3 (((List.getD x3.2.2.2.2.2.1 x9.toNat dQ).2).1)).bind fun Ph=>cond (!Ph) (some false) (cond (aL x9 (List.length x3.2.2.2.2.2.1)) (cond (bU (List.length x2.1:Int) ((((List.getD x3.2.2.2.2.2.1 x9.toNat dQ).2).2).1)) (some false) (Bh x2 x3 (W .i64 (x9+1)))) (none))) (none)) (some true)
def bO.tq(N:Nat):Nat→bO.od
 |0,_,_,_=>none
 |n+1,x2,x3,x9=>bO.sf N (bO.tq N n) x2 x3 x9
def bO.Gz(N:Nat)(Bj:bO.od)(M4:bO.Bl)(x2:aa)(x3:ag)(x8:Int):Option (Bool):=
 cond (aH x8 (List.length x3.2.2.2.2.1:Int)) (cond (aL x8 (List.length x3.2.2.2.2.1)) ((yH N (List.getD x3.2.2.2.2.1 x8.toNat (0:Int))).bind fun FB=>cond (!FB) (some false) (M4 x2 x3 (W .i64 (x8+1)))) (none)) (Bj x2 x3 (0:Int))
def bO.Gx(N:Nat):Nat→bO.Bl
 |0,_,_,_=>none
 |n+1,x2,x3,x8=>bO.Gz N (bO.tq N N) (bO.Gx N n) x2 x3 x8
def bO.jV(N:Nat)(Sw:bO.Bl)(gV:bO.eT)(x2:aa)(x3:ag)(x7:Int):Option (Bool):=
 cond (aH x7 (List.length x3.2.2.2.1:Int)) (cond (aL x7 (List.length x3.2.2.2.1)) ((Es N x3 ((List.getD x3.2.2.2.1 x7.toNat aQ).1)).bind fun JP=>cond (!JP) (some false) (cond (aL x7 (List.length x3.2.2.2.1)) (cond (bU (List.length x2.1:Int) (((List.getD x3.2.2.2.1 x7.toNat aQ).2).1)) (some false) (gV x2 x3 (W .i64 (x7+1)))) (none))) (none)) (Sw x2 x3 (0:Int))
def bO.kL(N:Nat):Nat→bO.eT
 |0,_,_,_=>none
 |n+1,x2,x3,x7=>bO.jV N (bO.Gx N N) (bO.kL N n) x2 x3 x7
def bO.pn(N:Nat)(p6:bO.eT)(eY:bO.eX)(x2:aa)(x3:ag)(x5:Int):Option (Bool):=
 cond (aH x5 (List.length x3.2.2.1:Int)) (cond (aL x5 (List.length x3.2.2.1)) (cond (ay ((List.getD x3.2.2.1 x5.toNat aQ).1) (5:Int)) ((Es N x3 (((List.getD x3.2.2.1 x5.toNat aQ).2).1)).bind fun r9=>cond (!r9) (some false) (cond (ay ((List.getD x3.2.2.1 x5.toNat aQ).1) (6:Int)) ((vt N x3.1 (((List.getD x3.2.2.1 x5.toNat aQ).2).1)).bind fun iB=>cond (ay iB 0) (some false) (eY x2 x3 (W .i64 (x5+1)))) (cond (ay ((List.getD x3.2.2.1 x5.toNat aQ).1) (7:Int)) ((vt N x3.1 (((List.getD x3.2.2.1 x5.toNat aQ).2).1)).bind fun lx=>cond (ay lx 0) (some false) (eY x2 x3 (W .i64 (x5+1)))) (eY x2 x3 (W .i64 (x5+1)))))) (cond (ay ((List.getD x3.2.2.1 x5.toNat aQ).1) (6:Int)) ((vt N x3.1 (((List.getD x3.2.2.1 x5.toNat aQ).2).1)).bind fun pA=>cond (ay pA 0) (some false) (eY x2 x3 (W .i64 (x5+1)))) (cond (ay ((List.getD x3.2.2.1 x5.toNat aQ).1) (7:Int)) ((vt N x3.1 (((List.getD x3.2.2.1 x5.toNat aQ).2).1)).bind fun o8=>cond (ay o8 0) (some false) (eY x2 x3 (W .i64 (x5+1)))) (eY x2 x3 (W .i64 (x5+1)))))) (none)) (p6 x2 x3 (0:Int))
def bO.l6(N:Nat):Nat→bO.eX
 |0,_,_,_=>none
 |n+1,x2,x3,x5=>bO.pn N (bO.kL N N) (bO.l6 N n) x2 x3 x5
def bO.b(N:Nat)(q4:bO.eX)(a0:aa)(a1:ag):Option (Bool):=
 (iZ N a0).bind fun r1=>cond (!r1) (some false) ((kK N a1.1 a1.2.1).bind fun r2=>cond (!r2) (some false) ((wL N a1.2.2.1).bind fun r3=>cond (!r3) (some false) ((mj N a1.2.2.2.1).bind fun r4=>cond (!r4) (some false) ((jB N a1.2.2.2.2.2.1).bind fun r5=>cond (!r5) (some false) (cond (!ay (List.length a1.2.2.2.2.1:Int) (List.length a0.1:Int)) (some false) ((lH N a1.2.2.1).bind fun r6=>(Mq N r6).bind fun r7=>cond (!ay r7 0) (some false) (q4 a0 a1 (0:Int))))))))
def bO(N:Nat)(a0:aa)(a1:ag):Option (Bool):=bO.b N (bO.l6 N N) a0 a1
def Mp(N:Nat)(a0:aw)(a1:aw):Option aw:=
 (Pw N a1).bind fun r1=>(vk N a0 r1).bind fun r2=>some r2
abbrev tK.bb:=aj→Int→au→Int→Option au
def tK.c0(N:Nat)(bf:tK.bb)(x0:aj)(x1:Int)(x5:au)(x6:Int):Option au:=
 cond (aH x6 (List.length x0:Int)) (cond (aL x6 (List.length x0)) (cond (ay ((List.getD x0 x6.toNat aQ).1) x1) (cond (aL x6 (List.length x0)) (cond (aL x6 (List.length x0)) (cond (small (List.length x5+List.length ([(((List.getD x0 x6.toNat aQ).2).1,((((List.getD x0 x6.toNat aQ).2).2).1,()))]))) (bf x0 x1 (x5++([(((List.getD x0 x6.toNat aQ).2).1,((((List.getD x0 x6.toNat aQ).2).2).1,()))])) (W .i64 (x6+1))) (none)) (none)) (none)) (bf x0 x1 x5 (W .i64 (x6+1)))) (none)) (some x5)
def tK.l5(N:Nat):Nat→tK.bb
 |0,_,_,_,_=>none
 |n+1,x0,x1,x5,x6=>tK.c0 N (tK.l5 N n) x0 x1 x5 x6
def tK.b(N:Nat)(dk:tK.bb)(a0:aj)(a1:Int):Option au:=
 (uH N a0).bind fun r1=>cond (!r1) (some ([])) (dk a0 a1 ([]) (0:Int))
def tK(N:Nat)(a0:aj)(a1:Int):Option au:=tK.b N (tK.l5 N N) a0 a1
abbrev eS.dm:=aT→Int→aj→Int→bW→Int→Option aj
abbrev eS.cO:=aT→Int→aj→Int→Option aj
def eS.oT(N:Nat)(ct:eS.cO)(c8:eS.dm)(x0:aT)(x1:Int)(x5:aj)(x6:Int)(x7:bW)(x8:Int):Option aj:=
 cond (aH x8 (List.length x0:Int)) (cond (aL x8 (List.length x0)) (cond (!ay (((List.getD x0 x8.toNat dQ).2).1) x1) (c8 x0 x1 x5 x6 x7 (W .i64 (x8+1))) (cond (aL x8 (List.length x0)) (cond (!ay ((((List.getD x0 x8.toNat dQ).2).2).1) x6) (c8 x0 x1 x5 x6 x7 (W .i64 (x8+1))) (cond (aL x8 (List.length x0)) (cond (ay (((((List.getD x0 x8.toNat dQ).2).2).2).1) (1:Int)) (cond (aL x8 (List.length x0)) (c8 x0 x1 x5 x6 (x7.1,((W .i64 (x7.2.1+((((((List.getD x0 x8.toNat dQ).2).2).2).2).1))),x7.2.2)) (W .i64 (x8+1))) (none)) (cond (aL x8 (List.length x0)) (c8 x0 x1 x5 x6 (x7.1,(x7.2.1,((W .i64 (x7.2.2.1+((((((List.getD x0 x8.toNat dQ).2).2).2).2).1))),x7.2.2.2))) (W .i64 (x8+1))) (none))) (none))) (none))) (none)) (cond (aH 0 x7.2.1) (cond (small (List.length x5+List.length ([x7]))) (ct x0 x1 (x5++([x7])) (W .i64 (x6+1))) (none)) (cond (aH 0 x7.2.2.1) (cond (small (List.length x5+List.length ([x7]))) (ct x0 x1 (x5++([x7])) (W .i64 (x6+1))) (none)) (ct x0 x1 x5 (W .i64 (x6+1)))))
def eS.l7(N:Nat)(ct:eS.cO):Nat→eS.dm
 |0,_,_,_,_,_,_=>none
 |n+1,x0,x1,x5,x6,x7,x8=>eS.oT N ct (eS.l7 N ct n) x0 x1 x5 x6 x7 x8
def eS.kq(N:Nat)(px:eS.dm)(ct:eS.cO)(x0:aT)(x1:Int)(x5:aj)(x6:Int):Option aj:=
 cond (aH x6 6) (px x0 x1 x5 x6 (x6,bI) (0:Int)) (some x5)
def eS.l3(N:Nat):Nat→eS.cO
 |0,_,_,_,_=>none
 |n+1,x0,x1,x5,x6=>eS.kq N (eS.l7 N (eS.l3 N n) N) (eS.l3 N n) x0 x1 x5 x6
def eS.b(N:Nat)(kW:eS.cO)(a0:aT)(a1:Int):Option aj:=
 kW a0 a1 ([]) (0:Int)
def eS(N:Nat)(a0:aT)(a1:Int):Option aj:=eS.b N (eS.l3 N N) a0 a1
abbrev jW.bn:=au→aa→Int→Option (Bool)
def jW.c5(N:Nat)(bJ:jW.bn)(x1:au)(x2:aa)(x5:Int):Option (Bool):=
 cond (aH x5 (List.length x1:Int)) (cond (aL x5 (List.length x1)) (cond (aH ((List.getD x1 x5.toNat bI).1) (0:Int)) (some false) (cond (aL x5 (List.length x1)) (cond (bU (List.length x2.1:Int) ((List.getD x1 x5.toNat bI).1)) (some false) (cond (aL x5 (List.length x1)) (cond (ay (((List.getD x1 x5.toNat bI).2).1) (0:Int)) (some false) (cond (aL x5 (List.length x1)) (cond (ay (((List.getD x1 x5.toNat bI).2).1) (-9223372036854775808:Int)) (some false) (cond (aH 0 x5) (cond (aL x5 (List.length x1)) (let v3:Int:=W .i64 (x5-1);cond (aL v3 (List.length x1)) (cond (bU ((List.getD x1 x5.toNat bI).1) ((List.getD x1 v3.toNat bI).1)) (some false) (bJ x1 x2 (W .i64 (x5+1)))) (none)) (none)) (bJ x1 x2 (W .i64 (x5+1))))) (none))) (none))) (none))) (none)) (some true)
def jW.l4(N:Nat):Nat→jW.bn
 |0,_,_,_=>none
 |n+1,x1,x2,x5=>jW.c5 N (jW.l4 N n) x1 x2 x5
def jW.b(N:Nat)(dz:jW.bn)(a0:aa)(a1:au):Option (Bool):=
 (iZ N a0).bind fun r1=>cond (!r1) (some false) (dz a1 a0 (0:Int))
def jW(N:Nat)(a0:aa)(a1:au):Option (Bool):=jW.b N (jW.l4 N N) a0 a1
abbrev mV.bb:=aj→aa→Int→Int→Option (Bool)
def mV.c0(N:Nat)(bf:mV.bb)(x1:aj)(x2:aa)(x5:Int)(x6:Int):Option (Bool):=
 cond (aH x6 (List.length x1:Int)) (cond (aL x6 (List.length x1)) (cond (aH ((List.getD x1 x6.toNat aQ).1) (0:Int)) (some false) (cond (bU (List.length x2.1:Int) ((List.getD x1 x6.toNat aQ).1)) (some false) (cond (aH (((List.getD x1 x6.toNat aQ).2).1) (0:Int)) (some false) (cond (aH x5 (((List.getD x1 x6.toNat aQ).2).1)) (some false) (cond (aH ((((List.getD x1 x6.toNat aQ).2).2).1) (0:Int)) (some false) (cond (aH x5 ((((List.getD x1 x6.toNat aQ).2).2).1)) (some false) (cond (ay (((List.getD x1 x6.toNat aQ).2).1) (0:Int)) (cond (ay ((((List.getD x1 x6.toNat aQ).2).2).1) (0:Int)) (some false) (cond (aH 0 x6) (let v3:Int:=W .i64 (x6-1);cond (aL v3 (List.length x1)) (cond (bU ((List.getD x1 x6.toNat aQ).1) ((List.getD x1 v3.toNat aQ).1)) (some false) (bf x1 x2 x5 (W .i64 (x6+1)))) (none)) (bf x1 x2 x5 (W .i64 (x6+1))))) (cond (aH 0 x6) (let v6:Int:=W .i64 (x6-1);cond (aL v6 (List.length x1)) (cond (bU ((List.getD x1 x6.toNat aQ).1) ((List.getD x1 v6.toNat aQ).1)) (some false) (bf x1 x2 x5 (W .i64 (x6+1)))) (none)) (bf x1 x2 x5 (W .i64 (x6+1))))))))))) (none)) (some true)
def mV.l5(N:Nat):Nat→mV.bb
 |0,_,_,_,_=>none
 |n+1,x1,x2,x5,x6=>mV.c0 N (mV.l5 N n) x1 x2 x5 x6
def mV.b(N:Nat)(dk:mV.bb)(a0:aa)(a1:aj):Option (Bool):=
 (iZ N a0).bind fun r1=>cond (!r1) (some false) (dk a1 a0 (33000000000:Int) (0:Int))
def mV(N:Nat)(a0:aa)(a1:aj):Option (Bool):=mV.b N (mV.l5 N N) a0 a1
def QK(N:Nat)(a0:aw):Option aw:=
 (QJ N false a0.2.1).bind fun r1=>some r1
def JL(N:Nat)(a0:aw)(a1:aw):Option (Int):=
 (Mp N a0 a1).bind fun r1=>(Mq N r1).bind fun r2=>some r2
abbrev fN.eT:=aj→Int→aw→aw→aw→aw→Int→Option (aw×(Int))
abbrev fN.dm:=au→aj→Int→aw→aw→aw→aw→Int→Option (aw×(Int))
def fN.jV(N:Nat)(gV:fN.eT)(x2:aj)(x3:Int)(x8:aw)(aP:aw)(aI:aw)(aO:aw)(bl:Int):Option (aw×(Int)):=
 cond (aH bl (List.length x2:Int)) (cond (aL bl (List.length x2)) (cond (ay ((List.getD x2 bl.toNat aQ).1) x3) (cond (aL bl (List.length x2)) ((gN N (((List.getD x2 bl.toNat aQ).2).1)).bind fun r8=>cond (aL bl (List.length x2)) ((gN N ((((List.getD x2 bl.toNat aQ).2).2).1)).bind fun r9=>gV x2 x3 x8 aP r8 r9 (W .i64 (bl+1))) (none)) (none)) (gV x2 x3 x8 aP aI aO (W .i64 (bl+1)))) (none)) ((vk N aP aI).bind fun lx=>(QK N lx).bind fun kV=>(Mp N aP aO).bind fun mE=>(QK N mE).bind fun pA=>(JL N pA kV).bind fun tt=>cond (aH 0 tt) (some (pA,(0:Int))) (some (kV,(0:Int))))
def fN.kL(N:Nat):Nat→fN.eT
 |0,_,_,_,_,_,_,_=>none
 |n+1,x2,x3,x8,aP,aI,aO,bl=>fN.jV N (fN.kL N n) x2 x3 x8 aP aI aO bl
def fN.oT(N:Nat)(p6:fN.eT)(c8:fN.dm)(x1:au)(x2:aj)(x3:Int)(x8:aw)(aP:aw)(aI:aw)(aO:aw)(ba:Int):Option (aw×(Int)):=
 cond (aH ba (List.length x1:Int)) (cond (aL ba (List.length x1)) (cond (ay ((List.getD x1 ba.toNat bI).1) x3) (cond (aL ba (List.length x1)) ((gN N (((List.getD x1 ba.toNat bI).2).1)).bind fun r4=>c8 x1 x2 x3 x8 r4 aI aO (W .i64 (ba+1))) (none)) (c8 x1 x2 x3 x8 aP aI aO (W .i64 (ba+1)))) (none)) (p6 x2 x3 x8 aP aI aO (0:Int))
def fN.l7(N:Nat):Nat→fN.dm
 |0,_,_,_,_,_,_,_,_=>none
 |n+1,x1,x2,x3,x8,aP,aI,aO,ba=>fN.oT N (fN.kL N N) (fN.l7 N n) x1 x2 x3 x8 aP aI aO ba
def fN.b(N:Nat)(px:fN.dm)(a0:aa)(a1:au)(a2:aj)(a3:Int):Option (aw×(Int)):=
 (jW N a0 a1).bind fun r1=>cond (!r1) (some ((false,lz),(1:Int))) ((mV N a0 a2).bind fun r2=>cond (!r2) (some ((false,lz),(1:Int))) (cond (aH a3 0) (some ((false,lz),(3:Int))) (cond (bU (List.length a0.1:Int) a3) (some ((false,lz),(3:Int))) (px a1 a2 a3 (false,lz) (false,lz) (false,lz) (false,lz) (0:Int)))))
def fN(N:Nat)(a0:aa)(a1:au)(a2:aj)(a3:Int):Option (aw×(Int)):=fN.b N (fN.l7 N N) a0 a1 a2 a3
abbrev gv.Ls:=aw→aw→aw→(List (Int))→Int→Int→Int→Option aw
abbrev gv.dm:=aw→aw→aw→(List (Int))→Int→Int→Int→Option aw
abbrev gv.cO:=aw→aw→aw→(List (Int))→Int→Option aw
def gv.Ki(N:Nat)(ct:gv.cO)(c8:gv.dm)(x2:aw)(x3:aw)(x4:aw)(x5:List (Int))(x6:Int)(x7:Int)(x8:Int):Option aw:=
 let v7:Int:=W .i64 (x6+x8);cond (aL v7 (List.length x5)) (cond (aL x6 (List.length x2.2.1)) ((Ul N x3.2.1 x8).bind fun r8=>let v11:Int:=W .u64 (x7+(W .u64 ((List.getD x5 v7.toNat (0:Int))+(W .u64 ((List.getD x2.2.1 x6.toNat (0:Int))*r8)))));let JQ:Int:=W .i64 (x6+x8);cond (aL JQ (List.length x5)) (cond (aH 32 0) (none) (c8 x2 x3 x4 (List.set x5 JQ.toNat (jx .and .u64 v11 4294967295)) x6 (shr .u64 v11 32) (W .i64 (x8+1)))) (none)) (none)) (none)
def gv.j9(N:Nat)(ct:gv.cO)(c8:gv.dm)(x2:aw)(x3:aw)(x4:aw)(x5:List (Int))(x6:Int)(x7:Int)(x8:Int):Option aw:=gv.Ki N ct c8 x2 x3 x4 x5 x6 x7 x8
def gv.oT(N:Nat)(Bp:gv.Ls)(ct:gv.cO)(c8:gv.dm)(x2:aw)(x3:aw)(x4:aw)(x5:List (Int))(x6:Int)(x7:Int)(x8:Int):Option aw:=
 cond (aH x8 (List.length x3.2.1:Int)) (Bp x2 x3 x4 x5 x6 x7 x8) (cond (aH 0 x7) (Bp x2 x3 x4 x5 x6 x7 x8) (ct x2 x3 x4 x5 (W .i64 (x6+1))))
def gv.l7(N:Nat)(ct:gv.cO):Nat→gv.dm
 |0,_,_,_,_,_,_,_=>none
 |n+1,x2,x3,x4,x5,x6,x7,x8=>gv.oT N (gv.j9 N ct (gv.l7 N ct n)) ct (gv.l7 N ct n) x2 x3 x4 x5 x6 x7 x8
def gv.kq(N:Nat)(px:gv.dm)(ct:gv.cO)(x2:aw)(x3:aw)(x4:aw)(x5:List (Int))(x6:Int):Option aw:=
 cond (aH x6 (List.length x2.2.1:Int)) (px x2 x3 x4 x5 x6 (0:Int) (0:Int)) ((QJ N (!(kZ .bool x2.1 x3.1)) x5).bind fun wo=>some wo)
def gv.l3(N:Nat):Nat→gv.cO
 |0,_,_,_,_,_=>none
 |n+1,x2,x3,x4,x5,x6=>gv.kq N (gv.l7 N (gv.l3 N n) N) (gv.l3 N n) x2 x3 x4 x5 x6
def gv.b(N:Nat)(kW:gv.cO)(a0:aw)(a1:aw):Option aw:=
 let v2:Int:=W .i64 ((W .i64 ((List.length a0.2.1:Int)+(List.length a1.2.1:Int)))+1);cond (fX v2 v2) (kW a0 a1 (false,lz) (List.replicate v2.toNat (0:Int)) (0:Int)) (none)
def gv(N:Nat)(a0:aw)(a1:aw):Option aw:=gv.b N (gv.l3 N N) a0 a1
abbrev mW.bb:=au→aj→aa→aw→aw→Int→Option (aw×(Int))
def mW.c0(N:Nat)(bf:mW.bb)(x1:au)(x2:aj)(x3:aa)(x6:aw)(x8:aw)(x9:Int):Option (aw×(Int)):=
 cond (aH x9 (List.length x3.1:Int)) ((fN N x3 x1 x2 x9).bind fun r4=>cond (aL x9 (List.length x3.1)) ((gN N ((((List.getD x3.1 x9.toNat aJ).2).2).1)).bind fun r5=>(gv N r4.1 r5).bind fun r6=>(vk N x8 r6).bind fun r7=>bf x1 x2 x3 x6 r7 (W .i64 (x9+1))) (none)) (some (x8,(0:Int)))
def mW.l5(N:Nat):Nat→mW.bb
 |0,_,_,_,_,_,_=>none
 |n+1,x1,x2,x3,x6,x8,x9=>mW.c0 N (mW.l5 N n) x1 x2 x3 x6 x8 x9
def mW.b(N:Nat)(dk:mW.bb)(a0:aa)(a1:au)(a2:aj):Option (aw×(Int)):=
 (jW N a0 a1).bind fun r1=>cond (!r1) (some ((false,lz),(1:Int))) ((mV N a0 a2).bind fun r2=>cond (!r2) (some ((false,lz),(1:Int))) (dk a1 a2 a0 (false,lz) (false,lz) (0:Int)))
def mW(N:Nat)(a0:aa)(a1:au)(a2:aj):Option (aw×(Int)):=mW.b N (mW.l5 N N) a0 a1 a2
def RO(N:Nat)(a0:aa)(a1:ag)(a2:Int)(a3:aT):Option aw:=
 cond (small (List.length cF+List.length a1.2.2.2.2.2.1)) (let v1:List ((Int)×((Int)×((Int)×((Int)×((Int)×((Int)×(Unit))))))):=cF++a1.2.2.2.2.2.1;cond (small (List.length v1+List.length a3)) ((tK N a1.2.2.2.1 a2).bind fun r3=>(eS N (v1++a3) a2).bind fun r4=>(mW N a0 r3 r4).bind fun r5=>some r5.1) (none)) (none)
def Vp(N:Nat)(a0:aa)(a1:ag)(a2:Int)(a3:Int):Option (ag×(Int)):=
 (bO N a0 a1).bind fun r1=>cond (!r1) (some ((bF,(cc,(aY,(aY,(cv,(cF,())))))),(1:Int))) (cond (aH a3 1) (some ((bF,(cc,(aY,(aY,(cv,(cF,())))))),(1:Int))) ((Ai N a1.2.1 a2).bind fun r2=>cond (!r2.2) (some ((bF,(cc,(aY,(aY,(cv,(cF,())))))),(3:Int))) ((vt N a1.1 r2.1.2.1).bind fun r3=>cond (!ay r3 1) (some ((bF,(cc,(aY,(aY,(cv,(cF,())))))),(7:Int))) ((ri N a1.2.2.1 (5:Int) a2).bind fun r4=>(gN N r4).bind fun r5=>(gN N a3).bind fun r6=>(Mp N r5 r6).bind fun r7=>(RO N a0 a1 a2 cF).bind fun r8=>(JL N r7 r8).bind fun r9=>cond (aH r9 0) (some ((bF,(cc,(aY,(aY,(cv,(cF,())))))),(10:Int))) ((gN N a3).bind fun iB=>(A9 N (5:Int) a2 (1:Int) (0:Int) iB).bind fun kv=>(A4 N a1 aY kv).bind fun lx=>some (lx.1,lx.2))))))
def E4(N:Nat)(a0:aM)(a1:Int):Option (Int):=
 (vt N a0.2.2.1.1 a1).bind fun r1=>some r1
abbrev nW.ej:=Int→Int→aD→Int→Option (aD×(Int))
def nW.wk(N:Nat)(dd:nW.ej)(x1:Int)(x2:Int)(aP:aD)(aI:Int):Option (aD×(Int)):=
 cond (aH aI (List.length aP:Int)) (cond (aL aI (List.length aP)) (cond (ay ((List.getD aP aI.toNat aJ).1) x1) (cond (aL aI (List.length aP)) (dd x1 x2 (List.set aP aI.toNat ((List.getD aP aI.toNat aJ).1,(((List.getD aP aI.toNat aJ).2).1,((((List.getD aP aI.toNat aJ).2).2).1,(x2,((((List.getD aP aI.toNat aJ).2).2).2).2))))) (W .i64 (aI+1))) (none)) (dd x1 x2 aP (W .i64 (aI+1)))) (none)) (some (aP,(0:Int)))
def nW.l8(N:Nat):Nat→nW.ej
 |0,_,_,_,_=>none
 |n+1,x1,x2,aP,aI=>nW.wk N (nW.l8 N n) x1 x2 aP aI
def nW.b(N:Nat)(w8:nW.ej)(a0:aD)(a1:Int)(a2:Int):Option (aD×(Int)):=
 (iQ N a0).bind fun r1=>cond (!r1) (some ([],(1:Int))) (cond (aH a2 0) (some ([],(1:Int))) (cond (aH 1000000000000 a2) (some ([],(1:Int))) ((kj N a0 a1).bind fun r2=>cond (!r2.2) (some ([],(3:Int))) (cond (small (List.length cc+List.length a0)) (w8 a1 a2 (cc++a0) (0:Int)) (none)))))
def nW(N:Nat)(a0:aD)(a1:Int)(a2:Int):Option (aD×(Int)):=nW.b N (nW.l8 N N) a0 a1 a2
def Vc(N:Nat)(a0:cq)(a1:Int):Option (aw×(Int)):=
 (Kr N a0).bind fun r1=>cond (!r1) (some ((false,lz),(1:Int))) ((yH N a1).bind fun r2=>cond (!r2) (some ((false,lz),(1:Int))) (let v3:Int:=W .i64 (a0.2.2.2.2.2.1-a1);cond (ay a0.2.2.2.1 2) (let v4:Int:=W .i64 (a1-a0.2.2.2.2.2.1);cond (aH v4 0) (some ((false,lz),(0:Int))) ((gN N a0.2.2.2.2.1).bind fun r5=>(gN N v4).bind fun r6=>(gv N r5 r6).bind fun r7=>some (r7,(0:Int)))) (cond (aH v3 0) (some ((false,lz),(0:Int))) ((gN N a0.2.2.2.2.1).bind fun r8=>(gN N v3).bind fun r9=>(gv N r8 r9).bind fun iB=>some (iB,(0:Int))))))
def RP(N:Nat)(a0:aa)(a1:ag)(a2:cq):Option (Int):=
 (bO N a0 a1).bind fun r1=>cond (!r1) (some (1:Int)) ((Kr N a2).bind fun r2=>cond (!r2) (some (1:Int)) ((Ai N a1.2.1 a2.2.1).bind fun r3=>cond (!r3.2) (some (3:Int)) ((vt N a1.1 r3.1.2.1).bind fun r4=>cond (!ay r4 1) (some (7:Int)) (cond (bU (List.length a0.1:Int) a2.2.2.1) (some (3:Int)) (cond (small (List.length cF+List.length a1.2.2.2.2.2.1)) (let v5:List ((Int)×((Int)×((Int)×((Int)×((Int)×((Int)×(Unit))))))):=cF++a1.2.2.2.2.2.1;cond (small (List.length v5+List.length ([a2]))) ((tK N a1.2.2.2.1 a2.2.1).bind fun r7=>(eS N (v5++([a2])) a2.2.1).bind fun r8=>(fN N a0 r7 r8 a2.2.2.1).bind fun r9=>(gN N r3.1.2.2.2.1).bind fun iB=>(JL N r9.1 iB).bind fun kv=>cond (aH 0 kv) (some (9:Int)) (cond (aL a2.2.2.1 (List.length a1.2.2.2.2.1)) ((Vc N a2 (List.getD a1.2.2.2.2.1 a2.2.2.1.toNat (0:Int))).bind fun lx=>(ri N a1.2.2.1 (5:Int) a2.2.1).bind fun kV=>(gN N kV).bind fun mE=>(Mp N mE lx.1).bind fun pA=>(RO N a0 a1 a2.2.1 ([a2])).bind fun tt=>(JL N pA tt).bind fun o8=>cond (aH o8 0) (some (10:Int)) (some (0:Int))) (none))) (none)) (none))))))
def Vm(N:Nat)(a0:cq)(a1:cq):Option (Bool):=
 cond (!ay a0.2.2.2.2.2.1 a1.2.2.2.2.2.1) (some (kZ .bool (aH a1.2.2.2.2.2.1 a0.2.2.2.2.2.1) (ay a0.2.2.2.1 1))) (some (aH a0.1 a1.1))
abbrev dn.Ii:=aT→Int→Int→aT→Int→Int→Option aT
abbrev dn.ji:=aT→Int→Int→aT→Int→Int→Option aT
abbrev dn.bb:=aT→Int→Int→aT→Int→Option aT
def dn.A7(N:Nat)(bf:dn.bb)(x0:aT)(x1:Int)(x2:Int)(x7:aT)(x8:Int)(x9:Int):Option aT:=
 cond (gD 0 x9 (List.length x7:Int) (List.length x7:Int)) (let v9:List ((Int)×((Int)×((Int)×((Int)×((Int)×((Int)×(Unit))))))):=List.drop (0:Int).toNat (List.take x9.toNat x7);cond (small (List.length v9)) (cond (aL x8 (List.length x0)) (cond (small (List.length v9+List.length ([List.getD x0 x8.toNat dQ]))) (let v10:List ((Int)×((Int)×((Int)×((Int)×((Int)×((Int)×(Unit))))))):=v9++([List.getD x0 x8.toNat dQ]);cond (gD x9 (List.length x7:Int) (List.length x7:Int) (List.length x7:Int)) (let v11:List ((Int)×((Int)×((Int)×((Int)×((Int)×((Int)×(Unit))))))):=List.drop x9.toNat (List.take (List.length x7:Int).toNat x7);cond (small (List.length v10+List.length v11)) (bf x0 x1 x2 (v10++v11) (W .i64 (x8+1))) (none)) (none)) (none)) (none)) (none)) (none)
def dn.JO(N:Nat)(bf:dn.bb)(x0:aT)(x1:Int)(x2:Int)(x7:aT)(x8:Int)(x9:Int):Option aT:=dn.A7 N bf x0 x1 x2 x7 x8 x9
def dn.tk(N:Nat)(yg:dn.Ii)(bf:dn.bb)(my:dn.ji)(x0:aT)(x1:Int)(x2:Int)(x7:aT)(x8:Int)(x9:Int):Option aT:=
 cond (aH x9 (List.length x7:Int)) (cond (aL x9 (List.length x7)) (cond (aL x8 (List.length x0)) ((Vm N (List.getD x7 x9.toNat dQ) (List.getD x0 x8.toNat dQ)).bind fun r6=>cond (r6) (my x0 x1 x2 x7 x8 (W .i64 (x9+1))) (yg x0 x1 x2 x7 x8 x9)) (none)) (none)) (yg x0 x1 x2 x7 x8 x9)
def dn.l9(N:Nat)(bf:dn.bb):Nat→dn.ji
 |0,_,_,_,_,_,_=>none
 |n+1,x0,x1,x2,x7,x8,x9=>dn.tk N (dn.JO N bf) bf (dn.l9 N bf n) x0 x1 x2 x7 x8 x9
def dn.c0(N:Nat)(uB:dn.ji)(bf:dn.bb)(x0:aT)(x1:Int)(x2:Int)(x7:aT)(x8:Int):Option aT:=
 cond (aH x8 (List.length x0:Int)) (cond (aL x8 (List.length x0)) (cond (!ay ((((List.getD x0 x8.toNat dQ).2).2).1) x1) (bf x0 x1 x2 x7 (W .i64 (x8+1))) (cond (aL x8 (List.length x0)) (cond (!ay (((((List.getD x0 x8.toNat dQ).2).2).2).1) x2) (bf x0 x1 x2 x7 (W .i64 (x8+1))) (uB x0 x1 x2 x7 x8 (0:Int))) (none))) (none)) (some x7)
def dn.l5(N:Nat):Nat→dn.bb
 |0,_,_,_,_,_=>none
 |n+1,x0,x1,x2,x7,x8=>dn.c0 N (dn.l9 N (dn.l5 N n) N) (dn.l5 N n) x0 x1 x2 x7 x8
def dn.b(N:Nat)(dk:dn.bb)(a0:aT)(a1:Int)(a2:Int):Option aT:=
 (jB N a0).bind fun r1=>cond (!r1) (some ([])) (dk a0 a1 a2 ([]) (0:Int))
def dn(N:Nat)(a0:aT)(a1:Int)(a2:Int):Option aT:=dn.b N (dn.l5 N N) a0 a1 a2
abbrev bX.oe:=aT→Int→aX→aT→Int→Option (aT×aX×(Int)×(Int))
abbrev bX.ait:=aT→Int→aX→Option (aT×aX×(Int)×(Int))
abbrev bX.sC:=cq→aT→Int→aX→aT→Int→Int→Int→Option (aT×aX×(Int)×(Int))
abbrev bX.sB:=cq→aT→Int→aX→aT→Int→Int→fZ→Option (aT×aX×(Int)×(Int))
abbrev bX.SF:=cq→aT→Int→aX→aT→Int→Option (aT×aX×(Int)×(Int))
abbrev bX.dm:=cq→aT→Int→aX→aT→Int→Option (aT×aX×(Int)×(Int))
def bX.z5(N:Nat)(og:bX.oe)(x8:aT)(x9:Int)(aP:aX)(cT:aT)(cQ:Int):Option (aT×aX×(Int)×(Int)):=
 cond (aH cQ (List.length x8:Int)) (cond (aL cQ (List.length x8)) (cond (aH 0 ((((((List.getD x8 cQ.toNat dQ).2).2).2).2).1)) (cond (aL cQ (List.length x8)) (cond (small (List.length cT+List.length ([List.getD x8 cQ.toNat dQ]))) (og x8 x9 aP (cT++([List.getD x8 cQ.toNat dQ])) (W .i64 (cQ+1))) (none)) (none)) (og x8 x9 aP cT (W .i64 (cQ+1)))) (none)) (some (cT,aP,x9,(0:Int)))
def bX.y5(N:Nat):Nat→bX.oe
 |0,_,_,_,_,_=>none
 |n+1,x8,x9,aP,cT,cQ=>bX.z5 N (bX.y5 N n) x8 x9 aP cT cQ
def bX.acB(N:Nat)(Ib:bX.oe)(x8:aT)(x9:Int)(aP:aX):Option (aT×aX×(Int)×(Int)):=
 Ib x8 x9 aP ([]) (0:Int)
def bX.j22(N:Nat)(x8:aT)(x9:Int)(aP:aX):Option (aT×aX×(Int)×(Int)):=bX.acB N (bX.y5 N N) x8 x9 aP
def bX.A8(N:Nat)(c8:bX.dm)(Br:bX.sC)(x3:cq)(x8:aT)(x9:Int)(aP:aX)(aI:aT)(aO:Int)(ba:Int)(b7:Int):Option (aT×aX×(Int)×(Int)):=
 cond (aH b7 (List.length x8:Int)) (cond (aL b7 (List.length x8)) (cond (aL aO (List.length aI)) (cond (ay ((List.getD x8 b7.toNat dQ).1) ((List.getD aI aO.toNat dQ).1)) (cond (aL b7 (List.length x8)) (cond (aL b7 (List.length x8)) (Br x3 (List.set x8 b7.toNat ((List.getD x8 b7.toNat dQ).1,(((List.getD x8 b7.toNat dQ).2).1,((((List.getD x8 b7.toNat dQ).2).2).1,(((((List.getD x8 b7.toNat dQ).2).2).2).1,((W .i64 (((((((List.getD x8 b7.toNat dQ).2).2).2).2).1)-ba)),(((((List.getD x8 b7.toNat dQ).2).2).2).2).2)))))) x9 aP aI aO ba (W .i64 (b7+1))) (none)) (none)) (Br x3 x8 x9 aP aI aO ba (W .i64 (b7+1)))) (none)) (none)) (c8 x3 x8 x9 aP aI (W .i64 (aO+1)))
def bX.DB(N:Nat)(c8:bX.dm):Nat→bX.sC
 |0,_,_,_,_,_,_,_,_=>none
 |n+1,x3,x8,x9,aP,aI,aO,ba,b7=>bX.A8 N c8 (bX.DB N c8 n) x3 x8 x9 aP aI aO ba b7
def bX.mu(N:Nat)(Ij:bX.sC)(c8:bX.dm)(x3:cq)(x8:aT)(x9:Int)(aP:aX)(aI:aT)(aO:Int)(ba:Int)(bl:fZ):Option (aT×aX×(Int)×(Int)):=
 cond (small (List.length aP+List.length ([bl]))) (Ij x3 x8 (W .i64 (x9-ba)) (aP++([bl])) aI aO ba (0:Int)) (none)
def bX.rA(N:Nat)(c8:bX.dm)(x3:cq)(x8:aT)(x9:Int)(aP:aX)(aI:aT)(aO:Int)(ba:Int)(bl:fZ):Option (aT×aX×(Int)×(Int)):=bX.mu N (bX.DB N c8 N) c8 x3 x8 x9 aP aI aO ba bl
def bX.K6(N:Nat)(kd:bX.sB)(c8:bX.dm)(x3:cq)(x8:aT)(x9:Int)(aP:aX)(aI:aT)(aO:Int):Option (aT×aX×(Int)×(Int)):=
 cond (aL aO (List.length aI)) (cond (ay (((List.getD aI aO.toNat dQ).2).1) x3.2.1) (c8 x3 x8 x9 aP aI (W .i64 (aO+1))) (cond (aL aO (List.length aI)) (let v14:Int:=mn x9 ((((((List.getD aI aO.toNat dQ).2).2).2).2).1);cond (aL aO (List.length aI)) (cond (aL aO (List.length aI)) (cond (ay x3.2.2.2.1 2) (cond (aL aO (List.length aI)) (kd x3 x8 x9 aP aI aO v14 (((List.getD aI aO.toNat dQ).2).1,(x3.2.1,(x3.2.2.1,(v14,(((((((List.getD aI aO.toNat dQ).2).2).2).2).2).1,())))))) (none)) (kd x3 x8 x9 aP aI aO v14 (x3.2.1,(((List.getD aI aO.toNat dQ).2).1,(x3.2.2.1,(v14,(((((((List.getD aI aO.toNat dQ).2).2).2).2).2).1,()))))))) (none)) (none)) (none))) (none)
def bX.R4(N:Nat)(c8:bX.dm)(x3:cq)(x8:aT)(x9:Int)(aP:aX)(aI:aT)(aO:Int):Option (aT×aX×(Int)×(Int)):=bX.K6 N (bX.rA N c8) c8 x3 x8 x9 aP aI aO
def bX.oT(N:Nat)(Ik:bX.ait)(Bs:bX.SF)(c8:bX.dm)(x3:cq)(x8:aT)(x9:Int)(aP:aX)(aI:aT)(aO:Int):Option (aT×aX×(Int)×(Int)):=
 cond (aH aO (List.length aI:Int)) (cond (aH 0 x9) (cond (ay x3.2.2.2.1 1) (cond (aL aO (List.length aI)) (cond (aH x3.2.2.2.2.2.1 (((((((List.getD aI aO.toNat dQ).2).2).2).2).2).1)) (Ik x8 x9 aP) (cond (ay x3.2.2.2.1 2) (cond (aL aO (List.length aI)) (cond (aH (((((((List.getD aI aO.toNat dQ).2).2).2).2).2).1) x3.2.2.2.2.2.1) (Ik x8 x9 aP) (Bs x3 x8 x9 aP aI aO)) (none)) (Bs x3 x8 x9 aP aI aO))) (none)) (cond (ay x3.2.2.2.1 2) (cond (aL aO (List.length aI)) (cond (aH (((((((List.getD aI aO.toNat dQ).2).2).2).2).2).1) x3.2.2.2.2.2.1) (Ik x8 x9 aP) (Bs x3 x8 x9 aP aI aO)) (none)) (Bs x3 x8 x9 aP aI aO))) (Ik x8 x9 aP)) (Ik x8 x9 aP)
def bX.l7(N:Nat):Nat→bX.dm
 |0,_,_,_,_,_,_=>none
 |n+1,x3,x8,x9,aP,aI,aO=>bX.oT N (bX.j22 N) (bX.R4 N (bX.l7 N n)) (bX.l7 N n) x3 x8 x9 aP aI aO
def bX.b(N:Nat)(px:bX.dm)(a0:aT)(a1:cq):Option (aT×aX×(Int)×(Int)):=
 (jB N a0).bind fun r1=>cond (!r1) (some ([],[],(0:Int),(1:Int))) ((Kr N a1).bind fun r2=>cond (!r2) (some ([],[],(0:Int),(1:Int))) (cond (small (List.length cF+List.length a0)) ((dn N a0 a1.2.2.1 (W .i64 ((3:Int)-a1.2.2.2.1))).bind fun r5=>px a1 (cF++a0) a1.2.2.2.2.1 ([]) r5 (0:Int)) (none)))
def bX(N:Nat)(a0:aT)(a1:cq):Option (aT×aX×(Int)×(Int)):=bX.b N (bX.l7 N N) a0 a1
def Rk(N:Nat)(a0:fZ):Option (Bool):=
 cond (bU 0 a0.1) (cond (bU a0.1 24) (cond (bU 0 a0.2.1) (cond (bU a0.2.1 24) (cond (!ay a0.1 a0.2.1) (cond (bU 0 a0.2.2.1) (cond (aH a0.2.2.1 6) (cond (bU 1 a0.2.2.2.1) (cond (bU a0.2.2.2.1 1000000000) ((yH N a0.2.2.2.2.1).bind fun r1=>some r1) (some false)) (some false)) (some false)) (some false)) (some false)) (some false)) (some false)) (some false)) (some false)
def K3(N:Nat)(a0:Int):Option ((Int)×(Int)):=
 cond (ay a0 0) (some ((2:Int),(0:Int))) (some ((5:Int),a0))
def U9(N:Nat)(a0:fZ)(a1:Int):Option (br×(Int)):=
 (Rk N a0).bind fun r1=>cond (!r1) (some ([],(1:Int))) ((yH N a1).bind fun r2=>cond (!r2) (some ([],(1:Int))) ((gN N (W .i64 (a1-a0.2.2.2.2.1))).bind fun r4=>(gN N a0.2.2.2.1).bind fun r5=>(gv N r4 r5).bind fun r6=>(Mq N r6).bind fun r7=>cond (ay r7 0) (some ([],(0:Int))) ((K3 N a0.1).bind fun r8=>(K3 N a0.2.1).bind fun r9=>(Pw N r6).bind fun iB=>some ([(r8.1,(r8.2,(r6,()))),(r9.1,(r9.2,(iB,())))],(0:Int)))))
abbrev fM.sD:=aX→aa→ag→ag→aj→br→Int→Option (ag×(Int))
abbrev fM.bn:=aX→aa→ag→ag→Int→Option (ag×(Int))
def fM.A5(N:Nat)(wa:fM.sD)(x2:aX)(x3:aa)(x4:ag)(x6:ag)(x9:aj)(aP:br)(aI:Int):Option (ag×(Int)):=
 cond (aH aI (List.length x2:Int)) (cond (aL aI (List.length x2)) ((Es N x4 ((List.getD x2 aI.toNat eC).1)).bind fun r6=>cond (!r6) (some ((bF,(cc,(aY,(aY,(cv,(cF,())))))),(3:Int))) ((Es N x4 (((List.getD x2 aI.toNat eC).2).1)).bind fun r7=>cond (!r7) (some ((bF,(cc,(aY,(aY,(cv,(cF,())))))),(3:Int))) (cond (bU (List.length x3.1:Int) ((((List.getD x2 aI.toNat eC).2).2).1)) (some ((bF,(cc,(aY,(aY,(cv,(cF,())))))),(3:Int))) (let v8:Int:=W .i64 (0-(((((List.getD x2 aI.toNat eC).2).2).2).1));cond (small (List.length x9+List.length ([((List.getD x2 aI.toNat eC).1,((((List.getD x2 aI.toNat eC).2).2).1,(((((List.getD x2 aI.toNat eC).2).2).2).1,()))),(((List.getD x2 aI.toNat eC).2).1,((((List.getD x2 aI.toNat eC).2).2).1,(v8,())))]))) (cond (aL ((((List.getD x2 aI.toNat eC).2).2).1) (List.length x4.2.2.2.2.1)) ((U9 N (List.getD x2 aI.toNat eC) (List.getD x4.2.2.2.2.1 ((((List.getD x2 aI.toNat eC).2).2).1).toNat (0:Int))).bind fun iB=>cond (small (List.length aP+List.length iB.1)) (wa x2 x3 x4 x6 (x9++([((List.getD x2 aI.toNat eC).1,((((List.getD x2 aI.toNat eC).2).2).1,(((((List.getD x2 aI.toNat eC).2).2).2).1,()))),(((List.getD x2 aI.toNat eC).2).1,((((List.getD x2 aI.toNat eC).2).2).1,(v8,())))])) (aP++iB.1) (W .i64 (aI+1))) (none)) (none)) (none))))) (none)) ((A4 N x4 x9 aP).bind fun kV=>some (kV.1,kV.2))
def fM.Dz(N:Nat):Nat→fM.sD
 |0,_,_,_,_,_,_,_=>none
 |n+1,x2,x3,x4,x6,x9,aP,aI=>fM.A5 N (fM.Dz N n) x2 x3 x4 x6 x9 aP aI
def fM.c5(N:Nat)(Il:fM.sD)(bJ:fM.bn)(x2:aX)(x3:aa)(x4:ag)(x6:ag)(x8:Int):Option (ag×(Int)):=
 cond (aH x8 (List.length x2:Int)) (cond (aL x8 (List.length x2)) ((Rk N (List.getD x2 x8.toNat eC)).bind fun r3=>cond (!r3) (some ((bF,(cc,(aY,(aY,(cv,(cF,())))))),(1:Int))) (bJ x2 x3 x4 x6 (W .i64 (x8+1)))) (none)) (Il x2 x3 x4 x6 ([]) ([]) (0:Int))
def fM.l4(N:Nat):Nat→fM.bn
 |0,_,_,_,_,_=>none
 |n+1,x2,x3,x4,x6,x8=>fM.c5 N (fM.Dz N N) (fM.l4 N n) x2 x3 x4 x6 x8
def fM.b(N:Nat)(dz:fM.bn)(a0:aa)(a1:ag)(a2:aX):Option (ag×(Int)):=
 (bO N a0 a1).bind fun r1=>cond (!r1) (some ((bF,(cc,(aY,(aY,(cv,(cF,())))))),(1:Int))) (cond (aH 200 (List.length a2:Int)) (some ((bF,(cc,(aY,(aY,(cv,(cF,())))))),(1:Int))) (dz a2 a0 a1 (bF,(cc,(aY,(aY,(cv,(cF,())))))) (0:Int)))
def fM(N:Nat)(a0:aa)(a1:ag)(a2:aX):Option (ag×(Int)):=fM.b N (fM.l4 N N) a0 a1 a2
abbrev jE.SF:=aa→ag→cq→ag→aT→aX→Int→Option (ag×aX×(Int)×(Int))
abbrev jE.Lp:=aa→ag→cq→ag→Option (ag×aX×(Int)×(Int))
def jE.K6(N:Nat)(x3:aa)(x4:ag)(x5:cq)(x6:ag)(aO:aT)(ba:aX)(bl:Int):Option (ag×aX×(Int)×(Int)):=
 (fM N x3 x4 ba).bind fun r6=>cond (!ay r6.2 0) (some ((bF,(cc,(aY,(aY,(cv,(cF,())))))),yX,(0:Int),r6.2)) (cond (aH 0 bl) (cond (small (List.length aO+List.length ([(x5.1,(x5.2.1,(x5.2.2.1,(x5.2.2.2.1,(bl,x5.2.2.2.2.2)))))]))) (some ((r6.1.1,(r6.1.2.1,(r6.1.2.2.1,(r6.1.2.2.2.1,(r6.1.2.2.2.2.1,((aO++([(x5.1,(x5.2.1,(x5.2.2.1,(x5.2.2.2.1,(bl,x5.2.2.2.2.2)))))])),r6.1.2.2.2.2.2.2)))))),ba,bl,(0:Int))) (none)) (some ((r6.1.1,(r6.1.2.1,(r6.1.2.2.1,(r6.1.2.2.2.1,(r6.1.2.2.2.2.1,(aO,r6.1.2.2.2.2.2.2)))))),ba,bl,(0:Int))))
def jE.R4(N:Nat)(x3:aa)(x4:ag)(x5:cq)(x6:ag)(aO:aT)(ba:aX)(bl:Int):Option (ag×aX×(Int)×(Int)):=jE.K6 N x3 x4 x5 x6 aO ba bl
def jE.Kh(N:Nat)(Bs:jE.SF)(x3:aa)(x4:ag)(x5:cq)(x6:ag):Option (ag×aX×(Int)×(Int)):=
 (bX N x4.2.2.2.2.2.1 x5).bind fun r4=>cond (aH 0 r4.2.2.1) (cond (ay (List.length r4.1:Int) 32) (some ((bF,(cc,(aY,(aY,(cv,(cF,())))))),yX,(0:Int),(5:Int))) (Bs x3 x4 x5 x6 r4.1 r4.2.1 r4.2.2.1)) (Bs x3 x4 x5 x6 r4.1 r4.2.1 r4.2.2.1)
def jE.j7(N:Nat)(x3:aa)(x4:ag)(x5:cq)(x6:ag):Option (ag×aX×(Int)×(Int)):=jE.Kh N (jE.R4 N) x3 x4 x5 x6
def jE.b(N:Nat)(w4:jE.Lp)(a0:aa)(a1:ag)(a2:cq):Option (ag×aX×(Int)×(Int)):=
 (RP N a0 a1 a2).bind fun r1=>cond (!ay r1 0) (some ((bF,(cc,(aY,(aY,(cv,(cF,())))))),yX,(0:Int),r1)) (cond (aH 0 (List.length a1.2.2.2.2.2.1:Int)) (let v2:Int:=W .i64 ((List.length a1.2.2.2.2.2.1:Int)-1);cond (aL v2 (List.length a1.2.2.2.2.2.1)) (cond (bU a2.1 ((List.getD a1.2.2.2.2.2.1 v2.toNat dQ).1)) (some ((bF,(cc,(aY,(aY,(cv,(cF,())))))),yX,(0:Int),(1:Int))) (w4 a0 a1 a2 (bF,(cc,(aY,(aY,(cv,(cF,())))))))) (none)) (w4 a0 a1 a2 (bF,(cc,(aY,(aY,(cv,(cF,()))))))))
def jE(N:Nat)(a0:aa)(a1:ag)(a2:cq):Option (ag×aX×(Int)×(Int)):=jE.b N (jE.j7 N) a0 a1 a2
abbrev nZ.bb:=aT→Int→Int→aT→Int→Option (aT×(Int))
def nZ.c0(N:Nat)(bf:nZ.bb)(x0:aT)(x1:Int)(x2:Int)(x8:aT)(x9:Int):Option (aT×(Int)):=
 cond (aH x9 (List.length x0:Int)) (cond (aL x9 (List.length x0)) (cond (!ay ((List.getD x0 x9.toNat dQ).1) x2) (cond (aL x9 (List.length x0)) (cond (small (List.length x8+List.length ([List.getD x0 x9.toNat dQ]))) (bf x0 x1 x2 (x8++([List.getD x0 x9.toNat dQ])) (W .i64 (x9+1))) (none)) (none)) (cond (aL x9 (List.length x0)) (cond (!ay (((List.getD x0 x9.toNat dQ).2).1) x1) (cond (aL x9 (List.length x0)) (cond (small (List.length x8+List.length ([List.getD x0 x9.toNat dQ]))) (bf x0 x1 x2 (x8++([List.getD x0 x9.toNat dQ])) (W .i64 (x9+1))) (none)) (none)) (bf x0 x1 x2 x8 (W .i64 (x9+1)))) (none))) (none)) (cond (ay (List.length x8:Int) (List.length x0:Int)) (some ([],(3:Int))) (some (x8,(0:Int))))
def nZ.l5(N:Nat):Nat→nZ.bb
 |0,_,_,_,_,_=>none
 |n+1,x0,x1,x2,x8,x9=>nZ.c0 N (nZ.l5 N n) x0 x1 x2 x8 x9
def nZ.b(N:Nat)(dk:nZ.bb)(a0:aT)(a1:Int)(a2:Int):Option (aT×(Int)):=
 (jB N a0).bind fun r1=>cond (!r1) (some ([],(1:Int))) (dk a0 a1 a2 ([]) (0:Int))
def nZ(N:Nat)(a0:aT)(a1:Int)(a2:Int):Option (aT×(Int)):=nZ.b N (nZ.l5 N N) a0 a1 a2
abbrev n0.eX:=aj→Int→br→aw→Int→Option (br×(Int))
def n0.pn(N:Nat)(eY:n0.eX)(x0:aj)(x1:Int)(aP:br)(aI:aw)(aO:Int):Option (br×(Int)):=
 cond (aH aO (List.length x0:Int)) (cond (aL aO (List.length x0)) (cond (!ay (((List.getD x0 aO.toNat aQ).2).1) x1) (eY x0 x1 aP aI (W .i64 (aO+1))) ((Mq N aI).bind fun r9=>cond (ay r9 0) (eY x0 x1 aP aI (W .i64 (aO+1))) (cond (aL aO (List.length x0)) ((K3 N ((List.getD x0 aO.toNat aQ).1)).bind fun kv=>cond (aL aO (List.length x0)) ((gN N ((((List.getD x0 aO.toNat aQ).2).2).1)).bind fun lx=>(gv N lx aI).bind fun kV=>cond (small (List.length aP+List.length ([(kv.1,(kv.2,(kV,())))]))) (eY x0 x1 (aP++([(kv.1,(kv.2,(kV,())))])) aI (W .i64 (aO+1))) (none)) (none)) (none)))) (none)) (some (aP,(0:Int)))
def n0.l6(N:Nat):Nat→n0.eX
 |0,_,_,_,_,_=>none
 |n+1,x0,x1,aP,aI,aO=>n0.pn N (n0.l6 N n) x0 x1 aP aI aO
def n0.b(N:Nat)(q4:n0.eX)(a0:aj)(a1:Int)(a2:Int)(a3:Int):Option (br×(Int)):=
 (uH N a0).bind fun r1=>cond (!r1) (some ([],(1:Int))) ((yH N a2).bind fun r2=>cond (!r2) (some ([],(1:Int))) ((yH N a3).bind fun r3=>cond (!r3) (some ([],(1:Int))) ((gN N a3).bind fun r4=>(gN N a2).bind fun r5=>(Mp N r4 r5).bind fun r6=>q4 a0 a1 ([]) r6 (0:Int))))
def n0(N:Nat)(a0:aj)(a1:Int)(a2:Int)(a3:Int):Option (br×(Int)):=n0.b N (n0.l6 N N) a0 a1 a2 a3
def Vo(N:Nat)(a0:aa)(a1:ag)(a2:Int)(a3:Int):Option (ag×br×(Int)):=
 (bO N a0 a1).bind fun r1=>cond (!r1) (some ((bF,(cc,(aY,(aY,(cv,(cF,())))))),([]:List ((Int)×((Int)×(((Bool)×((List (Int))×(Unit)))×(Unit))))),(1:Int))) ((yH N a3).bind fun r2=>cond (!r2) (some ((bF,(cc,(aY,(aY,(cv,(cF,())))))),([]:List ((Int)×((Int)×(((Bool)×((List (Int))×(Unit)))×(Unit))))),(1:Int))) (cond (aH a2 0) (some ((bF,(cc,(aY,(aY,(cv,(cF,())))))),([]:List ((Int)×((Int)×(((Bool)×((List (Int))×(Unit)))×(Unit))))),(3:Int))) (cond (bU (List.length a0.1:Int) a2) (some ((bF,(cc,(aY,(aY,(cv,(cF,())))))),([]:List ((Int)×((Int)×(((Bool)×((List (Int))×(Unit)))×(Unit))))),(3:Int))) (cond (aL a2 (List.length a1.2.2.2.2.1)) ((n0 N a1.2.2.2.1 a2 (List.getD a1.2.2.2.2.1 a2.toNat (0:Int)) a3).bind fun r3=>(A4 N a1 aY r3.1).bind fun r4=>cond (!ay r4.2 0) (some ((bF,(cc,(aY,(aY,(cv,(cF,())))))),([]:List ((Int)×((Int)×(((Bool)×((List (Int))×(Unit)))×(Unit))))),r4.2)) (cond (small (List.length cv+List.length a1.2.2.2.2.1)) (let v5:List (Int):=cv++a1.2.2.2.2.1;cond (aL a2 (List.length v5)) (some ((r4.1.1,(r4.1.2.1,(r4.1.2.2.1,(r4.1.2.2.2.1,((List.set v5 a2.toNat a3),r4.1.2.2.2.2.2))))),r3.1,(0:Int))) (none)) (none))) (none)))))
abbrev mX.bP:=au→Int→Option (Bool)
def mX.dr(N:Nat)(cH:mX.bP)(x0:au)(x3:Int):Option (Bool):=
 cond (aH x3 (List.length x0:Int)) (cond (aL x3 (List.length x0)) (cond (aH ((List.getD x0 x3.toNat bI).1) (1:Int)) (some false) (cond (aL x3 (List.length x0)) (cond (aH 24 ((List.getD x0 x3.toNat bI).1)) (some false) (cond (aL x3 (List.length x0)) (cond (ay (((List.getD x0 x3.toNat bI).2).1) (0:Int)) (some false) (cond (aH 0 x3) (cond (aL x3 (List.length x0)) (let v2:Int:=W .i64 (x3-1);cond (aL v2 (List.length x0)) (cond (bU ((List.getD x0 x3.toNat bI).1) ((List.getD x0 v2.toNat bI).1)) (some false) (cH x0 (W .i64 (x3+1)))) (none)) (none)) (cH x0 (W .i64 (x3+1))))) (none))) (none))) (none)) (some true)
def mX.l2(N:Nat):Nat→mX.bP
 |0,_,_=>none
 |n+1,x0,x3=>mX.dr N (mX.l2 N n) x0 x3
def mX.b(N:Nat)(ey:mX.bP)(a0:au):Option (Bool):=
 ey a0 (0:Int)
def mX(N:Nat)(a0:au):Option (Bool):=mX.b N (mX.l2 N N) a0
abbrev df.sE:=au→br→au→Int→aw→Int→Option (au×(Int))
abbrev df.ji:=au→br→au→Int→aw→Int→Option (au×(Int))
abbrev df.bb:=au→br→au→Int→Option (au×(Int))
def df.AL(N:Nat)(bf:df.bb)(yh:df.sE)(x0:au)(x1:br)(x6:au)(x7:Int)(x8:aw)(aP:Int):Option (au×(Int)):=
 cond (aH aP (List.length x1:Int)) (cond (aL aP (List.length x1)) (cond (ay ((List.getD x1 aP.toNat ((0:Int),((0:Int),((false,lz),())))).1) (5:Int)) (cond (aL aP (List.length x1)) (cond (ay (((List.getD x1 aP.toNat ((0:Int),((0:Int),((false,lz),())))).2).1) x7) (cond (aL aP (List.length x1)) ((vk N x8 ((((List.getD x1 aP.toNat ((0:Int),((0:Int),((false,lz),())))).2).2).1)).bind fun r8=>yh x0 x1 x6 x7 r8 (W .i64 (aP+1))) (none)) (yh x0 x1 x6 x7 x8 (W .i64 (aP+1)))) (none)) (yh x0 x1 x6 x7 x8 (W .i64 (aP+1)))) (none)) ((rZ N x8).bind fun lx=>cond (!lx.2) (some ([],(2:Int))) (cond (!ay lx.1 0) (cond (small (List.length x6+List.length ([(x7,(lx.1,()))]))) (bf x0 x1 (x6++([(x7,(lx.1,()))])) (W .i64 (x7+1))) (none)) (bf x0 x1 x6 (W .i64 (x7+1)))))
def df.C9(N:Nat)(bf:df.bb):Nat→df.sE
 |0,_,_,_,_,_,_=>none
 |n+1,x0,x1,x6,x7,x8,aP=>df.AL N bf (df.C9 N bf n) x0 x1 x6 x7 x8 aP
def df.tk(N:Nat)(Im:df.sE)(bf:df.bb)(my:df.ji)(x0:au)(x1:br)(x6:au)(x7:Int)(x8:aw)(x9:Int):Option (au×(Int)):=
 cond (aH x9 (List.length x0:Int)) (cond (aL x9 (List.length x0)) (cond (ay ((List.getD x0 x9.toNat bI).1) x7) (cond (aL x9 (List.length x0)) ((gN N (((List.getD x0 x9.toNat bI).2).1)).bind fun r4=>my x0 x1 x6 x7 r4 (W .i64 (x9+1))) (none)) (my x0 x1 x6 x7 x8 (W .i64 (x9+1)))) (none)) (Im x0 x1 x6 x7 x8 (0:Int))
def df.l9(N:Nat)(bf:df.bb):Nat→df.ji
 |0,_,_,_,_,_,_=>none
 |n+1,x0,x1,x6,x7,x8,x9=>df.tk N (df.C9 N bf N) bf (df.l9 N bf n) x0 x1 x6 x7 x8 x9
def df.c0(N:Nat)(uB:df.ji)(bf:df.bb)(x0:au)(x1:br)(x6:au)(x7:Int):Option (au×(Int)):=
 cond (bU x7 24) (uB x0 x1 x6 x7 (false,lz) (0:Int)) (some (x6,(0:Int)))
def df.l5(N:Nat):Nat→df.bb
 |0,_,_,_,_=>none
 |n+1,x0,x1,x6,x7=>df.c0 N (df.l9 N (df.l5 N n) N) (df.l5 N n) x0 x1 x6 x7
def df.b(N:Nat)(dk:df.bb)(a0:au)(a1:br):Option (au×(Int)):=
 (mX N a0).bind fun r1=>cond (!r1) (some ([],(1:Int))) (dk a0 a1 ([]) (1:Int))
def df(N:Nat)(a0:au)(a1:br):Option (au×(Int)):=df.b N (df.l5 N N) a0 a1
def O7(N:Nat)(a0:aM)(a1:Int):Option ((Int)×(Bool)):=
 (gN N a0.1).bind fun r1=>(gN N a1).bind fun r2=>(vk N r1 r2).bind fun r3=>(rZ N r3).bind fun r4=>some (r4.1,r4.2)
def Vk(N:Nat)(a0:Int)(a1:Int):Option ((Int)×(Bool)):=
 cond (ay a0 0) (cond (ay a1 1) (some ((1:Int),true)) (cond (ay a0 1) (cond (ay a1 11) (some ((2:Int),true)) (cond (ay a0 2) (cond (ay a1 12) (some ((1:Int),true)) (cond (ay a0 2) (cond (ay a1 13) (some ((3:Int),true)) (cond (ay a0 3) (cond (ay a1 21) (some ((4:Int),true)) (some ((0:Int),false))) (some ((0:Int),false)))) (cond (ay a0 3) (cond (ay a1 21) (some ((4:Int),true)) (some ((0:Int),false))) (some ((0:Int),false))))) (cond (ay a0 2) (cond (ay a1 13) (some ((3:Int),true)) (cond (ay a0 3) (cond (ay a1 21) (some ((4:Int),true)) (some ((0:Int),false))) (some ((0:Int),false)))) (cond (ay a0 3) (cond (ay a1 21) (some ((4:Int),true)) (some ((0:Int),false))) (some ((0:Int),false)))))) (cond (ay a0 2) (cond (ay a1 12) (some ((1:Int),true)) (cond (ay a0 2) (cond (ay a1 13) (some ((3:Int),true)) (cond (ay a0 3) (cond (ay a1 21) (some ((4:Int),true)) (some ((0:Int),false))) (some ((0:Int),false)))) (cond (ay a0 3) (cond (ay a1 21) (some ((4:Int),true)) (some ((0:Int),false))) (some ((0:Int),false))))) (cond (ay a0 2) (cond (ay a1 13) (some ((3:Int),true)) (cond (ay a0 3) (cond (ay a1 21) (some ((4:Int),true)) (some ((0:Int),false))) (some ((0:Int),false)))) (cond (ay a0 3) (cond (ay a1 21) (some ((4:Int),true)) (some ((0:Int),false))) (some ((0:Int),false))))))) (cond (ay a0 1) (cond (ay a1 11) (some ((2:Int),true)) (cond (ay a0 2) (cond (ay a1 12) (some ((1:Int),true)) (cond (ay a0 2) (cond (ay a1 13) (some ((3:Int),true)) (cond (ay a0 3) (cond (ay a1 21) (some ((4:Int),true)) (some ((0:Int),false))) (some ((0:Int),false)))) (cond (ay a0 3) (cond (ay a1 21) (some ((4:Int),true)) (some ((0:Int),false))) (some ((0:Int),false))))) (cond (ay a0 2) (cond (ay a1 13) (some ((3:Int),true)) (cond (ay a0 3) (cond (ay a1 21) (some ((4:Int),true)) (some ((0:Int),false))) (some ((0:Int),false)))) (cond (ay a0 3) (cond (ay a1 21) (some ((4:Int),true)) (some ((0:Int),false))) (some ((0:Int),false)))))) (cond (ay a0 2) (cond (ay a1 12) (some ((1:Int),true)) (cond (ay a0 2) (cond (ay a1 13) (some ((3:Int),true)) (cond (ay a0 3) (cond (ay a1 21) (some ((4:Int),true)) (some ((0:Int),false))) (some ((0:Int),false)))) (cond (ay a0 3) (cond (ay a1 21) (some ((4:Int),true)) (some ((0:Int),false))) (some ((0:Int),false))))) (cond (ay a0 2) (cond (ay a1 13) (some ((3:Int),true)) (cond (ay a0 3) (cond (ay a1 21) (some ((4:Int),true)) (some ((0:Int),false))) (some ((0:Int),false)))) (cond (ay a0 3) (cond (ay a1 21) (some ((4:Int),true)) (some ((0:Int),false))) (some ((0:Int),false))))))
abbrev lX.sD:=Int→Int→au→Int→Option (au×(Int))
def lX.A5(N:Nat)(wa:lX.sD)(x1:Int)(x9:Int)(aI:au)(aO:Int):Option (au×(Int)):=
 cond (aH aO (List.length aI:Int)) (cond (aL aO (List.length aI)) (cond (ay ((List.getD aI aO.toNat bI).1) x1) (cond (aL aO (List.length aI)) (wa x1 x9 (List.set aI aO.toNat ((List.getD aI aO.toNat bI).1,(x9,((List.getD aI aO.toNat bI).2).2))) (W .i64 (aO+1))) (none)) (wa x1 x9 aI (W .i64 (aO+1)))) (none)) (some (aI,(0:Int)))
def lX.Dz(N:Nat):Nat→lX.sD
 |0,_,_,_,_=>none
 |n+1,x1,x9,aI,aO=>lX.A5 N (lX.Dz N n) x1 x9 aI aO
def lX.b(N:Nat)(Il:lX.sD)(a0:au)(a1:Int)(a2:Int):Option (au×(Int)):=
 (kg N a0).bind fun r1=>cond (!r1) (some ([],(1:Int))) ((jC N a0 a1).bind fun r2=>cond (ay r2 0) (some ([],(3:Int))) ((Vk N r2 a2).bind fun r3=>cond (!r3.2) (some ([],(8:Int))) (cond (small (List.length bF+List.length a0)) (Il a1 r3.1 (bF++a0) (0:Int)) (none))))
def lX(N:Nat)(a0:au)(a1:Int)(a2:Int):Option (au×(Int)):=lX.b N (lX.Dz N N) a0 a1 a2
abbrev nY.bb:=aD→Int→(List (Int))→Int→Option (List (Int))
def nY.c0(N:Nat)(bf:nY.bb)(x0:aD)(x1:Int)(x5:List (Int))(x6:Int):Option (List (Int)):=
 cond (aH x6 (List.length x0:Int)) (cond (aL x6 (List.length x0)) (cond (ay (((List.getD x0 x6.toNat aJ).2).1) x1) (cond (aL x6 (List.length x0)) (cond (small (List.length x5+List.length ([(List.getD x0 x6.toNat aJ).1]))) (bf x0 x1 (x5++([(List.getD x0 x6.toNat aJ).1])) (W .i64 (x6+1))) (none)) (none)) (bf x0 x1 x5 (W .i64 (x6+1)))) (none)) (some x5)
def nY.l5(N:Nat):Nat→nY.bb
 |0,_,_,_,_=>none
 |n+1,x0,x1,x5,x6=>nY.c0 N (nY.l5 N n) x0 x1 x5 x6
def nY.b(N:Nat)(dk:nY.bb)(a0:aD)(a1:Int):Option (List (Int)):=
 (iQ N a0).bind fun r1=>cond (!r1) (some ([])) (dk a0 a1 ([]) (0:Int))
def nY(N:Nat)(a0:aD)(a1:Int):Option (List (Int)):=nY.b N (nY.l5 N N) a0 a1
abbrev fb.ji:=aT→(List (Int))→aT→Int→Bool→Int→Option aT
abbrev fb.bb:=aT→(List (Int))→aT→Int→Option aT
def fb.tk(N:Nat)(bf:fb.bb)(my:fb.ji)(x0:aT)(x1:List (Int))(x5:aT)(x6:Int)(x7:Bool)(x8:Int):Option aT:=
 cond (aH x8 (List.length x1:Int)) (cond (x7) (my x0 x1 x5 x6 true (W .i64 (x8+1))) (cond (aL x8 (List.length x1)) (cond (aL x6 (List.length x0)) (my x0 x1 x5 x6 (ay (List.getD x1 x8.toNat (0:Int)) (((List.getD x0 x6.toNat dQ).2).1)) (W .i64 (x8+1))) (none)) (none))) (cond (!x7) (cond (aL x6 (List.length x0)) (cond (small (List.length x5+List.length ([List.getD x0 x6.toNat dQ]))) (bf x0 x1 (x5++([List.getD x0 x6.toNat dQ])) (W .i64 (x6+1))) (none)) (none)) (bf x0 x1 x5 (W .i64 (x6+1))))
def fb.l9(N:Nat)(bf:fb.bb):Nat→fb.ji
 |0,_,_,_,_,_,_=>none
 |n+1,x0,x1,x5,x6,x7,x8=>fb.tk N bf (fb.l9 N bf n) x0 x1 x5 x6 x7 x8
def fb.c0(N:Nat)(uB:fb.ji)(bf:fb.bb)(x0:aT)(x1:List (Int))(x5:aT)(x6:Int):Option aT:=
 cond (aH x6 (List.length x0:Int)) (uB x0 x1 x5 x6 false (0:Int)) (some x5)
def fb.l5(N:Nat):Nat→fb.bb
 |0,_,_,_,_=>none
 |n+1,x0,x1,x5,x6=>fb.c0 N (fb.l9 N (fb.l5 N n) N) (fb.l5 N n) x0 x1 x5 x6
def fb.b(N:Nat)(dk:fb.bb)(a0:aT)(a1:List (Int)):Option aT:=
 (jB N a0).bind fun r1=>cond (!r1) (some ([])) (dk a0 a1 ([]) (0:Int))
def fb(N:Nat)(a0:aT)(a1:List (Int)):Option aT:=fb.b N (fb.l5 N N) a0 a1
def OT(N:Nat)(a0:aa)(a1:ag)(a2:Int):Option (ag×(Int)):=
 (bO N a0 a1).bind fun r1=>cond (!r1) (some ((bF,(cc,(aY,(aY,(cv,(cF,())))))),(1:Int))) ((vt N a1.1 a2).bind fun r2=>cond (ay r2 0) (some ((bF,(cc,(aY,(aY,(cv,(cF,())))))),(3:Int))) ((nY N a1.2.1 a2).bind fun r3=>(fb N a1.2.2.2.2.2.1 r3).bind fun r4=>some ((a1.1,(a1.2.1,(a1.2.2.1,(a1.2.2.2.1,(a1.2.2.2.2.1,(r4,a1.2.2.2.2.2.2)))))),(0:Int))))
def QX(N:Nat)(a0:bh):Option (Bool):=
 cond (bU 1 a0.1) (cond (bU a0.1 1099511627776) (cond (bU 1 a0.2.1) (cond (bU a0.2.1 1099511627776) (cond (bU 1 a0.2.2.1) (cond (bU a0.2.2.1 12) (cond (bU (-1152921504606846976) a0.2.2.2.1) (some (bU a0.2.2.2.1 1152921504606846976)) (some false)) (some false)) (some false)) (some false)) (some false)) (some false)) (some false)
abbrev c9.ji:=aD→Int→Int→Option (Bool)
abbrev c9.SD:=aD→Int→Option (Bool)
abbrev c9.bn:=aD→Int→Option (Bool)
def c9.tk(N:Nat)(bJ:c9.bn)(my:c9.ji)(x0:aD)(x3:Int)(x4:Int):Option (Bool):=
 cond (aH x4 x3) (cond (aL x4 (List.length x0)) (cond (aL x3 (List.length x0)) (cond (ay ((((List.getD x0 x4.toNat aJ).2).2).1) ((((List.getD x0 x3.toNat aJ).2).2).1)) (cond (aL x4 (List.length x0)) (cond (aL x3 (List.length x0)) (cond (ay (((List.getD x0 x4.toNat aJ).2).1) (((List.getD x0 x3.toNat aJ).2).1)) (some false) (my x0 x3 (W .i64 (x4+1)))) (none)) (none)) (my x0 x3 (W .i64 (x4+1)))) (none)) (none)) (bJ x0 (W .i64 (x3+1)))
def c9.l9(N:Nat)(bJ:c9.bn):Nat→c9.ji
 |0,_,_,_=>none
 |n+1,x0,x3,x4=>c9.tk N bJ (c9.l9 N bJ n) x0 x3 x4
def c9.Rb(N:Nat)(uB:c9.ji)(bJ:c9.bn)(x0:aD)(x3:Int):Option (Bool):=
 uB x0 x3 (0:Int)
def c9.j8(N:Nat)(bJ:c9.bn)(x0:aD)(x3:Int):Option (Bool):=c9.Rb N (c9.l9 N bJ N) bJ x0 x3
def c9.c5(N:Nat)(Ig:c9.SD)(bJ:c9.bn)(x0:aD)(x3:Int):Option (Bool):=
 cond (aH x3 (List.length x0:Int)) (cond (aL x3 (List.length x0)) ((QX N (List.getD x0 x3.toNat aJ)).bind fun r2=>cond (!r2) (some false) (cond (aH 0 x3) (cond (aL x3 (List.length x0)) (let v3:Int:=W .i64 (x3-1);cond (aL v3 (List.length x0)) (cond (bU ((List.getD x0 x3.toNat aJ).1) ((List.getD x0 v3.toNat aJ).1)) (some false) (Ig x0 x3)) (none)) (none)) (Ig x0 x3))) (none)) (some true)
def c9.l4(N:Nat):Nat→c9.bn
 |0,_,_=>none
 |n+1,x0,x3=>c9.c5 N (c9.j8 N (c9.l4 N n)) (c9.l4 N n) x0 x3
def c9.b(N:Nat)(dz:c9.bn)(a0:aD):Option (Bool):=
 cond (aH 40 (List.length a0:Int)) (some false) (dz a0 (0:Int))
def c9(N:Nat)(a0:aD):Option (Bool):=c9.b N (c9.l4 N N) a0
abbrev mv.bb:=aD→Int→aD→Int→Option aD
def mv.c0(N:Nat)(bf:mv.bb)(x0:aD)(x1:Int)(x5:aD)(x6:Int):Option aD:=
 cond (aH x6 (List.length x0:Int)) (cond (aL x6 (List.length x0)) (cond (!ay ((((List.getD x0 x6.toNat aJ).2).2).1) x1) (cond (aL x6 (List.length x0)) (cond (small (List.length x5+List.length ([List.getD x0 x6.toNat aJ]))) (bf x0 x1 (x5++([List.getD x0 x6.toNat aJ])) (W .i64 (x6+1))) (none)) (none)) (bf x0 x1 x5 (W .i64 (x6+1)))) (none)) (some x5)
def mv.l5(N:Nat):Nat→mv.bb
 |0,_,_,_,_=>none
 |n+1,x0,x1,x5,x6=>mv.c0 N (mv.l5 N n) x0 x1 x5 x6
def mv.b(N:Nat)(dk:mv.bb)(a0:aD)(a1:Int):Option aD:=
 (c9 N a0).bind fun r1=>cond (!r1) (some ([])) (dk a0 a1 ([]) (0:Int))
def mv(N:Nat)(a0:aD)(a1:Int):Option aD:=mv.b N (mv.l5 N N) a0 a1
def VE(N:Nat)(a0:aM)(a1:Int):Option (Bool):=
 cond (ay a1 14) (cond (ay a0.2.2.2.1.2.1 1) (some (aH a0.1 a0.2.2.2.1.2.2.1)) (some false)) (cond (ay a1 15) (cond (ay a0.2.2.2.1.2.1 1) (some (bU a0.2.2.2.1.2.2.1 a0.1)) (some false)) (cond (ay a1 19) (cond (ay a0.2.2.2.1.2.1 3) (some (aH a0.1 a0.2.2.2.1.2.2.1)) (some false)) (cond (ay a1 20) (cond (ay a0.2.2.2.1.2.1 3) (some (bU a0.2.2.2.1.2.2.1 a0.1)) (some false)) (some (ay a0.2.2.2.1.2.1 2)))))
def E0(N:Nat)(a0:ag)(a1:Int):Option (Int):=
 (vt N a0.1 a1).bind fun r1=>some r1
abbrev mw.bb:=au→Bool→aa→aw→aw→Int→Option (aw×(Int))
def mw.c0(N:Nat)(bf:mw.bb)(x1:au)(x2:Bool)(x3:aa)(x6:aw)(x8:aw)(x9:Int):Option (aw×(Int)):=
 cond (aH x9 (List.length x1:Int)) (cond (aL x9 (List.length x1)) (cond (aL ((List.getD x1 x9.toNat bI).1) (List.length x3.1)) (cond (x2) (cond (aL x9 (List.length x1)) (cond (aL ((List.getD x1 x9.toNat bI).1) (List.length x3.1)) (cond (aL x9 (List.length x1)) ((gN N (((List.getD x1 x9.toNat bI).2).1)).bind fun r3=>(QK N r3).bind fun r4=>(gN N (((((List.getD x3.1 ((List.getD x1 x9.toNat bI).1).toNat aJ).2).2).2).1)).bind fun r5=>(gv N r4 r5).bind fun r6=>(vk N x8 r6).bind fun r7=>bf x1 x2 x3 x6 r7 (W .i64 (x9+1))) (none)) (none)) (none)) (cond (aL x9 (List.length x1)) ((gN N (((List.getD x1 x9.toNat bI).2).1)).bind fun r9=>(QK N r9).bind fun iB=>(gN N ((((List.getD x3.1 ((List.getD x1 x9.toNat bI).1).toNat aJ).2).2).1)).bind fun kv=>(gv N iB kv).bind fun lx=>(vk N x8 lx).bind fun kV=>bf x1 x2 x3 x6 kV (W .i64 (x9+1))) (none))) (none)) (none)) (some (x8,(0:Int)))
def mw.l5(N:Nat):Nat→mw.bb
 |0,_,_,_,_,_,_=>none
 |n+1,x1,x2,x3,x6,x8,x9=>mw.c0 N (mw.l5 N n) x1 x2 x3 x6 x8 x9
def mw.b(N:Nat)(dk:mw.bb)(a0:aa)(a1:au)(a2:Bool):Option (aw×(Int)):=
 (jW N a0 a1).bind fun r1=>cond (!r1) (some ((false,lz),(1:Int))) (dk a1 a2 a0 (false,lz) (false,lz) (0:Int))
def mw(N:Nat)(a0:aa)(a1:au)(a2:Bool):Option (aw×(Int)):=mw.b N (mw.l5 N N) a0 a1 a2
def acD(N:Nat)(a0:aa)(a1:au):Option (aw×(Int)):=
 (mw N a0 a1 false).bind fun r1=>some (r1.1,r1.2)
def K8(N:Nat)(a0:ag)(a1:Int):Option (Int):=
 (ri N a0.2.2.1 (5:Int) a1).bind fun r1=>some r1
def Vs(N:Nat)(a0:aa)(a1:ag)(a2:Int)(a3:Int)(a4:Int):Option (Int):=
 (bO N a0 a1).bind fun r1=>cond (!r1) (some (1:Int)) ((Ai N a1.2.1 a4).bind fun r2=>cond (!r2.2) (some (3:Int)) ((E0 N a1 a2).bind fun r3=>cond (ay r3 0) (some (3:Int)) ((E0 N a1 a3).bind fun r4=>cond (ay r4 0) (some (3:Int)) (cond (!ay r2.1.2.1 a2) (some (8:Int)) (cond (!ay r2.1.2.2.1 2) (some (8:Int)) ((E0 N a1 a3).bind fun r5=>cond (!ay r5 1) (some (7:Int)) ((tK N a1.2.2.2.1 a4).bind fun r6=>(acD N a0 r6).bind fun r7=>(K8 N a1 a4).bind fun r8=>(gN N r8).bind fun r9=>(JL N r9 r7.1).bind fun iB=>cond (aH iB 0) (some (10:Int)) (some (0:Int)))))))))
abbrev nX.ec:=Int→Int→aD→Int→Option (aD×(Int))
def nX.jY(N:Nat)(fv:nX.ec)(x2:Int)(x3:Int)(ba:aD)(bl:Int):Option (aD×(Int)):=
 cond (aH bl (List.length ba:Int)) (cond (aL bl (List.length ba)) (cond (ay ((List.getD ba bl.toNat aJ).1) x2) (cond (aL bl (List.length ba)) (fv x2 x3 (List.set ba bl.toNat ((List.getD ba bl.toNat aJ).1,(x3,((List.getD ba bl.toNat aJ).2).2))) (W .i64 (bl+1))) (none)) (fv x2 x3 ba (W .i64 (bl+1)))) (none)) (some (ba,(0:Int)))
def nX.lN(N:Nat):Nat→nX.ec
 |0,_,_,_,_=>none
 |n+1,x2,x3,ba,bl=>nX.jY N (nX.lN N n) x2 x3 ba bl
def nX.b(N:Nat)(p5:nX.ec)(a0:au)(a1:aD)(a2:Int)(a3:Int):Option (aD×(Int)):=
 (kK N a0 a1).bind fun r1=>cond (!r1) (some ([],(1:Int))) ((kj N a1 a2).bind fun r2=>(jC N a0 a3).bind fun r3=>cond (!r2.2) (some ([],(3:Int))) (cond (ay r3 0) (some ([],(3:Int))) (cond (!ay r2.1.2.2.1 2) (some ([],(8:Int))) (cond (!ay r3 1) (some ([],(7:Int))) (cond (small (List.length cc+List.length a1)) (p5 a2 a3 (cc++a1) (0:Int)) (none))))))
def nX(N:Nat)(a0:au)(a1:aD)(a2:Int)(a3:Int):Option (aD×(Int)):=nX.b N (nX.lN N N) a0 a1 a2 a3
def Vr(N:Nat)(a0:aa)(a1:ag)(a2:Int)(a3:Int)(a4:Int):Option (ag×(Int)):=
 (Vs N a0 a1 a2 a3 a4).bind fun r1=>cond (!ay r1 0) (some ((bF,(cc,(aY,(aY,(cv,(cF,())))))),r1)) ((nX N a1.1 a1.2.1 a4 a3).bind fun r2=>cond (!ay r2.2 0) (some ((bF,(cc,(aY,(aY,(cv,(cF,())))))),r2.2)) (some ((a1.1,(r2.1,a1.2.2)),(0:Int))))
def Sc(N:Nat)(a0:aa)(a1:au):Option (aw×(Int)):=
 (mw N a0 a1 true).bind fun r1=>some (r1.1,r1.2)
def VB(N:Nat)(a0:aa)(a1:ag)(a2:Int):Option ((Int)×(Int)):=
 (bO N a0 a1).bind fun r1=>cond (!r1) (some ((0:Int),(1:Int))) ((Ai N a1.2.1 a2).bind fun r2=>cond (!r2.2) (some ((0:Int),(3:Int))) ((tK N a1.2.2.2.1 a2).bind fun r3=>(Sc N a0 r3).bind fun r4=>(K8 N a1 a2).bind fun r5=>cond (bU r5 0) (some ((0:Int),(0:Int))) ((rZ N r4.1).bind fun r6=>cond (r6.2) (cond (aH r6.1 r5) (some (r6.1,(0:Int))) (some (r5,(0:Int)))) (some (r5,(0:Int))))))
abbrev mZ.bb:=aj→Int→Int→aj→Int→Option aj
def mZ.c0(N:Nat)(bf:mZ.bb)(x0:aj)(x1:Int)(x2:Int)(x7:aj)(x8:Int):Option aj:=
 cond (aH x8 (List.length x0:Int)) (cond (aL x8 (List.length x0)) (cond (ay ((List.getD x0 x8.toNat aQ).1) x1) (cond (aL x8 (List.length x0)) (cond (aL x8 (List.length x0)) (let v3:Int:=W .i64 (0-((((List.getD x0 x8.toNat aQ).2).2).1));cond (aL x8 (List.length x0)) (cond (aL x8 (List.length x0)) (cond (small (List.length x7+List.length ([(x1,(((List.getD x0 x8.toNat aQ).2).1,(v3,()))),(x2,(((List.getD x0 x8.toNat aQ).2).1,((((List.getD x0 x8.toNat aQ).2).2).1,())))]))) (bf x0 x1 x2 (x7++([(x1,(((List.getD x0 x8.toNat aQ).2).1,(v3,()))),(x2,(((List.getD x0 x8.toNat aQ).2).1,((((List.getD x0 x8.toNat aQ).2).2).1,())))])) (W .i64 (x8+1))) (none)) (none)) (none)) (none)) (none)) (bf x0 x1 x2 x7 (W .i64 (x8+1)))) (none)) (some x7)
def mZ.l5(N:Nat):Nat→mZ.bb
 |0,_,_,_,_,_=>none
 |n+1,x0,x1,x2,x7,x8=>mZ.c0 N (mZ.l5 N n) x0 x1 x2 x7 x8
def mZ.b(N:Nat)(dk:mZ.bb)(a0:aj)(a1:Int)(a2:Int):Option aj:=
 (uH N a0).bind fun r1=>cond (!r1) (some ([])) (cond (ay a1 a2) (some ([])) (cond (aH a1 0) (some ([])) (cond (aH 24 a1) (some ([])) (cond (aH a2 0) (some ([])) (cond (aH 24 a2) (some ([])) (dk a0 a1 a2 ([]) (0:Int)))))))
def mZ(N:Nat)(a0:aj)(a1:Int)(a2:Int):Option aj:=mZ.b N (mZ.l5 N N) a0 a1 a2
abbrev fW.sB:=Int→aa→ag→ag→aj→br→Int→bh→Option (ag×(Int))
abbrev fW.ej:=Int→aa→ag→ag→aj→br→Int→Option (ag×(Int))
def fW.mu(N:Nat)(dd:fW.ej)(x2:Int)(x3:aa)(x4:ag)(x6:ag)(x8:aj)(x9:br)(aP:Int)(aI:bh):Option (ag×(Int)):=
 (K8 N x4 aI.1).bind fun iB=>cond (aH iB 0) ((gN N iB).bind fun kv=>(Pw N kv).bind fun lx=>(A9 N (2:Int) (0:Int) (5:Int) aI.1 lx).bind fun kV=>cond (small (List.length x9+List.length kV)) ((mZ N x4.2.2.2.1 aI.1 (0:Int)).bind fun pA=>cond (small (List.length x8+List.length pA)) (dd x2 x3 x4 x6 (x8++pA) (x9++kV) (W .i64 (aP+1))) (none)) (none)) ((mZ N x4.2.2.2.1 aI.1 (0:Int)).bind fun wo=>cond (small (List.length x8+List.length wo)) (dd x2 x3 x4 x6 (x8++wo) x9 (W .i64 (aP+1))) (none))
def fW.rA(N:Nat)(dd:fW.ej)(x2:Int)(x3:aa)(x4:ag)(x6:ag)(x8:aj)(x9:br)(aP:Int)(aI:bh):Option (ag×(Int)):=fW.mu N dd x2 x3 x4 x6 x8 x9 aP aI
def fW.wk(N:Nat)(kd:fW.sB)(dd:fW.ej)(x2:Int)(x3:aa)(x4:ag)(x6:ag)(x8:aj)(x9:br)(aP:Int):Option (ag×(Int)):=
 cond (aH aP (List.length x4.2.1:Int)) (cond (aL aP (List.length x4.2.1)) (cond (!ay (((List.getD x4.2.1 aP.toNat aJ).2).1) x2) (dd x2 x3 x4 x6 x8 x9 (W .i64 (aP+1))) (cond (ay ((((List.getD x4.2.1 aP.toNat aJ).2).2).1) (2:Int)) ((VB N x3 x4 ((List.getD x4.2.1 aP.toNat aJ).1)).bind fun r5=>(gN N r5.1).bind fun r6=>(A9 N (5:Int) ((List.getD x4.2.1 aP.toNat aJ).1) (2:Int) (0:Int) r6).bind fun r7=>cond (small (List.length x9+List.length r7)) (kd x2 x3 x4 x6 x8 (x9++r7) aP (List.getD x4.2.1 aP.toNat aJ)) (none)) (kd x2 x3 x4 x6 x8 x9 aP (List.getD x4.2.1 aP.toNat aJ)))) (none)) ((A4 N x4 x8 x9).bind fun JP=>some (JP.1,JP.2))
def fW.l8(N:Nat):Nat→fW.ej
 |0,_,_,_,_,_,_,_=>none
 |n+1,x2,x3,x4,x6,x8,x9,aP=>fW.wk N (fW.rA N (fW.l8 N n)) (fW.l8 N n) x2 x3 x4 x6 x8 x9 aP
def fW.b(N:Nat)(w8:fW.ej)(a0:aa)(a1:ag)(a2:Int):Option (ag×(Int)):=
 (bO N a0 a1).bind fun r1=>cond (!r1) (some ((bF,(cc,(aY,(aY,(cv,(cF,())))))),(1:Int))) ((E0 N a1 a2).bind fun r2=>cond (ay r2 0) (some ((bF,(cc,(aY,(aY,(cv,(cF,())))))),(3:Int))) (w8 a2 a0 a1 (bF,(cc,(aY,(aY,(cv,(cF,())))))) ([]) ([]) (0:Int)))
def fW(N:Nat)(a0:aa)(a1:ag)(a2:Int):Option (ag×(Int)):=fW.b N (fW.l8 N N) a0 a1 a2
abbrev j2.bb:=aa→ag→ku→Int→Option (ku×(Int))
def j2.c0(N:Nat)(bf:j2.bb)(x2:aa)(x3:ag)(x6:ku)(x7:Int):Option (ku×(Int)):=
 cond (aH x7 (List.length x2.1:Int)) (cond (aL x7 (List.length x2.1)) (cond (aL ((List.getD x2.1 x7.toNat aJ).1) (List.length x6)) ((tJ N x3.2.2.2.1 (0:Int) x7).bind fun r4=>(gN N r4).bind fun r5=>cond (aL x7 (List.length x3.2.2.2.2.1)) ((gN N (List.getD x3.2.2.2.2.1 x7.toNat (0:Int))).bind fun r6=>(gv N r5 r6).bind fun r7=>(vk N (List.getD x6 ((List.getD x2.1 x7.toNat aJ).1).toNat (false,lz)) r7).bind fun r8=>cond (aL ((List.getD x2.1 x7.toNat aJ).1) (List.length x6)) (bf x2 x3 (List.set x6 ((List.getD x2.1 x7.toNat aJ).1).toNat r8) (W .i64 (x7+1))) (none)) (none)) (none)) (none)) (some (x6,(0:Int)))
def j2.l5(N:Nat):Nat→j2.bb
 |0,_,_,_,_=>none
 |n+1,x2,x3,x6,x7=>j2.c0 N (j2.l5 N n) x2 x3 x6 x7
def j2.b(N:Nat)(dk:j2.bb)(a0:aa)(a1:ag):Option (ku×(Int)):=
 (bO N a0 a1).bind fun r1=>cond (!r1) (some ([],(1:Int))) (cond (fX 4 4) (dk a0 a1 (List.replicate (4:Int).toNat (false,lz)) (0:Int)) (none))
def j2(N:Nat)(a0:aa)(a1:ag):Option (ku×(Int)):=j2.b N (j2.l5 N N) a0 a1
abbrev xV.bb:=Int→aa→(List (Int))→Int→Option (List (Int))
def xV.c0(N:Nat)(bf:xV.bb)(x1:Int)(x2:aa)(x5:List (Int))(x6:Int):Option (List (Int)):=
 cond (aH x6 (List.length x2.1:Int)) (cond (aL x6 (List.length x2.1)) (cond (ay ((List.getD x2.1 x6.toNat aJ).1) x1) (cond (small (List.length x5+List.length ([x6]))) (bf x1 x2 (x5++([x6])) (W .i64 (x6+1))) (none)) (bf x1 x2 x5 (W .i64 (x6+1)))) (none)) (some x5)
def xV.l5(N:Nat):Nat→xV.bb
 |0,_,_,_,_=>none
 |n+1,x1,x2,x5,x6=>xV.c0 N (xV.l5 N n) x1 x2 x5 x6
def xV.b(N:Nat)(dk:xV.bb)(a0:aa)(a1:Int):Option (List (Int)):=
 (iZ N a0).bind fun r1=>cond (!r1) (some ([])) (dk a1 a0 ([]) (0:Int))
def xV(N:Nat)(a0:aa)(a1:Int):Option (List (Int)):=xV.b N (xV.l5 N N) a0 a1
abbrev mf.bn:=(List (Int))→(List (Int))→Int→Int→Option ((List (Int))×(Int))
def mf.c5(N:Nat)(bJ:mf.bn)(x0:List (Int))(x4:List (Int))(x5:Int)(x6:Int):Option ((List (Int))×(Int)):=
 cond (bU 0 x6) (cond (aH 32 0) (none) (cond (aL x6 (List.length x0)) (let v5:Int:=jx .or .u64 (W .u64 (shl .u64 x5 32)) (List.getD x0 x6.toNat (0:Int));cond (aH 1 0) (none) (cond (aL x6 (List.length x4)) (bJ x0 (List.set x4 x6.toNat (shr .u64 v5 1)) (jx .and .u64 v5 1) (W .i64 (x6-1))) (none))) (none))) ((kG N x4).bind fun iB=>some (iB,x5))
def mf.l4(N:Nat):Nat→mf.bn
 |0,_,_,_,_=>none
 |n+1,x0,x4,x5,x6=>mf.c5 N (mf.l4 N n) x0 x4 x5 x6
def mf.b(N:Nat)(dz:mf.bn)(a0:List (Int)):Option ((List (Int))×(Int)):=
 cond (fX (List.length a0:Int) (List.length a0:Int)) (dz a0 (List.replicate (List.length a0:Int).toNat (0:Int)) (0:Int) (W .i64 ((List.length a0:Int)-1))) (none)
def mf(N:Nat)(a0:List (Int)):Option ((List (Int))×(Int)):=mf.b N (mf.l4 N N) a0
abbrev fa.ji:=aw→aw→aw→aw→(List (Int))→aw→aw→Int→Option (aw×aw)
abbrev fa.cO:=aw→aw→aw→aw→(List (Int))→(List (Int))→Option (aw×aw)
def fa.tk(N:Nat)(my:fa.ji)(x2:aw)(x3:aw)(x4:aw)(x5:aw)(x6:List (Int))(aP:aw)(aI:aw)(aO:Int):Option (aw×aw):=
 cond (bU 0 aO) ((vk N aP aP).bind fun r6=>(vk N aI aI).bind fun r7=>cond (aL aO (List.length x6)) (cond (ay (List.getD x6 aO.toNat (0:Int)) (1:Int)) ((gN N (1:Int)).bind fun r8=>(vk N r7 r8).bind fun r9=>(JL N r9 x3).bind fun iB=>cond (bU 0 iB) ((Mp N r9 x3).bind fun kv=>(gN N (1:Int)).bind fun lx=>(vk N r6 lx).bind fun kV=>my x2 x3 x4 x5 x6 kV kv (W .i64 (aO-1))) (my x2 x3 x4 x5 x6 r6 r9 (W .i64 (aO-1)))) ((JL N r7 x3).bind fun tt=>cond (bU 0 tt) ((Mp N r7 x3).bind fun o8=>(gN N (1:Int)).bind fun wo=>(vk N r6 wo).bind fun E8=>my x2 x3 x4 x5 x6 E8 o8 (W .i64 (aO-1))) (my x2 x3 x4 x5 x6 r6 r7 (W .i64 (aO-1))))) (none)) (cond (!x2.1) (some (aP,aI)) ((Mq N aI).bind fun JT=>cond (ay JT 0) ((Pw N aP).bind fun Bi=>some (Bi,aI)) ((Pw N aP).bind fun FB=>(gN N (1:Int)).bind fun DG=>(Mp N FB DG).bind fun wq=>(Mp N x3 aI).bind fun Ph=>some (wq,Ph))))
def fa.l9(N:Nat):Nat→fa.ji
 |0,_,_,_,_,_,_,_,_=>none
 |n+1,x2,x3,x4,x5,x6,aP,aI,aO=>fa.tk N (fa.l9 N n) x2 x3 x4 x5 x6 aP aI aO
def fa.kq(N:Nat)(uB:fa.ji)(ct:fa.cO)(x2:aw)(x3:aw)(x4:aw)(x5:aw)(x6:List (Int))(x7:List (Int)):Option (aw×aw):=
 cond (aH 0 (List.length x7:Int)) ((mf N x7).bind fun r2=>cond (small (List.length x6+List.length ([r2.2]))) (ct x2 x3 x4 x5 (x6++([r2.2])) r2.1) (none)) (uB x2 x3 x4 x5 x6 (false,lz) (false,lz) (W .i64 ((List.length x6:Int)-1)))
def fa.l3(N:Nat):Nat→fa.cO
 |0,_,_,_,_,_,_=>none
 |n+1,x2,x3,x4,x5,x6,x7=>fa.kq N (fa.l9 N N) (fa.l3 N n) x2 x3 x4 x5 x6 x7
def fa.b(N:Nat)(kW:fa.cO)(a0:aw)(a1:aw):Option (aw×aw):=
 kW a0 a1 (false,lz) (false,lz) ([]) a0.2.1
def fa(N:Nat)(a0:aw)(a1:aw):Option (aw×aw):=fa.b N (fa.l3 N N) a0 a1
abbrev mD.sB:=Int→aa→ag→ku→aD→Int→(List (Int))→Int→Option (aD×(Int))
abbrev mD.eX:=Int→aa→ag→ku→aD→Int→Option (aD×(Int))
def mD.mu(N:Nat)(eY:mD.eX)(x2:Int)(x3:aa)(x4:ag)(x8:ku)(aP:aD)(aI:Int)(aO:List (Int))(cT:Int):Option (aD×(Int)):=
 cond (ay cT 0) (eY x2 x3 x4 x8 aP (W .i64 (aI+1))) (cond (aL 0 (List.length aO)) (cond (aL aI (List.length x8)) ((Mq N (List.getD x8 aI.toNat (false,lz))).bind fun mE=>cond (aH 0 mE) (cond (small (List.length aP+List.length ([(x2,(List.getD aO (0:Int).toNat (0:Int),((2:Int),(cT,()))))]))) (eY (W .i64 (x2+1)) x3 x4 x8 (aP++([(x2,(List.getD aO (0:Int).toNat (0:Int),((2:Int),(cT,()))))])) (W .i64 (aI+1))) (none)) (cond (small (List.length aP+List.length ([(x2,(List.getD aO (0:Int).toNat (0:Int),((1:Int),(cT,()))))]))) (eY (W .i64 (x2+1)) x3 x4 x8 (aP++([(x2,(List.getD aO (0:Int).toNat (0:Int),((1:Int),(cT,()))))])) (W .i64 (aI+1))) (none))) (none)) (none))
def mD.rA(N:Nat)(eY:mD.eX)(x2:Int)(x3:aa)(x4:ag)(x8:ku)(aP:aD)(aI:Int)(aO:List (Int))(cT:Int):Option (aD×(Int)):=mD.mu N eY x2 x3 x4 x8 aP aI aO cT
def mD.pn(N:Nat)(kd:mD.sB)(eY:mD.eX)(x2:Int)(x3:aa)(x4:ag)(x8:ku)(aP:aD)(aI:Int):Option (aD×(Int)):=
 cond (aH aI 4) ((xV N x3 aI).bind fun r3=>cond (aL aI (List.length x8)) ((QK N (List.getD x8 aI.toNat (false,lz))).bind fun r4=>cond (ay (List.length r3:Int) 0) (eY x2 x3 x4 x8 aP (W .i64 (aI+1))) ((gN N x3.2.2.2.2.2.2.1).bind fun r6=>(JL N r4 r6).bind fun r7=>cond (bU r7 0) (eY x2 x3 x4 x8 aP (W .i64 (aI+1))) (cond (aL 0 (List.length r3)) (cond (aL (List.getD r3 (0:Int).toNat (0:Int)) (List.length x4.2.2.2.2.1)) ((gN N (List.getD x4.2.2.2.2.1 (List.getD r3 (0:Int).toNat (0:Int)).toNat (0:Int))).bind fun r9=>(fa N r4 r9).bind fun iB=>(rZ N iB.1).bind fun kv=>cond (!kv.2) (kd x2 x3 x4 x8 aP aI r3 (1000000000:Int)) (cond (aH 1000000000 kv.1) (kd x2 x3 x4 x8 aP aI r3 (1000000000:Int)) (kd x2 x3 x4 x8 aP aI r3 kv.1))) (none)) (none)))) (none)) (some (aP,(0:Int)))
def mD.l6(N:Nat):Nat→mD.eX
 |0,_,_,_,_,_,_=>none
 |n+1,x2,x3,x4,x8,aP,aI=>mD.pn N (mD.rA N (mD.l6 N n)) (mD.l6 N n) x2 x3 x4 x8 aP aI
def mD.b(N:Nat)(q4:mD.eX)(a0:aa)(a1:ag)(a2:Int):Option (aD×(Int)):=
 (j2 N a0 a1).bind fun r1=>cond (!ay r1.2 0) (some ([],(1:Int))) (cond (aH a2 1) (some ([],(1:Int))) (cond (aH 1099511627772 a2) (some ([],(1:Int))) (q4 a2 a0 a1 r1.1 ([]) (0:Int))))
def mD(N:Nat)(a0:aa)(a1:ag)(a2:Int):Option (aD×(Int)):=mD.b N (mD.l6 N N) a0 a1 a2
def RK(N:Nat)(a0:bh):Option (Bool):=
 cond (bU 1 a0.1) (cond (bU a0.1 1099511627776) (cond (bU 0 a0.2.1) (cond (aH a0.2.1 6) (cond (ay a0.2.2.1 1) (cond (bU 1 a0.2.2.2.1) (some (bU a0.2.2.2.1 1000000000)) (some false)) (cond (ay a0.2.2.1 2) (cond (bU 1 a0.2.2.2.1) (some (bU a0.2.2.2.1 1000000000)) (some false)) (some false))) (some false)) (some false)) (some false)) (some false)
abbrev qU.aiu:=Int→aa→ag→bh→ag→bh→fZ→Option (ag×bh×(Int))
def qU.acx(N:Nat)(x4:Int)(x6:aa)(x7:ag)(x8:bh)(aO:ag)(ba:bh)(cQ:fZ):Option (ag×bh×(Int)):=
 (fM N x6 x7 ([cQ])).bind fun r6=>cond (!ay r6.2 0) (some ((bF,(cc,(aY,(aY,(cv,(cF,())))))),aJ,r6.2)) (some (r6.1,(x8.1,(x8.2.1,(x8.2.2.1,((W .i64 (x8.2.2.2.1-x4)),x8.2.2.2.2)))),(0:Int)))
def qU.j14(N:Nat)(x4:Int)(x6:aa)(x7:ag)(x8:bh)(aO:ag)(ba:bh)(cQ:fZ):Option (ag×bh×(Int)):=qU.acx N x4 x6 x7 x8 aO ba cQ
def qU.b(N:Nat)(aaH:qU.aiu)(a0:aa)(a1:ag)(a2:bh)(a3:Int)(a4:Int)(a5:Int):Option (ag×bh×(Int)):=
 (bO N a0 a1).bind fun r1=>cond (!r1) (some ((bF,(cc,(aY,(aY,(cv,(cF,())))))),aJ,(1:Int))) ((RK N a2).bind fun r2=>cond (!r2) (some ((bF,(cc,(aY,(aY,(cv,(cF,())))))),aJ,(1:Int))) (cond (aH a4 1) (some ((bF,(cc,(aY,(aY,(cv,(cF,())))))),aJ,(1:Int))) (cond (aH 1000000000 a4) (some ((bF,(cc,(aY,(aY,(cv,(cF,())))))),aJ,(1:Int))) (cond (aH a5 1) (some ((bF,(cc,(aY,(aY,(cv,(cF,())))))),aJ,(1:Int))) (cond (aH 1000000000000 a5) (some ((bF,(cc,(aY,(aY,(cv,(cF,())))))),aJ,(1:Int))) (cond (aH a2.2.2.2.1 a4) (some ((bF,(cc,(aY,(aY,(cv,(cF,())))))),aJ,(9:Int))) (cond (aH a3 1) (some ((bF,(cc,(aY,(aY,(cv,(cF,())))))),aJ,(1:Int))) (cond (aH 24 a3) (some ((bF,(cc,(aY,(aY,(cv,(cF,())))))),aJ,(1:Int))) ((RP N a0 a1 (a2.1,(a3,(a2.2.1,((W .i64 ((3:Int)-a2.2.2.1)),(a4,(a5,()))))))).bind fun r4=>cond (!ay r4 0) (some ((bF,(cc,(aY,(aY,(cv,(cF,())))))),aJ,r4)) (cond (ay a2.2.2.1 2) (aaH a4 a0 a1 a2 (bF,(cc,(aY,(aY,(cv,(cF,())))))) aJ (a3,((0:Int),(a2.2.1,(a4,(a5,())))))) (aaH a4 a0 a1 a2 (bF,(cc,(aY,(aY,(cv,(cF,())))))) aJ ((0:Int),(a3,(a2.2.1,(a4,(a5,()))))))))))))))))
def qU(N:Nat)(a0:aa)(a1:ag)(a2:bh)(a3:Int)(a4:Int)(a5:Int):Option (ag×bh×(Int)):=qU.b N (qU.j14 N) a0 a1 a2 a3 a4 a5
abbrev oa.bb:=aa→aM→fO→aM→bW→aD→Bool→Int→Int→Option (aM×bW)
def oa.c0(N:Nat)(bf:oa.bb)(x3:aa)(x4:aM)(x5:fO)(x6:aM)(x7:bW)(x8:aD)(x9:Bool)(aP:Int)(aI:Int):Option (aM×bW):=
 cond (aH aI (List.length x4.2.2.2.1.2.2.2.2.1:Int)) (cond (aL aI (List.length x4.2.2.2.1.2.2.2.2.1)) (cond (ay ((List.getD x4.2.2.2.1.2.2.2.2.1 aI.toNat aJ).1) x5.2.2.2.2.2.1) ((qU N x3 x4.2.2.1 (List.getD x4.2.2.2.1.2.2.2.2.1 aI.toNat aJ) x5.2.2.1 x5.2.2.2.2.2.2.1 x5.2.2.2.2.2.2.2.1).bind fun r2=>cond (!ay r2.2.2 0) ((ea N r2.2.2).bind fun r3=>some (x4,r3)) (cond (aH 0 r2.2.1.2.2.2.1) (cond (small (List.length x8+List.length ([r2.2.1]))) (bf x3 (x4.1,(x4.2.1,(r2.1,x4.2.2.2))) x5 x6 x7 (x8++([r2.2.1])) true r2.2.1.2.2.2.1 (W .i64 (aI+1))) (none)) (bf x3 (x4.1,(x4.2.1,(r2.1,x4.2.2.2))) x5 x6 x7 x8 true r2.2.1.2.2.2.1 (W .i64 (aI+1))))) (cond (aH 0 (((((List.getD x4.2.2.2.1.2.2.2.2.1 aI.toNat aJ).2).2).2).1)) (cond (small (List.length x8+List.length ([List.getD x4.2.2.2.1.2.2.2.2.1 aI.toNat aJ]))) (bf x3 x4 x5 x6 x7 (x8++([List.getD x4.2.2.2.1.2.2.2.2.1 aI.toNat aJ])) x9 aP (W .i64 (aI+1))) (none)) (bf x3 x4 x5 x6 x7 x8 x9 aP (W .i64 (aI+1))))) (none)) (cond (!x9) ((ea N (3:Int)).bind fun iB=>some (x4,iB)) (some ((x4.1,(x4.2.1,(x4.2.2.1,((x4.2.2.2.1.1,(x4.2.2.2.1.2.1,(x4.2.2.2.1.2.2.1,(x4.2.2.2.1.2.2.2.1,(x8,x4.2.2.2.1.2.2.2.2.2))))),x4.2.2.2.2)))),((0:Int),((0:Int),(aP,()))))))
def oa.l5(N:Nat):Nat→oa.bb
 |0,_,_,_,_,_,_,_,_,_=>none
 |n+1,x3,x4,x5,x6,x7,x8,x9,aP,aI=>oa.c0 N (oa.l5 N n) x3 x4 x5 x6 x7 x8 x9 aP aI
def oa.b(N:Nat)(dk:oa.bb)(a0:aa)(a1:aM)(a2:fO):Option (aM×bW):=
 dk a0 a1 a2 ((0:Int),((0:Int),((bF,(cc,(aY,(aY,(cv,(cF,())))))),(((0:Int),((0:Int),((0:Int),((0:Int),(cc,(([]:List ((Int)×((List ((Int)×((Int)×(Unit))))×((Int)×((Int)×((Int)×((Int)×(Unit)))))))),(cc,(cv,(bF,(bF,())))))))))),(((0:Int),((0:Int),(yX,((0:Int),())))),()))))) aQ ([]) false (0:Int) (0:Int)
def oa(N:Nat)(a0:aa)(a1:aM)(a2:fO):Option (aM×bW):=oa.b N (oa.l5 N N) a0 a1 a2
abbrev n4.bn:=Int→aw→Int→Option (Int)
def n4.c5(N:Nat)(bJ:n4.bn)(x1:Int)(x2:aw)(x5:Int):Option (Int):=
 cond (aH x5 3) ((gN N x5).bind fun r3=>(gN N x1).bind fun r4=>(gv N r3 r4).bind fun r5=>(JL N r5 x2).bind fun r6=>cond (aH r6 0) (bJ x1 x2 (W .i64 (x5+1))) (some x5)) (some x5)
def n4.l4(N:Nat):Nat→n4.bn
 |0,_,_,_=>none
 |n+1,x1,x2,x5=>n4.c5 N (n4.l4 N n) x1 x2 x5
def n4.b(N:Nat)(dz:n4.bn)(a0:aw)(a1:Int):Option (Int):=
 (Mq N a0).bind fun r1=>cond (bU r1 0) (some (0:Int)) (cond (aH a1 1) (some (0:Int)) (dz a1 a0 (1:Int)))
def n4(N:Nat)(a0:aw)(a1:Int):Option (Int):=n4.b N (n4.l4 N N) a0 a1
abbrev mq.bn:=(List (Int))→Int→Option (Bool)
def mq.c5(N:Nat)(bJ:mq.bn)(x1:List (Int))(x5:Int):Option (Bool):=
 cond (aH x5 (List.length x1:Int)) (cond (aL x5 (List.length x1)) (cond (aH (List.getD x1 x5.toNat (0:Int)) (0:Int)) (some true) (bJ x1 (W .i64 (x5+1)))) (none)) (some false)
def mq.l4(N:Nat):Nat→mq.bn
 |0,_,_=>none
 |n+1,x1,x5=>mq.c5 N (mq.l4 N n) x1 x5
def mq.b(N:Nat)(dz:mq.bn)(a0:Int)(a1:List (Int)):Option (Bool):=
 cond (aH a0 0) (some true) (cond (aH 64 (List.length a1:Int)) (some true) (dz a1 (0:Int)))
def mq(N:Nat)(a0:Int)(a1:List (Int)):Option (Bool):=mq.b N (mq.l4 N N) a0 a1
abbrev me.cO:=(List (Int))→aw→aw→Int→Option aw
def me.kq(N:Nat)(ct:me.cO)(x0:List (Int))(x2:aw)(x3:aw)(x4:Int):Option aw:=
 cond (aH x4 (List.length x0:Int)) (cond (aL x4 (List.length x0)) ((gN N (List.getD x0 x4.toNat (0:Int))).bind fun r2=>(vk N x3 r2).bind fun r3=>ct x0 x2 r3 (W .i64 (x4+1))) (none)) (some x3)
def me.l3(N:Nat):Nat→me.cO
 |0,_,_,_,_=>none
 |n+1,x0,x2,x3,x4=>me.kq N (me.l3 N n) x0 x2 x3 x4
def me.b(N:Nat)(kW:me.cO)(a0:List (Int)):Option aw:=
 kW a0 (false,lz) (false,lz) (0:Int)
def me(N:Nat)(a0:List (Int)):Option aw:=me.b N (me.l3 N N) a0
abbrev dy.SD:=(List (Int))→(List (Int))→Int→Int→Option (List (Int))
abbrev dy.eX:=(List (Int))→(List (Int))→Int→Int→Option (List (Int))
abbrev dy.cO:=(List (Int))→(List (Int))→Int→Option (List (Int))
def dy.Rb(N:Nat)(ct:dy.cO)(x0:List (Int))(x3:List (Int))(x4:Int)(x5:Int):Option (List (Int)):=
 cond (gD 0 x5 (List.length x3:Int) (List.length x3:Int)) (let v5:List (Int):=List.drop (0:Int).toNat (List.take x5.toNat x3);cond (small (List.length v5)) (cond (small (List.length v5+List.length ([x4]))) (let v6:List (Int):=v5++([x4]);cond (gD x5 (List.length x3:Int) (List.length x3:Int) (List.length x3:Int)) (let v7:List (Int):=List.drop x5.toNat (List.take (List.length x3:Int).toNat x3);cond (small (List.length v6+List.length v7)) (ct x0 (v6++v7) (W .i64 (x4+1))) (none)) (none)) (none)) (none)) (none)
def dy.j8(N:Nat)(ct:dy.cO)(x0:List (Int))(x3:List (Int))(x4:Int)(x5:Int):Option (List (Int)):=dy.Rb N ct x0 x3 x4 x5
def dy.pn(N:Nat)(Ig:dy.SD)(ct:dy.cO)(eY:dy.eX)(x0:List (Int))(x3:List (Int))(x4:Int)(x5:Int):Option (List (Int)):=
 cond (aH x5 (List.length x3:Int)) (cond (aL x5 (List.length x3)) (cond (aL (List.getD x3 x5.toNat (0:Int)) (List.length x0)) (cond (aL x4 (List.length x0)) (cond (bU (List.getD x0 x4.toNat (0:Int)) (List.getD x0 (List.getD x3 x5.toNat (0:Int)).toNat (0:Int))) (eY x0 x3 x4 (W .i64 (x5+1))) (Ig x0 x3 x4 x5)) (none)) (none)) (none)) (Ig x0 x3 x4 x5)
def dy.l6(N:Nat)(ct:dy.cO):Nat→dy.eX
 |0,_,_,_,_=>none
 |n+1,x0,x3,x4,x5=>dy.pn N (dy.j8 N ct) ct (dy.l6 N ct n) x0 x3 x4 x5
def dy.kq(N:Nat)(q4:dy.eX)(ct:dy.cO)(x0:List (Int))(x3:List (Int))(x4:Int):Option (List (Int)):=
 cond (aH x4 (List.length x0:Int)) (q4 x0 x3 x4 (0:Int)) (some x3)
def dy.l3(N:Nat):Nat→dy.cO
 |0,_,_,_=>none
 |n+1,x0,x3,x4=>dy.kq N (dy.l6 N (dy.l3 N n) N) (dy.l3 N n) x0 x3 x4
def dy.b(N:Nat)(kW:dy.cO)(a0:List (Int)):Option (List (Int)):=
 kW a0 ([]) (0:Int)
def dy(N:Nat)(a0:List (Int)):Option (List (Int)):=dy.b N (dy.l3 N N) a0
abbrev dJ.od:=(List (Int))→Int→(List (Int))→Int→Option ((List (Int))×(Int))
abbrev dJ.sE:=Int→(List (Int))→aw→(List (Int))→(List (Int))→Int→Int→Option ((List (Int))×(Int))
abbrev dJ.Lq:=Int→(List (Int))→aw→Option ((List (Int))×(Int))
def dJ.sf(N:Nat)(Bh:dJ.od)(x9:List (Int))(aI:Int)(b7:List (Int))(cT:Int):Option ((List (Int))×(Int)):=
 cond (aH cT (List.length b7:Int)) (cond (aH 0 aI) (cond (aL cT (List.length b7)) (cond (aL (List.getD b7 cT.toNat (0:Int)) (List.length x9)) (cond (aL (List.getD b7 cT.toNat (0:Int)) (List.length x9)) (Bh (List.set x9 (List.getD b7 cT.toNat (0:Int)).toNat (W .i64 ((List.getD x9 (List.getD b7 cT.toNat (0:Int)).toNat (0:Int))+1))) (W .i64 (aI-1)) b7 (W .i64 (cT+1))) (none)) (none)) (none)) (some (x9,(0:Int)))) (some (x9,(0:Int)))
def dJ.tq(N:Nat):Nat→dJ.od
 |0,_,_,_,_=>none
 |n+1,x9,aI,b7,cT=>dJ.sf N (dJ.tq N n) x9 aI b7 cT
def dJ.AL(N:Nat)(Bj:dJ.od)(yh:dJ.sE)(x0:Int)(x1:List (Int))(x6:aw)(x9:List (Int))(aP:List (Int))(aI:Int)(aO:Int):Option ((List (Int))×(Int)):=
 cond (aH aO (List.length x1:Int)) ((gN N x0).bind fun iB=>cond (aL aO (List.length x1)) ((gN N (List.getD x1 aO.toNat (0:Int))).bind fun kv=>(gv N iB kv).bind fun lx=>(fa N lx x6).bind fun kV=>(rZ N kV.1).bind fun mE=>cond (aL aO (List.length x9)) (let VO:List (Int):=List.set x9 aO.toNat mE.1;(rZ N kV.2).bind fun tt=>cond (aL aO (List.length aP)) (cond (aL aO (List.length VO)) (yh x0 x1 x6 VO (List.set aP aO.toNat tt.1) (W .i64 (aI-(List.getD VO aO.toNat (0:Int)))) (W .i64 (aO+1))) (none)) (none)) (none)) (none)) ((dy N aP).bind fun Ih=>Bj x9 aI Ih (0:Int))
def dJ.C9(N:Nat):Nat→dJ.sE
 |0,_,_,_,_,_,_,_=>none
 |n+1,x0,x1,x6,x9,aP,aI,aO=>dJ.AL N (dJ.tq N N) (dJ.C9 N n) x0 x1 x6 x9 aP aI aO
def dJ.JK(N:Nat)(Im:dJ.sE)(x0:Int)(x1:List (Int))(x6:aw):Option ((List (Int))×(Int)):=
 (rZ N x6).bind fun r5=>cond (!r5.2) (some ([],(2:Int))) (cond (fX (List.length x1:Int) (List.length x1:Int)) (let v6:List (Int):=List.replicate (List.length x1:Int).toNat (0:Int);cond (fX (List.length x1:Int) (List.length x1:Int)) ((Mq N x6).bind fun r8=>cond (ay r8 0) (some (v6,(0:Int))) (Im x0 x1 x6 v6 (List.replicate (List.length x1:Int).toNat (0:Int)) x0 (0:Int))) (none)) (none))
def dJ.j6(N:Nat)(x0:Int)(x1:List (Int))(x6:aw):Option ((List (Int))×(Int)):=dJ.JK N (dJ.C9 N N) x0 x1 x6
def dJ.b(N:Nat)(w6:dJ.Lq)(a0:Int)(a1:List (Int)):Option ((List (Int))×(Int)):=
 (mq N a0 a1).bind fun r1=>cond (r1) (some ([],(1:Int))) ((me N a1).bind fun r2=>(Mq N r2).bind fun r3=>cond (ay r3 0) (cond (!ay a0 0) (some ([],(1:Int))) (w6 a0 a1 r2)) (w6 a0 a1 r2))
def dJ(N:Nat)(a0:Int)(a1:List (Int)):Option ((List (Int))×(Int)):=dJ.b N (dJ.j6 N) a0 a1
abbrev nQ.bb:=Int→Int→(List (Int))→Int→Option ((List (Int))×(Int))
def nQ.c0(N:Nat)(bf:nQ.bb)(x0:Int)(x1:Int)(x6:List (Int))(x7:Int):Option ((List (Int))×(Int)):=
 cond (aH x7 x1) (cond (aL x7 (List.length x6)) (bf x0 x1 (List.set x6 x7.toNat (1:Int)) (W .i64 (x7+1))) (none)) ((dJ N x0 x6).bind fun r5=>some (r5.1,r5.2))
def nQ.l5(N:Nat):Nat→nQ.bb
 |0,_,_,_,_=>none
 |n+1,x0,x1,x6,x7=>nQ.c0 N (nQ.l5 N n) x0 x1 x6 x7
def nQ.b(N:Nat)(dk:nQ.bb)(a0:Int)(a1:Int):Option ((List (Int))×(Int)):=
 cond (aH a0 0) (some ([],(1:Int))) (cond (aH a1 1) (some ([],(1:Int))) (cond (aH 64 a1) (some ([],(1:Int))) (cond (fX a1 a1) (dk a0 a1 (List.replicate a1.toNat (0:Int)) (0:Int)) (none))))
def nQ(N:Nat)(a0:Int)(a1:Int):Option ((List (Int))×(Int)):=nQ.b N (nQ.l5 N N) a0 a1
abbrev cZ.aiv:=Int→aa→au→aZ→Int→au→Int→Int→gr→au→Int→(List (Int))→Option (aZ×(Int))
abbrev cZ.SG:=Int→aa→au→aZ→Int→au→Int→Int→gr→au→Int→Int→Option (aZ×(Int))
abbrev cZ.oe:=Int→aa→au→aZ→Int→au→Int→Int→gr→au→Int→Option (aZ×(Int))
abbrev cZ.p7:=Int→aa→au→aZ→Int→au→Int→Int→Option (aZ×(Int))
abbrev cZ.ec:=Int→aa→au→aZ→Int→au→aw→Int→Option (aZ×(Int))
abbrev cZ.ej:=Int→aa→au→aZ→Int→Option (aZ×(Int))
def cZ.acF(N:Nat)(dd:cZ.ej)(jw:cZ.p7)(og:cZ.oe)(x2:Int)(x3:aa)(x8:au)(x9:aZ)(aP:Int)(aI:au)(bl:Int)(b7:Int)(cT:gr)(q5:au)(cQ:Int)(fu:List (Int)):Option (aZ×(Int)):=
 cond (aL b7 (List.length fu)) (cond (!ay (List.getD fu b7.toNat (0:Int)) (0:Int)) (cond (aL cQ (List.length aI)) (cond (aL b7 (List.length fu)) (cond (small (List.length q5+List.length ([((List.getD aI cQ.toNat bI).1,(List.getD fu b7.toNat (0:Int),()))]))) (og x2 x3 x8 x9 aP aI bl b7 (cT.1,(bF,cT.2.2)) (q5++([((List.getD aI cQ.toNat bI).1,(List.getD fu b7.toNat (0:Int),()))])) (W .i64 (cQ+1))) (none)) (none)) (none)) (og x2 x3 x8 x9 aP aI bl b7 cT q5 (W .i64 (cQ+1)))) (none)
def cZ.j32(N:Nat)(dd:cZ.ej)(jw:cZ.p7)(og:cZ.oe)(x2:Int)(x3:aa)(x8:au)(x9:aZ)(aP:Int)(aI:au)(bl:Int)(b7:Int)(cT:gr)(q5:au)(cQ:Int)(fu:List (Int)):Option (aZ×(Int)):=cZ.acF N dd jw og x2 x3 x8 x9 aP aI bl b7 cT q5 cQ fu
def cZ.Lb(N:Nat)(aaI:cZ.aiv)(dd:cZ.ej)(jw:cZ.p7)(og:cZ.oe)(x2:Int)(x3:aa)(x8:au)(x9:aZ)(aP:Int)(aI:au)(bl:Int)(b7:Int)(cT:gr)(q5:au)(cQ:Int)(fe:Int):Option (aZ×(Int)):=
 (nQ N fe bl).bind fun tt=>cond (aL cQ (List.length aI)) (cond (aH (((List.getD aI cQ.toNat bI).2).1) (0:Int)) (cond (aL b7 (List.length tt.1)) (cond (aL b7 (List.length tt.1)) (aaI x2 x3 x8 x9 aP aI bl b7 cT q5 cQ (List.set tt.1 b7.toNat (W .i64 (0-(List.getD tt.1 b7.toNat (0:Int)))))) (none)) (none)) (aaI x2 x3 x8 x9 aP aI bl b7 cT q5 cQ tt.1)) (none)
def cZ.Sb(N:Nat)(dd:cZ.ej)(jw:cZ.p7)(og:cZ.oe)(x2:Int)(x3:aa)(x8:au)(x9:aZ)(aP:Int)(aI:au)(bl:Int)(b7:Int)(cT:gr)(q5:au)(cQ:Int)(fe:Int):Option (aZ×(Int)):=cZ.Lb N (cZ.j32 N dd jw og) dd jw og x2 x3 x8 x9 aP aI bl b7 cT q5 cQ fe
def cZ.z5(N:Nat)(Io:cZ.SG)(dd:cZ.ej)(jw:cZ.p7)(og:cZ.oe)(x2:Int)(x3:aa)(x8:au)(x9:aZ)(aP:Int)(aI:au)(bl:Int)(b7:Int)(cT:gr)(q5:au)(cQ:Int):Option (aZ×(Int)):=
 cond (aH cQ (List.length aI:Int)) (cond (aL cQ (List.length aI)) (cond (aH (((List.getD aI cQ.toNat bI).2).1) (0:Int)) (Io x2 x3 x8 x9 aP aI bl b7 cT q5 cQ (W .i64 (0-(((List.getD aI cQ.toNat bI).2).1)))) (Io x2 x3 x8 x9 aP aI bl b7 cT q5 cQ (((List.getD aI cQ.toNat bI).2).1))) (none)) (cond (ay (List.length q5:Int) 0) (jw x2 x3 x8 x9 aP aI bl (W .i64 (b7+1))) ((Sc N x3 q5).bind fun FB=>(Pw N FB.1).bind fun DG=>(rZ N DG).bind fun wq=>cond (!wq.2) (some ([],(2:Int))) (cond (small (List.length x9+List.length ([(cT.1,(q5,(wq.1,cT.2.2.2)))]))) (jw (W .i64 (x2+1)) x3 x8 (x9++([(cT.1,(q5,(wq.1,cT.2.2.2)))])) aP aI bl (W .i64 (b7+1))) (none))))
def cZ.y5(N:Nat)(dd:cZ.ej)(jw:cZ.p7):Nat→cZ.oe
 |0,_,_,_,_,_,_,_,_,_,_,_=>none
 |n+1,x2,x3,x8,x9,aP,aI,bl,b7,cT,q5,cQ=>cZ.z5 N (cZ.Sb N dd jw (cZ.y5 N dd jw n)) dd jw (cZ.y5 N dd jw n) x2 x3 x8 x9 aP aI bl b7 cT q5 cQ
def cZ.La(N:Nat)(Ib:cZ.oe)(dd:cZ.ej)(jw:cZ.p7)(x2:Int)(x3:aa)(x8:au)(x9:aZ)(aP:Int)(aI:au)(bl:Int)(b7:Int):Option (aZ×(Int)):=
 cond (aH b7 bl) (Ib x2 x3 x8 x9 aP aI bl b7 (x2,(bF,((0:Int),((1:Int),bI)))) bF (0:Int)) (dd x2 x3 x8 x9 (W .i64 (aP+1)))
def cZ.E1(N:Nat)(dd:cZ.ej):Nat→cZ.p7
 |0,_,_,_,_,_,_,_,_=>none
 |n+1,x2,x3,x8,x9,aP,aI,bl,b7=>cZ.La N (cZ.y5 N dd (cZ.E1 N dd n) N) dd (cZ.E1 N dd n) x2 x3 x8 x9 aP aI bl b7
def cZ.jY(N:Nat)(SH:cZ.p7)(dd:cZ.ej)(fv:cZ.ec)(x2:Int)(x3:aa)(x8:au)(x9:aZ)(aP:Int)(aI:au)(aO:aw)(ba:Int):Option (aZ×(Int)):=
 cond (aH ba (List.length x8:Int)) (cond (aL ba (List.length x8)) (cond (aL ((List.getD x8 ba.toNat bI).1) (List.length x3.1)) (cond (ay ((List.getD x3.1 ((List.getD x8 ba.toNat bI).1).toNat aJ).1) aP) (cond (aL ba (List.length x8)) (cond (small (List.length aI+List.length ([List.getD x8 ba.toNat bI]))) (cond (aL ba (List.length x8)) ((gN N (((List.getD x8 ba.toNat bI).2).1)).bind fun r6=>(QK N r6).bind fun r7=>(vk N aO r7).bind fun r8=>fv x2 x3 x8 x9 aP (aI++([List.getD x8 ba.toNat bI])) r8 (W .i64 (ba+1))) (none)) (none)) (none)) (fv x2 x3 x8 x9 aP aI aO (W .i64 (ba+1)))) (none)) (none)) ((n4 N aO x3.2.2.2.2.2.1).bind fun kv=>SH x2 x3 x8 x9 aP aI kv (0:Int))
def cZ.lN(N:Nat)(dd:cZ.ej):Nat→cZ.ec
 |0,_,_,_,_,_,_,_,_=>none
 |n+1,x2,x3,x8,x9,aP,aI,aO,ba=>cZ.jY N (cZ.E1 N dd N) dd (cZ.lN N dd n) x2 x3 x8 x9 aP aI aO ba
def cZ.wk(N:Nat)(p5:cZ.ec)(dd:cZ.ej)(x2:Int)(x3:aa)(x8:au)(x9:aZ)(aP:Int):Option (aZ×(Int)):=
 cond (aH aP 4) (p5 x2 x3 x8 x9 aP ([]) (false,lz) (0:Int)) (some (x9,(0:Int)))
def cZ.l8(N:Nat):Nat→cZ.ej
 |0,_,_,_,_,_=>none
 |n+1,x2,x3,x8,x9,aP=>cZ.wk N (cZ.lN N (cZ.l8 N n) N) (cZ.l8 N n) x2 x3 x8 x9 aP
def cZ.b(N:Nat)(w8:cZ.ej)(a0:aa)(a1:ag)(a2:Int):Option (aZ×(Int)):=
 (bO N a0 a1).bind fun r1=>cond (!r1) (some ([],(1:Int))) (cond (aH a2 1) (some ([],(1:Int))) (cond (aH 1099511627764 a2) (some ([],(1:Int))) ((tK N a1.2.2.2.1 (0:Int)).bind fun r2=>cond (ay (List.length r2:Int) 0) (some ([],(3:Int))) (w8 a2 a0 r2 ([]) (0:Int)))))
def cZ(N:Nat)(a0:aa)(a1:ag)(a2:Int):Option (aZ×(Int)):=cZ.b N (cZ.l8 N N) a0 a1 a2
abbrev n5.bb:=ag→(List (Int))→Int→Option ((List (Int))×(Int))
def n5.c0(N:Nat)(bf:n5.bb)(x3:ag)(x6:List (Int))(x7:Int):Option ((List (Int))×(Int)):=
 cond (aH x7 (List.length x3.1:Int)) (cond (aL x7 (List.length x3.1)) (cond (ay (((List.getD x3.1 x7.toNat bI).2).1) (1:Int)) (cond (aL x7 (List.length x3.1)) ((ri N x3.2.2.1 (6:Int) ((List.getD x3.1 x7.toNat bI).1)).bind fun r3=>cond (aH 0 r3) (cond (aL x7 (List.length x3.1)) (cond (small (List.length x6+List.length ([(List.getD x3.1 x7.toNat bI).1]))) (bf x3 (x6++([(List.getD x3.1 x7.toNat bI).1])) (W .i64 (x7+1))) (none)) (none)) (bf x3 x6 (W .i64 (x7+1)))) (none)) (bf x3 x6 (W .i64 (x7+1)))) (none)) (some (x6,(0:Int)))
def n5.l5(N:Nat):Nat→n5.bb
 |0,_,_,_=>none
 |n+1,x3,x6,x7=>n5.c0 N (n5.l5 N n) x3 x6 x7
def n5.b(N:Nat)(dk:n5.bb)(a0:aa)(a1:ag):Option ((List (Int))×(Int)):=
 (bO N a0 a1).bind fun r1=>cond (!r1) (some ([],(1:Int))) (dk a1 ([]) (0:Int))
def n5(N:Nat)(a0:aa)(a1:ag):Option ((List (Int))×(Int)):=n5.b N (n5.l5 N N) a0 a1
abbrev fy.Ls:=aZ→aa→Int→gr→Option (Bool)
abbrev fy.bn:=aZ→aa→Int→Option (Bool)
def fy.Ki(N:Nat)(bJ:fy.bn)(x1:aZ)(x2:aa)(x5:Int)(x6:gr):Option (Bool):=
 cond (ay x6.2.2.2.1 1) (cond (!ay x6.2.2.2.2.1 0) (some false) (cond (!ay x6.2.2.2.2.2.1 0) (some false) (bJ x1 x2 (W .i64 (x5+1))))) (cond (ay x6.2.2.2.1 3) (cond (!ay x6.2.2.2.2.1 0) (some false) (cond (!ay x6.2.2.2.2.2.1 0) (some false) (bJ x1 x2 (W .i64 (x5+1))))) (cond (ay x6.2.2.2.1 2) (cond (aH x6.2.2.2.2.1 1) (some false) (cond (aH 12 x6.2.2.2.2.1) (some false) (cond (aH x6.2.2.2.2.2.1 (-1152921504606846976)) (some false) (cond (aH 1152921504606846976 x6.2.2.2.2.2.1) (some false) (bJ x1 x2 (W .i64 (x5+1))))))) (some false)))
def fy.j9(N:Nat)(bJ:fy.bn)(x1:aZ)(x2:aa)(x5:Int)(x6:gr):Option (Bool):=fy.Ki N bJ x1 x2 x5 x6
def fy.c5(N:Nat)(Bp:fy.Ls)(bJ:fy.bn)(x1:aZ)(x2:aa)(x5:Int):Option (Bool):=
 cond (aH x5 (List.length x1:Int)) (cond (aL x5 (List.length x1)) (cond (aH ((List.getD x1 x5.toNat ((0:Int),(bF,aJ))).1) (1:Int)) (some false) (cond (aH 1099511627776 ((List.getD x1 x5.toNat ((0:Int),(bF,aJ))).1)) (some false) (cond (aH 0 x5) (let v3:Int:=W .i64 (x5-1);cond (aL v3 (List.length x1)) (cond (bU ((List.getD x1 x5.toNat ((0:Int),(bF,aJ))).1) ((List.getD x1 v3.toNat ((0:Int),(bF,aJ))).1)) (some false) (cond (ay (List.length (((List.getD x1 x5.toNat ((0:Int),(bF,aJ))).2).1):Int) (0:Int)) (some false) ((jW N x2 (((List.getD x1 x5.toNat ((0:Int),(bF,aJ))).2).1)).bind fun r4=>cond (!r4) (some false) (cond (aH 0 ((((List.getD x1 x5.toNat ((0:Int),(bF,aJ))).2).2).1)) (some false) (Bp x1 x2 x5 (List.getD x1 x5.toNat ((0:Int),(bF,aJ)))))))) (none)) (cond (ay (List.length (((List.getD x1 x5.toNat ((0:Int),(bF,aJ))).2).1):Int) (0:Int)) (some false) ((jW N x2 (((List.getD x1 x5.toNat ((0:Int),(bF,aJ))).2).1)).bind fun r9=>cond (!r9) (some false) (cond (aH 0 ((((List.getD x1 x5.toNat ((0:Int),(bF,aJ))).2).2).1)) (some false) (Bp x1 x2 x5 (List.getD x1 x5.toNat ((0:Int),(bF,aJ)))))))))) (none)) (some true)
def fy.l4(N:Nat):Nat→fy.bn
 |0,_,_,_=>none
 |n+1,x1,x2,x5=>fy.c5 N (fy.j9 N (fy.l4 N n)) (fy.l4 N n) x1 x2 x5
def fy.b(N:Nat)(dz:fy.bn)(a0:aa)(a1:aZ):Option (Bool):=
 (iZ N a0).bind fun r1=>cond (!r1) (some false) (cond (aH 12 (List.length a1:Int)) (some false) (dz a1 a0 (0:Int)))
def fy(N:Nat)(a0:aa)(a1:aZ):Option (Bool):=fy.b N (fy.l4 N N) a0 a1
abbrev mY.bP:=aZ→Int→gr→Int→Option (gr×(Bool))
def mY.dr(N:Nat)(cH:mY.bP)(x0:aZ)(x1:Int)(x4:gr)(x6:Int):Option (gr×(Bool)):=
 cond (aH x6 (List.length x0:Int)) (cond (aL x6 (List.length x0)) (cond (ay ((List.getD x0 x6.toNat ((0:Int),(bF,aJ))).1) x1) (cond (aL x6 (List.length x0)) (some (List.getD x0 x6.toNat ((0:Int),(bF,aJ)),true)) (none)) (cH x0 x1 x4 (W .i64 (x6+1)))) (none)) (some (((0:Int),(bF,aJ)),false))
def mY.l2(N:Nat):Nat→mY.bP
 |0,_,_,_,_=>none
 |n+1,x0,x1,x4,x6=>mY.dr N (mY.l2 N n) x0 x1 x4 x6
def mY.b(N:Nat)(ey:mY.bP)(a0:aZ)(a1:Int):Option (gr×(Bool)):=
 ey a0 a1 ((0:Int),(bF,aJ)) (0:Int)
def mY(N:Nat)(a0:aZ)(a1:Int):Option (gr×(Bool)):=mY.b N (mY.l2 N N) a0 a1
abbrev dg.eT:=au→au→au→Int→aw→Int→Option (au×(Bool))
abbrev dg.dm:=au→au→au→Int→aw→Int→Option (au×(Bool))
abbrev dg.cO:=au→au→au→Int→Option (au×(Bool))
def dg.jV(N:Nat)(ct:dg.cO)(gV:dg.eT)(x0:au)(x1:au)(x6:au)(x7:Int)(x8:aw)(aP:Int):Option (au×(Bool)):=
 cond (aH aP (List.length x1:Int)) (cond (aL aP (List.length x1)) (cond (ay ((List.getD x1 aP.toNat bI).1) x7) (cond (aL aP (List.length x1)) ((gN N (((List.getD x1 aP.toNat bI).2).1)).bind fun r8=>(vk N x8 r8).bind fun r9=>gV x0 x1 x6 x7 r9 (W .i64 (aP+1))) (none)) (gV x0 x1 x6 x7 x8 (W .i64 (aP+1)))) (none)) ((RL N x8).bind fun lx=>cond (!lx.2) (some ([],false)) (cond (!ay lx.1 0) (cond (small (List.length x6+List.length ([(x7,(lx.1,()))]))) (ct x0 x1 (x6++([(x7,(lx.1,()))])) (W .i64 (x7+1))) (none)) (ct x0 x1 x6 (W .i64 (x7+1)))))
def dg.kL(N:Nat)(ct:dg.cO):Nat→dg.eT
 |0,_,_,_,_,_,_=>none
 |n+1,x0,x1,x6,x7,x8,aP=>dg.jV N ct (dg.kL N ct n) x0 x1 x6 x7 x8 aP
def dg.oT(N:Nat)(p6:dg.eT)(ct:dg.cO)(c8:dg.dm)(x0:au)(x1:au)(x6:au)(x7:Int)(x8:aw)(x9:Int):Option (au×(Bool)):=
 cond (aH x9 (List.length x0:Int)) (cond (aL x9 (List.length x0)) (cond (ay ((List.getD x0 x9.toNat bI).1) x7) (cond (aL x9 (List.length x0)) ((gN N (((List.getD x0 x9.toNat bI).2).1)).bind fun r3=>(vk N x8 r3).bind fun r4=>c8 x0 x1 x6 x7 r4 (W .i64 (x9+1))) (none)) (c8 x0 x1 x6 x7 x8 (W .i64 (x9+1)))) (none)) (p6 x0 x1 x6 x7 x8 (0:Int))
def dg.l7(N:Nat)(ct:dg.cO):Nat→dg.dm
 |0,_,_,_,_,_,_=>none
 |n+1,x0,x1,x6,x7,x8,x9=>dg.oT N (dg.kL N ct N) ct (dg.l7 N ct n) x0 x1 x6 x7 x8 x9
def dg.kq(N:Nat)(px:dg.dm)(ct:dg.cO)(x0:au)(x1:au)(x6:au)(x7:Int):Option (au×(Bool)):=
 cond (aH x7 6) (px x0 x1 x6 x7 (false,lz) (0:Int)) (some (x6,true))
def dg.l3(N:Nat):Nat→dg.cO
 |0,_,_,_,_=>none
 |n+1,x0,x1,x6,x7=>dg.kq N (dg.l7 N (dg.l3 N n) N) (dg.l3 N n) x0 x1 x6 x7
def dg.b(N:Nat)(kW:dg.cO)(a0:au)(a1:au):Option (au×(Bool)):=
 kW a0 a1 ([]) (0:Int)
def dg(N:Nat)(a0:au)(a1:au):Option (au×(Bool)):=dg.b N (dg.l3 N N) a0 a1
def acE(N:Nat)(a0:aT)(a1:Int):Option aj:=
 (jB N a0).bind fun r1=>cond (!r1) (some ([])) ((eS N a0 a1).bind fun r2=>some r2)
abbrev ik.ec:=aD→aa→ag→bh→gr→Int→Int→Option (Int)
abbrev ik.anU:=aZ→aD→aa→ag→bh→Option (Int)
def ik.jY(N:Nat)(fv:ik.ec)(x3:aD)(x5:aa)(x6:ag)(x9:bh)(aO:gr)(bl:Int)(b7:Int):Option (Int):=
 cond (aH b7 (List.length x3:Int)) (cond (aL b7 (List.length x3)) (cond (ay ((((List.getD x3 b7.toNat aJ).2).2).1) x9.2.2.1) (cond (aL b7 (List.length x3)) (cond (ay (((List.getD x3 b7.toNat aJ).2).1) x9.2.1) (some (4:Int)) (fv x3 x5 x6 x9 aO bl (W .i64 (b7+1)))) (none)) (fv x3 x5 x6 x9 aO bl (W .i64 (b7+1)))) (none)) (cond (ay (List.length x3:Int) 40) (some (5:Int)) ((gN N x9.2.2.2.1).bind fun kV=>(gN N (4:Int)).bind fun mE=>(gN N aO.2.2.1).bind fun pA=>(gv N mE pA).bind fun tt=>(JL N kV tt).bind fun o8=>cond (aH o8 0) (some (11:Int)) ((tK N x6.2.2.2.1 bl).bind fun wo=>(dg N wo aO.2.1).bind fun E8=>cond (!E8.2) (some (2:Int)) ((acE N x6.2.2.2.2.2.1 bl).bind fun Ih=>(mW N x5 E8.1 Ih).bind fun JP=>(K8 N x6 bl).bind fun JT=>(gN N JT).bind fun Bi=>(gN N x9.2.2.2.1).bind fun FB=>(Mp N Bi FB).bind fun DG=>(JL N DG JP.1).bind fun wq=>cond (aH wq 0) (some (10:Int)) (some (0:Int))))))
def ik.lN(N:Nat):Nat→ik.ec
 |0,_,_,_,_,_,_,_=>none
 |n+1,x3,x5,x6,x9,aO,bl,b7=>ik.jY N (ik.lN N n) x3 x5 x6 x9 aO bl b7
def ik.j3b(N:Nat)(p5:ik.ec)(x2:aZ)(x3:aD)(x5:aa)(x6:ag)(x9:bh):Option (Int):=
 (E0 N x6 x9.2.2.1).bind fun r7=>cond (ay r7 0) (some (3:Int)) (cond (!ay r7 1) (some (7:Int)) ((mY N x2 x9.2.1).bind fun r8=>(ue N x6.2.1 x9.2.2.1).bind fun r9=>cond (!r8.2) (some (3:Int)) (cond (!ay r8.1.2.2.2.1 1) (some (3:Int)) (cond (ay r9 0) (some (3:Int)) (p5 x3 x5 x6 x9 r8.1 r9 (0:Int))))))
def ik.j3(N:Nat)(x2:aZ)(x3:aD)(x5:aa)(x6:ag)(x9:bh):Option (Int):=ik.j3b N (ik.lN N N) x2 x3 x5 x6 x9
def ik.b(N:Nat)(aiw:ik.anU)(a0:aa)(a1:ag)(a2:aZ)(a3:aD)(a4:bh):Option (Int):=
 (bO N a0 a1).bind fun r1=>cond (!r1) (some (1:Int)) ((fy N a0 a2).bind fun r2=>cond (!r2) (some (1:Int)) ((c9 N a3).bind fun r3=>cond (!r3) (some (1:Int)) ((QX N a4).bind fun r4=>cond (!r4) (some (1:Int)) (cond (aH 0 (List.length a3:Int)) (let v5:Int:=W .i64 ((List.length a3:Int)-1);cond (aL v5 (List.length a3)) (cond (bU a4.1 ((List.getD a3 v5.toNat aJ).1)) (some (1:Int)) (aiw a2 a3 a0 a1 a4)) (none)) (aiw a2 a3 a0 a1 a4)))))
def ik(N:Nat)(a0:aa)(a1:ag)(a2:aZ)(a3:aD)(a4:bh):Option (Int):=ik.b N (ik.j3 N) a0 a1 a2 a3 a4
def Vu(N:Nat)(a0:aa)(a1:ag)(a2:aZ)(a3:aD)(a4:bh):Option (aD×(Int)):=
 (ik N a0 a1 a2 a3 a4).bind fun r1=>cond (!ay r1 0) (some ([],r1)) (cond (small (List.length cc+List.length a3)) (let v2:List ((Int)×((Int)×((Int)×((Int)×(Unit))))):=cc++a3;cond (small (List.length v2+List.length ([a4]))) (some ((v2++([a4])),(0:Int))) (none)) (none))
abbrev Bd.eX:=aD→Int→bh→bh→Bool→Int→Option (bh×(Bool))
def Bd.pn(N:Nat)(eY:Bd.eX)(x0:aD)(x1:Int)(x4:bh)(x6:bh)(x7:Bool)(x8:Int):Option (bh×(Bool)):=
 cond (aH x8 (List.length x0:Int)) (cond (aL x8 (List.length x0)) (cond (ay (((List.getD x0 x8.toNat aJ).2).1) x1) (cond (!x7) (cond (aL x8 (List.length x0)) (eY x0 x1 x4 (List.getD x0 x8.toNat aJ) true (W .i64 (x8+1))) (none)) (cond (aL x8 (List.length x0)) (cond (aH x6.2.2.2.1 (((((List.getD x0 x8.toNat aJ).2).2).2).1)) (cond (aL x8 (List.length x0)) (eY x0 x1 x4 (List.getD x0 x8.toNat aJ) true (W .i64 (x8+1))) (none)) (eY x0 x1 x4 x6 x7 (W .i64 (x8+1)))) (none))) (eY x0 x1 x4 x6 x7 (W .i64 (x8+1)))) (none)) (some (x6,x7))
def Bd.l6(N:Nat):Nat→Bd.eX
 |0,_,_,_,_,_,_=>none
 |n+1,x0,x1,x4,x6,x7,x8=>Bd.pn N (Bd.l6 N n) x0 x1 x4 x6 x7 x8
def Bd.b(N:Nat)(q4:Bd.eX)(a0:aD)(a1:Int):Option (bh×(Bool)):=
 (c9 N a0).bind fun r1=>cond (!r1) (some (aJ,false)) (q4 a0 a1 aJ aJ false (0:Int))
def Bd(N:Nat)(a0:aD)(a1:Int):Option (bh×(Bool)):=Bd.b N (Bd.l6 N N) a0 a1
abbrev pv.od:=aZ→aD→ag→ag→aj→br→aZ→Int→gr→bh→Int→Int→Option (ag×aZ×(Int))
abbrev pv.dm:=aZ→aD→ag→ag→aj→br→aZ→Int→Option (ag×aZ×(Int))
def pv.sf(N:Nat)(c8:pv.dm)(Bh:pv.od)(x2:aZ)(x3:aD)(x5:ag)(x8:ag)(aI:aj)(aO:br)(ba:aZ)(bl:Int)(b7:gr)(cT:bh)(fe:Int)(fu:Int):Option (ag×aZ×(Int)):=
 cond (aH fu (List.length b7.2.1:Int)) (cond (aL fu (List.length b7.2.1)) (cond (aL fu (List.length b7.2.1)) (let v14:Int:=W .i64 (0-(((List.getD b7.2.1 fu.toNat bI).2).1));cond (aL fu (List.length b7.2.1)) (cond (aL fu (List.length b7.2.1)) (cond (small (List.length aI+List.length ([((0:Int),((List.getD b7.2.1 fu.toNat bI).1,(v14,()))),(fe,((List.getD b7.2.1 fu.toNat bI).1,(((List.getD b7.2.1 fu.toNat bI).2).1,())))]))) (Bh x2 x3 x5 x8 (aI++([((0:Int),((List.getD b7.2.1 fu.toNat bI).1,(v14,()))),(fe,((List.getD b7.2.1 fu.toNat bI).1,(((List.getD b7.2.1 fu.toNat bI).2).1,())))])) aO ba bl b7 cT fe (W .i64 (fu+1))) (none)) (none)) (none)) (none)) (none)) ((gN N cT.2.2.2.1).bind fun o8=>(A9 N (5:Int) fe (2:Int) (0:Int) o8).bind fun wo=>cond (small (List.length aO+List.length wo)) (cond (small (List.length ba+List.length ([b7]))) (c8 x2 x3 x5 x8 aI (aO++wo) (ba++([b7])) (W .i64 (bl+1))) (none)) (none))
def pv.tq(N:Nat)(c8:pv.dm):Nat→pv.od
 |0,_,_,_,_,_,_,_,_,_,_,_,_=>none
 |n+1,x2,x3,x5,x8,aI,aO,ba,bl,b7,cT,fe,fu=>pv.sf N c8 (pv.tq N c8 n) x2 x3 x5 x8 aI aO ba bl b7 cT fe fu
def pv.oT(N:Nat)(Bj:pv.od)(c8:pv.dm)(x2:aZ)(x3:aD)(x5:ag)(x8:ag)(aI:aj)(aO:br)(ba:aZ)(bl:Int):Option (ag×aZ×(Int)):=
 cond (aH bl (List.length x2:Int)) (cond (aL bl (List.length x2)) (cond (small (List.length bF+List.length (((List.getD x2 bl.toNat ((0:Int),(bF,aJ))).2).1))) (let v5:List ((Int)×((Int)×(Unit))):=bF++(((List.getD x2 bl.toNat ((0:Int),(bF,aJ))).2).1);cond (!ay (((((List.getD x2 bl.toNat ((0:Int),(bF,aJ))).2).2).2).1) (1:Int)) (cond (small (List.length ba+List.length ([((List.getD x2 bl.toNat ((0:Int),(bF,aJ))).1,(v5,((List.getD x2 bl.toNat ((0:Int),(bF,aJ))).2).2))]))) (c8 x2 x3 x5 x8 aI aO (ba++([((List.getD x2 bl.toNat ((0:Int),(bF,aJ))).1,(v5,((List.getD x2 bl.toNat ((0:Int),(bF,aJ))).2).2))])) (W .i64 (bl+1))) (none)) ((Bd N x3 ((List.getD x2 bl.toNat ((0:Int),(bF,aJ))).1)).bind fun r8=>cond (!r8.2) (cond (small (List.length ba+List.length ([((List.getD x2 bl.toNat ((0:Int),(bF,aJ))).1,(v5,((((List.getD x2 bl.toNat ((0:Int),(bF,aJ))).2).2).1,((3:Int),((((List.getD x2 bl.toNat ((0:Int),(bF,aJ))).2).2).2).2))))]))) (c8 x2 x3 x5 x8 aI aO (ba++([((List.getD x2 bl.toNat ((0:Int),(bF,aJ))).1,(v5,((((List.getD x2 bl.toNat ((0:Int),(bF,aJ))).2).2).1,((3:Int),((((List.getD x2 bl.toNat ((0:Int),(bF,aJ))).2).2).2).2))))])) (W .i64 (bl+1))) (none)) ((ue N x5.2.1 r8.1.2.2.1).bind fun kv=>cond (ay kv 0) (some ((bF,(cc,(aY,(aY,(cv,(cF,())))))),[],(3:Int))) ((E0 N x5 r8.1.2.2.1).bind fun lx=>cond (ay lx 0) (some ((bF,(cc,(aY,(aY,(cv,(cF,())))))),[],(3:Int))) (Bj x2 x3 x5 x8 aI aO ba bl ((List.getD x2 bl.toNat ((0:Int),(bF,aJ))).1,(v5,((((List.getD x2 bl.toNat ((0:Int),(bF,aJ))).2).2).1,((2:Int),(r8.1.2.2.1,(r8.1.2.2.2.1,((((((List.getD x2 bl.toNat ((0:Int),(bF,aJ))).2).2).2).2).2).2)))))) r8.1 kv (0:Int)))))) (none)) (none)) ((A4 N x5 aI aO).bind fun JT=>cond (!ay JT.2 0) (some ((bF,(cc,(aY,(aY,(cv,(cF,())))))),[],JT.2)) (some (JT.1,ba,(0:Int))))
def pv.l7(N:Nat):Nat→pv.dm
 |0,_,_,_,_,_,_,_,_=>none
 |n+1,x2,x3,x5,x8,aI,aO,ba,bl=>pv.oT N (pv.tq N (pv.l7 N n) N) (pv.l7 N n) x2 x3 x5 x8 aI aO ba bl
def pv.b(N:Nat)(px:pv.dm)(a0:aa)(a1:ag)(a2:aZ)(a3:aD):Option (ag×aZ×(Int)):=
 (bO N a0 a1).bind fun r1=>cond (!r1) (some ((bF,(cc,(aY,(aY,(cv,(cF,())))))),[],(1:Int))) ((fy N a0 a2).bind fun r2=>cond (!r2) (some ((bF,(cc,(aY,(aY,(cv,(cF,())))))),[],(1:Int))) ((c9 N a3).bind fun r3=>cond (!r3) (some ((bF,(cc,(aY,(aY,(cv,(cF,())))))),[],(1:Int))) (px a2 a3 a1 (bF,(cc,(aY,(aY,(cv,(cF,())))))) ([]) ([]) ([]) (0:Int))))
def pv(N:Nat)(a0:aa)(a1:ag)(a2:aZ)(a3:aD):Option (ag×aZ×(Int)):=pv.b N (pv.l7 N N) a0 a1 a2 a3
abbrev lY.bP:=au→Int→Option (Bool)
def lY.dr(N:Nat)(cH:lY.bP)(x0:au)(x3:Int):Option (Bool):=
 cond (aH x3 (List.length x0:Int)) (cond (aL x3 (List.length x0)) (cond (aH ((List.getD x0 x3.toNat bI).1) (1:Int)) (some false) (cond (aL x3 (List.length x0)) (cond (aH 12 ((List.getD x0 x3.toNat bI).1)) (some false) (cond (aL x3 (List.length x0)) (cond (aH (((List.getD x0 x3.toNat bI).2).1) (1:Int)) (some false) (cond (aL x3 (List.length x0)) (cond (aH 4 (((List.getD x0 x3.toNat bI).2).1)) (some false) (cond (aH 0 x3) (cond (aL x3 (List.length x0)) (let v2:Int:=W .i64 (x3-1);cond (aL v2 (List.length x0)) (cond (bU ((List.getD x0 x3.toNat bI).1) ((List.getD x0 v2.toNat bI).1)) (some false) (cH x0 (W .i64 (x3+1)))) (none)) (none)) (cH x0 (W .i64 (x3+1))))) (none))) (none))) (none))) (none)) (some true)
def lY.l2(N:Nat):Nat→lY.bP
 |0,_,_=>none
 |n+1,x0,x3=>lY.dr N (lY.l2 N n) x0 x3
def lY.b(N:Nat)(ey:lY.bP)(a0:au):Option (Bool):=
 ey a0 (0:Int)
def lY(N:Nat)(a0:au):Option (Bool):=lY.b N (lY.l2 N N) a0
abbrev n6.bP:=(List (Int))→Int→Option (Bool)
def n6.dr(N:Nat)(cH:n6.bP)(x0:List (Int))(x3:Int):Option (Bool):=
 cond (aH x3 (List.length x0:Int)) (cond (aL x3 (List.length x0)) (cond (aH (List.getD x0 x3.toNat (0:Int)) (1:Int)) (some false) (cond (aL x3 (List.length x0)) (cond (aH 12 (List.getD x0 x3.toNat (0:Int))) (some false) (cond (aH 0 x3) (cond (aL x3 (List.length x0)) (let v2:Int:=W .i64 (x3-1);cond (aL v2 (List.length x0)) (cond (bU (List.getD x0 x3.toNat (0:Int)) (List.getD x0 v2.toNat (0:Int))) (some false) (cH x0 (W .i64 (x3+1)))) (none)) (none)) (cH x0 (W .i64 (x3+1))))) (none))) (none)) (some true)
def n6.l2(N:Nat):Nat→n6.bP
 |0,_,_=>none
 |n+1,x0,x3=>n6.dr N (n6.l2 N n) x0 x3
def n6.b(N:Nat)(ey:n6.bP)(a0:List (Int)):Option (Bool):=
 ey a0 (0:Int)
def n6(N:Nat)(a0:List (Int)):Option (Bool):=n6.b N (n6.l2 N N) a0
abbrev fV.eT:=Int→aZ→Int→Int→Option (Int)
abbrev fV.cO:=Int→aZ→aD→Int→Int→Option (Int)
def fV.jV(N:Nat)(gV:fV.eT)(x0:Int)(x1:aZ)(x7:Int)(aO:Int):Option (Int):=
 cond (aH aO (List.length x1:Int)) (cond (aL aO (List.length x1)) (cond (ay (((((List.getD x1 aO.toNat ((0:Int),(bF,aJ))).2).2).2).1) (2:Int)) (cond (aL aO (List.length x1)) (cond (ay ((((((List.getD x1 aO.toNat ((0:Int),(bF,aJ))).2).2).2).2).1) x0) (gV x0 x1 (4:Int) (W .i64 (aO+1))) (gV x0 x1 x7 (W .i64 (aO+1)))) (none)) (gV x0 x1 x7 (W .i64 (aO+1)))) (none)) (some x7)
def fV.kL(N:Nat):Nat→fV.eT
 |0,_,_,_,_=>none
 |n+1,x0,x1,x7,aO=>fV.jV N (fV.kL N n) x0 x1 x7 aO
def fV.kq(N:Nat)(p6:fV.eT)(ct:fV.cO)(x0:Int)(x1:aZ)(x2:aD)(x7:Int)(x8:Int):Option (Int):=
 cond (aH x8 (List.length x2:Int)) (cond (aL x8 (List.length x2)) (cond (!ay ((((List.getD x2 x8.toNat aJ).2).2).1) x0) (ct x0 x1 x2 x7 (W .i64 (x8+1))) (cond (aL x8 (List.length x2)) ((mY N x1 (((List.getD x2 x8.toNat aJ).2).1)).bind fun r3=>cond (r3.2) (cond (aL x8 (List.length x2)) (cond (bU r3.1.2.2.1 (((((List.getD x2 x8.toNat aJ).2).2).2).1)) (ct x0 x1 x2 (mx x7 3) (W .i64 (x8+1))) (ct x0 x1 x2 (mx x7 2) (W .i64 (x8+1)))) (none)) (ct x0 x1 x2 (mx x7 2) (W .i64 (x8+1)))) (none))) (none)) (p6 x0 x1 x7 (0:Int))
def fV.l3(N:Nat):Nat→fV.cO
 |0,_,_,_,_,_=>none
 |n+1,x0,x1,x2,x7,x8=>fV.kq N (fV.kL N N) (fV.l3 N n) x0 x1 x2 x7 x8
def fV.b(N:Nat)(kW:fV.cO)(a0:Int)(a1:aZ)(a2:aD):Option (Int):=
 kW a0 a1 a2 (1:Int) (0:Int)
def fV(N:Nat)(a0:Int)(a1:aZ)(a2:aD):Option (Int):=fV.b N (fV.l3 N N) a0 a1 a2
abbrev cB.sC:=au→(List (Int))→aZ→aD→au→Int→Int→Bool→Int→Option (au×(Int))
abbrev cB.sE:=au→(List (Int))→aZ→aD→au→Int→Int→Bool→Int→Option (au×(Int))
abbrev cB.ji:=au→(List (Int))→aZ→aD→au→Int→Int→Bool→Int→Option (au×(Int))
abbrev cB.bb:=au→(List (Int))→aZ→aD→au→Int→Option (au×(Int))
def cB.A8(N:Nat)(bf:cB.bb)(Br:cB.sC)(x1:au)(x2:List (Int))(x3:aZ)(x4:aD)(aO:au)(ba:Int)(bl:Int)(b7:Bool)(fe:Int):Option (au×(Int)):=
 cond (aH fe (List.length x4:Int)) (cond (b7) (Br x1 x2 x3 x4 aO ba bl true (W .i64 (fe+1))) (cond (aL fe (List.length x4)) (Br x1 x2 x3 x4 aO ba bl (ay ((((List.getD x4 fe.toNat aJ).2).2).1) ba) (W .i64 (fe+1))) (none))) (cond (b7) ((fV N ba x3 x4).bind fun pA=>let M5:Int:=mx bl pA;cond (small (List.length aO+List.length ([(ba,(M5,()))]))) (bf x1 x2 x3 x4 (aO++([(ba,(M5,()))])) (W .i64 (ba+1))) (none)) (bf x1 x2 x3 x4 aO (W .i64 (ba+1))))
def cB.DB(N:Nat)(bf:cB.bb):Nat→cB.sC
 |0,_,_,_,_,_,_,_,_,_=>none
 |n+1,x1,x2,x3,x4,aO,ba,bl,b7,fe=>cB.A8 N bf (cB.DB N bf n) x1 x2 x3 x4 aO ba bl b7 fe
def cB.AL(N:Nat)(Ij:cB.sC)(bf:cB.bb)(yh:cB.sE)(x1:au)(x2:List (Int))(x3:aZ)(x4:aD)(aO:au)(ba:Int)(bl:Int)(b7:Bool)(cQ:Int):Option (au×(Int)):=
 cond (aH cQ (List.length x2:Int)) (cond (b7) (yh x1 x2 x3 x4 aO ba bl true (W .i64 (cQ+1))) (cond (aL cQ (List.length x2)) (yh x1 x2 x3 x4 aO ba bl (ay (List.getD x2 cQ.toNat (0:Int)) ba) (W .i64 (cQ+1))) (none))) (Ij x1 x2 x3 x4 aO ba bl b7 (0:Int))
def cB.C9(N:Nat)(bf:cB.bb):Nat→cB.sE
 |0,_,_,_,_,_,_,_,_,_=>none
 |n+1,x1,x2,x3,x4,aO,ba,bl,b7,cQ=>cB.AL N (cB.DB N bf N) bf (cB.C9 N bf n) x1 x2 x3 x4 aO ba bl b7 cQ
def cB.tk(N:Nat)(Im:cB.sE)(bf:cB.bb)(my:cB.ji)(x1:au)(x2:List (Int))(x3:aZ)(x4:aD)(aO:au)(ba:Int)(bl:Int)(b7:Bool)(cT:Int):Option (au×(Int)):=
 cond (aH cT (List.length x1:Int)) (cond (aL cT (List.length x1)) (cond (ay ((List.getD x1 cT.toNat bI).1) ba) (cond (aL cT (List.length x1)) (my x1 x2 x3 x4 aO ba (((List.getD x1 cT.toNat bI).2).1) true (W .i64 (cT+1))) (none)) (my x1 x2 x3 x4 aO ba bl b7 (W .i64 (cT+1)))) (none)) (Im x1 x2 x3 x4 aO ba bl b7 (0:Int))
def cB.l9(N:Nat)(bf:cB.bb):Nat→cB.ji
 |0,_,_,_,_,_,_,_,_,_=>none
 |n+1,x1,x2,x3,x4,aO,ba,bl,b7,cT=>cB.tk N (cB.C9 N bf N) bf (cB.l9 N bf n) x1 x2 x3 x4 aO ba bl b7 cT
def cB.c0(N:Nat)(uB:cB.ji)(bf:cB.bb)(x1:au)(x2:List (Int))(x3:aZ)(x4:aD)(aO:au)(ba:Int):Option (au×(Int)):=
 cond (bU ba 12) (uB x1 x2 x3 x4 aO ba (0:Int) false (0:Int)) (some (aO,(0:Int)))
def cB.l5(N:Nat):Nat→cB.bb
 |0,_,_,_,_,_,_=>none
 |n+1,x1,x2,x3,x4,aO,ba=>cB.c0 N (cB.l9 N (cB.l5 N n) N) (cB.l5 N n) x1 x2 x3 x4 aO ba
def cB.b(N:Nat)(dk:cB.bb)(a0:aa)(a1:au)(a2:List (Int))(a3:aZ)(a4:aD):Option (au×(Int)):=
 (lY N a1).bind fun r1=>cond (!r1) (some ([],(1:Int))) ((n6 N a2).bind fun r2=>cond (!r2) (some ([],(1:Int))) ((fy N a0 a3).bind fun r3=>cond (!r3) (some ([],(1:Int))) ((c9 N a4).bind fun r4=>cond (!r4) (some ([],(1:Int))) (dk a1 a2 a3 a4 ([]) (1:Int)))))
def cB(N:Nat)(a0:aa)(a1:au)(a2:List (Int))(a3:aZ)(a4:aD):Option (au×(Int)):=cB.b N (cB.l5 N N) a0 a1 a2 a3 a4
def Ld(N:Nat)(a0:aX)(a1:ag)(a2:Int)(a3:Int)(a4:Int):Option aX:=
 (ri N a1.2.2.1 a3 a4).bind fun r1=>cond (aH 0 r1) (cond (small (List.length a0+List.length ([(a2,(a3,(a4,(r1,((0:Int),())))))]))) (some (a0++([(a2,(a3,(a4,(r1,((0:Int),())))))]))) (none)) (some a0)
def Sg(N:Nat)(a0:Int):Option (Bool):=
 cond (ay a0 1) (some true) (some (ay a0 2))
abbrev n7.bn:=au→Int→Int→Option (Int)
def n7.c5(N:Nat)(bJ:n7.bn)(x0:au)(x1:Int)(x5:Int):Option (Int):=
 cond (aH x5 (List.length x0:Int)) (cond (aL x5 (List.length x0)) (cond (ay ((List.getD x0 x5.toNat bI).1) x1) (cond (aL x5 (List.length x0)) (some (((List.getD x0 x5.toNat bI).2).1)) (none)) (bJ x0 x1 (W .i64 (x5+1)))) (none)) (some (1:Int))
def n7.l4(N:Nat):Nat→n7.bn
 |0,_,_,_=>none
 |n+1,x0,x1,x5=>n7.c5 N (n7.l4 N n) x0 x1 x5
def n7.b(N:Nat)(dz:n7.bn)(a0:au)(a1:Int):Option (Int):=
 (lY N a0).bind fun r1=>cond (!r1) (some (0:Int)) (dz a0 a1 (0:Int))
def n7(N:Nat)(a0:au)(a1:Int):Option (Int):=n7.b N (n7.l4 N N) a0 a1
abbrev n8.bb:=au→Int→Int→ag→(List (Int))→Int→Option ((List (Int))×(Int))
def n8.c0(N:Nat)(bf:n8.bb)(x2:au)(x3:Int)(x4:Int)(x6:ag)(aO:List (Int))(ba:Int):Option ((List (Int))×(Int)):=
 cond (aH ba (List.length x6.1:Int)) (cond (aL ba (List.length x6.1)) ((Sg N (((List.getD x6.1 ba.toNat bI).2).1)).bind fun r4=>cond (r4) (cond (!ay ((List.getD x6.1 ba.toNat bI).1) x3) ((ri N x6.2.2.1 (6:Int) ((List.getD x6.1 ba.toNat bI).1)).bind fun r5=>cond (aH 0 r5) ((n7 N x2 ((List.getD x6.1 ba.toNat bI).1)).bind fun r6=>cond (ay r6 x4) (cond (small (List.length aO+List.length ([(List.getD x6.1 ba.toNat bI).1]))) (bf x2 x3 x4 x6 (aO++([(List.getD x6.1 ba.toNat bI).1])) (W .i64 (ba+1))) (none)) (bf x2 x3 x4 x6 aO (W .i64 (ba+1)))) (bf x2 x3 x4 x6 aO (W .i64 (ba+1)))) (bf x2 x3 x4 x6 aO (W .i64 (ba+1)))) (bf x2 x3 x4 x6 aO (W .i64 (ba+1)))) (none)) (some (aO,(0:Int)))
def n8.l5(N:Nat):Nat→n8.bb
 |0,_,_,_,_,_,_=>none
 |n+1,x2,x3,x4,x6,aO,ba=>n8.c0 N (n8.l5 N n) x2 x3 x4 x6 aO ba
def n8.b(N:Nat)(dk:n8.bb)(a0:aa)(a1:ag)(a2:au)(a3:Int)(a4:Int):Option ((List (Int))×(Int)):=
 (bO N a0 a1).bind fun r1=>cond (!r1) (some ([],(1:Int))) ((lY N a2).bind fun r2=>cond (!r2) (some ([],(1:Int))) (dk a2 a3 a4 a1 ([]) (0:Int)))
def n8(N:Nat)(a0:aa)(a1:ag)(a2:au)(a3:Int)(a4:Int):Option ((List (Int))×(Int)):=n8.b N (n8.l5 N N) a0 a1 a2 a3 a4
abbrev cm.jt:=Int→au→au→aa→ag→aX→Int→(List (Int))→Int→Option (aX×(Int))
abbrev cm.Bn:=Int→au→ag→aX→Int→Option (aX×(Int))
abbrev cm.p7:=Int→au→aa→ag→aX→Int→Option (aX×(Int))
abbrev cm.eT:=Int→au→au→aa→ag→aX→Int→Option (aX×(Int))
abbrev cm.Ls:=Int→au→au→aa→ag→aX→Option (aX×(Int))
def cm.se(N:Nat)(gV:cm.eT)(kz:cm.jt)(x2:Int)(x3:au)(x4:au)(x5:aa)(x6:ag)(aO:aX)(bl:Int)(b7:List (Int))(cQ:Int):Option (aX×(Int)):=
 cond (aH cQ (List.length b7:Int)) (cond (aL cQ (List.length b7)) ((Ld N aO x6 (W .i64 ((W .i64 ((4:Int)+bl))-1)) (6:Int) (List.getD b7 cQ.toNat (0:Int))).bind fun pA=>kz x2 x3 x4 x5 x6 pA bl b7 (W .i64 (cQ+1))) (none)) (gV x2 x3 x4 x5 x6 aO (W .i64 (bl+1)))
def cm.tp(N:Nat)(gV:cm.eT):Nat→cm.jt
 |0,_,_,_,_,_,_,_,_,_=>none
 |n+1,x2,x3,x4,x5,x6,aO,bl,b7,cQ=>cm.se N gV (cm.tp N gV n) x2 x3 x4 x5 x6 aO bl b7 cQ
def cm.G7(N:Nat)(yf:cm.Bn)(x2:Int)(x4:au)(x6:ag)(aO:aX)(Pk:Int):Option (aX×(Int)):=
 cond (aH Pk (List.length x4:Int)) (cond (aL Pk (List.length x4)) ((Ai N x6.2.1 ((List.getD x4 Pk.toNat bI).1)).bind fun JS=>cond (aL Pk (List.length x4)) (cond (aL Pk (List.length x4)) ((ri N x6.2.2.1 (5:Int) ((List.getD x4 Pk.toNat bI).1)).bind fun r32=>let v33:Int:=mn (((List.getD x4 Pk.toNat bI).2).1) r32;cond (JS.2) (cond (!ay JS.1.2.1 x2) (cond (aH 0 v33) (cond (small (List.length aO+List.length ([((9:Int),((5:Int),(JS.1.1,(v33,((0:Int),())))))]))) (yf x2 x4 x6 (aO++([((9:Int),((5:Int),(JS.1.1,(v33,((0:Int),())))))])) (W .i64 (Pk+1))) (none)) (yf x2 x4 x6 aO (W .i64 (Pk+1)))) (yf x2 x4 x6 aO (W .i64 (Pk+1)))) (yf x2 x4 x6 aO (W .i64 (Pk+1)))) (none)) (none)) (none)) (some (aO,(0:Int)))
def cm.Kz(N:Nat):Nat→cm.Bn
 |0,_,_,_,_,_=>none
 |n+1,x2,x4,x6,aO,Pk=>cm.G7 N (cm.Kz N n) x2 x4 x6 aO Pk
def cm.La(N:Nat)(SB:cm.Bn)(jw:cm.p7)(x2:Int)(x4:au)(x5:aa)(x6:ag)(aO:aX)(fe:Int):Option (aX×(Int)):=
 cond (aH fe (List.length x6.1:Int)) (cond (aL fe (List.length x6.1)) ((Sg N (((List.getD x6.1 fe.toNat bI).2).1)).bind fun E8=>cond (!E8) (jw x2 x4 x5 x6 aO (W .i64 (fe+1))) (cond (ay ((List.getD x6.1 fe.toNat bI).1) x2) (jw x2 x4 x5 x6 aO (W .i64 (fe+1))) ((gN N x5.2.2.1).bind fun JT=>(ri N x6.2.2.1 (6:Int) ((List.getD x6.1 fe.toNat bI).1)).bind fun Bi=>(gN N Bi).bind fun FB=>(gv N JT FB).bind fun DG=>(rZ N DG).bind fun wq=>cond (!wq.2) (some ([],(2:Int))) (cond (aH 0 wq.1) (cond (small (List.length aO+List.length ([((8:Int),((7:Int),((List.getD x6.1 fe.toNat bI).1,(wq.1,((0:Int),())))))]))) (jw x2 x4 x5 x6 (aO++([((8:Int),((7:Int),((List.getD x6.1 fe.toNat bI).1,(wq.1,((0:Int),())))))])) (W .i64 (fe+1))) (none)) (jw x2 x4 x5 x6 aO (W .i64 (fe+1))))))) (none)) (SB x2 x4 x6 aO (0:Int))
def cm.E1(N:Nat):Nat→cm.p7
 |0,_,_,_,_,_,_=>none
 |n+1,x2,x4,x5,x6,aO,fe=>cm.La N (cm.Kz N N) (cm.E1 N n) x2 x4 x5 x6 aO fe
def cm.jV(N:Nat)(Bk:cm.jt)(SH:cm.p7)(gV:cm.eT)(x2:Int)(x3:au)(x4:au)(x5:aa)(x6:ag)(aO:aX)(bl:Int):Option (aX×(Int)):=
 cond (bU bl 4) ((n8 N x5 x6 x3 x2 bl).bind fun kv=>Bk x2 x3 x4 x5 x6 aO bl kv.1 (0:Int)) (SH x2 x4 x5 x6 aO (0:Int))
def cm.kL(N:Nat):Nat→cm.eT
 |0,_,_,_,_,_,_,_=>none
 |n+1,x2,x3,x4,x5,x6,aO,bl=>cm.jV N (cm.tp N (cm.kL N n) N) (cm.E1 N N) (cm.kL N n) x2 x3 x4 x5 x6 aO bl
def cm.Ki(N:Nat)(p6:cm.eT)(x2:Int)(x3:au)(x4:au)(x5:aa)(x6:ag)(aO:aX):Option (aX×(Int)):=
 (Ld N aO x6 (2:Int) (6:Int) x2).bind fun r8=>(Ld N r8 x6 (3:Int) (3:Int) (0:Int)).bind fun r9=>p6 x2 x3 x4 x5 x6 r9 (1:Int)
def cm.j9(N:Nat)(x2:Int)(x3:au)(x4:au)(x5:aa)(x6:ag)(aO:aX):Option (aX×(Int)):=cm.Ki N (cm.kL N N) x2 x3 x4 x5 x6 aO
def cm.b(N:Nat)(Bp:cm.Ls)(a0:aa)(a1:ag)(a2:Int)(a3:au)(a4:au):Option (aX×(Int)):=
 (bO N a0 a1).bind fun r1=>cond (!r1) (some ([],(1:Int))) ((lY N a3).bind fun r2=>cond (!r2) (some ([],(1:Int))) ((mX N a4).bind fun r3=>cond (!r3) (some ([],(1:Int))) ((vt N a1.1 a2).bind fun r4=>cond (ay r4 0) (some ([],(3:Int))) ((ue N a1.2.1 a2).bind fun r5=>cond (!ay r5 0) ((Ld N ([]) a1 (1:Int) (5:Int) r5).bind fun r6=>Bp a2 a3 a4 a0 a1 r6) (Bp a2 a3 a4 a0 a1 ([]))))))
def cm(N:Nat)(a0:aa)(a1:ag)(a2:Int)(a3:au)(a4:au):Option (aX×(Int)):=cm.b N (cm.j9 N) a0 a1 a2 a3 a4
def Vw(N:Nat)(a0:aa)(a1:ag):Option ((Int)×(Int)):=
 (bO N a0 a1).bind fun r1=>cond (!r1) (some ((0:Int),(1:Int))) ((ri N a1.2.2.1 (2:Int) (0:Int)).bind fun r2=>cond (ay r2 (-9223372036854775808)) (some ((0:Int),(2:Int))) (some ((mx (W .i64 (0-r2)) (0:Int)),(0:Int))))
abbrev n9.bn:=aX→Int→Option (Bool)
def n9.c5(N:Nat)(bJ:n9.bn)(x0:aX)(x3:Int):Option (Bool):=
 cond (aH x3 (List.length x0:Int)) (cond (aL x3 (List.length x0)) (cond (aH ((List.getD x0 x3.toNat eC).1) (1:Int)) (some false) (cond (aH 9 ((List.getD x0 x3.toNat eC).1)) (some false) ((Kl N (((List.getD x0 x3.toNat eC).2).1) ((((List.getD x0 x3.toNat eC).2).2).1)).bind fun r2=>cond (!r2) (some false) (cond (aH (((((List.getD x0 x3.toNat eC).2).2).2).1) (1:Int)) (some false) (cond (aH ((((((List.getD x0 x3.toNat eC).2).2).2).2).1) (0:Int)) (some false) (cond (aH (((((List.getD x0 x3.toNat eC).2).2).2).1) ((((((List.getD x0 x3.toNat eC).2).2).2).2).1)) (some false) (cond (aH 0 x3) (let v3:Int:=W .i64 (x3-1);cond (aL v3 (List.length x0)) (cond (aH ((List.getD x0 x3.toNat eC).1) ((List.getD x0 v3.toNat eC).1)) (some false) (let v4:Int:=W .i64 (x3-1);cond (aL v4 (List.length x0)) (cond (ay ((List.getD x0 x3.toNat eC).1) ((List.getD x0 v4.toNat eC).1)) (let v5:Int:=W .i64 (x3-1);cond (aL v5 (List.length x0)) (cond (!ay (((List.getD x0 x3.toNat eC).2).1) (((List.getD x0 v5.toNat eC).2).1)) (some false) (let v6:Int:=W .i64 (x3-1);cond (aL v6 (List.length x0)) (cond (bU ((((List.getD x0 x3.toNat eC).2).2).1) ((((List.getD x0 v6.toNat eC).2).2).1)) (some false) (bJ x0 (W .i64 (x3+1)))) (none))) (none)) (bJ x0 (W .i64 (x3+1)))) (none))) (none)) (bJ x0 (W .i64 (x3+1)))))))))) (none)) (some true)
def n9.l4(N:Nat):Nat→n9.bn
 |0,_,_=>none
 |n+1,x0,x3=>n9.c5 N (n9.l4 N n) x0 x3
def n9.b(N:Nat)(dz:n9.bn)(a0:aX):Option (Bool):=
 cond (aH 64 (List.length a0:Int)) (some false) (dz a0 (0:Int))
def n9(N:Nat)(a0:aX):Option (Bool):=n9.b N (n9.l4 N N) a0
abbrev cJ.sC:=aX→Int→Int→Int→(List (Int))→Int→Option (aX×(Int)×(Int))
abbrev cJ.Ii:=aX→Int→Int→Int→(List (Int))→Option (aX×(Int)×(Int))
abbrev cJ.ej:=aX→Int→Int→Int→(List (Int))→Option (aX×(Int)×(Int))
abbrev cJ.bb:=aX→Int→Int→Option (aX×(Int)×(Int))
def cJ.A8(N:Nat)(bf:cJ.bb)(Br:cJ.sC)(x7:aX)(x8:Int)(x9:Int)(aP:Int)(bl:List (Int))(cT:Int):Option (aX×(Int)×(Int)):=
 cond (aH cT aP) (let Pj:Int:=W .i64 (cT-x9);cond (aL Pj (List.length bl)) (cond (aL cT (List.length x7)) (let VO:Int:=W .i64 (cT-x9);cond (aL VO (List.length bl)) (Br (List.set x7 cT.toNat ((List.getD x7 cT.toNat eC).1,(((List.getD x7 cT.toNat eC).2).1,((((List.getD x7 cT.toNat eC).2).2).1,(((((List.getD x7 cT.toNat eC).2).2).2).1,(List.getD bl Pj.toNat (0:Int),(((((List.getD x7 cT.toNat eC).2).2).2).2).2)))))) (W .i64 (x8-(List.getD bl VO.toNat (0:Int)))) x9 aP bl (W .i64 (cT+1))) (none)) (none)) (none)) (bf x7 x8 aP)
def cJ.DB(N:Nat)(bf:cJ.bb):Nat→cJ.sC
 |0,_,_,_,_,_,_=>none
 |n+1,x7,x8,x9,aP,bl,cT=>cJ.A8 N bf (cJ.DB N bf n) x7 x8 x9 aP bl cT
def cJ.A7(N:Nat)(Ij:cJ.sC)(bf:cJ.bb)(x7:aX)(x8:Int)(x9:Int)(aP:Int)(aI:List (Int)):Option (aX×(Int)×(Int)):=
 (me N aI).bind fun r8=>(rZ N r8).bind fun r9=>cond (!r9.2) (some ([],(0:Int),(2:Int))) ((dJ N (mn r9.1 x8) aI).bind fun kv=>cond (!ay kv.2 0) (some ([],(0:Int),kv.2)) (Ij x7 x8 x9 aP kv.1 x9))
def cJ.JO(N:Nat)(bf:cJ.bb)(x7:aX)(x8:Int)(x9:Int)(aP:Int)(aI:List (Int)):Option (aX×(Int)×(Int)):=cJ.A7 N (cJ.DB N bf N) bf x7 x8 x9 aP aI
def cJ.wk(N:Nat)(yg:cJ.Ii)(bf:cJ.bb)(dd:cJ.ej)(x7:aX)(x8:Int)(x9:Int)(aP:Int)(aI:List (Int)):Option (aX×(Int)×(Int)):=
 cond (aH aP (List.length x7:Int)) (cond (aL aP (List.length x7)) (cond (aL x9 (List.length x7)) (cond (ay ((List.getD x7 aP.toNat eC).1) ((List.getD x7 x9.toNat eC).1)) (cond (aL aP (List.length x7)) (cond (small (List.length aI+List.length ([((((List.getD x7 aP.toNat eC).2).2).2).1]))) (dd x7 x8 x9 (W .i64 (aP+1)) (aI++([((((List.getD x7 aP.toNat eC).2).2).2).1]))) (none)) (none)) (yg x7 x8 x9 aP aI)) (none)) (none)) (yg x7 x8 x9 aP aI)
def cJ.l8(N:Nat)(bf:cJ.bb):Nat→cJ.ej
 |0,_,_,_,_,_=>none
 |n+1,x7,x8,x9,aP,aI=>cJ.wk N (cJ.JO N bf) bf (cJ.l8 N bf n) x7 x8 x9 aP aI
def cJ.c0(N:Nat)(w8:cJ.ej)(bf:cJ.bb)(x7:aX)(x8:Int)(x9:Int):Option (aX×(Int)×(Int)):=
 cond (aH x9 (List.length x7:Int)) (w8 x7 x8 x9 x9 ([])) (some (x7,x8,(0:Int)))
def cJ.l5(N:Nat):Nat→cJ.bb
 |0,_,_,_=>none
 |n+1,x7,x8,x9=>cJ.c0 N (cJ.l8 N (cJ.l5 N n) N) (cJ.l5 N n) x7 x8 x9
def cJ.b(N:Nat)(dk:cJ.bb)(a0:aX)(a1:Int):Option (aX×(Int)×(Int)):=
 (n9 N a0).bind fun r1=>cond (!r1) (some ([],(0:Int),(1:Int))) (cond (aH a1 0) (some ([],(0:Int),(1:Int))) (cond (small (List.length yX+List.length a0)) (dk (yX++a0) a1 (0:Int)) (none)))
def cJ(N:Nat)(a0:aX)(a1:Int):Option (aX×(Int)×(Int)):=cJ.b N (cJ.l5 N N) a0 a1
def Vx(N:Nat)(a0:aa)(a1:ag):Option ((Int)×(Int)):=
 (bO N a0 a1).bind fun r1=>cond (!r1) (some ((0:Int),(1:Int))) ((ri N a1.2.2.1 (2:Int) (0:Int)).bind fun r2=>some ((mx r2 0),(0:Int)))
abbrev il.aix:=ag→ag→c3→br→c3→aX→Int→Int→Int→Option (ag×c3×(Int))
abbrev il.Bq:=Int→aa→ag→ag→c3→aX→Int→br→c3→aX→Int→Option (ag×c3×(Int))
def il.acH(N:Nat)(x6:ag)(aP:ag)(aI:c3)(fe:br)(fu:c3)(Bt:aX)(x21:Int)(x23:Int)(x24:Int):Option (ag×c3×(Int)):=
 (gN N x21).bind fun o8=>(A9 N (2:Int) (0:Int) x23 x24 o8).bind fun wo=>cond (small (List.length fe+List.length wo)) ((A4 N x6 aY (fe++wo)).bind fun Ih=>cond (!ay Ih.2 0) (some ((bF,(cc,(aY,(aY,(cv,(cF,())))))),((0:Int),((0:Int),(yX,((0:Int),())))),Ih.2)) (some (Ih.1,(fu.1,(fu.2.1,(Bt,fu.2.2.2))),(0:Int)))) (none)
def il.j26(N:Nat)(x6:ag)(aP:ag)(aI:c3)(fe:br)(fu:c3)(Bt:aX)(x21:Int)(x23:Int)(x24:Int):Option (ag×c3×(Int)):=il.acH N x6 aP aI fe fu Bt x21 x23 x24
def il.K2(N:Nat)(aaJ:il.aix)(DH:il.Bq)(x2:Int)(x5:aa)(x6:ag)(aP:ag)(aI:c3)(ba:aX)(cQ:Int)(fe:br)(fu:c3)(Bt:aX)(uI:Int):Option (ag×c3×(Int)):=
 cond (aH uI (List.length ba:Int)) (cond (aL uI (List.length ba)) (cond (aH 0 ((((((List.getD ba uI.toNat eC).2).2).2).2).1)) (cond (aL uI (List.length ba)) (cond (small (List.length Bt+List.length ([List.getD ba uI.toNat eC]))) (cond (aL uI (List.length ba)) (cond (aL uI (List.length ba)) (cond (aL uI (List.length ba)) ((gN N ((((((List.getD ba uI.toNat eC).2).2).2).2).1)).bind fun r6=>(A9 N (((List.getD ba uI.toNat eC).2).1) ((((List.getD ba uI.toNat eC).2).2).1) (2:Int) (0:Int) r6).bind fun r7=>cond (small (List.length fe+List.length r7)) (DH x2 x5 x6 aP aI ba cQ (fe++r7) (fu.1,(fu.2.1,(yX,fu.2.2.2))) (Bt++([List.getD ba uI.toNat eC])) (W .i64 (uI+1))) (none)) (none)) (none)) (none)) (none)) (none)) (DH x2 x5 x6 aP aI ba cQ fe fu Bt (W .i64 (uI+1)))) (none)) ((gN N cQ).bind fun kv=>(A9 N (4:Int) (0:Int) (2:Int) (0:Int) kv).bind fun lx=>cond (small (List.length fe+List.length lx)) (let Pj:List ((Int)×((Int)×(((Bool)×((List (Int))×(Unit)))×(Unit)))):=fe++lx;(Vx N x5 x6).bind fun mE=>(ue N x6.2.1 x2).bind fun pA=>cond (!ay pA 0) (aaJ x6 aP aI Pj fu Bt mE.1 (5:Int) pA) (aaJ x6 aP aI Pj fu Bt mE.1 (6:Int) x2)) (none))
def il.OL(N:Nat):Nat→il.Bq
 |0,_,_,_,_,_,_,_,_,_,_,_=>none
 |n+1,x2,x5,x6,aP,aI,ba,cQ,fe,fu,Bt,uI=>il.K2 N (il.j26 N) (il.OL N n) x2 x5 x6 aP aI ba cQ fe fu Bt uI
def il.b(N:Nat)(SE:il.Bq)(a0:aa)(a1:ag)(a2:Int)(a3:au)(a4:au):Option (ag×c3×(Int)):=
 (cm N a0 a1 a2 a3 a4).bind fun r1=>cond (ay r1.2 1) (some ((bF,(cc,(aY,(aY,(cv,(cF,())))))),((0:Int),((0:Int),(yX,((0:Int),())))),r1.2)) (cond (ay r1.2 3) (some ((bF,(cc,(aY,(aY,(cv,(cF,())))))),((0:Int),((0:Int),(yX,((0:Int),())))),r1.2)) ((Vw N a0 a1).bind fun r2=>cond (!ay r2.2 0) (some ((bF,(cc,(aY,(aY,(cv,(cF,())))))),((0:Int),((0:Int),(yX,((0:Int),())))),r2.2)) (cond (!ay r1.2 0) (some ((bF,(cc,(aY,(aY,(cv,(cF,())))))),((0:Int),((0:Int),(yX,((0:Int),())))),r1.2)) ((cJ N r1.1 r2.1).bind fun r3=>cond (!ay r3.2.2 0) (some ((bF,(cc,(aY,(aY,(cv,(cF,())))))),((0:Int),((0:Int),(yX,((0:Int),())))),r3.2.2)) (SE a2 a0 a1 (bF,(cc,(aY,(aY,(cv,(cF,())))))) ((0:Int),((0:Int),(yX,((0:Int),())))) r3.1 r3.2.1 ([]) (a2,(r2.1,(yX,(r3.2.1,())))) yX (0:Int))))))
def il(N:Nat)(a0:aa)(a1:ag)(a2:Int)(a3:au)(a4:au):Option (ag×c3×(Int)):=il.b N (il.OL N N) a0 a1 a2 a3 a4
abbrev db.Bm:=(List (Int))→(List (Int))→(List (Int))→Int→Int→(List (Int))→Int→Option ((List (Int))×(Int)×(Int))
abbrev db.eT:=(List (Int))→(List (Int))→(List (Int))→Int→Int→(List (Int))→Bool→Int→Option ((List (Int))×(Int)×(Int))
abbrev db.ej:=(List (Int))→(List (Int))→(List (Int))→Int→Int→Option ((List (Int))×(Int)×(Int))
def db.KA(N:Nat)(dd:db.ej)(SA:db.Bm)(x1:List (Int))(x2:List (Int))(aI:List (Int))(aO:Int)(ba:Int)(cQ:List (Int))(fu:Int):Option ((List (Int))×(Int)×(Int)):=
 cond (aH fu (List.length x1:Int)) (cond (aL fu (List.length cQ)) (cond (aL fu (List.length x2)) (cond (aL fu (List.length aI)) (let M5:Int:=mn (List.getD cQ fu.toNat (0:Int)) (W .i64 ((List.getD x2 fu.toNat (0:Int))-(List.getD aI fu.toNat (0:Int))));cond (aL fu (List.length aI)) (cond (aL fu (List.length aI)) (SA x1 x2 (List.set aI fu.toNat (W .i64 ((List.getD aI fu.toNat (0:Int))+M5))) (W .i64 (aO-M5)) ba cQ (W .i64 (fu+1))) (none)) (none)) (none)) (none)) (none)) (dd x1 x2 aI aO (W .i64 (ba+1)))
def db.Oc(N:Nat)(dd:db.ej):Nat→db.Bm
 |0,_,_,_,_,_,_,_=>none
 |n+1,x1,x2,aI,aO,ba,cQ,fu=>db.KA N dd (db.Oc N dd n) x1 x2 aI aO ba cQ fu
def db.jV(N:Nat)(SC:db.Bm)(dd:db.ej)(gV:db.eT)(x1:List (Int))(x2:List (Int))(aI:List (Int))(aO:Int)(ba:Int)(bl:List (Int))(b7:Bool)(cT:Int):Option ((List (Int))×(Int)×(Int)):=
 cond (aH cT (List.length x1:Int)) (cond (aL cT (List.length x1)) (cond (aH 0 (List.getD x1 cT.toNat (0:Int))) (cond (aL cT (List.length aI)) (cond (aL cT (List.length x2)) (cond (aH (List.getD aI cT.toNat (0:Int)) (List.getD x2 cT.toNat (0:Int))) (cond (aL cT (List.length x1)) (cond (aL cT (List.length bl)) (gV x1 x2 aI aO ba (List.set bl cT.toNat (List.getD x1 cT.toNat (0:Int))) true (W .i64 (cT+1))) (none)) (none)) (gV x1 x2 aI aO ba bl b7 (W .i64 (cT+1)))) (none)) (none)) (gV x1 x2 aI aO ba bl b7 (W .i64 (cT+1)))) (none)) (cond (ay aO 0) (some (aI,aO,(0:Int))) (cond (!b7) (some (aI,aO,(0:Int))) ((dJ N aO bl).bind fun kV=>SC x1 x2 aI aO ba kV.1 (0:Int))))
def db.kL(N:Nat)(dd:db.ej):Nat→db.eT
 |0,_,_,_,_,_,_,_,_=>none
 |n+1,x1,x2,aI,aO,ba,bl,b7,cT=>db.jV N (db.Oc N dd N) dd (db.kL N dd n) x1 x2 aI aO ba bl b7 cT
def db.wk(N:Nat)(p6:db.eT)(dd:db.ej)(x1:List (Int))(x2:List (Int))(aI:List (Int))(aO:Int)(ba:Int):Option ((List (Int))×(Int)×(Int)):=
 cond (bU ba (List.length x1:Int)) (cond (fX (List.length x1:Int) (List.length x1:Int)) (p6 x1 x2 aI aO ba (List.replicate (List.length x1:Int).toNat (0:Int)) false (0:Int)) (none)) (some (aI,aO,(0:Int)))
def db.l8(N:Nat):Nat→db.ej
 |0,_,_,_,_,_=>none
 |n+1,x1,x2,aI,aO,ba=>db.wk N (db.kL N (db.l8 N n) N) (db.l8 N n) x1 x2 aI aO ba
def db.b(N:Nat)(w8:db.ej)(a0:Int)(a1:List (Int))(a2:List (Int)):Option ((List (Int))×(Int)×(Int)):=
 (mq N a0 a1).bind fun r1=>cond (r1) (some ([],(0:Int),(1:Int))) (cond (!ay (List.length a2:Int) (List.length a1:Int)) (some ([],(0:Int),(1:Int))) ((mq N (0:Int) a2).bind fun r2=>cond (r2) (some ([],(0:Int),(1:Int))) ((me N a1).bind fun r3=>(rZ N r3).bind fun r4=>cond (!r4.2) (some ([],(0:Int),(2:Int))) (cond (fX (List.length a1:Int) (List.length a1:Int)) (w8 a1 a2 (List.replicate (List.length a1:Int).toNat (0:Int)) a0 (0:Int)) (none)))))
def db(N:Nat)(a0:Int)(a1:List (Int))(a2:List (Int)):Option ((List (Int))×(Int)×(Int)):=db.b N (db.l8 N N) a0 a1 a2
abbrev qW.SI:=Int→Int→(List (Int))→(List (Int))→aj→Int→Option (aj×(Int))
abbrev qW.sD:=Int→ag→Int→(List (Int))→(List (Int))→Int→Option (aj×(Int))
def qW.acJ(N:Nat)(M6:qW.SI)(x2:Int)(x8:Int)(x9:List (Int))(ba:List (Int))(cT:aj)(cQ:Int):Option (aj×(Int)):=
 cond (aH cQ (List.length ba:Int)) (cond (aL cQ (List.length ba)) (cond (aH x8 0) (let v17:Int:=W .i64 (0-(List.getD ba cQ.toNat (0:Int)));cond (!ay v17 0) (cond (aL cQ (List.length x9)) (cond (small (List.length cT+List.length ([(List.getD x9 cQ.toNat (0:Int),(x2,(v17,())))]))) (M6 x2 x8 x9 ba (cT++([(List.getD x9 cQ.toNat (0:Int),(x2,(v17,())))])) (W .i64 (cQ+1))) (none)) (none)) (M6 x2 x8 x9 ba cT (W .i64 (cQ+1)))) (cond (!ay (List.getD ba cQ.toNat (0:Int)) (0:Int)) (cond (aL cQ (List.length x9)) (cond (small (List.length cT+List.length ([(List.getD x9 cQ.toNat (0:Int),(x2,(List.getD ba cQ.toNat (0:Int),())))]))) (M6 x2 x8 x9 ba (cT++([(List.getD x9 cQ.toNat (0:Int),(x2,(List.getD ba cQ.toNat (0:Int),())))])) (W .i64 (cQ+1))) (none)) (none)) (M6 x2 x8 x9 ba cT (W .i64 (cQ+1))))) (none)) (some (cT,(0:Int)))
def qW.l21(N:Nat):Nat→qW.SI
 |0,_,_,_,_,_,_=>none
 |n+1,x2,x8,x9,ba,cT,cQ=>qW.acJ N (qW.l21 N n) x2 x8 x9 ba cT cQ
def qW.A5(N:Nat)(aiy:qW.SI)(wa:qW.sD)(x2:Int)(x4:ag)(x8:Int)(x9:List (Int))(aP:List (Int))(aI:Int):Option (aj×(Int)):=
 cond (aH aI (List.length x4.2.2.2.1:Int)) (cond (aL aI (List.length x4.2.2.2.1)) (cond (!ay ((List.getD x4.2.2.2.1 aI.toNat aQ).1) (0:Int)) (cond (ay (((List.getD x4.2.2.2.1 aI.toNat aQ).2).1) x2) (cond (!(kZ .bool (aH 0 ((((List.getD x4.2.2.2.1 aI.toNat aQ).2).2).1)) (aH 0 x8))) (cond (small (List.length x9+List.length ([(List.getD x4.2.2.2.1 aI.toNat aQ).1]))) (let v6:Int:=mx ((((List.getD x4.2.2.2.1 aI.toNat aQ).2).2).1) (W .i64 (0-((((List.getD x4.2.2.2.1 aI.toNat aQ).2).2).1)));cond (small (List.length aP+List.length ([v6]))) (wa x2 x4 x8 (x9++([(List.getD x4.2.2.2.1 aI.toNat aQ).1])) (aP++([v6])) (W .i64 (aI+1))) (none)) (none)) (wa x2 x4 x8 x9 aP (W .i64 (aI+1)))) (wa x2 x4 x8 x9 aP (W .i64 (aI+1)))) (wa x2 x4 x8 x9 aP (W .i64 (aI+1)))) (none)) ((db N (mx x8 (W .i64 (0-x8))) aP aP).bind fun mE=>cond (!ay mE.2.2 0) (some ([],mE.2.2)) (aiy x2 x8 x9 mE.1 ([((0:Int),(x2,((W .i64 (0-x8)),())))]) (0:Int)))
def qW.Dz(N:Nat):Nat→qW.sD
 |0,_,_,_,_,_,_=>none
 |n+1,x2,x4,x8,x9,aP,aI=>qW.A5 N (qW.l21 N N) (qW.Dz N n) x2 x4 x8 x9 aP aI
def qW.b(N:Nat)(Il:qW.sD)(a0:aa)(a1:ag)(a2:Int):Option (aj×(Int)):=
 (bO N a0 a1).bind fun r1=>cond (!r1) (some ([],(1:Int))) (cond (aH a2 0) (some ([],(3:Int))) (cond (bU (List.length a0.1:Int) a2) (some ([],(3:Int))) ((tJ N a1.2.2.2.1 (0:Int) a2).bind fun r2=>cond (ay r2 0) (some ([],(0:Int))) (Il a2 a1 r2 ([]) ([]) (0:Int)))))
def qW(N:Nat)(a0:aa)(a1:ag)(a2:Int):Option (aj×(Int)):=qW.b N (qW.Dz N N) a0 a1 a2
abbrev Bc.bb:=aa→ag→ag→aj→Int→Option (ag×(Int))
def Bc.c0(N:Nat)(bf:Bc.bb)(x2:aa)(x3:ag)(x4:ag)(x6:aj)(x7:Int):Option (ag×(Int)):=
 cond (aH x7 (List.length x2.1:Int)) ((qW N x2 x3 x7).bind fun r3=>cond (!ay r3.2 0) (some ((bF,(cc,(aY,(aY,(cv,(cF,())))))),r3.2)) (cond (small (List.length x6+List.length r3.1)) (bf x2 x3 x4 (x6++r3.1) (W .i64 (x7+1))) (none))) ((A4 N x3 x6 ([]:List ((Int)×((Int)×(((Bool)×((List (Int))×(Unit)))×(Unit)))))).bind fun r6=>some (r6.1,r6.2))
def Bc.l5(N:Nat):Nat→Bc.bb
 |0,_,_,_,_,_=>none
 |n+1,x2,x3,x4,x6,x7=>Bc.c0 N (Bc.l5 N n) x2 x3 x4 x6 x7
def Bc.b(N:Nat)(dk:Bc.bb)(a0:aa)(a1:ag):Option (ag×(Int)):=
 (bO N a0 a1).bind fun r1=>cond (!r1) (some ((bF,(cc,(aY,(aY,(cv,(cF,())))))),(1:Int))) (dk a0 a1 (bF,(cc,(aY,(aY,(cv,(cF,())))))) ([]) (0:Int))
def Bc(N:Nat)(a0:aa)(a1:ag):Option (ag×(Int)):=Bc.b N (Bc.l5 N N) a0 a1
abbrev ob.SJ:=aM→aM→bW→aZ→Int→Int→Option (aM×bW)
def ob.acK(N:Nat)(aaK:ob.SJ)(x4:aM)(x6:aM)(x7:bW)(bl:aZ)(cT:Int)(cQ:Int):Option (aM×bW):=
 cond (aH cQ (List.length bl:Int)) (cond (aL cQ (List.length bl)) (cond (ay (((((List.getD bl cQ.toNat ((0:Int),(bF,aJ))).2).2).2).1) (2:Int)) (aaK x4 x6 x7 bl (W .i64 (cT+1)) (W .i64 (cQ+1))) (aaK x4 x6 x7 bl cT (W .i64 (cQ+1)))) (none)) (some (x4,((0:Int),(cT,((0:Int),())))))
def ob.l41(N:Nat):Nat→ob.SJ
 |0,_,_,_,_,_,_=>none
 |n+1,x4,x6,x7,bl,cT,cQ=>ob.acK N (ob.l41 N n) x4 x6 x7 bl cT cQ
def ob.b(N:Nat)(aiz:ob.SJ)(a0:aa)(a1:aM)(a2:fO):Option (aM×bW):=
 cond (ay a2.1 14) ((Vr N a0 a1.2.2.1 a1.2.2.2.1.1 a2.2.1 a2.2.2.1).bind fun r1=>(ea N r1.2).bind fun r2=>some ((a1.1,(a1.2.1,(r1.1,a1.2.2.2))),r2)) (cond (ay a2.1 15) ((fW N a0 a1.2.2.1 a1.2.2.2.1.1).bind fun r3=>(ea N r3.2).bind fun r4=>some ((a1.1,(a1.2.1,(r3.1,((a1.2.2.2.1.1,((2:Int),((0:Int),a1.2.2.2.1.2.2.2))),a1.2.2.2.2)))),r4)) (cond (ay a2.1 16) ((mD N a0 a1.2.2.1 a1.2.1).bind fun r5=>some ((a1.1,((W .i64 (a1.2.1+(List.length r5.1:Int))),(a1.2.2.1,((a1.2.2.2.1.1,(a1.2.2.2.1.2.1,(a1.2.2.2.1.2.2.1,(a1.2.2.2.1.2.2.2.1,(r5.1,a1.2.2.2.1.2.2.2.2.2))))),a1.2.2.2.2)))),(r5.2,((List.length r5.1:Int),((0:Int),()))))) (cond (ay a2.1 17) ((oa N a0 a1 a2).bind fun r7=>some (r7.1,r7.2)) (cond (ay a2.1 18) (cond (ay a1.2.2.2.1.2.2.2.1 3) ((ea N (5:Int)).bind fun r8=>some (a1,r8)) ((cZ N a0 a1.2.2.1 a1.2.1).bind fun r9=>cond (!ay r9.2 0) ((ea N r9.2).bind fun iB=>some (a1,iB)) ((O7 N a1 a0.2.2.2.2.1).bind fun kv=>cond (!kv.2) ((ea N (2:Int)).bind fun lx=>some (a1,lx)) ((n5 N a0 a1.2.2.1).bind fun mE=>some ((a1.1,((W .i64 (a1.2.1+(List.length r9.1:Int))),(a1.2.2.1,((a1.2.2.2.1.1,((3:Int),(kv.1,((W .i64 (a1.2.2.2.1.2.2.2.1+1)),(cc,(r9.1,(cc,(mE.1,a1.2.2.2.1.2.2.2.2.2.2.2.2)))))))),a1.2.2.2.2)))),((0:Int),((List.length r9.1:Int),((0:Int),())))))))) (cond (ay a2.1 19) ((Vu N a0 a1.2.2.1 a1.2.2.2.1.2.2.2.2.2.1 a1.2.2.2.1.2.2.2.2.2.2.1 (a1.2.1,(a2.2.2.2.2.2.1,(a2.2.1,(a2.2.2.2.2.2.2.2.1,()))))).bind fun tt=>let v17:Int:=W .i64 (a1.2.1+1);some ((a1.1,(v17,(a1.2.2.1,((a1.2.2.2.1.1,(a1.2.2.2.1.2.1,(a1.2.2.2.1.2.2.1,(a1.2.2.2.1.2.2.2.1,(a1.2.2.2.1.2.2.2.2.1,(a1.2.2.2.1.2.2.2.2.2.1,(tt.1,a1.2.2.2.1.2.2.2.2.2.2.2))))))),a1.2.2.2.2)))),(tt.2,((W .i64 (v17-1)),((0:Int),()))))) (cond (ay a2.1 20) ((pv N a0 a1.2.2.1 a1.2.2.2.1.2.2.2.2.2.1 a1.2.2.2.1.2.2.2.2.2.2.1).bind fun E8=>cond (!ay E8.2.2 0) ((ea N E8.2.2).bind fun Ih=>some (a1,Ih)) ((cB N a0 a1.2.2.2.1.2.2.2.2.2.2.2.2.1 a1.2.2.2.1.2.2.2.2.2.2.2.1 E8.2.1 a1.2.2.2.1.2.2.2.2.2.2.1).bind fun JP=>aiz (a1.1,(a1.2.1,(E8.1,((a1.2.2.2.1.1,((2:Int),((0:Int),(a1.2.2.2.1.2.2.2.1,(a1.2.2.2.1.2.2.2.2.1,(E8.2.1,(a1.2.2.2.1.2.2.2.2.2.2.1,(a1.2.2.2.1.2.2.2.2.2.2.2.1,(JP.1,a1.2.2.2.1.2.2.2.2.2.2.2.2.2))))))))),a1.2.2.2.2)))) ((0:Int),((0:Int),((bF,(cc,(aY,(aY,(cv,(cF,())))))),(((0:Int),((0:Int),((0:Int),((0:Int),(cc,(([]:List ((Int)×((List ((Int)×((Int)×(Unit))))×((Int)×((Int)×((Int)×((Int)×(Unit)))))))),(cc,(cv,(bF,(bF,())))))))))),(((0:Int),((0:Int),(yX,((0:Int),())))),()))))) aQ E8.2.1 (0:Int) (0:Int))) (cond (ay a2.1 21) ((il N a0 a1.2.2.1 a1.2.2.2.1.1 a1.2.2.2.1.2.2.2.2.2.2.2.2.1 a1.2.2.2.1.2.2.2.2.2.2.2.2.2.1).bind fun wq=>cond (!ay wq.2.2 0) ((ea N wq.2.2).bind fun Ph=>some (a1,Ph)) ((Bc N a0 wq.1).bind fun Ts=>cond (!ay Ts.2 0) ((ea N Ts.2).bind fun BH=>some (a1,BH)) ((lX N Ts.1.1 a1.2.2.2.1.1 a2.1).bind fun Lr=>some ((a1.1,(a1.2.1,((Lr.1,Ts.1.2),(((0:Int),((0:Int),((0:Int),((0:Int),(cc,(([]:List ((Int)×((List ((Int)×((Int)×(Unit))))×((Int)×((Int)×((Int)×((Int)×(Unit)))))))),(cc,(cv,(bF,(bF,())))))))))),(wq.2.1,a1.2.2.2.2.2))))),(Lr.2,((0:Int),(wq.2.1.2.1,()))))))) ((ea N (0:Int)).bind fun JS=>some (a1,JS)))))))))
def ob(N:Nat)(a0:aa)(a1:aM)(a2:fO):Option (aM×bW):=ob.b N (ob.l41 N N) a0 a1 a2
abbrev qX.SG:=aa→aM→fO→aM→bW→Option (aM×bW)
def qX.Lb(N:Nat)(x3:aa)(x4:aM)(x5:fO)(x6:aM)(x7:bW):Option (aM×bW):=
 (VE N x4 x5.1).bind fun Ph=>cond (!Ph) ((ea N (6:Int)).bind fun Ts=>some (x4,Ts)) ((ob N x3 x4 x5).bind fun BH=>some (BH.1,BH.2))
def qX.Sb(N:Nat)(x3:aa)(x4:aM)(x5:fO)(x6:aM)(x7:bW):Option (aM×bW):=qX.Lb N x3 x4 x5 x6 x7
def qX.b(N:Nat)(Io:qX.SG)(a0:aa)(a1:aM)(a2:fO):Option (aM×bW):=
 cond (ay a2.1 11) ((lX N a1.2.2.1.1 a2.2.1 a2.1).bind fun r1=>cond (ay r1.2 0) (cond (ay a2.1 11) ((OT N a0 (r1.1,a1.2.2.1.2) a2.2.1).bind fun r2=>cond (ay a1.2.2.2.1.2.1 3) ((mv N a1.2.2.2.1.2.2.2.2.2.2.1 a2.2.1).bind fun r3=>(ea N r1.2).bind fun r4=>some ((a1.1,(a1.2.1,(r2.1,((a1.2.2.2.1.1,(a1.2.2.2.1.2.1,(a1.2.2.2.1.2.2.1,(a1.2.2.2.1.2.2.2.1,(a1.2.2.2.1.2.2.2.2.1,(a1.2.2.2.1.2.2.2.2.2.1,(r3,a1.2.2.2.1.2.2.2.2.2.2.2))))))),a1.2.2.2.2)))),r4)) ((ea N r1.2).bind fun r5=>some ((a1.1,(a1.2.1,(r2.1,a1.2.2.2))),r5))) ((ea N r1.2).bind fun r6=>some ((a1.1,(a1.2.1,((r1.1,a1.2.2.1.2),a1.2.2.2))),r6))) ((ea N r1.2).bind fun r7=>some ((a1.1,(a1.2.1,((r1.1,a1.2.2.1.2),a1.2.2.2))),r7))) (cond (ay a2.1 12) ((lX N a1.2.2.1.1 a2.2.1 a2.1).bind fun r8=>cond (ay r8.2 0) (cond (ay a2.1 11) ((OT N a0 (r8.1,a1.2.2.1.2) a2.2.1).bind fun r9=>cond (ay a1.2.2.2.1.2.1 3) ((mv N a1.2.2.2.1.2.2.2.2.2.2.1 a2.2.1).bind fun iB=>(ea N r8.2).bind fun kv=>some ((a1.1,(a1.2.1,(r9.1,((a1.2.2.2.1.1,(a1.2.2.2.1.2.1,(a1.2.2.2.1.2.2.1,(a1.2.2.2.1.2.2.2.1,(a1.2.2.2.1.2.2.2.2.1,(a1.2.2.2.1.2.2.2.2.2.1,(iB,a1.2.2.2.1.2.2.2.2.2.2.2))))))),a1.2.2.2.2)))),kv)) ((ea N r8.2).bind fun lx=>some ((a1.1,(a1.2.1,(r9.1,a1.2.2.2))),lx))) ((ea N r8.2).bind fun kV=>some ((a1.1,(a1.2.1,((r8.1,a1.2.2.1.2),a1.2.2.2))),kV))) ((ea N r8.2).bind fun mE=>some ((a1.1,(a1.2.1,((r8.1,a1.2.2.1.2),a1.2.2.2))),mE))) (cond (ay a2.1 13) ((E4 N a1 a2.2.1).bind fun pA=>cond (ay pA 0) ((ea N (3:Int)).bind fun tt=>some (a1,tt)) (cond (!ay a1.2.2.2.1.2.1 0) ((ea N (6:Int)).bind fun o8=>some (a1,o8)) ((lX N a1.2.2.1.1 a2.2.1 a2.1).bind fun wo=>cond (!ay wo.2 0) ((ea N wo.2).bind fun E8=>some ((a1.1,(a1.2.1,((wo.1,a1.2.2.1.2),a1.2.2.2))),E8)) ((O7 N (a1.1,(a1.2.1,((wo.1,a1.2.2.1.2),a1.2.2.2))) a0.2.2.2.1).bind fun Ih=>cond (!Ih.2) ((ea N (2:Int)).bind fun JP=>some ((a1.1,(a1.2.1,((wo.1,a1.2.2.1.2),a1.2.2.2))),JP)) (some ((a1.1,(a1.2.1,((wo.1,a1.2.2.1.2),((a2.2.1,((1:Int),(Ih.1,((0:Int),(cc,(([]:List ((Int)×((List ((Int)×((Int)×(Unit))))×((Int)×((Int)×((Int)×((Int)×(Unit)))))))),(cc,(cv,(bF,(bF,())))))))))),a1.2.2.2.2)))),aQ)))))) (cond (ay a2.1 19) ((E4 N a1 a2.2.1).bind fun JT=>cond (ay JT 0) ((ea N (3:Int)).bind fun Bi=>some (a1,Bi)) ((E4 N a1 a2.2.1).bind fun FB=>cond (!ay FB 1) ((ea N (7:Int)).bind fun DG=>some (a1,DG)) (Io a0 a1 a2 ((0:Int),((0:Int),((bF,(cc,(aY,(aY,(cv,(cF,())))))),(((0:Int),((0:Int),((0:Int),((0:Int),(cc,(([]:List ((Int)×((List ((Int)×((Int)×(Unit))))×((Int)×((Int)×((Int)×((Int)×(Unit)))))))),(cc,(cv,(bF,(bF,())))))))))),(((0:Int),((0:Int),(yX,((0:Int),())))),()))))) aQ))) (Io a0 a1 a2 ((0:Int),((0:Int),((bF,(cc,(aY,(aY,(cv,(cF,())))))),(((0:Int),((0:Int),((0:Int),((0:Int),(cc,(([]:List ((Int)×((List ((Int)×((Int)×(Unit))))×((Int)×((Int)×((Int)×((Int)×(Unit)))))))),(cc,(cv,(bF,(bF,())))))))))),(((0:Int),((0:Int),(yX,((0:Int),())))),()))))) aQ))))
def qX(N:Nat)(a0:aa)(a1:aM)(a2:fO):Option (aM×bW):=qX.b N (qX.Sb N) a0 a1 a2
def VH(N:Nat)(a0:aa)(a1:aM)(a2:fO):Option (aM×bW):=
 cond (ay a2.1 1) ((ij N a1.2.2.1.1 a2.2.1).bind fun r1=>(ea N r1.2).bind fun r2=>some ((a1.1,(a1.2.1,((r1.1,a1.2.2.1.2),a1.2.2.2))),r2)) (cond (ay a2.1 2) ((eI N a1.2.2.1.1 a1.2.2.1.2.1 (a2.2.2.1,(a2.2.1,(a2.2.2.2.2.1,((0:Int),()))))).bind fun r3=>(ea N r3.2).bind fun r4=>some ((a1.1,(a1.2.1,((a1.2.2.1.1,(r3.1,a1.2.2.1.2.2)),a1.2.2.2))),r4)) (cond (ay a2.1 3) ((Sp N a1 a2.2.2.1).bind fun r5=>cond (!r5) ((ea N (3:Int)).bind fun r6=>some (a1,r6)) ((O8 N a1 (1:Int) (0:Int) (5:Int) a2.2.2.1 a2.2.2.2.2.2.2.1).bind fun r7=>some (r7.1,r7.2))) (cond (ay a2.1 4) ((Vp N a0 a1.2.2.1 a2.2.2.1 a2.2.2.2.2.2.2.1).bind fun r8=>(ea N r8.2).bind fun r9=>some ((a1.1,(a1.2.1,(r8.1,a1.2.2.2))),r9)) (cond (ay a2.1 5) ((E4 N a1 a2.2.1).bind fun iB=>cond (ay iB 0) ((ea N (3:Int)).bind fun kv=>some (a1,kv)) ((E4 N a1 a2.2.1).bind fun lx=>cond (!ay lx 1) ((ea N (7:Int)).bind fun kV=>some (a1,kV)) ((O8 N a1 (1:Int) (0:Int) (6:Int) a2.2.1 a2.2.2.2.2.2.2.1).bind fun mE=>some (mE.1,mE.2)))) (cond (ay a2.1 22) ((E4 N a1 a2.2.1).bind fun pA=>cond (ay pA 0) ((ea N (3:Int)).bind fun tt=>some (a1,tt)) ((ri N a1.2.2.1.2.2.1 (7:Int) a2.2.1).bind fun o8=>(gN N o8).bind fun wo=>(Pw N wo).bind fun E8=>(gN N a2.2.2.2.2.2.2.1).bind fun Ih=>(JL N Ih E8).bind fun JP=>cond (aH 0 JP) ((ea N (9:Int)).bind fun JT=>some (a1,JT)) ((O8 N a1 (1:Int) (0:Int) (7:Int) a2.2.1 a2.2.2.2.2.2.2.1).bind fun Bi=>some (Bi.1,Bi.2)))) (cond (ay a2.1 6) ((nW N a1.2.2.1.2.1 a2.2.2.1 a2.2.2.2.2.2.2.1).bind fun FB=>(ea N FB.2).bind fun DG=>some ((a1.1,(a1.2.1,((a1.2.2.1.1,(FB.1,a1.2.2.1.2.2)),a1.2.2.2))),DG)) (cond (ay a2.1 7) ((jE N a0 a1.2.2.1 (a1.2.1,(a2.2.2.1,(a2.2.2.2.1,(a2.2.2.2.2.1,(a2.2.2.2.2.2.2.1,(a2.2.2.2.2.2.2.2.1,()))))))).bind fun wq=>let v27:Int:=W .i64 (a1.2.1+1);some ((a1.1,(v27,(wq.1,a1.2.2.2))),(wq.2.2.2,((W .i64 (v27-1)),((W .i64 (a2.2.2.2.2.2.2.1-wq.2.2.1)),()))))) (cond (ay a2.1 8) ((Sp N a1 a2.2.2.1).bind fun Lr=>cond (!Lr) ((ea N (3:Int)).bind fun JS=>some (a1,JS)) ((nZ N a1.2.2.1.2.2.2.2.2.1 a2.2.2.1 a2.2.2.2.2.2.1).bind fun r32=>(ea N r32.2).bind fun r33=>some ((a1.1,(a1.2.1,((a1.2.2.1.1,(a1.2.2.1.2.1,(a1.2.2.1.2.2.1,(a1.2.2.1.2.2.2.1,(a1.2.2.1.2.2.2.2.1,(r32.1,a1.2.2.1.2.2.2.2.2.2)))))),a1.2.2.2))),r33))) (cond (ay a2.1 9) ((Vo N a0 a1.2.2.1 a2.2.2.2.1 a2.2.2.2.2.2.2.2.1).bind fun Sz=>cond (ay Sz.2.2 0) (cond (!ay a1.2.2.2.1.2.1 0) ((df N a1.2.2.2.1.2.2.2.2.2.2.2.2.2.1 Sz.2.1).bind fun r35=>(ea N r35.2).bind fun r36=>some ((a1.1,(a1.2.1,(Sz.1,((a1.2.2.2.1.1,(a1.2.2.2.1.2.1,(a1.2.2.2.1.2.2.1,(a1.2.2.2.1.2.2.2.1,(a1.2.2.2.1.2.2.2.2.1,(a1.2.2.2.1.2.2.2.2.2.1,(a1.2.2.2.1.2.2.2.2.2.2.1,(a1.2.2.2.1.2.2.2.2.2.2.2.1,(a1.2.2.2.1.2.2.2.2.2.2.2.2.1,(r35.1,a1.2.2.2.1.2.2.2.2.2.2.2.2.2.2)))))))))),a1.2.2.2.2)))),r36)) ((ea N Sz.2.2).bind fun r37=>some ((a1.1,(a1.2.1,(Sz.1,a1.2.2.2))),r37))) ((ea N Sz.2.2).bind fun r38=>some ((a1.1,(a1.2.1,(Sz.1,a1.2.2.2))),r38))) (cond (ay a2.1 10) ((O7 N a1 a2.2.2.2.2.2.2.1).bind fun r39=>cond (!r39.2) ((ea N (2:Int)).bind fun r40=>some (a1,r40)) (some ((r39.1,a1.2),aQ))) ((qX N a0 a1 a2).bind fun r41=>some (r41.1,r41.2))))))))))))
def VJ(N:Nat)(a0:aa)(a1:aM)(a2:fO):Option (aM×bW):=
 (iZ N a0).bind fun r1=>cond (!r1) (some (a1,((1:Int),bI))) ((nV N a2).bind fun r2=>cond (!r2) (some (a1,((1:Int),bI))) ((VH N a0 a1 a2).bind fun r3=>cond (!ay r3.2.1 0) (some (a1,(r3.2.1,bI))) (some (r3.1,r3.2))))
abbrev Bf.eX:=gg→aa→aM→aM→aj→Int→Option (aM×aj)
def Bf.pn(N:Nat)(eY:Bf.eX)(x1:gg)(x2:aa)(x4:aM)(x6:aM)(x8:aj)(x9:Int):Option (aM×aj):=
 cond (aH x9 (List.length x1:Int)) (cond (aL x9 (List.length x1)) ((VJ N x2 x6 (List.getD x1 x9.toNat zz8)).bind fun r3=>cond (small (List.length x8+List.length ([r3.2]))) (eY x1 x2 x4 r3.1 (x8++([r3.2])) (W .i64 (x9+1))) (none)) (none)) (some (x6,x8))
def Bf.l6(N:Nat):Nat→Bf.eX
 |0,_,_,_,_,_,_=>none
 |n+1,x1,x2,x4,x6,x8,x9=>Bf.pn N (Bf.l6 N n) x1 x2 x4 x6 x8 x9
def Bf.b(N:Nat)(q4:Bf.eX)(a0:aa)(a1:gg):Option (aM×aj):=
 (acM N a0).bind fun r1=>cond (!ay r1.2 0) (some (((0:Int),((0:Int),((bF,(cc,(aY,(aY,(cv,(cF,())))))),(((0:Int),((0:Int),((0:Int),((0:Int),(cc,(([]:List ((Int)×((List ((Int)×((Int)×(Unit))))×((Int)×((Int)×((Int)×((Int)×(Unit)))))))),(cc,(cv,(bF,(bF,())))))))))),(((0:Int),((0:Int),(yX,((0:Int),())))),()))))),[])) (q4 a1 a0 ((0:Int),((0:Int),((bF,(cc,(aY,(aY,(cv,(cF,())))))),(((0:Int),((0:Int),((0:Int),((0:Int),(cc,(([]:List ((Int)×((List ((Int)×((Int)×(Unit))))×((Int)×((Int)×((Int)×((Int)×(Unit)))))))),(cc,(cv,(bF,(bF,())))))))))),(((0:Int),((0:Int),(yX,((0:Int),())))),()))))) r1.1 ([]) (0:Int))
def Bf(N:Nat)(a0:aa)(a1:gg):Option (aM×aj):=Bf.b N (Bf.l6 N N) a0 a1
def F28(N:Nat)(a0:aK)(a1:aa)(a2:Int):Option (aM×aK):=
 (zm N a0 a1 a2).bind fun r1=>(ox N r1.2 (2:Int)).bind fun r2=>let v3:Int:=W .i64 ((1:Int)+r2.1);cond (small (List.length r1.1+List.length ([((11:Int),(v3,dQ)),((13:Int),(v3,dQ))]))) (let v4:List ((Int)×((Int)×((Int)×((Int)×((Int)×((Int)×((Int)×((Int)×(Unit))))))))):=r1.1++([((11:Int),(v3,dQ)),((13:Int),(v3,dQ))]);(yN N r2.2 a1).bind fun r5=>cond (small (List.length v4+List.length r5.1)) (let v6:List ((Int)×((Int)×((Int)×((Int)×((Int)×((Int)×((Int)×((Int)×(Unit))))))))):=v4++r5.1;cond (small (List.length v6+List.length ([((10:Int),((0:Int),((0:Int),((0:Int),((0:Int),((0:Int),((2:Int),((0:Int),())))))))),((15:Int),Z9)]))) (let v7:List ((Int)×((Int)×((Int)×((Int)×((Int)×((Int)×((Int)×((Int)×(Unit))))))))):=v6++([((10:Int),((0:Int),((0:Int),((0:Int),((0:Int),((0:Int),((2:Int),((0:Int),())))))))),((15:Int),Z9)]);(yN N r5.2 a1).bind fun r8=>cond (small (List.length v7+List.length r8.1)) ((Bf N a1 (v7++r8.1)).bind fun iB=>some (iB.1,r8.2)) (none)) (none)) (none)) (none)
abbrev yL.bn:=aT→aT→Int→Option (Bool)
def yL.c5(N:Nat)(bJ:yL.bn)(x0:aT)(x1:aT)(x5:Int):Option (Bool):=
 cond (aH x5 (List.length x0:Int)) (cond (aL x5 (List.length x0)) (cond (aL x5 (List.length x1)) (cond (!(kZ (.pair (.int .i64) (.pair (.int .i64) (.pair (.int .i64) (.pair (.int .i64) (.pair (.int .i64) (.pair (.int .i64) .unit)))))) (List.getD x0 x5.toNat dQ) (List.getD x1 x5.toNat dQ))) (some false) (bJ x0 x1 (W .i64 (x5+1)))) (none)) (none)) (some true)
def yL.l4(N:Nat):Nat→yL.bn
 |0,_,_,_=>none
 |n+1,x0,x1,x5=>yL.c5 N (yL.l4 N n) x0 x1 x5
def yL.b(N:Nat)(dz:yL.bn)(a0:aT)(a1:aT):Option (Bool):=
 cond (!ay (List.length a0:Int) (List.length a1:Int)) (some false) (dz a0 a1 (0:Int))
def yL(N:Nat)(a0:aT)(a1:aT):Option (Bool):=yL.b N (yL.l4 N N) a0 a1
abbrev ky.Ia:=aK→aa→aM→aD→Int→bh→Int→Int→ag→bh→Int→Option (Bool)
abbrev ky.sB:=aK→aa→aM→aD→Int→bh→Int→Int→ag→bh→Int→Option (Bool)
abbrev ky.ej:=aK→aa→aM→aD→Int→Option (Bool)
def ky.z6(N:Nat)(dd:ky.ej)(x3:aK)(x4:aa)(x5:aM)(x6:aD)(x8:Int)(x9:bh)(aP:Int)(aI:Int)(ba:ag)(bl:bh)(cT:Int):Option (Bool):=
 cond (!ay bl.2.2.2.1 (W .i64 (x9.2.2.2.1-aI))) (some false) (cond (!ay bl.1 x9.1) (some false) ((tJ N ba.2.2.2.1 (0:Int) x9.2.1).bind fun DG=>(tJ N x5.2.2.1.2.2.2.1 (0:Int) x9.2.1).bind fun wq=>cond (!ay DG (W .i64 (wq+cT))) (some false) ((tJ N ba.2.2.2.1 aP x9.2.1).bind fun Ts=>(tJ N x5.2.2.1.2.2.2.1 aP x9.2.1).bind fun BH=>cond (!ay Ts (W .i64 (BH-cT))) (some false) ((yL N ba.2.2.2.2.2.1 x5.2.2.1.2.2.2.2.2.1).bind fun JS=>cond (!JS) (some false) (dd x3 x4 x5 x6 (W .i64 (x8+1)))))))
def ky.Gy(N:Nat)(dd:ky.ej)(x3:aK)(x4:aa)(x5:aM)(x6:aD)(x8:Int)(x9:bh)(aP:Int)(aI:Int)(ba:ag)(bl:bh)(cT:Int):Option (Bool):=ky.z6 N dd x3 x4 x5 x6 x8 x9 aP aI ba bl cT
def ky.mu(N:Nat)(vX:ky.Ia)(dd:ky.ej)(x3:aK)(x4:aa)(x5:aM)(x6:aD)(x8:Int)(x9:bh)(aP:Int)(aI:Int)(ba:ag)(bl:bh)(b7:Int):Option (Bool):=
 cond (!ay b7 0) (cond (!(kZ (.pair (.int .i64) (.pair (.int .i64) (.pair (.int .i64) (.pair (.int .i64) .unit)))) bl aJ)) (some false) (cond (!ay (List.length ba.2.2.2.2.1:Int) 0) (some false) (dd x3 x4 x5 x6 (W .i64 (x8+1))))) (cond (ay x9.2.2.1 2) (vX x3 x4 x5 x6 x8 x9 aP aI ba bl (W .i64 (0-aI))) (vX x3 x4 x5 x6 x8 x9 aP aI ba bl aI))
def ky.rA(N:Nat)(dd:ky.ej)(x3:aK)(x4:aa)(x5:aM)(x6:aD)(x8:Int)(x9:bh)(aP:Int)(aI:Int)(ba:ag)(bl:bh)(b7:Int):Option (Bool):=ky.mu N (ky.Gy N dd) dd x3 x4 x5 x6 x8 x9 aP aI ba bl b7
def ky.wk(N:Nat)(kd:ky.sB)(dd:ky.ej)(x3:aK)(x4:aa)(x5:aM)(x6:aD)(x8:Int):Option (Bool):=
 cond (aH x8 (List.length x6:Int)) (cond (aL x8 (List.length x6)) ((ox N x3 (8:Int)).bind fun r7=>let v8:Int:=W .i64 ((1:Int)+r7.1);(F42 N r7.2).bind fun r9=>let v10:Int:=W .u64 (((((List.getD x6 x8.toNat aJ).2).2).2).1);cond (ay v10 0) (none) (let Pj:Int:=W .i64 ((1:Int)+(W .i64 (rem r9.1 v10)));cond (aL (((List.getD x6 x8.toNat aJ).2).1) (List.length x5.2.2.1.2.2.2.2.1)) ((ox N r9.2 (3:Int)).bind fun mE=>let M5:Int:=mx 1 (W .i64 ((List.getD x5.2.2.1.2.2.2.2.1 (((List.getD x6 x8.toNat aJ).2).1).toNat (0:Int))-mE.1));(A0 N x4 x5.2.2.1 (List.getD x6 x8.toNat aJ) v8 Pj M5).bind fun o8=>(F50 N x4 x5.2.2.1 ((List.getD x6 x8.toNat aJ).1,(v8,(((List.getD x6 x8.toNat aJ).2).1,((W .i64 ((3:Int)-((((List.getD x6 x8.toNat aJ).2).2).1))),(Pj,(M5,()))))))).bind fun E8=>cond (!ay o8.2.2 E8) (cond (!ay o8.2.2 2) (some false) (kd mE.2 x4 x5 x6 x8 (List.getD x6 x8.toNat aJ) v8 Pj o8.1 o8.2.1 o8.2.2)) (kd mE.2 x4 x5 x6 x8 (List.getD x6 x8.toNat aJ) v8 Pj o8.1 o8.2.1 o8.2.2)) (none))) (none)) (some true)
def ky.l8(N:Nat):Nat→ky.ej
 |0,_,_,_,_,_=>none
 |n+1,x3,x4,x5,x6,x8=>ky.wk N (ky.rA N (ky.l8 N n)) (ky.l8 N n) x3 x4 x5 x6 x8
def ky.b(N:Nat)(w8:ky.ej)(a0:List (Int)):Option (Bool):=
 (F38 N).bind fun r1=>cond (!r1) (some false) ((F13 N a0).bind fun r2=>(qV N r2).bind fun r3=>(F28 N r3.2 r3.1 (20:Int)).bind fun r4=>(mD N r3.1 r4.1.2.2.1 r4.1.2.1).bind fun r5=>w8 r4.2 r3.1 r4.1 r5.1 (0:Int))
def ky(N:Nat)(a0:List (Int)):Option (Bool):=ky.b N (ky.l8 N N) a0
end
end VM.F
