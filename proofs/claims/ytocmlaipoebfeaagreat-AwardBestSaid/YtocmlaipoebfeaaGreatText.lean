/- A part of the proof of AwardBest of layer 25: the functions as equations between values, printed by a program. -/
import Derived.Test.YtocmlaipoebfeaaGreatVm0
set_option linter.all false
namespace VM.F
open Go VM
set_option maxRecDepth 100000
noncomputable section
abbrev pq:Ty:=(.pair .str .unit)
abbrev gJ:Ty:=(.pair .str (.pair (.int .u64) .unit))
abbrev gv:Ty:=(.pair (.int .i64) (.pair (.int .i64) .unit))
abbrev gE:Ty:=(.pair (.int .i64) (.pair (.int .u64) .unit))
abbrev bK:Ty:=(.pair .bool (.pair (.slice (.int .u64)) .unit))
abbrev cU:Ty:=(.pair (.slice (.int .u64)) (.pair (.int .i64) .unit))
abbrev fI:Ty:=(.pair (.int .i64) gv)
abbrev pt:Ty:=(.pair (.int .i64) (.pair (.int .i64) (.pair .bool (.pair (.int .u8) .unit))))
abbrev cF:Ty:=(.pair (.int .i64) fI)
abbrev qG:Ty:=(.pair (.int .i64) (.pair (.int .i64) (.pair gE .unit)))
abbrev ov:Ty:=(.pair (.int .i64) cF)
abbrev mO:Ty:=(.pair (.int .i64) (.pair (.int .i64) (.pair bK .unit)))
abbrev jn:Ty:=(.pair (.int .i64) ov)
abbrev lQ:Ty:=(.pair (.int .i64) (.pair (.int .i64) jn))
abbrev dK:Ty:=(.pair (.int .i64) (.pair (.slice gv) cF))
abbrev dL:Ty:=(.pair (.int .i64) (.pair (.int .i64) (.pair (.slice ov) (.pair (.int .i64) .unit))))
abbrev an:Ty:=(.pair (.slice cF) jn)
abbrev aC:Ty:=(.pair (.slice gv) (.pair (.slice cF) (.pair (.slice fI) (.pair (.slice fI) (.pair (.slice (.int .i64)) (.pair (.slice jn) .unit))))))
abbrev kH:Ty:=(.pair (.int .i64) (.pair (.int .i64) (.pair (.int .i64) (.pair (.int .i64) (.pair (.slice cF) (.pair (.slice dK) (.pair (.slice cF) (.pair (.slice (.int .i64)) (.pair (.slice gv) (.pair (.slice gv) .unit))))))))))
abbrev bM:Ty:=(.pair (.int .i64) (.pair (.int .i64) (.pair aC (.pair kH (.pair dL .unit)))))
abbrev Pb:=Ty.den pq
abbrev Pd:=List (Ty.den pq)
abbrev EN:=Ty.den gJ
abbrev EO:=List (Ty.den gJ)
abbrev Kg:=Ty.den gv
abbrev ax:=List (Ty.den gv)
abbrev cY:=Ty.den gE
abbrev gK:=List (Ty.den gE)
abbrev aw:=Ty.den bK
abbrev kz:=List (Ty.den bK)
abbrev aI:=Ty.den cU
abbrev aid:=List (Ty.den cU)
abbrev cy:=Ty.den fI
abbrev aj:=List (Ty.den fI)
abbrev Pe:=Ty.den pt
abbrev Pf:=List (Ty.den pt)
abbrev bp:=Ty.den cF
abbrev ay:=List (Ty.den cF)
abbrev o4:=Ty.den qG
abbrev b7:=List (Ty.den qG)
abbrev tV:=Ty.den ov
abbrev bg:=List (Ty.den ov)
abbrev aie:=Ty.den mO
abbrev bk:=List (Ty.den mO)
abbrev fG:=Ty.den jn
abbrev a6:=List (Ty.den jn)
abbrev fg:=Ty.den lQ
abbrev fy:=List (Ty.den lQ)
abbrev cN:=Ty.den dK
abbrev aB:=List (Ty.den dK)
abbrev cJ:=Ty.den dL
abbrev ac5:=List (Ty.den dL)
abbrev aa:=Ty.den an
abbrev ac6:=List (Ty.den an)
abbrev ah:=Ty.den aC
abbrev aif:=List (Ty.den aC)
abbrev abb:=Ty.den kH
abbrev abc:=List (Ty.den kH)
abbrev aJ:=Ty.den bM
abbrev agD:=List (Ty.den bM)
def F51(N:Nat):Option (aa×ah×aB):=
 some (([((0:Int),((100:Int),bO))],((0:Int),((0:Int),((0:Int),((0:Int),((1:Int),((0:Int),()))))))),([((1:Int),((1:Int),())),((2:Int),((1:Int),()))],([((1:Int),((1:Int),((1:Int),((0:Int),())))),((2:Int),((2:Int),((1:Int),((0:Int),()))))],(bh,([((0:Int),((0:Int),((5:Int),()))),((2:Int),((0:Int),((-5:Int),())))],([(100:Int)],(cT,())))))),[((3:Int),([((0:Int),((3:Int),()))],((0:Int),((1:Int),bO)))),((4:Int),([((0:Int),((2:Int),()))],((0:Int),((1:Int),bO))))])
def Qt(N:Nat)(a0:bp):Option (Bool):=
 cond (bS 1 a0.1) (cond (bS a0.1 1099511627776) (cond (bS 1 a0.2.1) (cond (bS a0.2.1 1099511627776) (cond (bS 1 a0.2.2.1) (cond (bS a0.2.2.1 12) (cond (bS (-1152921504606846976) a0.2.2.2.1) (some (bS a0.2.2.2.1 1152921504606846976)) (some false)) (some false)) (some false)) (some false)) (some false)) (some false)) (some false)
def Qv(N:Nat)(a0:bp)(a1:Int)(a2:Int):Option (Bool):=
 cond (az a0.2.2.1 a1) (some (az a0.2.1 a2)) (some false)
abbrev m1.bJ:=ay→(((Int)×(Unit))×(((Int)×(Unit))×(Unit)))→Int→Int→Option (Int)
def m1.dx(N:Nat)(cz:m1.bJ)(x0:ay)(x1:((Int)×(Unit))×(((Int)×(Unit))×(Unit)))(x7:Int)(x8:Int):Option (Int):=
 cond (aM x8 x7) (cond (aL x8 (List.length x0)) ((Qv N (List.getD x0 x8.toNat aA) x1.1.1 x1.2.1.1).bind fun r2=>cond (r2) (some x8) (cz x0 ((x1.1.1,()),((x1.2.1.1,()),())) x7 (W .i64 (x8+1)))) (none)) (some (-1:Int))
def m1.l2(N:Nat):Nat→m1.bJ
 |0,_,_,_,_=>none
 |n+1,x0,x1,x7,x8=>m1.dx N (m1.l2 N n) x0 x1 x7 x8
def m1.b(N:Nat)(eB:m1.bJ)(a0:ay)(a1:((Int)×(Unit))×(((Int)×(Unit))×(Unit))):Option (Int):=
 eB a0 ((a1.1.1,()),((a1.2.1.1,()),())) (List.length a0:Int) (0:Int)
def m1(N:Nat)(a0:ay)(a1:((Int)×(Unit))×(((Int)×(Unit))×(Unit))):Option (Int):=m1.b N (m1.l2 N N) a0 a1
def Xw(N:Nat)(a0:ay)(a1:((Int)×(Unit))×(((Int)×(Unit))×(Unit))):Option (Bool):=
 (m1 N a0 ((a1.1.1,()),((a1.2.1.1,()),()))).bind fun r1=>some (bS 0 r1)
def M7(N:Nat)(a0:ay)(a1:Int)(a2:Int):Option (Bool):=
 (Xw N a0 ((a1,()),((a2,()),()))).bind fun r1=>some r1
abbrev vK.bJ:=ay→ay→Int→Int→Option (Bool)
def vK.dx(N:Nat)(cz:vK.bJ)(x0:ay)(x5:ay)(x6:Int)(x7:Int):Option (Bool):=
 cond (aM x7 x6) (cond (aL x7 (List.length x5)) ((Qt N (List.getD x5 x7.toNat aA)).bind fun r2=>cond (!r2) (some false) (cond (aM 0 x7) (let v3:Int:=W .i64 (x7-1);cond (aL v3 (List.length x0)) (cond (bS ((List.getD x5 x7.toNat aA).1) ((List.getD x0 v3.toNat aA).1)) (some false) (cond (fi 0 x7 (List.length x0:Int) (List.length x0:Int)) ((M7 N (List.drop (0:Int).toNat (List.take x7.toNat x0)) ((((List.getD x5 x7.toNat aA).2).2).1) (((List.getD x5 x7.toNat aA).2).1)).bind fun r5=>cond (r5) (some false) (cz x0 x5 x6 (W .i64 (x7+1)))) (none))) (none)) (cond (fi 0 x7 (List.length x0:Int) (List.length x0:Int)) ((M7 N (List.drop (0:Int).toNat (List.take x7.toNat x0)) ((((List.getD x5 x7.toNat aA).2).2).1) (((List.getD x5 x7.toNat aA).2).1)).bind fun r8=>cond (r8) (some false) (cz x0 x5 x6 (W .i64 (x7+1)))) (none)))) (none)) (some (bS (List.length x0:Int) 40))
def vK.l2(N:Nat):Nat→vK.bJ
 |0,_,_,_,_=>none
 |n+1,x0,x5,x6,x7=>vK.dx N (vK.l2 N n) x0 x5 x6 x7
def vK.b(N:Nat)(eB:vK.bJ)(a0:ay):Option (Bool):=
 eB a0 a0 (List.length a0:Int) (0:Int)
def vK(N:Nat)(a0:ay):Option (Bool):=vK.b N (vK.l2 N N) a0
abbrev tQ.bl:=Int→bp→bp→ay→Int→Int→Option (bp×(Bool))
def tQ.dd(N:Nat)(bc:tQ.bl)(x1:Int)(x4:bp)(x6:bp)(bf:ay)(bx:Int)(bN:Int):Option (bp×(Bool)):=
 cond (aM bN bx) (cond (aL bN (List.length bf)) (cond (az (((List.getD bf bN.toNat aA).2).1) x1) (cond (az x6.1 0) (bc x1 x4 (List.getD bf bN.toNat aA) bf bx (W .i64 (bN+1))) (cond (aM x6.2.2.2.1 (((((List.getD bf bN.toNat aA).2).2).2).1)) (bc x1 x4 (List.getD bf bN.toNat aA) bf bx (W .i64 (bN+1))) (bc x1 x4 x6 bf bx (W .i64 (bN+1))))) (bc x1 x4 x6 bf bx (W .i64 (bN+1)))) (none)) (some (x6,!az x6.1 0))
def tQ.l5(N:Nat):Nat→tQ.bl
 |0,_,_,_,_,_,_=>none
 |n+1,x1,x4,x6,bf,bx,bN=>tQ.dd N (tQ.l5 N n) x1 x4 x6 bf bx bN
def tQ.b(N:Nat)(dz:tQ.bl)(a0:ay)(a1:Int):Option (bp×(Bool)):=
 (vK N a0).bind fun r1=>cond (!r1) (some (aA,false)) (dz a1 aA aA a0 (List.length a0:Int) (0:Int))
def tQ(N:Nat)(a0:ay)(a1:Int):Option (bp×(Bool)):=tQ.b N (tQ.l5 N N) a0 a1
def wC(N:Nat)(a0:Int)(a1:Int)(a2:Int):Option (Bool):=
 cond (bS a1 a0) (some (bS a0 a2)) (some false)
abbrev uN.ba:=aa→ay→Int→Int→Option (Bool)
def uN.cL(N:Nat)(bw:uN.ba)(x1:aa)(aH:ay)(aP:Int)(bf:Int):Option (Bool):=
 cond (aM bf aP) (cond (aL bf (List.length aH)) ((wC N ((List.getD aH bf.toNat aA).1) (0:Int) (3:Int)).bind fun r3=>cond (!r3) (some false) ((wC N (((List.getD aH bf.toNat aA).2).1) (1:Int) (1000000000000:Int)).bind fun r4=>cond (!r4) (some false) ((wC N ((((List.getD aH bf.toNat aA).2).2).1) (0:Int) (1000000000:Int)).bind fun r5=>cond (!r5) (some false) ((wC N (((((List.getD aH bf.toNat aA).2).2).2).1) (0:Int) (1000000000:Int)).bind fun r6=>cond (!r6) (some false) (bw x1 aH aP (W .i64 (bf+1))))))) (none)) (cond (bS 0 x1.2.1) ((wC N x1.2.2.1 (0:Int) (4:Int)).bind fun r8=>cond (r8) ((wC N x1.2.2.2.1 (0:Int) (1000000:Int)).bind fun r9=>cond (r9) ((wC N x1.2.2.2.2.1 (0:Int) (1000000:Int)).bind fun ji=>cond (ji) ((wC N x1.2.2.2.2.2.1 (1:Int) (4611686018427387904:Int)).bind fun lR=>cond (lR) (some (bS 0 x1.2.2.2.2.2.2.1)) (some false)) (some false)) (some false)) (some false)) (some false))
def uN.l4(N:Nat):Nat→uN.ba
 |0,_,_,_,_=>none
 |n+1,x1,aH,aP,bf=>uN.cL N (uN.l4 N n) x1 aH aP bf
def uN.b(N:Nat)(df:uN.ba)(a0:aa):Option (Bool):=
 (wC N (List.length a0.1:Int) (1:Int) (6:Int)).bind fun r1=>cond (!r1) (some false) (df a0 a0.1 (List.length a0.1:Int) (0:Int))
def uN(N:Nat)(a0:aa):Option (Bool):=uN.b N (uN.l4 N N) a0
abbrev kf.bJ:=ax→ax→Int→Int→Option (Bool)
def kf.dx(N:Nat)(cz:kf.bJ)(x0:ax)(x5:ax)(x6:Int)(x7:Int):Option (Bool):=
 cond (aM x7 x6) (cond (aL x7 (List.length x5)) (cond (aM ((List.getD x5 x7.toNat bO).1) (1:Int)) (some false) (cond (aM 12 ((List.getD x5 x7.toNat bO).1)) (some false) (cond (aM (((List.getD x5 x7.toNat bO).2).1) (1:Int)) (some false) (cond (aM 4 (((List.getD x5 x7.toNat bO).2).1)) (some false) (cond (aM 0 x7) (let v2:Int:=W .i64 (x7-1);cond (aL v2 (List.length x0)) (cond (bS ((List.getD x5 x7.toNat bO).1) ((List.getD x0 v2.toNat bO).1)) (some false) (cz x0 x5 x6 (W .i64 (x7+1)))) (none)) (cz x0 x5 x6 (W .i64 (x7+1)))))))) (none)) (some true)
def kf.l2(N:Nat):Nat→kf.bJ
 |0,_,_,_,_=>none
 |n+1,x0,x5,x6,x7=>kf.dx N (kf.l2 N n) x0 x5 x6 x7
def kf.b(N:Nat)(eB:kf.bJ)(a0:ax):Option (Bool):=
 eB a0 a0 (List.length a0:Int) (0:Int)
def kf(N:Nat)(a0:ax):Option (Bool):=kf.b N (kf.l2 N N) a0
abbrev ic.cq:=ay→(List (Bool))→ay→Int→Int→Option (Bool)
def ic.iE(N:Nat)(bZ:ic.cq)(x0:ay)(x3:List (Bool))(x6:ay)(x7:Int)(x8:Int):Option (Bool):=
 cond (aM x8 x7) (cond (aL x8 (List.length x6)) (cond (aM ((List.getD x6 x8.toNat aA).1) (1:Int)) (some false) (cond (aM 24 ((List.getD x6 x8.toNat aA).1)) (some false) (cond (aM (((List.getD x6 x8.toNat aA).2).1) (1:Int)) (some false) (cond (aM 12 (((List.getD x6 x8.toNat aA).2).1)) (some false) (cond (!az ((((List.getD x6 x8.toNat aA).2).2).1) (1:Int)) (cond (!az ((((List.getD x6 x8.toNat aA).2).2).1) (2:Int)) (some false) (cond (aM (((((List.getD x6 x8.toNat aA).2).2).2).1) (0:Int)) (some false) (cond (aM 1000000000000 (((((List.getD x6 x8.toNat aA).2).2).2).1)) (some false) (cond (aM 0 x8) (let v2:Int:=W .i64 (x8-1);cond (aL v2 (List.length x0)) (cond (bS ((List.getD x6 x8.toNat aA).1) ((List.getD x0 v2.toNat aA).1)) (some false) (cond (az ((((List.getD x6 x8.toNat aA).2).2).1) (1:Int)) (cond (aL (((List.getD x6 x8.toNat aA).2).1) 13) (cond (List.getD x3 (((List.getD x6 x8.toNat aA).2).1).toNat false) (some false) (cond (aL (((List.getD x6 x8.toNat aA).2).1) 13) (bZ x0 (List.set x3 (((List.getD x6 x8.toNat aA).2).1).toNat true) x6 x7 (W .i64 (x8+1))) (none))) (none)) (bZ x0 x3 x6 x7 (W .i64 (x8+1))))) (none)) (cond (az ((((List.getD x6 x8.toNat aA).2).2).1) (1:Int)) (cond (aL (((List.getD x6 x8.toNat aA).2).1) 13) (cond (List.getD x3 (((List.getD x6 x8.toNat aA).2).1).toNat false) (some false) (cond (aL (((List.getD x6 x8.toNat aA).2).1) 13) (bZ x0 (List.set x3 (((List.getD x6 x8.toNat aA).2).1).toNat true) x6 x7 (W .i64 (x8+1))) (none))) (none)) (bZ x0 x3 x6 x7 (W .i64 (x8+1)))))))) (cond (aM (((((List.getD x6 x8.toNat aA).2).2).2).1) (0:Int)) (some false) (cond (aM 1000000000000 (((((List.getD x6 x8.toNat aA).2).2).2).1)) (some false) (cond (aM 0 x8) (let v7:Int:=W .i64 (x8-1);cond (aL v7 (List.length x0)) (cond (bS ((List.getD x6 x8.toNat aA).1) ((List.getD x0 v7.toNat aA).1)) (some false) (cond (az ((((List.getD x6 x8.toNat aA).2).2).1) (1:Int)) (cond (aL (((List.getD x6 x8.toNat aA).2).1) 13) (cond (List.getD x3 (((List.getD x6 x8.toNat aA).2).1).toNat false) (some false) (cond (aL (((List.getD x6 x8.toNat aA).2).1) 13) (bZ x0 (List.set x3 (((List.getD x6 x8.toNat aA).2).1).toNat true) x6 x7 (W .i64 (x8+1))) (none))) (none)) (bZ x0 x3 x6 x7 (W .i64 (x8+1))))) (none)) (cond (az ((((List.getD x6 x8.toNat aA).2).2).1) (1:Int)) (cond (aL (((List.getD x6 x8.toNat aA).2).1) 13) (cond (List.getD x3 (((List.getD x6 x8.toNat aA).2).1).toNat false) (some false) (cond (aL (((List.getD x6 x8.toNat aA).2).1) 13) (bZ x0 (List.set x3 (((List.getD x6 x8.toNat aA).2).1).toNat true) x6 x7 (W .i64 (x8+1))) (none))) (none)) (bZ x0 x3 x6 x7 (W .i64 (x8+1)))))))))))) (none)) (some true)
def ic.l3(N:Nat):Nat→ic.cq
 |0,_,_,_,_,_=>none
 |n+1,x0,x3,x6,x7,x8=>ic.iE N (ic.l3 N n) x0 x3 x6 x7 x8
def ic.b(N:Nat)(jj:ic.cq)(a0:ay):Option (Bool):=
 jj a0 (List.replicate 13 false) a0 (List.length a0:Int) (0:Int)
def ic(N:Nat)(a0:ay):Option (Bool):=ic.b N (ic.l3 N N) a0
abbrev tB.ba:=Int→ax→Int→Int→Option (Int)
def tB.cL(N:Nat)(bw:tB.ba)(x1:Int)(aQ:ax)(aH:Int)(aP:Int):Option (Int):=
 cond (aM aP aH) (cond (aL aP (List.length aQ)) (cond (az ((List.getD aQ aP.toNat bO).1) x1) (some (((List.getD aQ aP.toNat bO).2).1)) (bw x1 aQ aH (W .i64 (aP+1)))) (none)) (some (0:Int))
def tB.l4(N:Nat):Nat→tB.ba
 |0,_,_,_,_=>none
 |n+1,x1,aQ,aH,aP=>tB.cL N (tB.l4 N n) x1 aQ aH aP
def tB.b(N:Nat)(df:tB.ba)(a0:ax)(a1:Int):Option (Int):=
 (kf N a0).bind fun r1=>cond (!r1) (some (0:Int)) (df a1 a0 (List.length a0:Int) (0:Int))
def tB(N:Nat)(a0:ax)(a1:Int):Option (Int):=tB.b N (tB.l4 N N) a0 a1
abbrev wF.ba:=ax→ay→Int→Int→Option (Bool)
def wF.cL(N:Nat)(bw:wF.ba)(x0:ax)(bN:ay)(cC:Int)(cD:Int):Option (Bool):=
 cond (aM cD cC) (cond (aL cD (List.length bN)) ((tB N x0 (((List.getD bN cD.toNat aA).2).1)).bind fun r4=>cond (az r4 0) (some false) (bw x0 bN cC (W .i64 (cD+1)))) (none)) (some true)
def wF.l4(N:Nat):Nat→wF.ba
 |0,_,_,_,_=>none
 |n+1,x0,bN,cC,cD=>wF.cL N (wF.l4 N n) x0 bN cC cD
def wF.b(N:Nat)(df:wF.ba)(a0:ax)(a1:ay):Option (Bool):=
 (kf N a0).bind fun r1=>cond (!r1) (some false) ((ic N a1).bind fun r2=>cond (!r2) (some false) (df a0 a1 (List.length a1:Int) (0:Int)))
def wF(N:Nat)(a0:ax)(a1:ay):Option (Bool):=wF.b N (wF.l4 N N) a0 a1
def G4(N:Nat)(a0:Int)(a1:Int):Option (Bool):=
 cond (az a0 1) (some (az a1 0)) (cond (az a0 2) (some (az a1 0)) (cond (az a0 3) (some (az a1 0)) (cond (az a0 4) (some (az a1 0)) (cond (az a0 5) (cond (bS 1 a1) (some (bS a1 24)) (some false)) (cond (az a0 6) (cond (bS 1 a1) (some (bS a1 12)) (some false)) (cond (az a0 7) (cond (bS 1 a1) (some (bS a1 12)) (some false)) (some false)))))))
def G7(N:Nat)(a0:Int)(a1:Int)(a2:cy):Option (Int):=
 cond (!az a0 a2.1) (some (W .i64 (a0-a2.1))) (some (W .i64 (a1-a2.2.1)))
abbrev uP.bJ:=aj→aj→Int→Int→Option (Bool)
def uP.dx(N:Nat)(cz:uP.bJ)(x0:aj)(x5:aj)(x6:Int)(x7:Int):Option (Bool):=
 cond (aM x7 x6) (cond (aL x7 (List.length x5)) ((G4 N ((List.getD x5 x7.toNat a7).1) (((List.getD x5 x7.toNat a7).2).1)).bind fun r2=>cond (!r2) (some false) (cond (az ((((List.getD x5 x7.toNat a7).2).2).1) (0:Int)) (some false) (cond (aM 0 x7) (let v3:Int:=W .i64 (x7-1);cond (aL v3 (List.length x0)) ((G7 N ((List.getD x5 x7.toNat a7).1) (((List.getD x5 x7.toNat a7).2).1) (List.getD x0 v3.toNat a7)).bind fun r4=>cond (bS r4 0) (some false) (cz x0 x5 x6 (W .i64 (x7+1)))) (none)) (cz x0 x5 x6 (W .i64 (x7+1)))))) (none)) (some true)
def uP.l2(N:Nat):Nat→uP.bJ
 |0,_,_,_,_=>none
 |n+1,x0,x5,x6,x7=>uP.dx N (uP.l2 N n) x0 x5 x6 x7
def uP.b(N:Nat)(eB:uP.bJ)(a0:aj):Option (Bool):=
 eB a0 a0 (List.length a0:Int) (0:Int)
def uP(N:Nat)(a0:aj):Option (Bool):=uP.b N (uP.l2 N N) a0
def MP(N:Nat)(a0:Int):Option cY:=
 cond (aM 63 0) (none) (some ((shr .i64 a0 63),((W .u64 a0),())))
abbrev iV.cq:=cY→Int→Int→Int→gK→Int→Int→Option (cY×(Bool))
def iV.iE(N:Nat)(bZ:iV.cq)(x2:cY)(x4:Int)(x5:Int)(x6:Int)(aQ:gK)(aH:Int)(aP:Int):Option (cY×(Bool)):=
 cond (aM aP aH) (cond (aL aP (List.length aQ)) ((rH N x6 (((List.getD aQ aP.toNat bO).2).1) (0:Int)).bind fun r2=>(rH N x5 (W .u64 ((List.getD aQ aP.toNat bO).1)) r2.2).bind fun r4=>cond (aM 63 0) (none) (bZ x2 (W .i64 ((W .i64 (x4+(shr .i64 ((List.getD aQ aP.toNat bO).1) (63:Int))))+(W .i64 r4.2))) r4.1 r2.1 aQ aH (W .i64 (aP+1)))) (none)) (cond (aM 63 0) (none) (cond (!az x4 (shr .i64 (W .i64 x5) 63)) (some (bO,false)) (some (((W .i64 x5),(x6,())),true))))
def iV.l3(N:Nat):Nat→iV.cq
 |0,_,_,_,_,_,_,_=>none
 |n+1,x2,x4,x5,x6,aQ,aH,aP=>iV.iE N (iV.l3 N n) x2 x4 x5 x6 aQ aH aP
def iV.b(N:Nat)(jj:iV.cq)(a0:gK):Option (cY×(Bool)):=
 jj bO (0:Int) (0:Int) (0:Int) a0 (List.length a0:Int) (0:Int)
def iV(N:Nat)(a0:gK):Option (cY×(Bool)):=iV.b N (iV.l3 N N) a0
abbrev vJ.bl:=cY→gK→aj→Int→Int→Option cY
def vJ.dd(N:Nat)(bc:vJ.bl)(x2:cY)(x3:gK)(aP:aj)(bf:Int)(bx:Int):Option cY:=
 cond (aM bx bf) (cond (aL bx (List.length aP)) ((MP N ((((List.getD aP bx.toNat a7).2).2).1)).bind fun r3=>cond (small (List.length x3+List.length ([r3]))) (bc x2 (x3++([r3])) aP bf (W .i64 (bx+1))) (none)) (none)) ((iV N x3).bind fun r6=>some r6.1)
def vJ.l5(N:Nat):Nat→vJ.bl
 |0,_,_,_,_,_=>none
 |n+1,x2,x3,aP,bf,bx=>vJ.dd N (vJ.l5 N n) x2 x3 aP bf bx
def vJ.b(N:Nat)(dz:vJ.bl)(a0:aj):Option cY:=
 (uP N a0).bind fun r1=>cond (!r1) (some bO) (dz bO ([]) a0 (List.length a0:Int) (0:Int))
def vJ(N:Nat)(a0:aj):Option cY:=vJ.b N (vJ.l5 N N) a0
def Qm(N:Nat)(a0:cY)(a1:cY):Option (Int):=
 cond (aM a0.1 a1.1) (some (-1:Int)) (cond (az a0.1 a1.1) (cond (aM a0.2.1 a1.2.1) (some (-1:Int)) (cond (pz (.pair (.int .i64) (.pair (.int .u64) .unit)) a0 a1) (some (0:Int)) (some (1:Int)))) (cond (pz (.pair (.int .i64) (.pair (.int .u64) .unit)) a0 a1) (some (0:Int)) (some (1:Int))))
def Xu(N:Nat)(a0:cY):Option (Int):=
 (Qm N a0 bO).bind fun r1=>some r1
def MR(N:Nat)(a0:Int)(a1:Int):Option (Bool):=
 cond (bS 0 a0) (cond (bS a0 24) (cond (bS 0 a1) (some (aM a1 6)) (some false)) (some false)) (some false)
def G9(N:Nat)(a0:Int):Option (Bool):=
 some (!az a0 (-9223372036854775808))
def Ke(N:Nat)(a0:Int)(a1:Int)(a2:cy):Option (Int):=
 cond (!az a0 a2.1) (some (W .i64 (a0-a2.1))) (some (W .i64 (a1-a2.2.1)))
abbrev jD.bJ:=aj→aj→Int→Int→Option (Bool)
def jD.dx(N:Nat)(cz:jD.bJ)(x0:aj)(x5:aj)(x6:Int)(x7:Int):Option (Bool):=
 cond (aM x7 x6) (cond (aL x7 (List.length x5)) ((MR N ((List.getD x5 x7.toNat a7).1) (((List.getD x5 x7.toNat a7).2).1)).bind fun r2=>cond (!r2) (some false) (cond (az ((((List.getD x5 x7.toNat a7).2).2).1) (0:Int)) (some false) ((G9 N ((((List.getD x5 x7.toNat a7).2).2).1)).bind fun r3=>cond (!r3) (some false) (cond (aM 0 x7) (let v4:Int:=W .i64 (x7-1);cond (aL v4 (List.length x0)) ((Ke N ((List.getD x5 x7.toNat a7).1) (((List.getD x5 x7.toNat a7).2).1) (List.getD x0 v4.toNat a7)).bind fun r5=>cond (bS r5 0) (some false) (cz x0 x5 x6 (W .i64 (x7+1)))) (none)) (cz x0 x5 x6 (W .i64 (x7+1))))))) (none)) (some true)
def jD.l2(N:Nat):Nat→jD.bJ
 |0,_,_,_,_=>none
 |n+1,x0,x5,x6,x7=>jD.dx N (jD.l2 N n) x0 x5 x6 x7
def jD.b(N:Nat)(eB:jD.bJ)(a0:aj):Option (Bool):=
 eB a0 a0 (List.length a0:Int) (0:Int)
def jD(N:Nat)(a0:aj):Option (Bool):=jD.b N (jD.l2 N N) a0
abbrev kj.bl:=Int→cY→gK→aj→Int→Int→Option cY
def kj.dd(N:Nat)(bc:kj.bl)(x1:Int)(x4:cY)(x5:gK)(bx:aj)(bN:Int)(cC:Int):Option cY:=
 cond (aM cC bN) (cond (aL cC (List.length bx)) (cond (az (((List.getD bx cC.toNat a7).2).1) x1) ((MP N ((((List.getD bx cC.toNat a7).2).2).1)).bind fun r3=>cond (small (List.length x5+List.length ([r3]))) (bc x1 x4 (x5++([r3])) bx bN (W .i64 (cC+1))) (none)) (bc x1 x4 x5 bx bN (W .i64 (cC+1)))) (none)) ((iV N x5).bind fun r7=>some r7.1)
def kj.l5(N:Nat):Nat→kj.bl
 |0,_,_,_,_,_,_=>none
 |n+1,x1,x4,x5,bx,bN,cC=>kj.dd N (kj.l5 N n) x1 x4 x5 bx bN cC
def kj.b(N:Nat)(dz:kj.bl)(a0:aj)(a1:Int):Option cY:=
 (jD N a0).bind fun r1=>cond (!r1) (some bO) (dz a1 bO ([]) a0 (List.length a0:Int) (0:Int))
def kj(N:Nat)(a0:aj)(a1:Int):Option cY:=kj.b N (kj.l5 N N) a0 a1
abbrev wG.bJ:=aj→Int→Option (Bool)
def wG.dx(N:Nat)(cz:wG.bJ)(x0:aj)(x4:Int):Option (Bool):=
 cond (aM x4 6) ((kj N x0 x4).bind fun r2=>(Xu N r2).bind fun r3=>cond (!az r3 0) (some false) (cz x0 (W .i64 (x4+1)))) ((jD N x0).bind fun r5=>some r5)
def wG.l2(N:Nat):Nat→wG.bJ
 |0,_,_=>none
 |n+1,x0,x4=>wG.dx N (wG.l2 N n) x0 x4
def wG.b(N:Nat)(eB:wG.bJ)(a0:aj):Option (Bool):=
 eB a0 (0:Int)
def wG(N:Nat)(a0:aj):Option (Bool):=wG.b N (wG.l2 N N) a0
def Qi(N:Nat)(a0:fG):Option (Bool):=
 cond (bS 1 a0.1) (cond (bS a0.1 1099511627776) (cond (bS 1 a0.2.1) (cond (bS a0.2.1 24) (cond (bS 0 a0.2.2.1) (cond (aM a0.2.2.1 6) (cond (az a0.2.2.2.1 1) (cond (bS 1 a0.2.2.2.2.1) (cond (bS a0.2.2.2.2.1 1000000000) (cond (bS 1 a0.2.2.2.2.2.1) (some (bS a0.2.2.2.2.2.1 1000000000000)) (some false)) (some false)) (some false)) (cond (az a0.2.2.2.1 2) (cond (bS 1 a0.2.2.2.2.1) (cond (bS a0.2.2.2.2.1 1000000000) (cond (bS 1 a0.2.2.2.2.2.1) (some (bS a0.2.2.2.2.2.1 1000000000000)) (some false)) (some false)) (some false)) (some false))) (some false)) (some false)) (some false)) (some false)) (some false)) (some false)
abbrev wE.bJ:=a6→a6→Int→Int→Option (Bool)
def wE.dx(N:Nat)(cz:wE.bJ)(x0:a6)(x5:a6)(x6:Int)(x7:Int):Option (Bool):=
 cond (aM x7 x6) (cond (aL x7 (List.length x5)) ((Qi N (List.getD x5 x7.toNat dZ)).bind fun r2=>cond (!r2) (some false) (cond (aM 0 x7) (let v3:Int:=W .i64 (x7-1);cond (aL v3 (List.length x0)) (cond (bS ((List.getD x5 x7.toNat dZ).1) ((List.getD x0 v3.toNat dZ).1)) (some false) (cz x0 x5 x6 (W .i64 (x7+1)))) (none)) (cz x0 x5 x6 (W .i64 (x7+1))))) (none)) (some (bS (List.length x0:Int) 32))
def wE.l2(N:Nat):Nat→wE.bJ
 |0,_,_,_,_=>none
 |n+1,x0,x5,x6,x7=>wE.dx N (wE.l2 N n) x0 x5 x6 x7
def wE.b(N:Nat)(eB:wE.bJ)(a0:a6):Option (Bool):=
 eB a0 a0 (List.length a0:Int) (0:Int)
def wE(N:Nat)(a0:a6):Option (Bool):=wE.b N (wE.l2 N N) a0
abbrev kg.ba:=Int→bp→ay→Int→Int→Option (bp×(Bool))
def kg.cL(N:Nat)(bw:kg.ba)(x1:Int)(x4:bp)(aP:ay)(bf:Int)(bx:Int):Option (bp×(Bool)):=
 cond (aM bx bf) (cond (aL bx (List.length aP)) (cond (az ((List.getD aP bx.toNat aA).1) x1) (some (List.getD aP bx.toNat aA,true)) (bw x1 x4 aP bf (W .i64 (bx+1)))) (none)) (some (aA,false))
def kg.l4(N:Nat):Nat→kg.ba
 |0,_,_,_,_,_=>none
 |n+1,x1,x4,aP,bf,bx=>kg.cL N (kg.l4 N n) x1 x4 aP bf bx
def kg.b(N:Nat)(df:kg.ba)(a0:ay)(a1:Int):Option (bp×(Bool)):=
 (ic N a0).bind fun r1=>cond (!r1) (some (aA,false)) (df a1 aA a0 (List.length a0:Int) (0:Int))
def kg(N:Nat)(a0:ay)(a1:Int):Option (bp×(Bool)):=kg.b N (kg.l4 N N) a0 a1
def F82(N:Nat)(a0:ah)(a1:Int):Option (Bool):=
 (kg N a0.2.1 a1).bind fun r1=>some r1.2
def F85(N:Nat)(a0:Int):Option (Bool):=
 cond (bS 1 a0) (some (bS a0 1000000000000)) (some false)
def F84(N:Nat)(a0:Int):Option (Bool):=
 (F85 N a0).bind fun r1=>some (!r1)
abbrev m0.bJ:=(List (Int))→Unit→Int→Int→Option (Int)
def m0.dx(N:Nat)(cz:m0.bJ)(x0:List (Int))(x1:Unit)(x7:Int)(x8:Int):Option (Int):=
 cond (aM x8 x7) (cond (aL x8 (List.length x0)) ((F84 N (List.getD x0 x8.toNat (0:Int))).bind fun r2=>cond (r2) (some x8) (cz x0 () x7 (W .i64 (x8+1)))) (none)) (some (-1:Int))
def m0.l2(N:Nat):Nat→m0.bJ
 |0,_,_,_,_=>none
 |n+1,x0,x1,x7,x8=>m0.dx N (m0.l2 N n) x0 x1 x7 x8
def m0.b(N:Nat)(eB:m0.bJ)(a0:List (Int))(a1:Unit):Option (Int):=
 eB a0 () (List.length a0:Int) (0:Int)
def m0(N:Nat)(a0:List (Int))(a1:Unit):Option (Int):=m0.b N (m0.l2 N N) a0 a1
def F83(N:Nat)(a0:List (Int))(a1:Unit):Option (Bool):=
 (m0 N a0 ()).bind fun r1=>some (bS 0 r1)
abbrev g4.mP:=aa→ah→a6→Int→Int→Option (Bool)
abbrev g4.iA:=aa→ah→aj→Int→Int→Option (Bool)
abbrev g4.ba:=aa→ah→aj→Int→Int→Option (Bool)
def g4.qu(N:Nat)(yZ:g4.mP)(x2:aa)(x3:ah)(m4:a6)(Rv:Int)(HU:Int):Option (Bool):=
 cond (aM HU Rv) (cond (aL HU (List.length m4)) ((F82 N x3 (((List.getD m4 HU.toNat dZ).2).1)).bind fun y3=>cond (!y3) (some false) (cond (bS (List.length x2.1:Int) ((((List.getD m4 HU.toNat dZ).2).2).1)) (some false) (yZ x2 x3 m4 Rv (W .i64 (HU+1))))) (none)) ((F83 N x3.2.2.2.2.1 ()).bind fun y4=>some (!y4))
def g4.rA(N:Nat):Nat→g4.mP
 |0,_,_,_,_,_=>none
 |n+1,x2,x3,m4,Rv,HU=>g4.qu N (g4.rA N n) x2 x3 m4 Rv HU
def g4.qt(N:Nat)(y5:g4.mP)(jt:g4.iA)(x2:aa)(x3:ah)(Rw:aj)(x84:Int)(Pg:Int):Option (Bool):=
 cond (aM Pg x84) (cond (aL Pg (List.length Rw)) (cond (!az ((List.getD Rw Pg.toNat a7).1) (0:Int)) ((F82 N x3 ((List.getD Rw Pg.toNat a7).1)).bind fun rS=>cond (!rS) (some false) (cond (bS (List.length x2.1:Int) (((List.getD Rw Pg.toNat a7).2).1)) (some false) (jt x2 x3 Rw x84 (W .i64 (Pg+1))))) (cond (bS (List.length x2.1:Int) (((List.getD Rw Pg.toNat a7).2).1)) (some false) (jt x2 x3 Rw x84 (W .i64 (Pg+1))))) (none)) (y5 x2 x3 x3.2.2.2.2.2.1 (List.length x3.2.2.2.2.2.1:Int) (0:Int))
def g4.rz(N:Nat):Nat→g4.iA
 |0,_,_,_,_,_=>none
 |n+1,x2,x3,Rw,x84,Pg=>g4.qt N (g4.rA N N) (g4.rz N n) x2 x3 Rw x84 Pg
def g4.cL(N:Nat)(y6:g4.iA)(bw:g4.ba)(x2:aa)(x3:ah)(K9:aj)(X1:Int)(Jn:Int):Option (Bool):=
 cond (aM Jn X1) (cond (aL Jn (List.length K9)) (cond (az ((List.getD K9 Jn.toNat a7).1) (5:Int)) ((F82 N x3 (((List.getD K9 Jn.toNat a7).2).1)).bind fun r9=>cond (!r9) (some false) (bw x2 x3 K9 X1 (W .i64 (Jn+1)))) (cond (az ((List.getD K9 Jn.toNat a7).1) (6:Int)) ((tB N x3.1 (((List.getD K9 Jn.toNat a7).2).1)).bind fun lR=>cond (az lR 0) (some false) (bw x2 x3 K9 X1 (W .i64 (Jn+1)))) (cond (az ((List.getD K9 Jn.toNat a7).1) (7:Int)) ((tB N x3.1 (((List.getD K9 Jn.toNat a7).2).1)).bind fun kI=>cond (az kI 0) (some false) (bw x2 x3 K9 X1 (W .i64 (Jn+1)))) (bw x2 x3 K9 X1 (W .i64 (Jn+1)))))) (none)) (y6 x2 x3 x3.2.2.2.1 (List.length x3.2.2.2.1:Int) (0:Int))
def g4.l4(N:Nat):Nat→g4.ba
 |0,_,_,_,_,_=>none
 |n+1,x2,x3,K9,X1,Jn=>g4.cL N (g4.rz N N) (g4.l4 N n) x2 x3 K9 X1 Jn
def g4.b(N:Nat)(df:g4.ba)(a0:aa)(a1:ah):Option (Bool):=
 (uN N a0).bind fun r1=>cond (!r1) (some false) ((wF N a1.1 a1.2.1).bind fun r2=>cond (!r2) (some false) ((uP N a1.2.2.1).bind fun r3=>cond (!r3) (some false) ((vJ N a1.2.2.1).bind fun r4=>(Xu N r4).bind fun r5=>cond (!az r5 0) (some false) ((wG N a1.2.2.2.1).bind fun r6=>cond (!r6) (some false) ((wE N a1.2.2.2.2.2.1).bind fun r7=>cond (!r7) (some false) (cond (!az (List.length a1.2.2.2.2.1:Int) (List.length a0.1:Int)) (some false) (df a0 a1 a1.2.2.1 (List.length a1.2.2.1:Int) (0:Int))))))))
def g4(N:Nat)(a0:aa)(a1:ah):Option (Bool):=g4.b N (g4.l4 N N) a0 a1
abbrev kq.bJ:=ax→aa→ax→Int→Int→Option (Bool)
def kq.dx(N:Nat)(cz:kq.bJ)(x1:ax)(x2:aa)(x7:ax)(x8:Int)(x9:Int):Option (Bool):=
 cond (aM x9 x8) (cond (aL x9 (List.length x7)) (cond (aM ((List.getD x7 x9.toNat bO).1) (0:Int)) (some false) (cond (bS (List.length x2.1:Int) ((List.getD x7 x9.toNat bO).1)) (some false) (cond (az (((List.getD x7 x9.toNat bO).2).1) (0:Int)) (some false) ((G9 N (((List.getD x7 x9.toNat bO).2).1)).bind fun r2=>cond (!r2) (some false) (cond (aM 0 x9) (let v3:Int:=W .i64 (x9-1);cond (aL v3 (List.length x1)) (cond (bS ((List.getD x7 x9.toNat bO).1) ((List.getD x1 v3.toNat bO).1)) (some false) (cz x1 x2 x7 x8 (W .i64 (x9+1)))) (none)) (cz x1 x2 x7 x8 (W .i64 (x9+1)))))))) (none)) ((uN N x2).bind fun r6=>some r6)
def kq.l2(N:Nat):Nat→kq.bJ
 |0,_,_,_,_,_=>none
 |n+1,x1,x2,x7,x8,x9=>kq.dx N (kq.l2 N n) x1 x2 x7 x8 x9
def kq.b(N:Nat)(eB:kq.bJ)(a0:aa)(a1:ax):Option (Bool):=
 eB a1 a0 a1 (List.length a1:Int) (0:Int)
def kq(N:Nat)(a0:aa)(a1:ax):Option (Bool):=kq.b N (kq.l2 N N) a0 a1
abbrev pI.HV:=aB→aa→cN→aB→Int→Int→Option (Bool)
abbrev pI.ba:=aB→aa→aB→Int→Int→Option (Bool)
def pI.Hk(N:Nat)(bw:pI.ba)(x1:aB)(x2:aa)(x6:cN)(bN:aB)(cC:Int)(cD:Int):Option (Bool):=
 cond (az x6.2.2.2.1 1) (cond (!az x6.2.2.2.2.1 0) (some false) (cond (!az x6.2.2.2.2.2.1 0) (some false) (bw x1 x2 bN cC (W .i64 (cD+1))))) (cond (az x6.2.2.2.1 3) (cond (!az x6.2.2.2.2.1 0) (some false) (cond (!az x6.2.2.2.2.2.1 0) (some false) (bw x1 x2 bN cC (W .i64 (cD+1))))) (cond (az x6.2.2.2.1 2) (cond (aM x6.2.2.2.2.1 1) (some false) (cond (aM 12 x6.2.2.2.2.1) (some false) (cond (aM x6.2.2.2.2.2.1 (-1152921504606846976)) (some false) (cond (aM 1152921504606846976 x6.2.2.2.2.2.1) (some false) (bw x1 x2 bN cC (W .i64 (cD+1))))))) (some false)))
def pI.j8(N:Nat)(bw:pI.ba)(x1:aB)(x2:aa)(x6:cN)(bN:aB)(cC:Int)(cD:Int):Option (Bool):=pI.Hk N bw x1 x2 x6 bN cC cD
def pI.cL(N:Nat)(y7:pI.HV)(bw:pI.ba)(x1:aB)(x2:aa)(bN:aB)(cC:Int)(cD:Int):Option (Bool):=
 cond (aM cD cC) (cond (aL cD (List.length bN)) (cond (aM ((List.getD bN cD.toNat ((0:Int),(aV,aA))).1) (1:Int)) (some false) (cond (aM 1099511627776 ((List.getD bN cD.toNat ((0:Int),(aV,aA))).1)) (some false) (cond (aM 0 cD) (let v3:Int:=W .i64 (cD-1);cond (aL v3 (List.length x1)) (cond (bS ((List.getD bN cD.toNat ((0:Int),(aV,aA))).1) ((List.getD x1 v3.toNat ((0:Int),(aV,aA))).1)) (some false) (cond (az (List.length (((List.getD bN cD.toNat ((0:Int),(aV,aA))).2).1):Int) (0:Int)) (some false) ((kq N x2 (((List.getD bN cD.toNat ((0:Int),(aV,aA))).2).1)).bind fun r4=>cond (!r4) (some false) (cond (aM 0 ((((List.getD bN cD.toNat ((0:Int),(aV,aA))).2).2).1)) (some false) (y7 x1 x2 (List.getD bN cD.toNat ((0:Int),(aV,aA))) bN cC cD))))) (none)) (cond (az (List.length (((List.getD bN cD.toNat ((0:Int),(aV,aA))).2).1):Int) (0:Int)) (some false) ((kq N x2 (((List.getD bN cD.toNat ((0:Int),(aV,aA))).2).1)).bind fun r9=>cond (!r9) (some false) (cond (aM 0 ((((List.getD bN cD.toNat ((0:Int),(aV,aA))).2).2).1)) (some false) (y7 x1 x2 (List.getD bN cD.toNat ((0:Int),(aV,aA))) bN cC cD))))))) (none)) (some true)
def pI.l4(N:Nat):Nat→pI.ba
 |0,_,_,_,_,_=>none
 |n+1,x1,x2,bN,cC,cD=>pI.cL N (pI.j8 N (pI.l4 N n)) (pI.l4 N n) x1 x2 bN cC cD
def pI.b(N:Nat)(df:pI.ba)(a0:aa)(a1:aB):Option (Bool):=
 (uN N a0).bind fun r1=>cond (!r1) (some false) (cond (aM 12 (List.length a1:Int)) (some false) (df a1 a0 a1 (List.length a1:Int) (0:Int)))
def pI(N:Nat)(a0:aa)(a1:aB):Option (Bool):=pI.b N (pI.l4 N N) a0 a1
abbrev wJ.cq:=aB→Int→Int→Option aB
def wJ.iE(N:Nat)(bZ:wJ.cq)(x3:aB)(x8:Int)(x9:Int):Option aB:=
 cond (aM x9 x8) (cond (aL x9 (List.length x3)) ((g9 N (((List.getD x3 x9.toNat ((0:Int),(aV,aA))).2).1)).bind fun r3=>cond (aL x9 (List.length x3)) (bZ (List.set x3 x9.toNat ((List.getD x3 x9.toNat ((0:Int),(aV,aA))).1,(r3,((List.getD x3 x9.toNat ((0:Int),(aV,aA))).2).2))) x8 (W .i64 (x9+1))) (none)) (none)) (some x3)
def wJ.l3(N:Nat):Nat→wJ.cq
 |0,_,_,_=>none
 |n+1,x3,x8,x9=>wJ.iE N (wJ.l3 N n) x3 x8 x9
def wJ.b(N:Nat)(jj:wJ.cq)(a0:aB):Option aB:=
 (g9 N a0).bind fun r1=>jj r1 (List.length r1:Int) (0:Int)
def wJ(N:Nat)(a0:aB):Option aB:=wJ.b N (wJ.l3 N N) a0
abbrev vI.ba:=Int→ay→Int→Int→Option (Int)
def vI.cL(N:Nat)(bw:vI.ba)(x1:Int)(aQ:ay)(aH:Int)(aP:Int):Option (Int):=
 cond (aM aP aH) (cond (aL aP (List.length aQ)) (cond (az (((List.getD aQ aP.toNat aA).2).1) x1) (cond (az ((((List.getD aQ aP.toNat aA).2).2).1) (1:Int)) (some ((List.getD aQ aP.toNat aA).1)) (bw x1 aQ aH (W .i64 (aP+1)))) (bw x1 aQ aH (W .i64 (aP+1)))) (none)) (some (0:Int))
def vI.l4(N:Nat):Nat→vI.ba
 |0,_,_,_,_=>none
 |n+1,x1,aQ,aH,aP=>vI.cL N (vI.l4 N n) x1 aQ aH aP
def vI.b(N:Nat)(df:vI.ba)(a0:ay)(a1:Int):Option (Int):=
 (ic N a0).bind fun r1=>cond (!r1) (some (0:Int)) (df a1 a0 (List.length a0:Int) (0:Int))
def vI(N:Nat)(a0:ay)(a1:Int):Option (Int):=vI.b N (vI.l4 N N) a0 a1
def QE(N:Nat)(a0:ah):Option ah:=
 (g9 N a0.1).bind fun r1=>(g9 N a0.2.1).bind fun r2=>(g9 N a0.2.2.1).bind fun r3=>(g9 N a0.2.2.2.1).bind fun r4=>(g9 N a0.2.2.2.2.1).bind fun r5=>(g9 N a0.2.2.2.2.2.1).bind fun r6=>some (r1,(r2,(r3,(r4,(r5,(r6,()))))))
abbrev dP.eC:=aj→Int→gK→Int→aj→Int→Int→Option (Bool)
abbrev dP.bJ:=aj→Int→Option (Bool)
def dP.n4(N:Nat)(cz:dP.bJ)(eu:dP.eC)(x0:aj)(x3:Int)(x4:gK)(x9:Int)(aP:aj)(bf:Int)(bx:Int):Option (Bool):=
 cond (aM bx bf) (cond (aL bx (List.length aP)) (cond (az (((List.getD aP bx.toNat a7).2).1) x3) ((MP N ((((List.getD aP bx.toNat a7).2).2).1)).bind fun r3=>cond (small (List.length x4+List.length ([r3]))) (eu x0 x3 (x4++([r3])) x9 aP bf (W .i64 (bx+1))) (none)) (eu x0 x3 x4 x9 aP bf (W .i64 (bx+1)))) (none)) ((iV N x4).bind fun r7=>cond (!r7.2) (some false) ((Xu N r7.1).bind fun r8=>cond (!az r8 0) (some false) (cz x0 (W .i64 (x9+1)))))
def dP.l6(N:Nat)(cz:dP.bJ):Nat→dP.eC
 |0,_,_,_,_,_,_,_=>none
 |n+1,x0,x3,x4,x9,aP,bf,bx=>dP.n4 N cz (dP.l6 N cz n) x0 x3 x4 x9 aP bf bx
def dP.dx(N:Nat)(pv:dP.eC)(cz:dP.bJ)(x0:aj)(x9:Int):Option (Bool):=
 cond (aM x9 6) (pv x0 x9 ([]) x9 x0 (List.length x0:Int) (0:Int)) (some true)
def dP.l2(N:Nat):Nat→dP.bJ
 |0,_,_=>none
 |n+1,x0,x9=>dP.dx N (dP.l6 N (dP.l2 N n) N) (dP.l2 N n) x0 x9
def dP.b(N:Nat)(eB:dP.bJ)(a0:aj):Option (Bool):=
 eB a0 (0:Int)
def dP(N:Nat)(a0:aj):Option (Bool):=dP.b N (dP.l2 N N) a0
def GZ(N:Nat)(a0:cY):Option ((Int)×(Bool)):=
 cond (aM 63 0) (none) (cond (!az a0.1 (shr .i64 (W .i64 a0.2.1) 63)) (some ((0:Int),false)) (some ((W .i64 a0.2.1),true)))
def Qw(N:Nat)(a0:aj):Option aj:=
 cond (fi 0 (List.length a0:Int) (List.length a0:Int) (List.length a0:Int)) (some (List.drop (0:Int).toNat (List.take (List.length a0:Int).toNat a0))) (none)
abbrev bs.ac8:=aj→aj→cy→Int→aj→Int→Int→Option (aj×(Int))
abbrev bs.iA:=aj→aj→cy→Int→aj→Int→Int→Option (aj×(Int))
abbrev bs.Oo:=aj→aj→cy→gK→aj→Int→Int→aj→Int→Int→Option (aj×(Int))
abbrev bs.AA:=aj→aj→aj→Int→Int→Option (aj×(Int))
abbrev bs.eG:=aj→aj→aj→Int→Int→Option (aj×(Int))
abbrev bs.ba:=aj→aj→aj→Int→Int→Option (aj×(Int))
def bs.Xx(N:Nat)(fD:bs.eG)(x1:aj)(x8:aj)(aQ:cy)(aH:Int)(EP:aj)(Gt:Int)(CK:Int):Option (aj×(Int)):=
 cond (az aH (List.length x8:Int)) ((lf N x8 aH ([(aQ.1,(aQ.2.1,((0:Int),())))])).bind fun kI=>fD x1 kI EP Gt (W .i64 (CK+1))) (cond (aL aH (List.length x8)) ((Ke N aQ.1 aQ.2.1 (List.getD x8 aH.toNat a7)).bind fun rT=>cond (!az rT 0) ((lf N x8 aH ([(aQ.1,(aQ.2.1,((0:Int),())))])).bind fun u7=>fD x1 u7 EP Gt (W .i64 (CK+1))) (fD x1 x8 EP Gt (W .i64 (CK+1)))) (none))
def bs.j18(N:Nat)(fD:bs.eG)(x1:aj)(x8:aj)(aQ:cy)(aH:Int)(EP:aj)(Gt:Int)(CK:Int):Option (aj×(Int)):=bs.Xx N fD x1 x8 aQ aH EP Gt CK
def bs.qt(N:Nat)(VQ:bs.ac8)(fD:bs.eG)(jt:bs.iA)(x1:aj)(x8:aj)(aQ:cy)(aH:Int)(EP:aj)(Gt:Int)(CK:Int):Option (aj×(Int)):=
 cond (aM aH (List.length x8:Int)) (cond (aL aH (List.length x8)) ((Ke N aQ.1 aQ.2.1 (List.getD x8 aH.toNat a7)).bind fun ji=>cond (aM 0 ji) (jt x1 x8 aQ (W .i64 (aH+1)) EP Gt CK) (VQ x1 x8 aQ aH EP Gt CK)) (none)) (VQ x1 x8 aQ aH EP Gt CK)
def bs.rz(N:Nat)(fD:bs.eG):Nat→bs.iA
 |0,_,_,_,_,_,_,_=>none
 |n+1,x1,x8,aQ,aH,EP,Gt,CK=>bs.qt N (bs.j18 N fD) fD (bs.rz N fD n) x1 x8 aQ aH EP Gt CK
def bs.Qx(N:Nat)(A9:bs.AA)(Oq:bs.Oo)(x1:aj)(aP:aj)(bx:cy)(bN:gK)(uc:aj)(wN:Int)(m4:Int)(Cp:aj)(La:Int)(zY:Int):Option (aj×(Int)):=
 cond (aM zY La) (cond (aL zY (List.length Cp)) (cond (az ((List.getD Cp zY.toNat a7).1) bx.1) (cond (az (((List.getD Cp zY.toNat a7).2).1) bx.2.1) ((MP N ((((List.getD Cp zY.toNat a7).2).2).1)).bind fun y4=>cond (small (List.length bN+List.length ([y4]))) (Oq x1 aP bx (bN++([y4])) uc wN m4 Cp La (W .i64 (zY+1))) (none)) (Oq x1 aP bx bN uc wN m4 Cp La (W .i64 (zY+1)))) (Oq x1 aP bx bN uc wN m4 Cp La (W .i64 (zY+1)))) (none)) ((iV N bN).bind fun VS=>(GZ N VS.1).bind fun Ba=>cond (!Ba.2) (some (bh,(2:Int))) ((G9 N Ba.1).bind fun HW=>cond (!HW) (some (bh,(2:Int))) (cond (!az Ba.1 0) (cond (small (List.length aP+List.length ([(bx.1,(bx.2.1,(Ba.1,())))]))) (A9 x1 (aP++([(bx.1,(bx.2.1,(Ba.1,())))])) uc wN (W .i64 (m4+1))) (none)) (A9 x1 aP uc wN (W .i64 (m4+1))))))
def bs.VH(N:Nat)(A9:bs.AA):Nat→bs.Oo
 |0,_,_,_,_,_,_,_,_,_,_=>none
 |n+1,x1,aP,bx,bN,uc,wN,m4,Cp,La,zY=>bs.Qx N A9 (bs.VH N A9 n) x1 aP bx bN uc wN m4 Cp La zY
def bs.Qz(N:Nat)(ac9:bs.Oo)(A9:bs.AA)(x1:aj)(aP:aj)(uc:aj)(wN:Int)(m4:Int):Option (aj×(Int)):=
 cond (aM m4 wN) (cond (aL m4 (List.length uc)) ((MP N ((((List.getD uc m4.toNat a7).2).2).1)).bind fun y3=>ac9 x1 aP (List.getD uc m4.toNat a7) ([y3]) uc wN m4 x1 (List.length x1:Int) (0:Int)) (none)) ((Qw N aP).bind fun Ot=>some (Ot,(0:Int)))
def bs.Qy(N:Nat):Nat→bs.AA
 |0,_,_,_,_,_=>none
 |n+1,x1,aP,uc,wN,m4=>bs.Qz N (bs.VH N (bs.Qy N n) N) (bs.Qy N n) x1 aP uc wN m4
def bs.lx(N:Nat)(y6:bs.iA)(ada:bs.AA)(fD:bs.eG)(x1:aj)(x8:aj)(EP:aj)(Gt:Int)(CK:Int):Option (aj×(Int)):=
 cond (aM CK Gt) (cond (aL CK (List.length EP)) (y6 x1 x8 (List.getD EP CK.toNat a7) (0:Int) EP Gt CK) (none)) (cond (fK 0 (List.length x8:Int)) (ada x1 (List.replicate (0:Int).toNat a7) x8 (List.length x8:Int) (0:Int)) (none))
def bs.nA(N:Nat):Nat→bs.eG
 |0,_,_,_,_,_=>none
 |n+1,x1,x8,EP,Gt,CK=>bs.lx N (bs.rz N (bs.nA N n) N) (bs.Qy N N) (bs.nA N n) x1 x8 EP Gt CK
def bs.cL(N:Nat)(qH:bs.eG)(bw:bs.ba)(x0:aj)(x1:aj)(X2:aj)(x31:Int)(VT:Int):Option (aj×(Int)):=
 cond (aM VT x31) (cond (aL VT (List.length X2)) ((MR N ((List.getD X2 VT.toNat a7).1) (((List.getD X2 VT.toNat a7).2).1)).bind fun r3=>cond (!r3) (some (bh,(1:Int))) ((G9 N ((((List.getD X2 VT.toNat a7).2).2).1)).bind fun r4=>cond (!r4) (some (bh,(1:Int))) (bw x0 x1 X2 x31 (W .i64 (VT+1))))) (none)) ((dP N x1).bind fun r6=>cond (!r6) (some (bh,(1:Int))) ((g9 N x0).bind fun r7=>qH x1 r7 x1 (List.length x1:Int) (0:Int)))
def bs.l4(N:Nat):Nat→bs.ba
 |0,_,_,_,_,_=>none
 |n+1,x0,x1,X2,x31,VT=>bs.cL N (bs.nA N N) (bs.l4 N n) x0 x1 X2 x31 VT
def bs.b(N:Nat)(df:bs.ba)(a0:aj)(a1:aj):Option (aj×(Int)):=
 (jD N a0).bind fun r1=>cond (!r1) (some (bh,(1:Int))) (cond (aM 400 (List.length a1:Int)) (some (bh,(1:Int))) (df a0 a1 a1 (List.length a1:Int) (0:Int)))
def bs(N:Nat)(a0:aj)(a1:aj):Option (aj×(Int)):=bs.b N (bs.l4 N N) a0 a1
def Xz(N:Nat)(a0:aj):Option aj:=
 cond (fi 0 (List.length a0:Int) (List.length a0:Int) (List.length a0:Int)) (some (List.drop (0:Int).toNat (List.take (List.length a0:Int).toNat a0))) (none)
abbrev bt.adb:=b7→aj→o4→Int→b7→Int→Int→Option (aj×(Int))
abbrev bt.qI:=b7→aj→o4→Int→b7→Int→Int→Option (aj×(Int))
abbrev bt.y8:=b7→aj→cy→gK→aj→Int→Int→b7→Int→Int→Option (aj×(Int))
abbrev bt.AG:=b7→aj→aj→Int→Int→Option (aj×(Int))
abbrev bt.iA:=b7→aj→b7→Int→Int→Option (aj×(Int))
abbrev bt.bl:=aj→b7→gK→b7→Int→Int→Option (aj×(Int))
def bt.XA(N:Nat)(jt:bt.iA)(x1:b7)(aH:aj)(bf:o4)(bx:Int)(ES:b7)(Gu:Int)(CL:Int):Option (aj×(Int)):=
 cond (az bx (List.length aH:Int)) ((lf N aH bx ([(bf.1,(bf.2.1,((0:Int),())))])).bind fun rT=>jt x1 rT ES Gu (W .i64 (CL+1))) (cond (aL bx (List.length aH)) ((G7 N bf.1 bf.2.1 (List.getD aH bx.toNat a7)).bind fun rS=>cond (!az rS 0) ((lf N aH bx ([(bf.1,(bf.2.1,((0:Int),())))])).bind fun uv=>jt x1 uv ES Gu (W .i64 (CL+1))) (jt x1 aH ES Gu (W .i64 (CL+1)))) (none))
def bt.j21(N:Nat)(jt:bt.iA)(x1:b7)(aH:aj)(bf:o4)(bx:Int)(ES:b7)(Gu:Int)(CL:Int):Option (aj×(Int)):=bt.XA N jt x1 aH bf bx ES Gu CL
def bt.wI(N:Nat)(VU:bt.adb)(jt:bt.iA)(vW:bt.qI)(x1:b7)(aH:aj)(bf:o4)(bx:Int)(ES:b7)(Gu:Int)(CL:Int):Option (aj×(Int)):=
 cond (aM bx (List.length aH:Int)) (cond (aL bx (List.length aH)) ((G7 N bf.1 bf.2.1 (List.getD aH bx.toNat a7)).bind fun mU=>cond (aM 0 mU) (vW x1 aH bf (W .i64 (bx+1)) ES Gu CL) (VU x1 aH bf bx ES Gu CL)) (none)) (VU x1 aH bf bx ES Gu CL)
def bt.yq(N:Nat)(jt:bt.iA):Nat→bt.qI
 |0,_,_,_,_,_,_,_=>none
 |n+1,x1,aH,bf,bx,ES,Gu,CL=>bt.wI N (bt.j21 N jt) jt (bt.yq N jt n) x1 aH bf bx ES Gu CL
def bt.D8(N:Nat)(Bb:bt.AG)(vX:bt.y8)(x1:b7)(bN:aj)(cD:cy)(iI:gK)(ud:aj)(wO:Int)(sK:Int)(zZ:b7)(Lb:Int)(y9:Int):Option (aj×(Int)):=
 cond (aM y9 Lb) (cond (aL y9 (List.length zZ)) (cond (az ((List.getD zZ y9.toNat ((0:Int),((0:Int),(bO,())))).1) cD.1) (cond (az (((List.getD zZ y9.toNat ((0:Int),((0:Int),(bO,())))).2).1) cD.2.1) (cond (small (List.length iI+List.length ([(((List.getD zZ y9.toNat ((0:Int),((0:Int),(bO,())))).2).2).1]))) (vX x1 bN cD (iI++([(((List.getD zZ y9.toNat ((0:Int),((0:Int),(bO,())))).2).2).1])) ud wO sK zZ Lb (W .i64 (y9+1))) (none)) (vX x1 bN cD iI ud wO sK zZ Lb (W .i64 (y9+1)))) (vX x1 bN cD iI ud wO sK zZ Lb (W .i64 (y9+1)))) (none)) ((iV N iI).bind fun Ba=>(GZ N Ba.1).bind fun HW=>cond (!Ba.2) (some (bh,(2:Int))) (cond (!HW.2) (some (bh,(2:Int))) (cond (!az HW.1 0) (cond (small (List.length bN+List.length ([(cD.1,(cD.2.1,(HW.1,())))]))) (Bb x1 (bN++([(cD.1,(cD.2.1,(HW.1,())))])) ud wO (W .i64 (sK+1))) (none)) (Bb x1 bN ud wO (W .i64 (sK+1))))))
def bt.Hj(N:Nat)(Bb:bt.AG):Nat→bt.y8
 |0,_,_,_,_,_,_,_,_,_,_=>none
 |n+1,x1,bN,cD,iI,ud,wO,sK,zZ,Lb,y9=>bt.D8 N Bb (bt.Hj N Bb n) x1 bN cD iI ud wO sK zZ Lb y9
def bt.QD(N:Nat)(Ou:bt.y8)(Bb:bt.AG)(x1:b7)(bN:aj)(ud:aj)(wO:Int)(sK:Int):Option (aj×(Int)):=
 cond (aM sK wO) (cond (aL sK (List.length ud)) ((MP N ((((List.getD ud sK.toNat a7).2).2).1)).bind fun y4=>Ou x1 bN (List.getD ud sK.toNat a7) ([y4]) ud wO sK x1 (List.length x1:Int) (0:Int)) (none)) ((Xz N bN).bind fun Ot=>some (Ot,(0:Int)))
def bt.QC(N:Nat):Nat→bt.AG
 |0,_,_,_,_,_=>none
 |n+1,x1,bN,ud,wO,sK=>bt.QD N (bt.Hj N (bt.QC N n) N) (bt.QC N n) x1 bN ud wO sK
def bt.qt(N:Nat)(ET:bt.qI)(ade:bt.AG)(jt:bt.iA)(x1:b7)(aH:aj)(ES:b7)(Gu:Int)(CL:Int):Option (aj×(Int)):=
 cond (aM CL Gu) (cond (aL CL (List.length ES)) (ET x1 aH (List.getD ES CL.toNat ((0:Int),((0:Int),(bO,())))) (0:Int) ES Gu CL) (none)) (cond (fK 0 (List.length aH:Int)) (ade x1 (List.replicate (0:Int).toNat a7) aH (List.length aH:Int) (0:Int)) (none))
def bt.rz(N:Nat):Nat→bt.iA
 |0,_,_,_,_,_=>none
 |n+1,x1,aH,ES,Gu,CL=>bt.qt N (bt.yq N (bt.rz N n) N) (bt.QC N N) (bt.rz N n) x1 aH ES Gu CL
def bt.dd(N:Nat)(y6:bt.iA)(bc:bt.bl)(x0:aj)(x1:b7)(x6:gK)(VV:b7)(x37:Int)(Rx:Int):Option (aj×(Int)):=
 cond (aM Rx x37) (cond (aL Rx (List.length VV)) ((G4 N ((List.getD VV Rx.toNat ((0:Int),((0:Int),(bO,())))).1) (((List.getD VV Rx.toNat ((0:Int),((0:Int),(bO,())))).2).1)).bind fun r4=>cond (!r4) (some (bh,(1:Int))) (cond (small (List.length x6+List.length ([(((List.getD VV Rx.toNat ((0:Int),((0:Int),(bO,())))).2).2).1]))) (bc x0 x1 (x6++([(((List.getD VV Rx.toNat ((0:Int),((0:Int),(bO,())))).2).2).1])) VV x37 (W .i64 (Rx+1))) (none))) (none)) ((iV N x6).bind fun r7=>cond (!r7.2) (some (bh,(1:Int))) ((Xu N r7.1).bind fun r8=>cond (!az r8 0) (some (bh,(1:Int))) ((g9 N x0).bind fun r9=>y6 x1 r9 x1 (List.length x1:Int) (0:Int))))
def bt.l5(N:Nat):Nat→bt.bl
 |0,_,_,_,_,_,_=>none
 |n+1,x0,x1,x6,VV,x37,Rx=>bt.dd N (bt.rz N N) (bt.l5 N n) x0 x1 x6 VV x37 Rx
def bt.b(N:Nat)(dz:bt.bl)(a0:aj)(a1:b7):Option (aj×(Int)):=
 (uP N a0).bind fun r1=>cond (!r1) (some (bh,(1:Int))) (cond (aM 400 (List.length a1:Int)) (some (bh,(1:Int))) (cond (fK 0 (List.length a1:Int)) (dz a0 a1 (List.replicate (0:Int).toNat bO) a1 (List.length a1:Int) (0:Int)) (none)))
def bt(N:Nat)(a0:aj)(a1:b7):Option (aj×(Int)):=bt.b N (bt.l5 N N) a0 a1
def F65(N:Nat)(a0:ah)(a1:aj)(a2:b7):Option (ah×(Int)):=
 (QE N a0).bind fun r1=>(bs N a0.2.2.2.1 a1).bind fun r2=>cond (!az r2.2 0) (some ((aV,(cm,(bh,(bh,(cK,(cT,())))))),r2.2)) ((bt N a0.2.2.1 a2).bind fun r3=>cond (!az r3.2 0) (some ((aV,(cm,(bh,(bh,(cK,(cT,())))))),r3.2)) (some ((r1.1,(r1.2.1,(r3.1,(r2.1,r1.2.2.2.2)))),(0:Int))))
abbrev ly.mQ:=ay→ah→ah→aB→aj→b7→bp→Int→aB→Int→Int→ax→Int→Int→Option (ah×aB×(Int))
abbrev ly.cR:=ay→ah→ah→aB→aj→b7→aB→Int→Int→Option (ah×aB×(Int))
def ly.rB(N:Nat)(cA:ly.cR)(ue:ly.mQ)(x3:ay)(x5:ah)(x8:ah)(aH:aB)(aP:aj)(bf:b7)(cC:bp)(iI:Int)(HX:aB)(Ov:Int)(nY:Int)(Ow:ax)(x98:Int)(Ls:Int):Option (ah×aB×(Int)):=
 cond (aM Ls x98) (cond (aL Ls (List.length Ow)) (let Jo:Int:=W .i64 (0-(((List.getD Ow Ls.toNat bO).2).1));cond (small (List.length aP+List.length ([((0:Int),((List.getD Ow Ls.toNat bO).1,(Jo,()))),(iI,((List.getD Ow Ls.toNat bO).1,(((List.getD Ow Ls.toNat bO).2).1,())))]))) (ue x3 x5 x8 aH (aP++([((0:Int),((List.getD Ow Ls.toNat bO).1,(Jo,()))),(iI,((List.getD Ow Ls.toNat bO).1,(((List.getD Ow Ls.toNat bO).2).1,())))])) bf cC iI HX Ov nY Ow x98 (W .i64 (Ls+1))) (none)) (none)) ((MP N (W .i64 (0-cC.2.2.2.1))).bind fun Bc=>(MP N cC.2.2.2.1).bind fun y3=>cond (small (List.length bf+List.length ([((5:Int),(iI,(Bc,()))),((2:Int),((0:Int),(y3,())))]))) (cA x3 x5 x8 aH aP (bf++([((5:Int),(iI,(Bc,()))),((2:Int),((0:Int),(y3,())))])) HX Ov (W .i64 (nY+1))) (none))
def ly.tR(N:Nat)(cA:ly.cR):Nat→ly.mQ
 |0,_,_,_,_,_,_,_,_,_,_,_,_,_,_=>none
 |n+1,x3,x5,x8,aH,aP,bf,cC,iI,HX,Ov,nY,Ow,x98,Ls=>ly.rB N cA (ly.tR N cA n) x3 x5 x8 aH aP bf cC iI HX Ov nY Ow x98 Ls
def ly.ns(N:Nat)(za:ly.mQ)(cA:ly.cR)(x3:ay)(x5:ah)(x8:ah)(aH:aB)(aP:aj)(bf:b7)(HX:aB)(Ov:Int)(nY:Int):Option (ah×aB×(Int)):=
 cond (aM nY Ov) (cond (aL nY (List.length HX)) (cond (!az (((((List.getD HX nY.toNat ((0:Int),(aV,aA))).2).2).2).1) (1:Int)) (cA x3 x5 x8 aH aP bf HX Ov (W .i64 (nY+1))) ((tQ N x3 ((List.getD HX nY.toNat ((0:Int),(aV,aA))).1)).bind fun r7=>cond (!r7.2) (cond (aL nY (List.length aH)) (cA x3 x5 x8 (List.set aH nY.toNat ((List.getD aH nY.toNat ((0:Int),(aV,aA))).1,(((List.getD aH nY.toNat ((0:Int),(aV,aA))).2).1,((((List.getD aH nY.toNat ((0:Int),(aV,aA))).2).2).1,((3:Int),((((List.getD aH nY.toNat ((0:Int),(aV,aA))).2).2).2).2))))) aP bf HX Ov (W .i64 (nY+1))) (none)) ((vI N x5.2.1 r7.1.2.2.1).bind fun ji=>(tB N x5.1 r7.1.2.2.1).bind fun lR=>cond (az lR 0) (some ((aV,(cm,(bh,(bh,(cK,(cT,())))))),[],(3:Int))) (cond (az ji 0) (some ((aV,(cm,(bh,(bh,(cK,(cT,())))))),[],(3:Int))) (cond (aL nY (List.length aH)) (let Lc:List ((Int)×((List ((Int)×((Int)×(Unit))))×((Int)×((Int)×((Int)×((Int)×(Unit))))))):=List.set aH nY.toNat ((List.getD aH nY.toNat ((0:Int),(aV,aA))).1,(((List.getD aH nY.toNat ((0:Int),(aV,aA))).2).1,((((List.getD aH nY.toNat ((0:Int),(aV,aA))).2).2).1,((2:Int),((((List.getD aH nY.toNat ((0:Int),(aV,aA))).2).2).2).2))));cond (aL nY (List.length Lc)) (let EU:List ((Int)×((List ((Int)×((Int)×(Unit))))×((Int)×((Int)×((Int)×((Int)×(Unit))))))):=List.set Lc nY.toNat ((List.getD Lc nY.toNat ((0:Int),(aV,aA))).1,(((List.getD Lc nY.toNat ((0:Int),(aV,aA))).2).1,((((List.getD Lc nY.toNat ((0:Int),(aV,aA))).2).2).1,(((((List.getD Lc nY.toNat ((0:Int),(aV,aA))).2).2).2).1,(r7.1.2.2.1,(((((List.getD Lc nY.toNat ((0:Int),(aV,aA))).2).2).2).2).2)))));cond (aL nY (List.length EU)) (za x3 x5 x8 (List.set EU nY.toNat ((List.getD EU nY.toNat ((0:Int),(aV,aA))).1,(((List.getD EU nY.toNat ((0:Int),(aV,aA))).2).1,((((List.getD EU nY.toNat ((0:Int),(aV,aA))).2).2).1,(((((List.getD EU nY.toNat ((0:Int),(aV,aA))).2).2).2).1,((((((List.getD EU nY.toNat ((0:Int),(aV,aA))).2).2).2).2).1,(r7.1.2.2.2.1,((((((List.getD EU nY.toNat ((0:Int),(aV,aA))).2).2).2).2).2).2))))))) aP bf r7.1 ji HX Ov nY (((List.getD HX nY.toNat ((0:Int),(aV,aA))).2).1) (List.length (((List.getD HX nY.toNat ((0:Int),(aV,aA))).2).1):Int) (0:Int)) (none)) (none)) (none)))))) (none)) ((F65 N x5 aP bf).bind fun zr=>cond (!az zr.2 0) (some ((aV,(cm,(bh,(bh,(cK,(cT,())))))),[],zr.2)) (some (zr.1,aH,(0:Int))))
def ly.l7(N:Nat):Nat→ly.cR
 |0,_,_,_,_,_,_,_,_,_=>none
 |n+1,x3,x5,x8,aH,aP,bf,HX,Ov,nY=>ly.ns N (ly.tR N (ly.l7 N n) N) (ly.l7 N n) x3 x5 x8 aH aP bf HX Ov nY
def ly.b(N:Nat)(nZ:ly.cR)(a0:aa)(a1:ah)(a2:aB)(a3:ay):Option (ah×aB×(Int)):=
 (g4 N a0 a1).bind fun r1=>cond (!r1) (some ((aV,(cm,(bh,(bh,(cK,(cT,())))))),[],(1:Int))) ((pI N a0 a2).bind fun r2=>cond (!r2) (some ((aV,(cm,(bh,(bh,(cK,(cT,())))))),[],(1:Int))) ((vK N a3).bind fun r3=>cond (!r3) (some ((aV,(cm,(bh,(bh,(cK,(cT,())))))),[],(1:Int))) ((wJ N a2).bind fun r4=>nZ a3 a1 (aV,(cm,(bh,(bh,(cK,(cT,())))))) r4 ([]) ([]) a2 (List.length a2:Int) (0:Int))))
def ly(N:Nat)(a0:aa)(a1:ah)(a2:aB)(a3:ay):Option (ah×aB×(Int)):=ly.b N (ly.l7 N N) a0 a1 a2 a3
abbrev sP.bJ:=aj→Int→Option (Bool)
def sP.dx(N:Nat)(cz:sP.bJ)(x0:aj)(x3:Int):Option (Bool):=
 cond (aM x3 (List.length x0:Int)) (cond (aL x3 (List.length x0)) (cond (aM ((List.getD x0 x3.toNat a7).1) (0:Int)) (some false) (cond (aM 24 ((List.getD x0 x3.toNat a7).1)) (some false) (cond (aM (((List.getD x0 x3.toNat a7).2).1) (0:Int)) (some false) (cond (bS 6 (((List.getD x0 x3.toNat a7).2).1)) (some false) (cond (az ((((List.getD x0 x3.toNat a7).2).2).1) (0:Int)) (some false) (cond (az ((((List.getD x0 x3.toNat a7).2).2).1) (-9223372036854775808:Int)) (some false) (cond (aM 0 x3) (let v2:Int:=W .i64 (x3-1);cond (aL v2 (List.length x0)) (cond (aM ((List.getD x0 x3.toNat a7).1) ((List.getD x0 v2.toNat a7).1)) (some false) (let v3:Int:=W .i64 (x3-1);cond (aL v3 (List.length x0)) (cond (az ((List.getD x0 x3.toNat a7).1) ((List.getD x0 v3.toNat a7).1)) (let v4:Int:=W .i64 (x3-1);cond (aL v4 (List.length x0)) (cond (bS (((List.getD x0 x3.toNat a7).2).1) (((List.getD x0 v4.toNat a7).2).1)) (some false) (cz x0 (W .i64 (x3+1)))) (none)) (cz x0 (W .i64 (x3+1)))) (none))) (none)) (cz x0 (W .i64 (x3+1)))))))))) (none)) (some true)
def sP.l2(N:Nat):Nat→sP.bJ
 |0,_,_=>none
 |n+1,x0,x3=>sP.dx N (sP.l2 N n) x0 x3
def sP.b(N:Nat)(eB:sP.bJ)(a0:aj):Option (Bool):=
 eB a0 (0:Int)
def sP(N:Nat)(a0:aj):Option (Bool):=sP.b N (sP.l2 N N) a0
abbrev sQ.ba:=aj→Int→Int→Int→Option (Int)
def sQ.cL(N:Nat)(bw:sQ.ba)(x0:aj)(x1:Int)(x2:Int)(x7:Int):Option (Int):=
 cond (aM x7 (List.length x0:Int)) (cond (aL x7 (List.length x0)) (cond (az ((List.getD x0 x7.toNat a7).1) x1) (cond (aL x7 (List.length x0)) (cond (az (((List.getD x0 x7.toNat a7).2).1) x2) (cond (aL x7 (List.length x0)) (some ((((List.getD x0 x7.toNat a7).2).2).1)) (none)) (bw x0 x1 x2 (W .i64 (x7+1)))) (none)) (bw x0 x1 x2 (W .i64 (x7+1)))) (none)) (some (0:Int))
def sQ.l4(N:Nat):Nat→sQ.ba
 |0,_,_,_,_=>none
 |n+1,x0,x1,x2,x7=>sQ.cL N (sQ.l4 N n) x0 x1 x2 x7
def sQ.b(N:Nat)(df:sQ.ba)(a0:aj)(a1:Int)(a2:Int):Option (Int):=
 (sP N a0).bind fun r1=>cond (!r1) (some (0:Int)) (df a0 a1 a2 (0:Int))
def sQ(N:Nat)(a0:aj)(a1:Int)(a2:Int):Option (Int):=sQ.b N (sQ.l4 N N) a0 a1 a2
def G6(N:Nat)(a0:Int)(a1:Int):Option (Bool):=
 cond (az a0 1) (some (az a1 0)) (cond (az a0 2) (some (az a1 0)) (cond (az a0 3) (some (az a1 0)) (cond (az a0 4) (some (az a1 0)) (cond (az a0 5) (cond (bS 1 a1) (some (bS a1 24)) (some false)) (cond (az a0 6) (cond (bS 1 a1) (some (bS a1 12)) (some false)) (cond (az a0 7) (cond (bS 1 a1) (some (bS a1 12)) (some false)) (some false)))))))
abbrev uQ.bJ:=aj→Int→Option (Bool)
def uQ.dx(N:Nat)(cz:uQ.bJ)(x0:aj)(x3:Int):Option (Bool):=
 cond (aM x3 (List.length x0:Int)) (cond (aL x3 (List.length x0)) (cond (aL x3 (List.length x0)) ((G6 N ((List.getD x0 x3.toNat a7).1) (((List.getD x0 x3.toNat a7).2).1)).bind fun r2=>cond (!r2) (some false) (cond (aL x3 (List.length x0)) (cond (az ((((List.getD x0 x3.toNat a7).2).2).1) (0:Int)) (some false) (cond (aM 0 x3) (cond (aL x3 (List.length x0)) (let v3:Int:=W .i64 (x3-1);cond (aL v3 (List.length x0)) (cond (aM ((List.getD x0 x3.toNat a7).1) ((List.getD x0 v3.toNat a7).1)) (some false) (cond (aL x3 (List.length x0)) (let v4:Int:=W .i64 (x3-1);cond (aL v4 (List.length x0)) (cond (az ((List.getD x0 x3.toNat a7).1) ((List.getD x0 v4.toNat a7).1)) (cond (aL x3 (List.length x0)) (let v5:Int:=W .i64 (x3-1);cond (aL v5 (List.length x0)) (cond (bS (((List.getD x0 x3.toNat a7).2).1) (((List.getD x0 v5.toNat a7).2).1)) (some false) (cz x0 (W .i64 (x3+1)))) (none)) (none)) (cz x0 (W .i64 (x3+1)))) (none)) (none))) (none)) (none)) (cz x0 (W .i64 (x3+1))))) (none))) (none)) (none)) (some true)
def uQ.l2(N:Nat):Nat→uQ.bJ
 |0,_,_=>none
 |n+1,x0,x3=>uQ.dx N (uQ.l2 N n) x0 x3
def uQ.b(N:Nat)(eB:uQ.bJ)(a0:aj):Option (Bool):=
 eB a0 (0:Int)
def uQ(N:Nat)(a0:aj):Option (Bool):=uQ.b N (uQ.l2 N N) a0
abbrev oz.ba:=aj→Int→Int→Int→Option (Int)
def oz.cL(N:Nat)(bw:oz.ba)(x0:aj)(x1:Int)(x2:Int)(x7:Int):Option (Int):=
 cond (aM x7 (List.length x0:Int)) (cond (aL x7 (List.length x0)) (cond (az ((List.getD x0 x7.toNat a7).1) x1) (cond (aL x7 (List.length x0)) (cond (az (((List.getD x0 x7.toNat a7).2).1) x2) (cond (aL x7 (List.length x0)) (some ((((List.getD x0 x7.toNat a7).2).2).1)) (none)) (bw x0 x1 x2 (W .i64 (x7+1)))) (none)) (bw x0 x1 x2 (W .i64 (x7+1)))) (none)) (some (0:Int))
def oz.l4(N:Nat):Nat→oz.ba
 |0,_,_,_,_=>none
 |n+1,x0,x1,x2,x7=>oz.cL N (oz.l4 N n) x0 x1 x2 x7
def oz.b(N:Nat)(df:oz.ba)(a0:aj)(a1:Int)(a2:Int):Option (Int):=
 (uQ N a0).bind fun r1=>cond (!r1) (some (0:Int)) (df a0 a1 a2 (0:Int))
def oz(N:Nat)(a0:aj)(a1:Int)(a2:Int):Option (Int):=oz.b N (oz.l4 N N) a0 a1 a2
def F12(N:Nat):Option (Bool):=
 (F51 N).bind fun r1=>(tQ N ([((1:Int),((3:Int),((1:Int),((5:Int),())))),((2:Int),((3:Int),((2:Int),((5:Int),()))))]) (3:Int)).bind fun r2=>(tQ N ([((1:Int),((3:Int),((1:Int),((5:Int),())))),((2:Int),((3:Int),((2:Int),((5:Int),()))))]) (4:Int)).bind fun r3=>(ly N r1.1 r1.2.1 r1.2.2 ([((1:Int),((3:Int),((1:Int),((5:Int),())))),((2:Int),((3:Int),((2:Int),((5:Int),()))))])).bind fun r4=>cond (r2.2) (cond (az r2.1.1 1) (cond (!r3.2) (cond (az r4.2.2 0) (cond (az (List.length r4.2.1:Int) 2) (cond (aL 0 (List.length r4.2.1)) (cond (az (((((List.getD r4.2.1 (0:Int).toNat ((0:Int),(aV,aA))).2).2).2).1) (2:Int)) (cond (aL 0 (List.length r4.2.1)) (cond (az ((((((List.getD r4.2.1 (0:Int).toNat ((0:Int),(aV,aA))).2).2).2).2).1) (1:Int)) (cond (aL 0 (List.length r4.2.1)) (cond (az (((((((List.getD r4.2.1 (0:Int).toNat ((0:Int),(aV,aA))).2).2).2).2).2).1) (5:Int)) (cond (aL 1 (List.length r4.2.1)) (cond (az (((((List.getD r4.2.1 (1:Int).toNat ((0:Int),(aV,aA))).2).2).2).1) (3:Int)) ((sQ N r4.1.2.2.2.1 (1:Int) (0:Int)).bind fun r5=>cond (az r5 3) ((sQ N r4.1.2.2.2.1 (0:Int) (0:Int)).bind fun r6=>cond (az r6 2) ((oz N r4.1.2.2.1 (2:Int) (0:Int)).bind fun r7=>cond (az r7 5) ((oz N r4.1.2.2.1 (5:Int) (1:Int)).bind fun r8=>some (az r8 (-5))) (some false)) (some false)) (some false)) (some false)) (none)) (some false)) (none)) (some false)) (none)) (some false)) (none)) (some false)) (some false)) (some false)) (some false)) (some false)
def F13(N:Nat)(a0:List (Int)):Option aI:=
 some (a0,((0:Int),()))
def F42(N:Nat)(a0:aI):Option ((Int)×aI):=
 cond (aM a0.2.1 (List.length a0.1:Int)) (cond (aL a0.2.1 (List.length a0.1)) (some (List.getD a0.1 a0.2.1.toNat (0:Int),(a0.1,((W .i64 (a0.2.1+1)),a0.2.2)))) (none)) (some ((0:Int),(a0.1,((W .i64 (a0.2.1+1)),a0.2.2))))
def nJ(N:Nat)(a0:aI)(a1:Int):Option ((Int)×aI):=
 (F42 N a0).bind fun r1=>let v2:Int:=W .u64 a1;cond (az v2 0) (none) (some ((W .i64 (rem r1.1 v2)),r1.2))
def HC(N:Nat)(a0:aI)(a1:Int):Option ((Bool)×aI):=
 (nJ N a0 a1).bind fun r1=>some (az r1.1 (W .i64 (a1-1)),r1.2)
def Gq(N:Nat)(a0:aI):Option ((Int)×aI):=
 (F42 N a0).bind fun r1=>cond (az 8 0) (none) (let v2:Int:=rem r1.1 8;cond (az v2 0) (cond (aM 1 0) (none) (some ((W .i64 (shr .u64 r1.1 1)),r1.2))) (cond (az v2 1) (cond (aM 3 0) (none) (cond (az 1000000000000 0) (none) (some ((W .i64 (rem (shr .u64 r1.1 3) 1000000000000)),r1.2)))) (cond (az v2 2) (cond (aM 3 0) (none) (cond (az 2 0) (none) (some ((W .i64 (rem (shr .u64 r1.1 3) 2)),r1.2)))) (cond (aM 3 0) (none) (cond (az 5000 0) (none) (some ((W .i64 (rem (shr .u64 r1.1 3) 5000)),r1.2)))))))
abbrev ph.HV:=aI→aa→aa→ay→Int→bp→Option (aa×aI)
abbrev ph.cq:=aI→aa→aa→ay→Int→Option (aa×aI)
def ph.Hk(N:Nat)(bZ:ph.cq)(x0:aI)(x2:aa)(x3:aa)(Ld:ay)(x4:Int)(x5:bp):Option (aa×aI):=
 (HC N x0 (12:Int)).bind fun rC=>cond (rC.1) ((Gq N rC.2).bind fun rT=>cond (az 1000000001 0) (none) (let Jo:Int:=rem rT.1 1000000001;(Gq N rT.2).bind fun rS=>cond (az 1000000001 0) (none) (let v18:Int:=rem rS.1 1000000001;cond (small (List.length Ld+List.length ([(x5.1,(x5.2.1,(Jo,(v18,x5.2.2.2.2))))]))) (bZ rS.2 x2 (cm,x3.2) (Ld++([(x5.1,(x5.2.1,(Jo,(v18,x5.2.2.2.2))))])) (W .i64 (x4-1))) (none)))) (cond (small (List.length Ld+List.length ([x5]))) (bZ rC.2 x2 (cm,x3.2) (Ld++([x5])) (W .i64 (x4-1))) (none))
def ph.j8(N:Nat)(bZ:ph.cq)(x0:aI)(x2:aa)(x3:aa)(Ld:ay)(x4:Int)(x5:bp):Option (aa×aI):=ph.Hk N bZ x0 x2 x3 Ld x4 x5
def ph.iE(N:Nat)(y7:ph.HV)(bZ:ph.cq)(x0:aI)(x2:aa)(x3:aa)(Ld:ay)(x4:Int):Option (aa×aI):=
 cond (aM 0 x4) ((nJ N x0 (3:Int)).bind fun r4=>(nJ N r4.2 (300:Int)).bind fun r5=>(nJ N r5.2 (12:Int)).bind fun r7=>(nJ N r7.2 (6:Int)).bind fun r8=>(HC N r8.2 (12:Int)).bind fun r9=>cond (r9.1) ((Gq N r9.2).bind fun ji=>cond (az 1000000000000 0) (none) (y7 ji.2 x2 x3 Ld x4 (r4.1,((W .i64 ((1:Int)+(rem ji.1 1000000000000))),(r7.1,(r8.1,())))))) (y7 r9.2 x2 x3 Ld x4 (r4.1,((W .i64 ((1:Int)+r5.1)),(r7.1,(r8.1,())))))) ((nJ N x0 (300:Int)).bind fun y4=>(nJ N y4.2 (5:Int)).bind fun zr=>(nJ N zr.2 (3:Int)).bind fun CN=>(nJ N CN.2 (3:Int)).bind fun vY=>(nJ N vY.2 (20:Int)).bind fun Le=>let v28:Int:=W .i64 ((1:Int)+Le.1);(nJ N Le.2 (100:Int)).bind fun Ba=>(HC N Ba.2 (15:Int)).bind fun HW=>cond (HW.1) ((Gq N HW.2).bind fun Jp=>some ((Ld,(Jp.1,(zr.1,(CN.1,(vY.1,(v28,(Ba.1,x3.2.2.2.2.2.2.2))))))),Jp.2)) (some ((Ld,(y4.1,(zr.1,(CN.1,(vY.1,(v28,(Ba.1,x3.2.2.2.2.2.2.2))))))),HW.2)))
def ph.l3(N:Nat):Nat→ph.cq
 |0,_,_,_,_,_=>none
 |n+1,x0,x2,x3,Ld,x4=>ph.iE N (ph.j8 N (ph.l3 N n)) (ph.l3 N n) x0 x2 x3 Ld x4
def ph.b(N:Nat)(jj:ph.cq)(a0:aI):Option (aa×aI):=
 (nJ N a0 (4:Int)).bind fun r1=>jj r1.2 (cm,dZ) (cm,dZ) cm (W .i64 ((1:Int)+r1.1))
def ph(N:Nat)(a0:aI):Option (aa×aI):=ph.b N (ph.l3 N N) a0
abbrev dp.eG:=aI→fy→Int→Option (fy×aI)
abbrev dp.il:=aI→fy→Int→Option (fy×aI)
abbrev dp.cq:=aI→fy→Int→Option (fy×aI)
def dp.lx(N:Nat)(fD:dp.eG)(x0:aI)(x5:fy)(x8:Int):Option (fy×aI):=
 cond (bS x8 7) ((nJ N x0 (3000:Int)).bind fun rT=>let Jo:Int:=W .i64 ((200:Int)+rT.1);(nJ N rT.2 (200:Int)).bind fun rS=>let v18:Int:=W .i64 ((20:Int)+rS.1);cond (small (List.length x5+List.length ([((3:Int),((0:Int),(x8,((0:Int),((0:Int),((0:Int),(Jo,((0:Int),())))))))),((6:Int),((0:Int),(x8,((0:Int),((0:Int),((0:Int),(v18,((0:Int),()))))))))]))) (fD rS.2 (x5++([((3:Int),((0:Int),(x8,((0:Int),((0:Int),((0:Int),(Jo,((0:Int),())))))))),((6:Int),((0:Int),(x8,((0:Int),((0:Int),((0:Int),(v18,((0:Int),()))))))))])) (W .i64 (x8+1))) (none)) (some (x5,x0))
def dp.nA(N:Nat):Nat→dp.eG
 |0,_,_,_=>none
 |n+1,x0,x5,x8=>dp.lx N (dp.nA N n) x0 x5 x8
def dp.rN(N:Nat)(qH:dp.eG)(mR:dp.il)(x0:aI)(x5:fy)(x7:Int):Option (fy×aI):=
 cond (bS x7 7) ((nJ N x0 (2:Int)).bind fun ji=>let v11:Int:=W .i64 ((1:Int)+ji.1);cond (small (List.length x5+List.length ([((2:Int),(v11,(x7,((0:Int),((2:Int),a7)))))]))) (mR ji.2 (x5++([((2:Int),(v11,(x7,((0:Int),((2:Int),a7)))))])) (W .i64 (x7+1))) (none)) (qH x0 x5 (1:Int))
def dp.l9(N:Nat):Nat→dp.il
 |0,_,_,_=>none
 |n+1,x0,x5,x7=>dp.rN N (dp.nA N N) (dp.l9 N n) x0 x5 x7
def dp.iE(N:Nat)(sL:dp.il)(bZ:dp.cq)(x0:aI)(x5:fy)(x6:Int):Option (fy×aI):=
 cond (bS x6 4) (cond (small (List.length x5+List.length ([((1:Int),(x6,dZ)),((2:Int),(x6,(x6,((0:Int),((1:Int),a7)))))]))) (let v2:List ((Int)×((Int)×((Int)×((Int)×((Int)×((Int)×((Int)×((Int)×(Unit))))))))):=x5++([((1:Int),(x6,dZ)),((2:Int),(x6,(x6,((0:Int),((1:Int),a7)))))]);(HC N x0 (5:Int)).bind fun r3=>cond (!r3.1) ((nJ N r3.2 (400:Int)).bind fun r4=>let v5:Int:=W .i64 ((1:Int)+r4.1);cond (small (List.length v2+List.length ([((5:Int),(x6,((0:Int),((0:Int),((0:Int),((0:Int),(v5,((0:Int),()))))))))]))) (bZ r4.2 (v2++([((5:Int),(x6,((0:Int),((0:Int),((0:Int),((0:Int),(v5,((0:Int),()))))))))])) (W .i64 (x6+1))) (none)) (bZ r3.2 v2 (W .i64 (x6+1)))) (none)) (sL x0 x5 (5:Int))
def dp.l3(N:Nat):Nat→dp.cq
 |0,_,_,_=>none
 |n+1,x0,x5,x6=>dp.iE N (dp.l9 N N) (dp.l3 N n) x0 x5 x6
def dp.b(N:Nat)(jj:dp.cq)(a0:aI)(a1:aa):Option (fy×aI):=
 jj a0 ([]) (1:Int)
def dp(N:Nat)(a0:aI)(a1:aa):Option (fy×aI):=dp.b N (dp.l3 N N) a0 a1
def KN(N:Nat)(a0:aI)(a1:aa)(a2:Int):Option (fg×aI):=
 cond (aL a2 (List.length a1.1)) ((nJ N a0 (61:Int)).bind fun r1=>(HC N r1.2 (20:Int)).bind fun r6=>cond (r6.1) ((Gq N r6.2).bind fun r7=>cond (az 1000000000000 0) (none) (some (((9:Int),((0:Int),((0:Int),(a2,((0:Int),((0:Int),((0:Int),((W .i64 ((1:Int)+(rem r7.1 1000000000000))),())))))))),r7.2))) (some (((9:Int),((0:Int),((0:Int),(a2,((0:Int),((0:Int),((0:Int),((mx 1 (mn 1000000000000 (W .i64 ((W .i64 ((((List.getD a1.1 a2.toNat aA).2).1)+r1.1))-30)))),())))))))),r6.2))) (none)
def NL(N:Nat)(a0:aI)(a1:aa):Option (fg×aI):=
 (nJ N a0 (List.length a1.1:Int)).bind fun r1=>(nJ N r1.2 (7:Int)).bind fun r2=>let v3:Int:=W .i64 ((1:Int)+r2.1);(nJ N r2.2 (2:Int)).bind fun r4=>let v5:Int:=W .i64 ((1:Int)+r4.1);(nJ N r4.2 (30:Int)).bind fun r6=>cond (aL r1.1 (List.length a1.1)) ((nJ N r6.2 (21:Int)).bind fun r8=>(HC N r8.2 (30:Int)).bind fun kI=>cond (kI.1) ((Gq N kI.2).bind fun rC=>cond (az 1000000000 0) (none) ((Gq N rC.2).bind fun rS=>cond (az 1000000000000 0) (none) (some (((7:Int),((0:Int),(v3,(r1.1,(v5,((0:Int),((W .i64 ((1:Int)+(rem rC.1 1000000000))),((W .i64 ((1:Int)+(rem rS.1 1000000000000))),())))))))),rS.2)))) (some (((7:Int),((0:Int),(v3,(r1.1,(v5,((0:Int),((W .i64 ((1:Int)+r6.1)),((mx 1 (mn 1000000000000 (W .i64 ((W .i64 ((((List.getD a1.1 r1.1.toNat aA).2).1)+r8.1))-10)))),())))))))),kI.2))) (none)
def NM(N:Nat)(a0:aI)(a1:aa):Option (fg×aI):=
 (nJ N a0 (4:Int)).bind fun r1=>let v2:Int:=W .i64 ((1:Int)+r1.1);(nJ N r1.2 (7:Int)).bind fun r3=>let v4:Int:=W .i64 ((1:Int)+r3.1);(nJ N r3.2 (List.length a1.1:Int)).bind fun r5=>(nJ N r5.2 (36:Int)).bind fun r6=>let v7:Int:=W .i64 ((1:Int)+r6.1);cond (az v7 1) (some ((v7,(v2,dZ)),r6.2)) (cond (az v7 11) (some ((v7,(v2,dZ)),r6.2)) (cond (az v7 12) (some ((v7,(v2,dZ)),r6.2)) (cond (az v7 13) (some ((v7,(v2,dZ)),r6.2)) (cond (az v7 2) ((nJ N r6.2 (2:Int)).bind fun r8=>some ((v7,(v2,(v4,((0:Int),((W .i64 ((1:Int)+r8.1)),a7))))),r8.2)) (cond (az v7 3) ((Gq N r6.2).bind fun ji=>some ((v7,((0:Int),(v4,((0:Int),((0:Int),((0:Int),((mx ji.1 1),((0:Int),())))))))),ji.2)) (cond (az v7 4) ((Gq N r6.2).bind fun mU=>some ((v7,((0:Int),(v4,((0:Int),((0:Int),((0:Int),((mx mU.1 1),((0:Int),())))))))),mU.2)) (cond (az v7 5) ((Gq N r6.2).bind fun rC=>some ((v7,(v2,((0:Int),((0:Int),((0:Int),((0:Int),((mx rC.1 1),((0:Int),())))))))),rC.2)) (cond (az v7 22) ((Gq N r6.2).bind fun u7=>some ((v7,(v2,((0:Int),((0:Int),((0:Int),((0:Int),((mx u7.1 1),((0:Int),())))))))),u7.2)) (cond (az v7 6) ((Gq N r6.2).bind fun uv=>cond (az 1000000000001 0) (none) (some ((v7,((0:Int),(v4,((0:Int),((0:Int),((0:Int),((rem uv.1 1000000000001),((0:Int),())))))))),uv.2))) (cond (az v7 8) ((nJ N r6.2 (40:Int)).bind fun Bc=>some ((v7,((0:Int),(v4,((0:Int),((0:Int),((W .i64 ((1:Int)+Bc.1)),bO)))))),Bc.2)) (cond (az v7 9) ((KN N r6.2 a1 r5.1).bind fun Gv=>some (Gv.1,Gv.2)) (cond (az v7 10) ((nJ N r6.2 (3:Int)).bind fun y4=>some ((v7,((0:Int),((0:Int),((0:Int),((0:Int),((0:Int),((W .i64 ((1:Int)+y4.1)),((0:Int),())))))))),y4.2)) (cond (az v7 14) (some ((v7,(v2,(v4,jv))),r6.2)) (cond (az v7 15) (some ((v7,Vp),r6.2)) (cond (az v7 16) (some ((v7,Vp),r6.2)) (cond (az v7 18) (some ((v7,Vp),r6.2)) (cond (az v7 20) (some ((v7,Vp),r6.2)) (cond (az v7 21) (some ((v7,Vp),r6.2)) (cond (az v7 17) ((nJ N r6.2 (60:Int)).bind fun CN=>(nJ N CN.2 (20:Int)).bind fun Le=>cond (aL r5.1 (List.length a1.1)) (some ((v7,((0:Int),(v4,((0:Int),((0:Int),((W .i64 ((1:Int)+CN.1)),((W .i64 ((1:Int)+Le.1)),(((List.getD a1.1 r5.1.toNat aA).2).1,())))))))),Le.2)) (none)) (cond (az v7 19) ((nJ N r6.2 (60:Int)).bind fun Ba=>(nJ N Ba.2 (80:Int)).bind fun Jp=>some ((v7,(v2,((0:Int),((0:Int),((0:Int),((W .i64 ((1:Int)+Ba.1)),((0:Int),((W .i64 (Jp.1-60)),())))))))),Jp.2)) ((NL N r6.2 a1).bind fun r33=>some (r33.1,r33.2))))))))))))))))))))))
abbrev xd.cq:=aI→aa→fy→Int→Option (fy×aI)
def xd.iE(N:Nat)(bZ:xd.cq)(x0:aI)(x4:aa)(x7:fy)(x8:Int):Option (fy×aI):=
 cond (aM 0 x8) ((nJ N x0 (8:Int)).bind fun r5=>cond (az r5.1 0) ((NM N r5.2 x4).bind fun r6=>cond (small (List.length x7+List.length ([r6.1]))) (bZ r6.2 x4 (x7++([r6.1])) (W .i64 (x8-1))) (none)) (cond (az r5.1 1) ((nJ N r5.2 (List.length x4.1:Int)).bind fun r9=>(KN N r9.2 x4 r9.1).bind fun ji=>cond (small (List.length x7+List.length ([ji.1]))) (bZ ji.2 x4 (x7++([ji.1])) (W .i64 (x8-1))) (none)) ((NL N r5.2 x4).bind fun kI=>cond (small (List.length x7+List.length ([kI.1]))) (bZ kI.2 x4 (x7++([kI.1])) (W .i64 (x8-1))) (none)))) (some (x7,x0))
def xd.l3(N:Nat):Nat→xd.cq
 |0,_,_,_,_=>none
 |n+1,x0,x4,x7,x8=>xd.iE N (xd.l3 N n) x0 x4 x7 x8
def xd.b(N:Nat)(jj:xd.cq)(a0:aI)(a1:aa)(a2:Int):Option (fy×aI):=
 (dp N a0 a1).bind fun r1=>(nJ N r1.2 (W .i64 (a2+1))).bind fun r3=>jj r3.2 a1 r1.1 r3.1
def xd(N:Nat)(a0:aI)(a1:aa)(a2:Int):Option (fy×aI):=xd.b N (xd.l3 N N) a0 a1 a2
abbrev wL.cq:=aI→aa→fy→Int→Option (fy×aI)
def wL.iE(N:Nat)(bZ:wL.cq)(x0:aI)(x3:aa)(x5:fy)(x6:Int):Option (fy×aI):=
 cond (aM 0 x6) ((HC N x0 (2:Int)).bind fun r3=>cond (r3.1) ((nJ N r3.2 (List.length x3.1:Int)).bind fun r4=>(KN N r4.2 x3 r4.1).bind fun r5=>cond (small (List.length x5+List.length ([r5.1]))) (bZ r5.2 x3 (x5++([r5.1])) (W .i64 (x6-1))) (none)) ((NM N r3.2 x3).bind fun r8=>cond (small (List.length x5+List.length ([r8.1]))) (bZ r8.2 x3 (x5++([r8.1])) (W .i64 (x6-1))) (none))) (some (x5,x0))
def wL.l3(N:Nat):Nat→wL.cq
 |0,_,_,_,_=>none
 |n+1,x0,x3,x5,x6=>wL.iE N (wL.l3 N n) x0 x3 x5 x6
def wL.b(N:Nat)(jj:wL.cq)(a0:aI)(a1:aa):Option (fy×aI):=
 (nJ N a0 (3:Int)).bind fun r1=>jj r1.2 a1 ([]) r1.1
def wL(N:Nat)(a0:aI)(a1:aa):Option (fy×aI):=wL.b N (wL.l3 N N) a0 a1
def zP(N:Nat)(a0:Int)(a1:Int)(a2:Int):Option (Bool):=
 cond (bS a1 a0) (some (bS a0 a2)) (some false)
abbrev hQ.ba:=aa→Int→Option (Bool)
def hQ.cL(N:Nat)(bw:hQ.ba)(x1:aa)(x3:Int):Option (Bool):=
 cond (aM x3 (List.length x1.1:Int)) (cond (aL x3 (List.length x1.1)) ((zP N ((List.getD x1.1 x3.toNat aA).1) (0:Int) (3:Int)).bind fun r2=>cond (!r2) (some false) ((zP N (((List.getD x1.1 x3.toNat aA).2).1) (1:Int) (1000000000000:Int)).bind fun r3=>cond (!r3) (some false) ((zP N ((((List.getD x1.1 x3.toNat aA).2).2).1) (0:Int) (1000000000:Int)).bind fun r4=>cond (!r4) (some false) ((zP N (((((List.getD x1.1 x3.toNat aA).2).2).2).1) (0:Int) (1000000000:Int)).bind fun r5=>cond (!r5) (some false) (bw x1 (W .i64 (x3+1))))))) (none)) (cond (bS 0 x1.2.1) ((zP N x1.2.2.1 (0:Int) (4:Int)).bind fun r7=>cond (r7) ((zP N x1.2.2.2.1 (0:Int) (1000000:Int)).bind fun r8=>cond (r8) ((zP N x1.2.2.2.2.1 (0:Int) (1000000:Int)).bind fun r9=>cond (r9) ((zP N x1.2.2.2.2.2.1 (1:Int) (4611686018427387904:Int)).bind fun ji=>cond (ji) (some (bS 0 x1.2.2.2.2.2.2.1)) (some false)) (some false)) (some false)) (some false)) (some false))
def hQ.l4(N:Nat):Nat→hQ.ba
 |0,_,_=>none
 |n+1,x1,x3=>hQ.cL N (hQ.l4 N n) x1 x3
def hQ.b(N:Nat)(df:hQ.ba)(a0:aa):Option (Bool):=
 cond (aM (List.length a0.1:Int) 1) (some false) (cond (aM 6 (List.length a0.1:Int)) (some false) (df a0 (0:Int)))
def hQ(N:Nat)(a0:aa):Option (Bool):=hQ.b N (hQ.l4 N N) a0
abbrev gd.cR:=aa→ah→ah→(List (Int))→Int→Option (ah×(Int))
abbrev gd.Ox:=aa→ah→ah→(List (Int))→Option (ah×(Int))
def gd.ns(N:Nat)(cA:gd.cR)(x1:aa)(x2:ah)(x4:ah)(Ry:List (Int))(x5:Int):Option (ah×(Int)):=
 cond (aM x5 (List.length x1.1:Int)) (cond (aL x5 (List.length x1.1)) (cond (small (List.length Ry+List.length ([((List.getD x1.1 x5.toNat aA).2).1]))) (cA x1 x2 (x4.1,(x4.2.1,(x4.2.2.1,(x4.2.2.2.1,(cK,x4.2.2.2.2.2))))) (Ry++([((List.getD x1.1 x5.toNat aA).2).1])) (W .i64 (x5+1))) (none)) (none)) (some ((x4.1,(x4.2.1,(x4.2.2.1,(x4.2.2.2.1,(Ry,x4.2.2.2.2.2))))),(0:Int)))
def gd.l7(N:Nat):Nat→gd.cR
 |0,_,_,_,_,_=>none
 |n+1,x1,x2,x4,Ry,x5=>gd.ns N (gd.l7 N n) x1 x2 x4 Ry x5
def gd.Lo(N:Nat)(nZ:gd.cR)(x1:aa)(x2:ah)(x4:ah)(Ry:List (Int)):Option (ah×(Int)):=
 nZ x1 x2 x4 Ry (0:Int)
def gd.j6(N:Nat)(x1:aa)(x2:ah)(x4:ah)(Ry:List (Int)):Option (ah×(Int)):=gd.Lo N (gd.l7 N N) x1 x2 x4 Ry
def gd.b(N:Nat)(Cq:gd.Ox)(a0:aa):Option (ah×(Int)):=
 (hQ N a0).bind fun r1=>cond (!r1) (some ((aV,(cm,(bh,(bh,(cK,(cT,())))))),(1:Int))) (cond (!az a0.2.1 0) (Cq a0 (aV,(cm,(bh,(bh,(cK,(cT,())))))) (aV,(cm,([((1:Int),((0:Int),((W .i64 (0-a0.2.1)),()))),((3:Int),((0:Int),(a0.2.1,())))],(bh,(cK,(cT,())))))) cK) (Cq a0 (aV,(cm,(bh,(bh,(cK,(cT,())))))) (aV,(cm,(bh,(bh,(cK,(cT,())))))) cK))
def gd(N:Nat)(a0:aa):Option (ah×(Int)):=gd.b N (gd.j6 N) a0
def XX(N:Nat)(a0:aa):Option (aJ×(Int)):=
 (gd N a0).bind fun r1=>cond (!az r1.2 0) (some (((0:Int),((0:Int),((aV,(cm,(bh,(bh,(cK,(cT,())))))),(((0:Int),((0:Int),((0:Int),((0:Int),(cm,(([]:List ((Int)×((List ((Int)×((Int)×(Unit))))×((Int)×((Int)×((Int)×((Int)×(Unit)))))))),(cm,(cK,(aV,(aV,())))))))))),(((0:Int),((0:Int),(we,((0:Int),())))),()))))),r1.2)) (some (((0:Int),((1:Int),(r1.1,(((0:Int),((0:Int),((0:Int),((0:Int),(cm,(([]:List ((Int)×((List ((Int)×((Int)×(Unit))))×((Int)×((Int)×((Int)×((Int)×(Unit)))))))),(cm,(cK,(aV,(aV,())))))))))),(((0:Int),((0:Int),(we,((0:Int),())))),()))))),(0:Int)))
def XL(N:Nat)(a0:Int):Option (Bool):=
 cond (bS 1 a0) (some (bS a0 22)) (some false)
def QX(N:Nat)(a0:Int):Option (ByteArray):=
 cond (az a0 1) (some (strOf [77])) (cond (az a0 11) (some (strOf [77])) (cond (az a0 12) (some (strOf [77])) (cond (az a0 13) (some (strOf [77])) (cond (az a0 2) (some (strOf [77,65,83])) (cond (az a0 3) (some (strOf [65,81])) (cond (az a0 4) (some (strOf [65,81])) (cond (az a0 6) (some (strOf [65,81])) (cond (az a0 5) (some (strOf [77,81])) (cond (az a0 22) (some (strOf [77,81])) (cond (az a0 7) (some (strOf [65,73,83,81,80])) (cond (az a0 8) (some (strOf [65,68])) (cond (az a0 9) (some (strOf [73,80])) (cond (az a0 10) (some (strOf [81])) (cond (az a0 14) (some (strOf [77,65])) (cond (az a0 17) (some (strOf [65,68,81,80])) (cond (az a0 19) (some (strOf [77,68,80])) (some (strOf []))))))))))))))))))
def XJ(N:Nat)(a0:Int):Option ((Int)×(Int)):=
 cond (az a0 6) (some ((0:Int),(1000000000000:Int))) (cond (az a0 7) (some ((1:Int),(1000000000:Int))) (cond (az a0 17) (some ((1:Int),(1000000000:Int))) (cond (az a0 10) (some ((1:Int),(1000000:Int))) (some ((1:Int),(9223372036854775807:Int))))))
def XK(N:Nat)(a0:Int):Option ((Int)×(Int)):=
 cond (az a0 19) (some ((-1152921504606846976:Int),(1152921504606846976:Int))) (some ((1:Int),(1000000000000:Int)))
def QY(N:Nat)(a0:Int)(a1:Int):Option ((Int)×(Int)):=
 cond (az a1 77) (some ((1:Int),(12:Int))) (cond (az a1 65) (some ((1:Int),(24:Int))) (cond (az a1 73) (some ((0:Int),(5:Int))) (cond (az a1 83) (some ((1:Int),(2:Int))) (cond (az a1 68) (some ((1:Int),(1099511627776:Int))) (cond (az a1 81) ((XJ N a0).bind fun r1=>some (r1.1,r1.2)) ((XK N a0).bind fun r2=>some (r2.1,r2.2)))))))
def QZ(N:Nat)(a0:fg)(a1:Int):Option (Int):=
 cond (az a1 77) (some a0.2.1) (cond (az a1 65) (some a0.2.2.1) (cond (az a1 73) (some a0.2.2.2.1) (cond (az a1 83) (some a0.2.2.2.2.1) (cond (az a1 68) (some a0.2.2.2.2.2.1) (cond (az a1 81) (some a0.2.2.2.2.2.2.1) (some a0.2.2.2.2.2.2.2.1))))))
def Q0(N:Nat)(a0:fg)(a1:Int)(a2:Int):Option fg:=
 cond (az a1 77) (some (a0.1,(a2,a0.2.2))) (cond (az a1 65) (some (a0.1,(a0.2.1,(a2,a0.2.2.2)))) (cond (az a1 73) (some (a0.1,(a0.2.1,(a0.2.2.1,(a2,a0.2.2.2.2))))) (cond (az a1 83) (some (a0.1,(a0.2.1,(a0.2.2.1,(a0.2.2.2.1,(a2,a0.2.2.2.2.2)))))) (cond (az a1 68) (some (a0.1,(a0.2.1,(a0.2.2.1,(a0.2.2.2.1,(a0.2.2.2.2.1,(a2,a0.2.2.2.2.2.2))))))) (cond (az a1 81) (some (a0.1,(a0.2.1,(a0.2.2.1,(a0.2.2.2.1,(a0.2.2.2.2.1,(a0.2.2.2.2.2.1,(a2,a0.2.2.2.2.2.2.2)))))))) (some (a0.1,(a0.2.1,(a0.2.2.1,(a0.2.2.2.1,(a0.2.2.2.2.1,(a0.2.2.2.2.2.1,(a0.2.2.2.2.2.2.1,(a2,a0.2.2.2.2.2.2.2.2))))))))))))))
abbrev mA.eC:=fg→ByteArray→fg→Int→Option (Bool)
def mA.n4(N:Nat)(eu:mA.eC)(x1:fg)(x3:ByteArray)(x4:fg)(x5:Int):Option (Bool):=
 cond (aM x5 (ByteArray.size x3:Int)) (cond (aL x5 (ByteArray.size x3)) ((QY N x1.1 ((x3.data.getD x5.toNat 0).toNat:Int)).bind fun r4=>cond (aL x5 (ByteArray.size x3)) ((QZ N x1 ((x3.data.getD x5.toNat 0).toNat:Int)).bind fun r5=>cond (aM r5 r4.1) (some false) (cond (aM r4.2 r5) (some false) (cond (aL x5 (ByteArray.size x3)) ((Q0 N x4 ((x3.data.getD x5.toNat 0).toNat:Int) r5).bind fun r6=>eu x1 x3 r6 (W .i64 (x5+1))) (none)))) (none)) (none)) (some (pz (.pair (.int .i64) (.pair (.int .i64) (.pair (.int .i64) (.pair (.int .i64) (.pair (.int .i64) (.pair (.int .i64) (.pair (.int .i64) (.pair (.int .i64) .unit)))))))) x4 x1))
def mA.l6(N:Nat):Nat→mA.eC
 |0,_,_,_,_=>none
 |n+1,x1,x3,x4,x5=>mA.n4 N (mA.l6 N n) x1 x3 x4 x5
def mA.b(N:Nat)(pv:mA.eC)(a0:fg):Option (Bool):=
 (XL N a0.1).bind fun r1=>cond (!r1) (some false) ((QX N a0.1).bind fun r2=>pv a0 r2 (a0.1,Vp) (0:Int))
def mA(N:Nat)(a0:fg):Option (Bool):=mA.b N (mA.l6 N N) a0
abbrev jl.bJ:=ax→Int→Option (Bool)
def jl.dx(N:Nat)(cz:jl.bJ)(x0:ax)(x3:Int):Option (Bool):=
 cond (aM x3 (List.length x0:Int)) (cond (aL x3 (List.length x0)) (cond (aM ((List.getD x0 x3.toNat bO).1) (1:Int)) (some false) (cond (aL x3 (List.length x0)) (cond (aM 12 ((List.getD x0 x3.toNat bO).1)) (some false) (cond (aL x3 (List.length x0)) (cond (aM (((List.getD x0 x3.toNat bO).2).1) (1:Int)) (some false) (cond (aL x3 (List.length x0)) (cond (aM 4 (((List.getD x0 x3.toNat bO).2).1)) (some false) (cond (aM 0 x3) (cond (aL x3 (List.length x0)) (let v2:Int:=W .i64 (x3-1);cond (aL v2 (List.length x0)) (cond (bS ((List.getD x0 x3.toNat bO).1) ((List.getD x0 v2.toNat bO).1)) (some false) (cz x0 (W .i64 (x3+1)))) (none)) (none)) (cz x0 (W .i64 (x3+1))))) (none))) (none))) (none))) (none)) (some true)
def jl.l2(N:Nat):Nat→jl.bJ
 |0,_,_=>none
 |n+1,x0,x3=>jl.dx N (jl.l2 N n) x0 x3
def jl.b(N:Nat)(eB:jl.bJ)(a0:ax):Option (Bool):=
 eB a0 (0:Int)
def jl(N:Nat)(a0:ax):Option (Bool):=jl.b N (jl.l2 N N) a0
abbrev iG.bJ:=ax→Int→Int→Option (Int)
def iG.dx(N:Nat)(cz:iG.bJ)(x0:ax)(x1:Int)(x5:Int):Option (Int):=
 cond (aM x5 (List.length x0:Int)) (cond (aL x5 (List.length x0)) (cond (az ((List.getD x0 x5.toNat bO).1) x1) (cond (aL x5 (List.length x0)) (some (((List.getD x0 x5.toNat bO).2).1)) (none)) (cz x0 x1 (W .i64 (x5+1)))) (none)) (some (0:Int))
def iG.l2(N:Nat):Nat→iG.bJ
 |0,_,_,_=>none
 |n+1,x0,x1,x5=>iG.dx N (iG.l2 N n) x0 x1 x5
def iG.b(N:Nat)(eB:iG.bJ)(a0:ax)(a1:Int):Option (Int):=
 eB a0 a1 (0:Int)
def iG(N:Nat)(a0:ax)(a1:Int):Option (Int):=iG.b N (iG.l2 N N) a0 a1
abbrev gw.HY:=ax→Int→ax→Int→Option (ax×(Int))
abbrev gw.cR:=ax→Int→ax→Int→Option (ax×(Int))
def gw.GY(N:Nat)(x0:ax)(x1:Int)(x6:ax)(x7:Int):Option (ax×(Int)):=
 cond (fi 0 x7 (List.length x0:Int) (List.length x0:Int)) (let v6:List ((Int)×((Int)×(Unit))):=List.drop (0:Int).toNat (List.take x7.toNat x0);cond (small (List.length x6+List.length v6)) (let v7:List ((Int)×((Int)×(Unit))):=x6++v6;cond (small (List.length v7+List.length ([(x1,((1:Int),()))]))) (let v8:List ((Int)×((Int)×(Unit))):=v7++([(x1,((1:Int),()))]);cond (fi x7 (List.length x0:Int) (List.length x0:Int) (List.length x0:Int)) (let v9:List ((Int)×((Int)×(Unit))):=List.drop x7.toNat (List.take (List.length x0:Int).toNat x0);cond (small (List.length v8+List.length v9)) (some ((v8++v9),(0:Int))) (none)) (none)) (none)) (none)) (none)
def gw.j9(N:Nat)(x0:ax)(x1:Int)(x6:ax)(x7:Int):Option (ax×(Int)):=gw.GY N x0 x1 x6 x7
def gw.ns(N:Nat)(zb:gw.HY)(cA:gw.cR)(x0:ax)(x1:Int)(x6:ax)(x7:Int):Option (ax×(Int)):=
 cond (aM x7 (List.length x0:Int)) (cond (aL x7 (List.length x0)) (cond (aM ((List.getD x0 x7.toNat bO).1) x1) (cA x0 x1 x6 (W .i64 (x7+1))) (zb x0 x1 x6 x7)) (none)) (zb x0 x1 x6 x7)
def gw.l7(N:Nat):Nat→gw.cR
 |0,_,_,_,_=>none
 |n+1,x0,x1,x6,x7=>gw.ns N (gw.j9 N) (gw.l7 N n) x0 x1 x6 x7
def gw.b(N:Nat)(nZ:gw.cR)(a0:ax)(a1:Int):Option (ax×(Int)):=
 (jl N a0).bind fun r1=>cond (!r1) (some ([],(1:Int))) (cond (aM a1 1) (some ([],(1:Int))) (cond (aM 12 a1) (some ([],(1:Int))) ((iG N a0 a1).bind fun r2=>cond (!az r2 0) (some ([],(4:Int))) (nZ a0 a1 ([]) (0:Int)))))
def gw(N:Nat)(a0:ax)(a1:Int):Option (ax×(Int)):=gw.b N (gw.l7 N N) a0 a1
def dM(N:Nat)(a0:Int):Option cy:=
 some (a0,bO)
abbrev g2.fh:=ay→Int→bp→Int→Option (Bool)
abbrev g2.X3:=ay→Int→bp→Option (Bool)
abbrev g2.bJ:=ay→Int→Option (Bool)
def g2.w5(N:Nat)(cz:g2.bJ)(dr:g2.fh)(x0:ay)(x3:Int)(x4:bp)(x5:Int):Option (Bool):=
 cond (aM x5 x3) (cond (az x4.2.2.1 1) (cond (aL x5 (List.length x0)) (cond (az ((((List.getD x0 x5.toNat aA).2).2).1) (1:Int)) (cond (aL x5 (List.length x0)) (cond (az (((List.getD x0 x5.toNat aA).2).1) x4.2.1) (some false) (dr x0 x3 x4 (W .i64 (x5+1)))) (none)) (dr x0 x3 x4 (W .i64 (x5+1)))) (none)) (dr x0 x3 x4 (W .i64 (x5+1)))) (cz x0 (W .i64 (x3+1)))
def g2.l8(N:Nat)(cz:g2.bJ):Nat→g2.fh
 |0,_,_,_,_=>none
 |n+1,x0,x3,x4,x5=>g2.w5 N cz (g2.l8 N cz n) x0 x3 x4 x5
def g2.Xt(N:Nat)(zc:g2.fh)(cz:g2.bJ)(x0:ay)(x3:Int)(x4:bp):Option (Bool):=
 zc x0 x3 x4 (0:Int)
def g2.j7(N:Nat)(cz:g2.bJ)(x0:ay)(x3:Int)(x4:bp):Option (Bool):=g2.Xt N (g2.l8 N cz N) cz x0 x3 x4
def g2.dx(N:Nat)(HZ:g2.X3)(cz:g2.bJ)(x0:ay)(x3:Int):Option (Bool):=
 cond (aM x3 (List.length x0:Int)) (cond (aL x3 (List.length x0)) (cond (aM ((List.getD x0 x3.toNat aA).1) (1:Int)) (some false) (cond (aM 24 ((List.getD x0 x3.toNat aA).1)) (some false) (cond (aM (((List.getD x0 x3.toNat aA).2).1) (1:Int)) (some false) (cond (aM 12 (((List.getD x0 x3.toNat aA).2).1)) (some false) (cond (!az ((((List.getD x0 x3.toNat aA).2).2).1) (1:Int)) (cond (!az ((((List.getD x0 x3.toNat aA).2).2).1) (2:Int)) (some false) (cond (aM (((((List.getD x0 x3.toNat aA).2).2).2).1) (0:Int)) (some false) (cond (aM 1000000000000 (((((List.getD x0 x3.toNat aA).2).2).2).1)) (some false) (cond (aM 0 x3) (let v2:Int:=W .i64 (x3-1);cond (aL v2 (List.length x0)) (cond (bS ((List.getD x0 x3.toNat aA).1) ((List.getD x0 v2.toNat aA).1)) (some false) (HZ x0 x3 (List.getD x0 x3.toNat aA))) (none)) (HZ x0 x3 (List.getD x0 x3.toNat aA)))))) (cond (aM (((((List.getD x0 x3.toNat aA).2).2).2).1) (0:Int)) (some false) (cond (aM 1000000000000 (((((List.getD x0 x3.toNat aA).2).2).2).1)) (some false) (cond (aM 0 x3) (let v9:Int:=W .i64 (x3-1);cond (aL v9 (List.length x0)) (cond (bS ((List.getD x0 x3.toNat aA).1) ((List.getD x0 v9.toNat aA).1)) (some false) (HZ x0 x3 (List.getD x0 x3.toNat aA))) (none)) (HZ x0 x3 (List.getD x0 x3.toNat aA)))))))))) (none)) (some true)
def g2.l2(N:Nat):Nat→g2.bJ
 |0,_,_=>none
 |n+1,x0,x3=>g2.dx N (g2.j7 N (g2.l2 N n)) (g2.l2 N n) x0 x3
def g2.b(N:Nat)(eB:g2.bJ)(a0:ay):Option (Bool):=
 eB a0 (0:Int)
def g2(N:Nat)(a0:ay):Option (Bool):=g2.b N (g2.l2 N N) a0
abbrev jG.ba:=ax→ay→Int→Option (Bool)
def jG.cL(N:Nat)(bw:jG.ba)(x0:ax)(x1:ay)(x5:Int):Option (Bool):=
 cond (aM x5 (List.length x1:Int)) (cond (aL x5 (List.length x1)) ((iG N x0 (((List.getD x1 x5.toNat aA).2).1)).bind fun r4=>cond (az r4 0) (some false) (bw x0 x1 (W .i64 (x5+1)))) (none)) (some true)
def jG.l4(N:Nat):Nat→jG.ba
 |0,_,_,_=>none
 |n+1,x0,x1,x5=>jG.cL N (jG.l4 N n) x0 x1 x5
def jG.b(N:Nat)(df:jG.ba)(a0:ax)(a1:ay):Option (Bool):=
 (jl N a0).bind fun r1=>cond (!r1) (some false) ((g2 N a1).bind fun r2=>cond (!r2) (some false) (df a0 a1 (0:Int)))
def jG(N:Nat)(a0:ax)(a1:ay):Option (Bool):=jG.b N (jG.l4 N N) a0 a1
abbrev jm.bJ:=ay→Int→bp→Int→Option (bp×(Bool))
def jm.dx(N:Nat)(cz:jm.bJ)(x0:ay)(x1:Int)(x4:bp)(x6:Int):Option (bp×(Bool)):=
 cond (aM x6 (List.length x0:Int)) (cond (aL x6 (List.length x0)) (cond (az ((List.getD x0 x6.toNat aA).1) x1) (cond (aL x6 (List.length x0)) (some (List.getD x0 x6.toNat aA,true)) (none)) (cz x0 x1 x4 (W .i64 (x6+1)))) (none)) (some (aA,false))
def jm.l2(N:Nat):Nat→jm.bJ
 |0,_,_,_,_=>none
 |n+1,x0,x1,x4,x6=>jm.dx N (jm.l2 N n) x0 x1 x4 x6
def jm.b(N:Nat)(eB:jm.bJ)(a0:ay)(a1:Int):Option (bp×(Bool)):=
 eB a0 a1 aA (0:Int)
def jm(N:Nat)(a0:ay)(a1:Int):Option (bp×(Bool)):=jm.b N (jm.l2 N N) a0 a1
abbrev su.ba:=ay→Int→Int→Option (Int)
def su.cL(N:Nat)(bw:su.ba)(x0:ay)(x1:Int)(x5:Int):Option (Int):=
 cond (aM x5 (List.length x0:Int)) (cond (aL x5 (List.length x0)) (cond (az (((List.getD x0 x5.toNat aA).2).1) x1) (cond (aL x5 (List.length x0)) (cond (az ((((List.getD x0 x5.toNat aA).2).2).1) (1:Int)) (cond (aL x5 (List.length x0)) (some ((List.getD x0 x5.toNat aA).1)) (none)) (bw x0 x1 (W .i64 (x5+1)))) (none)) (bw x0 x1 (W .i64 (x5+1)))) (none)) (some (0:Int))
def su.l4(N:Nat):Nat→su.ba
 |0,_,_,_=>none
 |n+1,x0,x1,x5=>su.cL N (su.l4 N n) x0 x1 x5
def su.b(N:Nat)(df:su.ba)(a0:ay)(a1:Int):Option (Int):=
 (g2 N a0).bind fun r1=>cond (!r1) (some (0:Int)) (df a0 a1 (0:Int))
def su(N:Nat)(a0:ay)(a1:Int):Option (Int):=su.b N (su.l4 N N) a0 a1
abbrev ec.zd:=ay→bp→ay→Int→Option (ay×(Int))
abbrev ec.eG:=ay→bp→ay→Int→Option (ay×(Int))
abbrev ec.EV:=ay→bp→Option (ay×(Int))
def ec.sI(N:Nat)(x1:ay)(x5:bp)(aH:ay)(aP:Int):Option (ay×(Int)):=
 cond (fi 0 aP (List.length x1:Int) (List.length x1:Int)) (let v10:List ((Int)×((Int)×((Int)×((Int)×(Unit))))):=List.drop (0:Int).toNat (List.take aP.toNat x1);cond (small (List.length aH+List.length v10)) (let v11:List ((Int)×((Int)×((Int)×((Int)×(Unit))))):=aH++v10;cond (small (List.length v11+List.length ([x5]))) (let Lc:List ((Int)×((Int)×((Int)×((Int)×(Unit))))):=v11++([x5]);cond (fi aP (List.length x1:Int) (List.length x1:Int) (List.length x1:Int)) (let EU:List ((Int)×((Int)×((Int)×((Int)×(Unit))))):=List.drop aP.toNat (List.take (List.length x1:Int).toNat x1);cond (small (List.length Lc+List.length EU)) (some ((Lc++EU),(0:Int))) (none)) (none)) (none)) (none)) (none)
def ec.zX(N:Nat)(x1:ay)(x5:bp)(aH:ay)(aP:Int):Option (ay×(Int)):=ec.sI N x1 x5 aH aP
def ec.lx(N:Nat)(pJ:ec.zd)(fD:ec.eG)(x1:ay)(x5:bp)(aH:ay)(aP:Int):Option (ay×(Int)):=
 cond (aM aP (List.length x1:Int)) (cond (aL aP (List.length x1)) (cond (aM ((List.getD x1 aP.toNat aA).1) x5.1) (fD x1 x5 aH (W .i64 (aP+1))) (pJ x1 x5 aH aP)) (none)) (pJ x1 x5 aH aP)
def ec.nA(N:Nat):Nat→ec.eG
 |0,_,_,_,_=>none
 |n+1,x1,x5,aH,aP=>ec.lx N (ec.zX N) (ec.nA N n) x1 x5 aH aP
def ec.yR(N:Nat)(qH:ec.eG)(x1:ay)(x5:bp):Option (ay×(Int)):=
 qH x1 x5 ([]) (0:Int)
def ec.Gr(N:Nat)(x1:ay)(x5:bp):Option (ay×(Int)):=ec.yR N (ec.nA N N) x1 x5
def ec.b(N:Nat)(vZ:ec.EV)(a0:ax)(a1:ay)(a2:bp):Option (ay×(Int)):=
 (jG N a0 a1).bind fun r1=>cond (!r1) (some ([],(1:Int))) ((g2 N ([a2])).bind fun r2=>cond (!r2) (some ([],(1:Int))) ((iG N a0 a2.2.1).bind fun r3=>cond (az r3 0) (some ([],(3:Int))) (cond (!az r3 1) (some ([],(7:Int))) ((jm N a1 a2.1).bind fun r4=>cond (r4.2) (some ([],(4:Int))) (cond (az a2.2.2.1 1) ((su N a1 a2.2.1).bind fun r5=>cond (!az r5 0) (some ([],(4:Int))) (vZ a1 a2)) (vZ a1 a2))))))
def ec(N:Nat)(a0:ax)(a1:ay)(a2:bp):Option (ay×(Int)):=ec.b N (ec.Gr N) a0 a1 a2
def ye(N:Nat)(a0:ay)(a1:Int):Option (bp×(Bool)):=
 (g2 N a0).bind fun r1=>cond (!r1) (some (aA,false)) ((jm N a0 a1).bind fun r2=>some (r2.1,r2.2))
def Oi(N:Nat)(a0:aJ)(a1:Int):Option (Bool):=
 (ye N a0.2.2.1.2.1 a1).bind fun r1=>some r1.2
abbrev jB.bJ:=(List (Int))→Int→Option (List (Int))
def jB.dx(N:Nat)(cz:jB.bJ)(x0:List (Int))(x3:Int):Option (List (Int)):=
 cond (aM 0 x3) (let v2:Int:=W .i64 (x3-1);cond (aL v2 (List.length x0)) (cond (az (List.getD x0 v2.toNat (0:Int)) (0:Int)) (cz x0 (W .i64 (x3-1))) (cond (fi 0 x3 x3 (List.length x0:Int)) (some (List.drop (0:Int).toNat (List.take x3.toNat x0))) (none))) (none)) (cond (fi 0 x3 x3 (List.length x0:Int)) (some (List.drop (0:Int).toNat (List.take x3.toNat x0))) (none))
def jB.l2(N:Nat):Nat→jB.bJ
 |0,_,_=>none
 |n+1,x0,x3=>jB.dx N (jB.l2 N n) x0 x3
def jB.b(N:Nat)(eB:jB.bJ)(a0:List (Int)):Option (List (Int)):=
 eB a0 (List.length a0:Int)
def jB(N:Nat)(a0:List (Int)):Option (List (Int)):=jB.b N (jB.l2 N N) a0
def F67(N:Nat)(a0:Int):Option (List (Int)):=
 cond (aM 32 0) (none) ((jB N ([(n5 .and .u64 a0 4294967295),(shr .u64 a0 32)])).bind fun r3=>some r3)
def MK(N:Nat)(a0:Bool)(a1:List (Int)):Option aw:=
 (jB N a1).bind fun r1=>cond (a0) (some (aM 0 (List.length r1:Int),(r1,()))) (some (false,(r1,())))
def fT(N:Nat)(a0:Int):Option aw:=
 let v1:Int:=W .u64 a0;cond (aM a0 0) ((F67 N (W .u64 (0-v1))).bind fun r3=>(MK N (aM a0 0) r3).bind fun r4=>some r4) ((F67 N v1).bind fun r5=>(MK N (aM a0 0) r5).bind fun r6=>some r6)
def Lp(N:Nat)(a0:aw):Option aw:=
 (MK N (!a0.1) a0.2.1).bind fun r1=>some r1
def yS(N:Nat)(a0:Int)(a1:Int)(a2:Int)(a3:Int)(a4:aw):Option bk:=
 (Lp N a4).bind fun r1=>some ([(a0,(a1,(r1,()))),(a2,(a3,(a4,())))])
def P8(N:Nat)(a0:List (Int))(a1:Int):Option (Int):=
 cond (aM a1 (List.length a0:Int)) (cond (aL a1 (List.length a0)) (some (List.getD a0 a1.toNat (0:Int))) (none)) (some (0:Int))
abbrev pG.Ox:=(List (Int))→(List (Int))→(List (Int))→Int→Int→Option (List (Int))
abbrev pG.ba:=(List (Int))→(List (Int))→(List (Int))→Int→Int→Option (List (Int))
def pG.Lo(N:Nat)(bw:pG.ba)(x0:List (Int))(x1:List (Int))(x5:List (Int))(x6:Int)(x7:Int):Option (List (Int)):=
 (P8 N x0 x7).bind fun r3=>(P8 N x1 x7).bind fun r4=>let v6:Int:=W .u64 (x6+(W .u64 (r3+r4)));let v7:Int:=n5 .and .u64 v6 4294967295;cond (small (List.length x5+List.length ([v7]))) (cond (aM 32 0) (none) (bw x0 x1 (x5++([v7])) (shr .u64 v6 32) (W .i64 (x7+1)))) (none)
def pG.j6(N:Nat)(bw:pG.ba)(x0:List (Int))(x1:List (Int))(x5:List (Int))(x6:Int)(x7:Int):Option (List (Int)):=pG.Lo N bw x0 x1 x5 x6 x7
def pG.cL(N:Nat)(Cq:pG.Ox)(bw:pG.ba)(x0:List (Int))(x1:List (Int))(x5:List (Int))(x6:Int)(x7:Int):Option (List (Int)):=
 cond (aM x7 (List.length x0:Int)) (Cq x0 x1 x5 x6 x7) (cond (aM x7 (List.length x1:Int)) (Cq x0 x1 x5 x6 x7) (cond (aM 0 x6) (Cq x0 x1 x5 x6 x7) (some x5)))
def pG.l4(N:Nat):Nat→pG.ba
 |0,_,_,_,_,_=>none
 |n+1,x0,x1,x5,x6,x7=>pG.cL N (pG.j6 N (pG.l4 N n)) (pG.l4 N n) x0 x1 x5 x6 x7
def pG.b(N:Nat)(df:pG.ba)(a0:List (Int))(a1:List (Int)):Option (List (Int)):=
 df a0 a1 ([]) (0:Int) (0:Int)
def pG(N:Nat)(a0:List (Int))(a1:List (Int)):Option (List (Int)):=pG.b N (pG.l4 N N) a0 a1
abbrev wB.eC:=(List (Int))→(List (Int))→Int→Option (Int)
def wB.n4(N:Nat)(eu:wB.eC)(x0:List (Int))(x1:List (Int))(x5:Int):Option (Int):=
 cond (bS 0 x5) (cond (aL x5 (List.length x0)) (cond (aL x5 (List.length x1)) (cond (aM (List.getD x0 x5.toNat (0:Int)) (List.getD x1 x5.toNat (0:Int))) (some (-1:Int)) (cond (aL x5 (List.length x0)) (cond (aL x5 (List.length x1)) (cond (aM (List.getD x1 x5.toNat (0:Int)) (List.getD x0 x5.toNat (0:Int))) (some (1:Int)) (eu x0 x1 (W .i64 (x5-1)))) (none)) (none))) (none)) (none)) (some (0:Int))
def wB.l6(N:Nat):Nat→wB.eC
 |0,_,_,_=>none
 |n+1,x0,x1,x5=>wB.n4 N (wB.l6 N n) x0 x1 x5
def wB.b(N:Nat)(pv:wB.eC)(a0:List (Int))(a1:List (Int)):Option (Int):=
 cond (!az (List.length a0:Int) (List.length a1:Int)) (cond (aM (List.length a0:Int) (List.length a1:Int)) (some (-1:Int)) (some (1:Int))) (pv a0 a1 (W .i64 ((List.length a0:Int)-1)))
def wB(N:Nat)(a0:List (Int))(a1:List (Int)):Option (Int):=wB.b N (wB.l6 N N) a0 a1
abbrev w1.ba:=(List (Int))→(List (Int))→(List (Int))→Int→Int→Option (List (Int))
def w1.cL(N:Nat)(bw:w1.ba)(x0:List (Int))(x1:List (Int))(x5:List (Int))(x6:Int)(x7:Int):Option (List (Int)):=
 cond (aM x7 (List.length x0:Int)) (cond (aL x7 (List.length x0)) ((P8 N x1 x7).bind fun r2=>let v3:Int:=W .u64 (r2+x6);cond (aM (List.getD x0 x7.toNat (0:Int)) v3) (let v5:Int:=W .u64 ((W .u64 ((List.getD x0 x7.toNat (0:Int))+4294967296))-v3);cond (small (List.length x5+List.length ([v5]))) (bw x0 x1 (x5++([v5])) (1:Int) (W .i64 (x7+1))) (none)) (let v8:Int:=W .u64 ((List.getD x0 x7.toNat (0:Int))-v3);cond (small (List.length x5+List.length ([v8]))) (bw x0 x1 (x5++([v8])) (0:Int) (W .i64 (x7+1))) (none))) (none)) (some x5)
def w1.l4(N:Nat):Nat→w1.ba
 |0,_,_,_,_,_=>none
 |n+1,x0,x1,x5,x6,x7=>w1.cL N (w1.l4 N n) x0 x1 x5 x6 x7
def w1.b(N:Nat)(df:w1.ba)(a0:List (Int))(a1:List (Int)):Option (List (Int)):=
 df a0 a1 ([]) (0:Int) (0:Int)
def w1(N:Nat)(a0:List (Int))(a1:List (Int)):Option (List (Int)):=w1.b N (w1.l4 N N) a0 a1
def ur(N:Nat)(a0:aw)(a1:aw):Option aw:=
 cond (pz .bool a0.1 a1.1) ((pG N a0.2.1 a1.2.1).bind fun r1=>(MK N a0.1 r1).bind fun r2=>some r2) ((wB N a0.2.1 a1.2.1).bind fun r3=>cond (bS 0 r3) ((w1 N a0.2.1 a1.2.1).bind fun r4=>(MK N a0.1 r4).bind fun r5=>some r5) ((w1 N a1.2.1 a0.2.1).bind fun r6=>(MK N a1.1 r6).bind fun r7=>some r7))
def qm(N:Nat)(a0:aw):Option ((Int)×(Bool)):=
 cond (aM 2 (List.length a0.2.1:Int)) (some ((0:Int),false)) ((P8 N a0.2.1 (0:Int)).bind fun r1=>(P8 N a0.2.1 (1:Int)).bind fun r2=>cond (aM 32 0) (none) (let v4:Int:=n5 .or .u64 r1 (W .u64 (shl .u64 r2 32));cond (a0.1) (cond (aM 9223372036854775808 v4) (some ((0:Int),false)) (some ((W .i64 (W .u64 (0-v4))),true))) (cond (aM 9223372036854775807 v4) (some ((0:Int),false)) (some ((W .i64 v4),true)))))
def NF(N:Nat)(a0:aw):Option ((Int)×(Bool)):=
 (qm N a0).bind fun r1=>cond (!r1.2) (some ((0:Int),false)) (cond (az r1.1 (-9223372036854775808)) (some ((0:Int),false)) (some (r1.1,true)))
abbrev bT.ze:=aj→aj→aj→Int→Int→Int→Int→Bool→aw→Int→Option (aj×(Bool))
abbrev bT.Oy:=aj→aj→aj→Int→Int→Int→Int→Bool→Option (aj×(Bool))
abbrev bT.cR:=aj→aj→aj→Int→Int→Int→Option (aj×(Bool))
abbrev bT.ba:=aj→aj→aj→Int→Int→Option (aj×(Bool))
def bT.HA(N:Nat)(bw:bT.ba)(cA:bT.cR)(Bd:bT.ze)(x0:aj)(x1:aj)(x6:aj)(x7:Int)(x8:Int)(x9:Int)(aQ:Int)(aH:Bool)(aP:aw)(bf:Int):Option (aj×(Bool)):=
 cond (aM bf (List.length x1:Int)) (cond (aL bf (List.length x1)) (cond (az ((List.getD x1 bf.toNat a7).1) x8) (cond (aL bf (List.length x1)) (cond (az (((List.getD x1 bf.toNat a7).2).1) x9) (cond (aL bf (List.length x1)) ((fT N ((((List.getD x1 bf.toNat a7).2).2).1)).bind fun r6=>(ur N aP r6).bind fun r7=>Bd x0 x1 x6 x7 x8 x9 aQ true r7 (W .i64 (bf+1))) (none)) (Bd x0 x1 x6 x7 x8 x9 aQ aH aP (W .i64 (bf+1)))) (none)) (Bd x0 x1 x6 x7 x8 x9 aQ aH aP (W .i64 (bf+1)))) (none)) (cond (aH) ((fT N aQ).bind fun lR=>(ur N aP lR).bind fun mU=>(NF N mU).bind fun kI=>cond (!kI.2) (some ([],false)) (cond (!az kI.1 0) (cond (small (List.length x6+List.length ([(x8,(x9,(kI.1,())))]))) (cA x0 x1 (x6++([(x8,(x9,(kI.1,())))])) x7 x8 (W .i64 (x9+1))) (none)) (cA x0 x1 x6 x7 x8 (W .i64 (x9+1))))) (cond (!az aQ 0) (cond (small (List.length x6+List.length ([(x8,(x9,(aQ,())))]))) (cA x0 x1 (x6++([(x8,(x9,(aQ,())))])) x7 x8 (W .i64 (x9+1))) (none)) (cA x0 x1 x6 x7 x8 (W .i64 (x9+1)))))
def bT.KK(N:Nat)(bw:bT.ba)(cA:bT.cR):Nat→bT.ze
 |0,_,_,_,_,_,_,_,_,_,_=>none
 |n+1,x0,x1,x6,x7,x8,x9,aQ,aH,aP,bf=>bT.HA N bw cA (bT.KK N bw cA n) x0 x1 x6 x7 x8 x9 aQ aH aP bf
def bT.Hy(N:Nat)(Oz:bT.ze)(bw:bT.ba)(cA:bT.cR)(x0:aj)(x1:aj)(x6:aj)(x7:Int)(x8:Int)(x9:Int)(aQ:Int)(aH:Bool):Option (aj×(Bool)):=
 Oz x0 x1 x6 x7 x8 x9 aQ aH (false,kY) (0:Int)
def bT.NG(N:Nat)(bw:bT.ba)(cA:bT.cR)(x0:aj)(x1:aj)(x6:aj)(x7:Int)(x8:Int)(x9:Int)(aQ:Int)(aH:Bool):Option (aj×(Bool)):=bT.Hy N (bT.KK N bw cA N) bw cA x0 x1 x6 x7 x8 x9 aQ aH
def bT.ns(N:Nat)(ug:bT.Oy)(bw:bT.ba)(cA:bT.cR)(x0:aj)(x1:aj)(x6:aj)(x7:Int)(x8:Int)(x9:Int):Option (aj×(Bool)):=
 cond (aM x9 6) (cond (aM x7 (List.length x0:Int)) (cond (aL x7 (List.length x0)) (cond (az ((List.getD x0 x7.toNat a7).1) x8) (cond (aL x7 (List.length x0)) (cond (az (((List.getD x0 x7.toNat a7).2).1) x9) (cond (aL x7 (List.length x0)) (ug x0 x1 x6 (W .i64 (x7+1)) x8 x9 ((((List.getD x0 x7.toNat a7).2).2).1) false) (none)) (ug x0 x1 x6 x7 x8 x9 (0:Int) false)) (none)) (ug x0 x1 x6 x7 x8 x9 (0:Int) false)) (none)) (ug x0 x1 x6 x7 x8 x9 (0:Int) false)) (bw x0 x1 x6 x7 (W .i64 (x8+1)))
def bT.l7(N:Nat)(bw:bT.ba):Nat→bT.cR
 |0,_,_,_,_,_,_=>none
 |n+1,x0,x1,x6,x7,x8,x9=>bT.ns N (bT.NG N bw (bT.l7 N bw n)) bw (bT.l7 N bw n) x0 x1 x6 x7 x8 x9
def bT.cL(N:Nat)(nZ:bT.cR)(bw:bT.ba)(x0:aj)(x1:aj)(x6:aj)(x7:Int)(x8:Int):Option (aj×(Bool)):=
 cond (bS x8 24) (nZ x0 x1 x6 x7 x8 (0:Int)) (some (x6,true))
def bT.l4(N:Nat):Nat→bT.ba
 |0,_,_,_,_,_=>none
 |n+1,x0,x1,x6,x7,x8=>bT.cL N (bT.l7 N (bT.l4 N n) N) (bT.l4 N n) x0 x1 x6 x7 x8
def bT.b(N:Nat)(df:bT.ba)(a0:aj)(a1:aj):Option (aj×(Bool)):=
 df a0 a1 ([]) (0:Int) (0:Int)
def bT(N:Nat)(a0:aj)(a1:aj):Option (aj×(Bool)):=bT.b N (bT.l4 N N) a0 a1
abbrev nV.cq:=Int→Int→Int→bk→aw→Bool→Int→Option ((Int)×(Bool))
def nV.iE(N:Nat)(bZ:nV.cq)(x0:Int)(x1:Int)(x2:Int)(x3:bk)(aQ:aw)(aH:Bool)(aP:Int):Option ((Int)×(Bool)):=
 cond (aM aP (List.length x3:Int)) (cond (aL aP (List.length x3)) (cond (az ((List.getD x3 aP.toNat ((0:Int),((0:Int),((false,kY),())))).1) x1) (cond (aL aP (List.length x3)) (cond (az (((List.getD x3 aP.toNat ((0:Int),((0:Int),((false,kY),())))).2).1) x2) (cond (aL aP (List.length x3)) ((ur N aQ ((((List.getD x3 aP.toNat ((0:Int),((0:Int),((false,kY),())))).2).2).1)).bind fun r2=>bZ x0 x1 x2 x3 r2 true (W .i64 (aP+1))) (none)) (bZ x0 x1 x2 x3 aQ aH (W .i64 (aP+1)))) (none)) (bZ x0 x1 x2 x3 aQ aH (W .i64 (aP+1)))) (none)) (cond (!aH) (some (x0,true)) ((fT N x0).bind fun r6=>(ur N aQ r6).bind fun r7=>(qm N r7).bind fun r8=>some (r8.1,r8.2)))
def nV.l3(N:Nat):Nat→nV.cq
 |0,_,_,_,_,_,_,_=>none
 |n+1,x0,x1,x2,x3,aQ,aH,aP=>nV.iE N (nV.l3 N n) x0 x1 x2 x3 aQ aH aP
def nV.b(N:Nat)(jj:nV.cq)(a0:Int)(a1:Int)(a2:Int)(a3:bk):Option ((Int)×(Bool)):=
 jj a0 a1 a2 a3 (false,kY) false (0:Int)
def nV(N:Nat)(a0:Int)(a1:Int)(a2:Int)(a3:bk):Option ((Int)×(Bool)):=nV.b N (nV.l3 N N) a0 a1 a2 a3
abbrev c0.Oy:=aj→bk→aj→Int→Int→Int→Int→Option (aj×(Bool))
abbrev c0.cR:=aj→bk→aj→Int→Int→Int→Option (aj×(Bool))
abbrev c0.ba:=aj→bk→aj→Int→Int→Option (aj×(Bool))
def c0.Hy(N:Nat)(bw:c0.ba)(cA:c0.cR)(x0:aj)(x1:bk)(x6:aj)(x7:Int)(x8:Int)(x9:Int)(aQ:Int):Option (aj×(Bool)):=
 (nV N aQ x8 x9 x1).bind fun r5=>cond (!r5.2) (some ([],false)) (cond (!az r5.1 0) (cond (small (List.length x6+List.length ([(x8,(x9,(r5.1,())))]))) (cA x0 x1 (x6++([(x8,(x9,(r5.1,())))])) x7 x8 (W .i64 (x9+1))) (none)) (cA x0 x1 x6 x7 x8 (W .i64 (x9+1))))
def c0.NG(N:Nat)(bw:c0.ba)(cA:c0.cR)(x0:aj)(x1:bk)(x6:aj)(x7:Int)(x8:Int)(x9:Int)(aQ:Int):Option (aj×(Bool)):=c0.Hy N bw cA x0 x1 x6 x7 x8 x9 aQ
def c0.ns(N:Nat)(ug:c0.Oy)(bw:c0.ba)(cA:c0.cR)(x0:aj)(x1:bk)(x6:aj)(x7:Int)(x8:Int)(x9:Int):Option (aj×(Bool)):=
 cond (bS x9 24) (cond (aM x7 (List.length x0:Int)) (cond (aL x7 (List.length x0)) (cond (az ((List.getD x0 x7.toNat a7).1) x8) (cond (aL x7 (List.length x0)) (cond (az (((List.getD x0 x7.toNat a7).2).1) x9) (cond (aL x7 (List.length x0)) (ug x0 x1 x6 (W .i64 (x7+1)) x8 x9 ((((List.getD x0 x7.toNat a7).2).2).1)) (none)) (ug x0 x1 x6 x7 x8 x9 (0:Int))) (none)) (ug x0 x1 x6 x7 x8 x9 (0:Int))) (none)) (ug x0 x1 x6 x7 x8 x9 (0:Int))) (bw x0 x1 x6 x7 (W .i64 (x8+1)))
def c0.l7(N:Nat)(bw:c0.ba):Nat→c0.cR
 |0,_,_,_,_,_,_=>none
 |n+1,x0,x1,x6,x7,x8,x9=>c0.ns N (c0.NG N bw (c0.l7 N bw n)) bw (c0.l7 N bw n) x0 x1 x6 x7 x8 x9
def c0.cL(N:Nat)(nZ:c0.cR)(bw:c0.ba)(x0:aj)(x1:bk)(x6:aj)(x7:Int)(x8:Int):Option (aj×(Bool)):=
 cond (bS x8 7) (nZ x0 x1 x6 x7 x8 (0:Int)) (some (x6,true))
def c0.l4(N:Nat):Nat→c0.ba
 |0,_,_,_,_,_=>none
 |n+1,x0,x1,x6,x7,x8=>c0.cL N (c0.l7 N (c0.l4 N n) N) (c0.l4 N n) x0 x1 x6 x7 x8
def c0.b(N:Nat)(df:c0.ba)(a0:aj)(a1:bk):Option (aj×(Bool)):=
 df a0 a1 ([]) (0:Int) (1:Int)
def c0(N:Nat)(a0:aj)(a1:bk):Option (aj×(Bool)):=c0.b N (c0.l4 N N) a0 a1
def yO(N:Nat)(a0:ah)(a1:aj)(a2:bk):Option (ah×(Int)):=
 (bT N a0.2.2.2.1 a1).bind fun r1=>cond (!r1.2) (some ((aV,(cm,(bh,(bh,(cK,(cT,())))))),(2:Int))) ((c0 N a0.2.2.1 a2).bind fun r2=>cond (!r2.2) (some ((aV,(cm,(bh,(bh,(cK,(cT,())))))),(2:Int))) (some ((a0.1,(a0.2.1,(r2.1,(r1.1,a0.2.2.2.2)))),(0:Int))))
def K7(N:Nat)(a0:aJ)(a1:Int)(a2:Int)(a3:Int)(a4:Int)(a5:Int):Option (aJ×cy):=
 (fT N a5).bind fun r1=>(yS N a1 a2 a3 a4 r1).bind fun r2=>(yO N a0.2.2.1 bh r2).bind fun r3=>some ((a0.1,(a0.2.1,(r3.1,a0.2.2.2))),(r3.2,bO))
abbrev kk.bl:=aj→Int→aw→aw→Int→Option aw
def kk.dd(N:Nat)(bc:kk.bl)(x0:aj)(x1:Int)(x4:aw)(x5:aw)(x6:Int):Option aw:=
 cond (aM x6 (List.length x0:Int)) (cond (aL x6 (List.length x0)) (cond (az (((List.getD x0 x6.toNat a7).2).1) x1) (cond (aL x6 (List.length x0)) ((fT N ((((List.getD x0 x6.toNat a7).2).2).1)).bind fun r3=>(ur N x5 r3).bind fun r4=>bc x0 x1 x4 r4 (W .i64 (x6+1))) (none)) (bc x0 x1 x4 x5 (W .i64 (x6+1)))) (none)) (some x5)
def kk.l5(N:Nat):Nat→kk.bl
 |0,_,_,_,_,_=>none
 |n+1,x0,x1,x4,x5,x6=>kk.dd N (kk.l5 N n) x0 x1 x4 x5 x6
def kk.b(N:Nat)(dz:kk.bl)(a0:aj)(a1:Int):Option aw:=
 (sP N a0).bind fun r1=>cond (!r1) (some (false,kY)) (dz a0 a1 (false,kY) (false,kY) (0:Int))
def kk(N:Nat)(a0:aj)(a1:Int):Option aw:=kk.b N (kk.l5 N N) a0 a1
def IS(N:Nat)(a0:aw):Option (Int):=
 cond (az (List.length a0.2.1:Int) 0) (some (0:Int)) (cond (a0.1) (some (-1:Int)) (some (1:Int)))
abbrev kR.bJ:=aj→Int→Option (Bool)
def kR.dx(N:Nat)(cz:kR.bJ)(x0:aj)(x3:Int):Option (Bool):=
 cond (aM x3 6) ((kk N x0 x3).bind fun r2=>(IS N r2).bind fun r3=>cond (!az r3 0) (some false) (cz x0 (W .i64 (x3+1)))) ((sP N x0).bind fun r5=>some r5)
def kR.l2(N:Nat):Nat→kR.bJ
 |0,_,_=>none
 |n+1,x0,x3=>kR.dx N (kR.l2 N n) x0 x3
def kR.b(N:Nat)(eB:kR.bJ)(a0:aj):Option (Bool):=
 eB a0 (0:Int)
def kR(N:Nat)(a0:aj):Option (Bool):=kR.b N (kR.l2 N N) a0
def wD(N:Nat)(a0:Int):Option (Bool):=
 cond (bS 1 a0) (some (bS a0 1000000000000)) (some false)
def Ha(N:Nat)(a0:fG):Option (Bool):=
 cond (bS 1 a0.1) (cond (bS a0.1 1099511627776) (cond (bS 1 a0.2.1) (cond (bS a0.2.1 24) (cond (bS 0 a0.2.2.1) (cond (aM a0.2.2.1 6) (cond (az a0.2.2.2.1 1) (cond (bS 1 a0.2.2.2.2.1) (cond (bS a0.2.2.2.2.1 1000000000) ((wD N a0.2.2.2.2.2.1).bind fun r1=>some r1) (some false)) (some false)) (cond (az a0.2.2.2.1 2) (cond (bS 1 a0.2.2.2.2.1) (cond (bS a0.2.2.2.2.1 1000000000) ((wD N a0.2.2.2.2.2.1).bind fun r2=>some r2) (some false)) (some false)) (some false))) (some false)) (some false)) (some false)) (some false)) (some false)) (some false)
abbrev iF.ba:=a6→Int→Option (Bool)
def iF.cL(N:Nat)(bw:iF.ba)(x0:a6)(x3:Int):Option (Bool):=
 cond (aM x3 (List.length x0:Int)) (cond (aL x3 (List.length x0)) ((Ha N (List.getD x0 x3.toNat dZ)).bind fun r2=>cond (!r2) (some false) (cond (aM 0 x3) (cond (aL x3 (List.length x0)) (let v3:Int:=W .i64 (x3-1);cond (aL v3 (List.length x0)) (cond (bS ((List.getD x0 x3.toNat dZ).1) ((List.getD x0 v3.toNat dZ).1)) (some false) (bw x0 (W .i64 (x3+1)))) (none)) (none)) (bw x0 (W .i64 (x3+1))))) (none)) (some true)
def iF.l4(N:Nat):Nat→iF.ba
 |0,_,_=>none
 |n+1,x0,x3=>iF.cL N (iF.l4 N n) x0 x3
def iF.b(N:Nat)(df:iF.ba)(a0:a6):Option (Bool):=
 cond (aM 32 (List.length a0:Int)) (some false) (df a0 (0:Int))
def iF(N:Nat)(a0:a6):Option (Bool):=iF.b N (iF.l4 N N) a0
abbrev ki.bl:=aj→aw→aw→Int→Option aw
def ki.dd(N:Nat)(bc:ki.bl)(x0:aj)(x2:aw)(x3:aw)(x4:Int):Option aw:=
 cond (aM x4 (List.length x0:Int)) (cond (aL x4 (List.length x0)) ((fT N ((((List.getD x0 x4.toNat a7).2).2).1)).bind fun r3=>(ur N x3 r3).bind fun r4=>bc x0 x2 r4 (W .i64 (x4+1))) (none)) (some x3)
def ki.l5(N:Nat):Nat→ki.bl
 |0,_,_,_,_=>none
 |n+1,x0,x2,x3,x4=>ki.dd N (ki.l5 N n) x0 x2 x3 x4
def ki.b(N:Nat)(dz:ki.bl)(a0:aj):Option aw:=
 (uQ N a0).bind fun r1=>cond (!r1) (some (false,kY)) (dz a0 (false,kY) (false,kY) (0:Int))
def ki(N:Nat)(a0:aj):Option aw:=ki.b N (ki.l5 N N) a0
def BV(N:Nat)(a0:ah)(a1:Int):Option (Bool):=
 (ye N a0.2.1 a1).bind fun r1=>cond (r1.2) (some true) (some (az a1 0))
def tC(N:Nat)(a0:ax)(a1:Int):Option (Int):=
 (jl N a0).bind fun r1=>cond (!r1) (some (0:Int)) ((iG N a0 a1).bind fun r2=>some r2)
abbrev bD.mP:=aa→ah→Int→Option (Bool)
abbrev bD.OA:=aa→ah→Int→Option (Bool)
abbrev bD.fu:=aa→ah→Int→Option (Bool)
abbrev bD.eC:=aa→ah→Int→Option (Bool)
def bD.qu(N:Nat)(yZ:bD.mP)(x2:aa)(x3:ah)(x9:Int):Option (Bool):=
 cond (aM x9 (List.length x3.2.2.2.2.2.1:Int)) (cond (aL x9 (List.length x3.2.2.2.2.2.1)) ((BV N x3 (((List.getD x3.2.2.2.2.2.1 x9.toNat dZ).2).1)).bind fun Le=>cond (!Le) (some false) (cond (aL x9 (List.length x3.2.2.2.2.2.1)) (cond (bS (List.length x2.1:Int) ((((List.getD x3.2.2.2.2.2.1 x9.toNat dZ).2).2).1)) (some false) (yZ x2 x3 (W .i64 (x9+1)))) (none))) (none)) (some true)
def bD.rA(N:Nat):Nat→bD.mP
 |0,_,_,_=>none
 |n+1,x2,x3,x9=>bD.qu N (bD.rA N n) x2 x3 x9
def bD.Qr(N:Nat)(y5:bD.mP)(adg:bD.OA)(x2:aa)(x3:ah)(x8:Int):Option (Bool):=
 cond (aM x8 (List.length x3.2.2.2.2.1:Int)) (cond (aL x8 (List.length x3.2.2.2.2.1)) ((wD N (List.getD x3.2.2.2.2.1 x8.toNat (0:Int))).bind fun zr=>cond (!zr) (some false) (adg x2 x3 (W .i64 (x8+1)))) (none)) (y5 x2 x3 (0:Int))
def bD.Qq(N:Nat):Nat→bD.OA
 |0,_,_,_=>none
 |n+1,x2,x3,x8=>bD.Qr N (bD.rA N N) (bD.Qq N n) x2 x3 x8
def bD.lq(N:Nat)(adh:bD.OA)(gV:bD.fu)(x2:aa)(x3:ah)(x7:Int):Option (Bool):=
 cond (aM x7 (List.length x3.2.2.2.1:Int)) (cond (aL x7 (List.length x3.2.2.2.1)) ((BV N x3 ((List.getD x3.2.2.2.1 x7.toNat a7).1)).bind fun y3=>cond (!y3) (some false) (cond (aL x7 (List.length x3.2.2.2.1)) (cond (bS (List.length x2.1:Int) (((List.getD x3.2.2.2.1 x7.toNat a7).2).1)) (some false) (gV x2 x3 (W .i64 (x7+1)))) (none))) (none)) (adh x2 x3 (0:Int))
def bD.mT(N:Nat):Nat→bD.fu
 |0,_,_,_=>none
 |n+1,x2,x3,x7=>bD.lq N (bD.Qq N N) (bD.mT N n) x2 x3 x7
def bD.n4(N:Nat)(qJ:bD.fu)(eu:bD.eC)(x2:aa)(x3:ah)(x5:Int):Option (Bool):=
 cond (aM x5 (List.length x3.2.2.1:Int)) (cond (aL x5 (List.length x3.2.2.1)) (cond (az ((List.getD x3.2.2.1 x5.toNat a7).1) (5:Int)) ((BV N x3 (((List.getD x3.2.2.1 x5.toNat a7).2).1)).bind fun r9=>cond (!r9) (some false) (cond (az ((List.getD x3.2.2.1 x5.toNat a7).1) (6:Int)) ((tC N x3.1 (((List.getD x3.2.2.1 x5.toNat a7).2).1)).bind fun ji=>cond (az ji 0) (some false) (eu x2 x3 (W .i64 (x5+1)))) (cond (az ((List.getD x3.2.2.1 x5.toNat a7).1) (7:Int)) ((tC N x3.1 (((List.getD x3.2.2.1 x5.toNat a7).2).1)).bind fun mU=>cond (az mU 0) (some false) (eu x2 x3 (W .i64 (x5+1)))) (eu x2 x3 (W .i64 (x5+1)))))) (cond (az ((List.getD x3.2.2.1 x5.toNat a7).1) (6:Int)) ((tC N x3.1 (((List.getD x3.2.2.1 x5.toNat a7).2).1)).bind fun rT=>cond (az rT 0) (some false) (eu x2 x3 (W .i64 (x5+1)))) (cond (az ((List.getD x3.2.2.1 x5.toNat a7).1) (7:Int)) ((tC N x3.1 (((List.getD x3.2.2.1 x5.toNat a7).2).1)).bind fun rS=>cond (az rS 0) (some false) (eu x2 x3 (W .i64 (x5+1)))) (eu x2 x3 (W .i64 (x5+1)))))) (none)) (qJ x2 x3 (0:Int))
def bD.l6(N:Nat):Nat→bD.eC
 |0,_,_,_=>none
 |n+1,x2,x3,x5=>bD.n4 N (bD.mT N N) (bD.l6 N n) x2 x3 x5
def bD.b(N:Nat)(pv:bD.eC)(a0:aa)(a1:ah):Option (Bool):=
 (hQ N a0).bind fun r1=>cond (!r1) (some false) ((jG N a1.1 a1.2.1).bind fun r2=>cond (!r2) (some false) ((uQ N a1.2.2.1).bind fun r3=>cond (!r3) (some false) ((kR N a1.2.2.2.1).bind fun r4=>cond (!r4) (some false) ((iF N a1.2.2.2.2.2.1).bind fun r5=>cond (!r5) (some false) (cond (!az (List.length a1.2.2.2.2.1:Int) (List.length a0.1:Int)) (some false) ((ki N a1.2.2.1).bind fun r6=>(IS N r6).bind fun r7=>cond (!az r7 0) (some false) (pv a0 a1 (0:Int))))))))
def bD(N:Nat)(a0:aa)(a1:ah):Option (Bool):=bD.b N (bD.l6 N N) a0 a1
def IQ(N:Nat)(a0:aw)(a1:aw):Option aw:=
 (Lp N a1).bind fun r1=>(ur N a0 r1).bind fun r2=>some r2
abbrev rQ.bl:=aj→Int→ax→Int→Option ax
def rQ.dd(N:Nat)(bc:rQ.bl)(x0:aj)(x1:Int)(x5:ax)(x6:Int):Option ax:=
 cond (aM x6 (List.length x0:Int)) (cond (aL x6 (List.length x0)) (cond (az ((List.getD x0 x6.toNat a7).1) x1) (cond (aL x6 (List.length x0)) (cond (aL x6 (List.length x0)) (cond (small (List.length x5+List.length ([(((List.getD x0 x6.toNat a7).2).1,((((List.getD x0 x6.toNat a7).2).2).1,()))]))) (bc x0 x1 (x5++([(((List.getD x0 x6.toNat a7).2).1,((((List.getD x0 x6.toNat a7).2).2).1,()))])) (W .i64 (x6+1))) (none)) (none)) (none)) (bc x0 x1 x5 (W .i64 (x6+1)))) (none)) (some x5)
def rQ.l5(N:Nat):Nat→rQ.bl
 |0,_,_,_,_=>none
 |n+1,x0,x1,x5,x6=>rQ.dd N (rQ.l5 N n) x0 x1 x5 x6
def rQ.b(N:Nat)(dz:rQ.bl)(a0:aj)(a1:Int):Option ax:=
 (sP N a0).bind fun r1=>cond (!r1) (some ([])) (dz a0 a1 ([]) (0:Int))
def rQ(N:Nat)(a0:aj)(a1:Int):Option ax:=rQ.b N (rQ.l5 N N) a0 a1
abbrev ep.cR:=a6→Int→aj→Int→cy→Int→Option aj
abbrev ep.cq:=a6→Int→aj→Int→Option aj
def ep.ns(N:Nat)(bZ:ep.cq)(cA:ep.cR)(x0:a6)(x1:Int)(x5:aj)(x6:Int)(x7:cy)(x8:Int):Option aj:=
 cond (aM x8 (List.length x0:Int)) (cond (aL x8 (List.length x0)) (cond (!az (((List.getD x0 x8.toNat dZ).2).1) x1) (cA x0 x1 x5 x6 x7 (W .i64 (x8+1))) (cond (aL x8 (List.length x0)) (cond (!az ((((List.getD x0 x8.toNat dZ).2).2).1) x6) (cA x0 x1 x5 x6 x7 (W .i64 (x8+1))) (cond (aL x8 (List.length x0)) (cond (az (((((List.getD x0 x8.toNat dZ).2).2).2).1) (1:Int)) (cond (aL x8 (List.length x0)) (cA x0 x1 x5 x6 (x7.1,((W .i64 (x7.2.1+((((((List.getD x0 x8.toNat dZ).2).2).2).2).1))),x7.2.2)) (W .i64 (x8+1))) (none)) (cond (aL x8 (List.length x0)) (cA x0 x1 x5 x6 (x7.1,(x7.2.1,((W .i64 (x7.2.2.1+((((((List.getD x0 x8.toNat dZ).2).2).2).2).1))),x7.2.2.2))) (W .i64 (x8+1))) (none))) (none))) (none))) (none)) (cond (aM 0 x7.2.1) (cond (small (List.length x5+List.length ([x7]))) (bZ x0 x1 (x5++([x7])) (W .i64 (x6+1))) (none)) (cond (aM 0 x7.2.2.1) (cond (small (List.length x5+List.length ([x7]))) (bZ x0 x1 (x5++([x7])) (W .i64 (x6+1))) (none)) (bZ x0 x1 x5 (W .i64 (x6+1)))))
def ep.l7(N:Nat)(bZ:ep.cq):Nat→ep.cR
 |0,_,_,_,_,_,_=>none
 |n+1,x0,x1,x5,x6,x7,x8=>ep.ns N bZ (ep.l7 N bZ n) x0 x1 x5 x6 x7 x8
def ep.iE(N:Nat)(nZ:ep.cR)(bZ:ep.cq)(x0:a6)(x1:Int)(x5:aj)(x6:Int):Option aj:=
 cond (aM x6 6) (nZ x0 x1 x5 x6 (x6,bO) (0:Int)) (some x5)
def ep.l3(N:Nat):Nat→ep.cq
 |0,_,_,_,_=>none
 |n+1,x0,x1,x5,x6=>ep.iE N (ep.l7 N (ep.l3 N n) N) (ep.l3 N n) x0 x1 x5 x6
def ep.b(N:Nat)(jj:ep.cq)(a0:a6)(a1:Int):Option aj:=
 jj a0 a1 ([]) (0:Int)
def ep(N:Nat)(a0:a6)(a1:Int):Option aj:=ep.b N (ep.l3 N N) a0 a1
abbrev jb.ba:=ax→aa→Int→Option (Bool)
def jb.cL(N:Nat)(bw:jb.ba)(x1:ax)(x2:aa)(x5:Int):Option (Bool):=
 cond (aM x5 (List.length x1:Int)) (cond (aL x5 (List.length x1)) (cond (aM ((List.getD x1 x5.toNat bO).1) (0:Int)) (some false) (cond (aL x5 (List.length x1)) (cond (bS (List.length x2.1:Int) ((List.getD x1 x5.toNat bO).1)) (some false) (cond (aL x5 (List.length x1)) (cond (az (((List.getD x1 x5.toNat bO).2).1) (0:Int)) (some false) (cond (aL x5 (List.length x1)) (cond (az (((List.getD x1 x5.toNat bO).2).1) (-9223372036854775808:Int)) (some false) (cond (aM 0 x5) (cond (aL x5 (List.length x1)) (let v3:Int:=W .i64 (x5-1);cond (aL v3 (List.length x1)) (cond (bS ((List.getD x1 x5.toNat bO).1) ((List.getD x1 v3.toNat bO).1)) (some false) (bw x1 x2 (W .i64 (x5+1)))) (none)) (none)) (bw x1 x2 (W .i64 (x5+1))))) (none))) (none))) (none))) (none)) (some true)
def jb.l4(N:Nat):Nat→jb.ba
 |0,_,_,_=>none
 |n+1,x1,x2,x5=>jb.cL N (jb.l4 N n) x1 x2 x5
def jb.b(N:Nat)(df:jb.ba)(a0:aa)(a1:ax):Option (Bool):=
 (hQ N a0).bind fun r1=>cond (!r1) (some false) (df a1 a0 (0:Int))
def jb(N:Nat)(a0:aa)(a1:ax):Option (Bool):=jb.b N (jb.l4 N N) a0 a1
abbrev lA.bl:=aj→aa→Int→Int→Option (Bool)
def lA.dd(N:Nat)(bc:lA.bl)(x1:aj)(x2:aa)(x5:Int)(x6:Int):Option (Bool):=
 cond (aM x6 (List.length x1:Int)) (cond (aL x6 (List.length x1)) (cond (aM ((List.getD x1 x6.toNat a7).1) (0:Int)) (some false) (cond (bS (List.length x2.1:Int) ((List.getD x1 x6.toNat a7).1)) (some false) (cond (aM (((List.getD x1 x6.toNat a7).2).1) (0:Int)) (some false) (cond (aM x5 (((List.getD x1 x6.toNat a7).2).1)) (some false) (cond (aM ((((List.getD x1 x6.toNat a7).2).2).1) (0:Int)) (some false) (cond (aM x5 ((((List.getD x1 x6.toNat a7).2).2).1)) (some false) (cond (az (((List.getD x1 x6.toNat a7).2).1) (0:Int)) (cond (az ((((List.getD x1 x6.toNat a7).2).2).1) (0:Int)) (some false) (cond (aM 0 x6) (let v3:Int:=W .i64 (x6-1);cond (aL v3 (List.length x1)) (cond (bS ((List.getD x1 x6.toNat a7).1) ((List.getD x1 v3.toNat a7).1)) (some false) (bc x1 x2 x5 (W .i64 (x6+1)))) (none)) (bc x1 x2 x5 (W .i64 (x6+1))))) (cond (aM 0 x6) (let v6:Int:=W .i64 (x6-1);cond (aL v6 (List.length x1)) (cond (bS ((List.getD x1 x6.toNat a7).1) ((List.getD x1 v6.toNat a7).1)) (some false) (bc x1 x2 x5 (W .i64 (x6+1)))) (none)) (bc x1 x2 x5 (W .i64 (x6+1))))))))))) (none)) (some true)
def lA.l5(N:Nat):Nat→lA.bl
 |0,_,_,_,_=>none
 |n+1,x1,x2,x5,x6=>lA.dd N (lA.l5 N n) x1 x2 x5 x6
def lA.b(N:Nat)(dz:lA.bl)(a0:aa)(a1:aj):Option (Bool):=
 (hQ N a0).bind fun r1=>cond (!r1) (some false) (dz a1 a0 (33000000000:Int) (0:Int))
def lA(N:Nat)(a0:aa)(a1:aj):Option (Bool):=lA.b N (lA.l5 N N) a0 a1
def MM(N:Nat)(a0:aw):Option aw:=
 (MK N false a0.2.1).bind fun r1=>some r1
def Gp(N:Nat)(a0:aw)(a1:aw):Option (Int):=
 (IQ N a0 a1).bind fun r1=>(IS N r1).bind fun r2=>some r2
abbrev ff.fu:=aj→Int→aw→aw→aw→aw→Int→Option (aw×(Int))
abbrev ff.cR:=ax→aj→Int→aw→aw→aw→aw→Int→Option (aw×(Int))
def ff.lq(N:Nat)(gV:ff.fu)(x2:aj)(x3:Int)(x8:aw)(aQ:aw)(aH:aw)(aP:aw)(bx:Int):Option (aw×(Int)):=
 cond (aM bx (List.length x2:Int)) (cond (aL bx (List.length x2)) (cond (az ((List.getD x2 bx.toNat a7).1) x3) (cond (aL bx (List.length x2)) ((fT N (((List.getD x2 bx.toNat a7).2).1)).bind fun r8=>cond (aL bx (List.length x2)) ((fT N ((((List.getD x2 bx.toNat a7).2).2).1)).bind fun r9=>gV x2 x3 x8 aQ r8 r9 (W .i64 (bx+1))) (none)) (none)) (gV x2 x3 x8 aQ aH aP (W .i64 (bx+1)))) (none)) ((ur N aQ aH).bind fun mU=>(MM N mU).bind fun kI=>(IQ N aQ aP).bind fun rC=>(MM N rC).bind fun rT=>(Gp N rT kI).bind fun u7=>cond (aM 0 u7) (some (rT,(0:Int))) (some (kI,(0:Int))))
def ff.mT(N:Nat):Nat→ff.fu
 |0,_,_,_,_,_,_,_=>none
 |n+1,x2,x3,x8,aQ,aH,aP,bx=>ff.lq N (ff.mT N n) x2 x3 x8 aQ aH aP bx
def ff.ns(N:Nat)(qJ:ff.fu)(cA:ff.cR)(x1:ax)(x2:aj)(x3:Int)(x8:aw)(aQ:aw)(aH:aw)(aP:aw)(bf:Int):Option (aw×(Int)):=
 cond (aM bf (List.length x1:Int)) (cond (aL bf (List.length x1)) (cond (az ((List.getD x1 bf.toNat bO).1) x3) (cond (aL bf (List.length x1)) ((fT N (((List.getD x1 bf.toNat bO).2).1)).bind fun r4=>cA x1 x2 x3 x8 r4 aH aP (W .i64 (bf+1))) (none)) (cA x1 x2 x3 x8 aQ aH aP (W .i64 (bf+1)))) (none)) (qJ x2 x3 x8 aQ aH aP (0:Int))
def ff.l7(N:Nat):Nat→ff.cR
 |0,_,_,_,_,_,_,_,_=>none
 |n+1,x1,x2,x3,x8,aQ,aH,aP,bf=>ff.ns N (ff.mT N N) (ff.l7 N n) x1 x2 x3 x8 aQ aH aP bf
def ff.b(N:Nat)(nZ:ff.cR)(a0:aa)(a1:ax)(a2:aj)(a3:Int):Option (aw×(Int)):=
 (jb N a0 a1).bind fun r1=>cond (!r1) (some ((false,kY),(1:Int))) ((lA N a0 a2).bind fun r2=>cond (!r2) (some ((false,kY),(1:Int))) (cond (aM a3 0) (some ((false,kY),(3:Int))) (cond (bS (List.length a0.1:Int) a3) (some ((false,kY),(3:Int))) (nZ a1 a2 a3 (false,kY) (false,kY) (false,kY) (false,kY) (0:Int)))))
def ff(N:Nat)(a0:aa)(a1:ax)(a2:aj)(a3:Int):Option (aw×(Int)):=ff.b N (ff.l7 N N) a0 a1 a2 a3
abbrev fF.HY:=aw→aw→aw→(List (Int))→Int→Int→Int→Option aw
abbrev fF.cR:=aw→aw→aw→(List (Int))→Int→Int→Int→Option aw
abbrev fF.cq:=aw→aw→aw→(List (Int))→Int→Option aw
def fF.GY(N:Nat)(bZ:fF.cq)(cA:fF.cR)(x2:aw)(x3:aw)(x4:aw)(x5:List (Int))(x6:Int)(x7:Int)(x8:Int):Option aw:=
 let v7:Int:=W .i64 (x6+x8);cond (aL v7 (List.length x5)) (cond (aL x6 (List.length x2.2.1)) ((P8 N x3.2.1 x8).bind fun r8=>let v11:Int:=W .u64 (x7+(W .u64 ((List.getD x5 v7.toNat (0:Int))+(W .u64 ((List.getD x2.2.1 x6.toNat (0:Int))*r8)))));let Lc:Int:=W .i64 (x6+x8);cond (aL Lc (List.length x5)) (cond (aM 32 0) (none) (cA x2 x3 x4 (List.set x5 Lc.toNat (n5 .and .u64 v11 4294967295)) x6 (shr .u64 v11 32) (W .i64 (x8+1)))) (none)) (none)) (none)
def fF.j9(N:Nat)(bZ:fF.cq)(cA:fF.cR)(x2:aw)(x3:aw)(x4:aw)(x5:List (Int))(x6:Int)(x7:Int)(x8:Int):Option aw:=fF.GY N bZ cA x2 x3 x4 x5 x6 x7 x8
def fF.ns(N:Nat)(zb:fF.HY)(bZ:fF.cq)(cA:fF.cR)(x2:aw)(x3:aw)(x4:aw)(x5:List (Int))(x6:Int)(x7:Int)(x8:Int):Option aw:=
 cond (aM x8 (List.length x3.2.1:Int)) (zb x2 x3 x4 x5 x6 x7 x8) (cond (aM 0 x7) (zb x2 x3 x4 x5 x6 x7 x8) (bZ x2 x3 x4 x5 (W .i64 (x6+1))))
def fF.l7(N:Nat)(bZ:fF.cq):Nat→fF.cR
 |0,_,_,_,_,_,_,_=>none
 |n+1,x2,x3,x4,x5,x6,x7,x8=>fF.ns N (fF.j9 N bZ (fF.l7 N bZ n)) bZ (fF.l7 N bZ n) x2 x3 x4 x5 x6 x7 x8
def fF.iE(N:Nat)(nZ:fF.cR)(bZ:fF.cq)(x2:aw)(x3:aw)(x4:aw)(x5:List (Int))(x6:Int):Option aw:=
 cond (aM x6 (List.length x2.2.1:Int)) (nZ x2 x3 x4 x5 x6 (0:Int) (0:Int)) ((MK N (!(pz .bool x2.1 x3.1)) x5).bind fun uv=>some uv)
def fF.l3(N:Nat):Nat→fF.cq
 |0,_,_,_,_,_=>none
 |n+1,x2,x3,x4,x5,x6=>fF.iE N (fF.l7 N (fF.l3 N n) N) (fF.l3 N n) x2 x3 x4 x5 x6
def fF.b(N:Nat)(jj:fF.cq)(a0:aw)(a1:aw):Option aw:=
 let v2:Int:=W .i64 ((W .i64 ((List.length a0.2.1:Int)+(List.length a1.2.1:Int)))+1);cond (fK v2 v2) (jj a0 a1 (false,kY) (List.replicate v2.toNat (0:Int)) (0:Int)) (none)
def fF(N:Nat)(a0:aw)(a1:aw):Option aw:=fF.b N (fF.l3 N N) a0 a1
abbrev lB.bl:=ax→aj→aa→aw→aw→Int→Option (aw×(Int))
def lB.dd(N:Nat)(bc:lB.bl)(x1:ax)(x2:aj)(x3:aa)(x6:aw)(x8:aw)(x9:Int):Option (aw×(Int)):=
 cond (aM x9 (List.length x3.1:Int)) ((ff N x3 x1 x2 x9).bind fun r4=>cond (aL x9 (List.length x3.1)) ((fT N ((((List.getD x3.1 x9.toNat aA).2).2).1)).bind fun r5=>(fF N r4.1 r5).bind fun r6=>(ur N x8 r6).bind fun r7=>bc x1 x2 x3 x6 r7 (W .i64 (x9+1))) (none)) (some (x8,(0:Int)))
def lB.l5(N:Nat):Nat→lB.bl
 |0,_,_,_,_,_,_=>none
 |n+1,x1,x2,x3,x6,x8,x9=>lB.dd N (lB.l5 N n) x1 x2 x3 x6 x8 x9
def lB.b(N:Nat)(dz:lB.bl)(a0:aa)(a1:ax)(a2:aj):Option (aw×(Int)):=
 (jb N a0 a1).bind fun r1=>cond (!r1) (some ((false,kY),(1:Int))) ((lA N a0 a2).bind fun r2=>cond (!r2) (some ((false,kY),(1:Int))) (dz a1 a2 a0 (false,kY) (false,kY) (0:Int)))
def lB(N:Nat)(a0:aa)(a1:ax)(a2:aj):Option (aw×(Int)):=lB.b N (lB.l5 N N) a0 a1 a2
def NJ(N:Nat)(a0:aa)(a1:ah)(a2:Int)(a3:a6):Option aw:=
 cond (small (List.length cT+List.length a1.2.2.2.2.2.1)) (let v1:List ((Int)×((Int)×((Int)×((Int)×((Int)×((Int)×(Unit))))))):=cT++a1.2.2.2.2.2.1;cond (small (List.length v1+List.length a3)) ((rQ N a1.2.2.2.1 a2).bind fun r3=>(ep N (v1++a3) a2).bind fun r4=>(lB N a0 r3 r4).bind fun r5=>some r5.1) (none)) (none)
def Q7(N:Nat)(a0:aa)(a1:ah)(a2:Int)(a3:Int):Option (ah×(Int)):=
 (bD N a0 a1).bind fun r1=>cond (!r1) (some ((aV,(cm,(bh,(bh,(cK,(cT,())))))),(1:Int))) (cond (aM a3 1) (some ((aV,(cm,(bh,(bh,(cK,(cT,())))))),(1:Int))) ((ye N a1.2.1 a2).bind fun r2=>cond (!r2.2) (some ((aV,(cm,(bh,(bh,(cK,(cT,())))))),(3:Int))) ((tC N a1.1 r2.1.2.1).bind fun r3=>cond (!az r3 1) (some ((aV,(cm,(bh,(bh,(cK,(cT,())))))),(7:Int))) ((oz N a1.2.2.1 (5:Int) a2).bind fun r4=>(fT N r4).bind fun r5=>(fT N a3).bind fun r6=>(IQ N r5 r6).bind fun r7=>(NJ N a0 a1 a2 cT).bind fun r8=>(Gp N r7 r8).bind fun r9=>cond (aM r9 0) (some ((aV,(cm,(bh,(bh,(cK,(cT,())))))),(10:Int))) ((fT N a3).bind fun ji=>(yS N (5:Int) a2 (1:Int) (0:Int) ji).bind fun lR=>(yO N a1 bh lR).bind fun mU=>some (mU.1,mU.2))))))
def Cm(N:Nat)(a0:aJ)(a1:Int):Option (Int):=
 (tC N a0.2.2.1.1 a1).bind fun r1=>some r1
abbrev mB.fh:=Int→Int→ay→Int→Option (ay×(Int))
def mB.w5(N:Nat)(dr:mB.fh)(x1:Int)(x2:Int)(aQ:ay)(aH:Int):Option (ay×(Int)):=
 cond (aM aH (List.length aQ:Int)) (cond (aL aH (List.length aQ)) (cond (az ((List.getD aQ aH.toNat aA).1) x1) (cond (aL aH (List.length aQ)) (dr x1 x2 (List.set aQ aH.toNat ((List.getD aQ aH.toNat aA).1,(((List.getD aQ aH.toNat aA).2).1,((((List.getD aQ aH.toNat aA).2).2).1,(x2,((((List.getD aQ aH.toNat aA).2).2).2).2))))) (W .i64 (aH+1))) (none)) (dr x1 x2 aQ (W .i64 (aH+1)))) (none)) (some (aQ,(0:Int)))
def mB.l8(N:Nat):Nat→mB.fh
 |0,_,_,_,_=>none
 |n+1,x1,x2,aQ,aH=>mB.w5 N (mB.l8 N n) x1 x2 aQ aH
def mB.b(N:Nat)(zc:mB.fh)(a0:ay)(a1:Int)(a2:Int):Option (ay×(Int)):=
 (g2 N a0).bind fun r1=>cond (!r1) (some ([],(1:Int))) (cond (aM a2 0) (some ([],(1:Int))) (cond (aM 1000000000000 a2) (some ([],(1:Int))) ((jm N a0 a1).bind fun r2=>cond (!r2.2) (some ([],(3:Int))) (cond (small (List.length cm+List.length a0)) (zc a1 a2 (cm++a0) (0:Int)) (none)))))
def mB(N:Nat)(a0:ay)(a1:Int)(a2:Int):Option (ay×(Int)):=mB.b N (mB.l8 N N) a0 a1 a2
def QU(N:Nat)(a0:fG)(a1:Int):Option (aw×(Int)):=
 (Ha N a0).bind fun r1=>cond (!r1) (some ((false,kY),(1:Int))) ((wD N a1).bind fun r2=>cond (!r2) (some ((false,kY),(1:Int))) (let v3:Int:=W .i64 (a0.2.2.2.2.2.1-a1);cond (az a0.2.2.2.1 2) (let v4:Int:=W .i64 (a1-a0.2.2.2.2.2.1);cond (aM v4 0) (some ((false,kY),(0:Int))) ((fT N a0.2.2.2.2.1).bind fun r5=>(fT N v4).bind fun r6=>(fF N r5 r6).bind fun r7=>some (r7,(0:Int)))) (cond (aM v3 0) (some ((false,kY),(0:Int))) ((fT N a0.2.2.2.2.1).bind fun r8=>(fT N v3).bind fun r9=>(fF N r8 r9).bind fun ji=>some (ji,(0:Int))))))
def NK(N:Nat)(a0:aa)(a1:ah)(a2:fG):Option (Int):=
 (bD N a0 a1).bind fun r1=>cond (!r1) (some (1:Int)) ((Ha N a2).bind fun r2=>cond (!r2) (some (1:Int)) ((ye N a1.2.1 a2.2.1).bind fun r3=>cond (!r3.2) (some (3:Int)) ((tC N a1.1 r3.1.2.1).bind fun r4=>cond (!az r4 1) (some (7:Int)) (cond (bS (List.length a0.1:Int) a2.2.2.1) (some (3:Int)) (cond (small (List.length cT+List.length a1.2.2.2.2.2.1)) (let v5:List ((Int)×((Int)×((Int)×((Int)×((Int)×((Int)×(Unit))))))):=cT++a1.2.2.2.2.2.1;cond (small (List.length v5+List.length ([a2]))) ((rQ N a1.2.2.2.1 a2.2.1).bind fun r7=>(ep N (v5++([a2])) a2.2.1).bind fun r8=>(ff N a0 r7 r8 a2.2.2.1).bind fun r9=>(fT N r3.1.2.2.2.1).bind fun ji=>(Gp N r9.1 ji).bind fun lR=>cond (aM 0 lR) (some (9:Int)) (cond (aL a2.2.2.1 (List.length a1.2.2.2.2.1)) ((QU N a2 (List.getD a1.2.2.2.2.1 a2.2.2.1.toNat (0:Int))).bind fun mU=>(oz N a1.2.2.1 (5:Int) a2.2.1).bind fun kI=>(fT N kI).bind fun rC=>(IQ N rC mU.1).bind fun rT=>(NJ N a0 a1 a2.2.1 ([a2])).bind fun u7=>(Gp N rT u7).bind fun rS=>cond (aM rS 0) (some (10:Int)) (some (0:Int))) (none))) (none)) (none))))))
def Q4(N:Nat)(a0:fG)(a1:fG):Option (Bool):=
 cond (!az a0.2.2.2.2.2.1 a1.2.2.2.2.2.1) (some (pz .bool (aM a1.2.2.2.2.2.1 a0.2.2.2.2.2.1) (az a0.2.2.2.1 1))) (some (aM a0.1 a1.1))
abbrev c3.EV:=a6→Int→Int→a6→Int→Int→Option a6
abbrev c3.il:=a6→Int→Int→a6→Int→Int→Option a6
abbrev c3.bl:=a6→Int→Int→a6→Int→Option a6
def c3.yR(N:Nat)(bc:c3.bl)(x0:a6)(x1:Int)(x2:Int)(x7:a6)(x8:Int)(x9:Int):Option a6:=
 cond (fi 0 x9 (List.length x7:Int) (List.length x7:Int)) (let v9:List ((Int)×((Int)×((Int)×((Int)×((Int)×((Int)×(Unit))))))):=List.drop (0:Int).toNat (List.take x9.toNat x7);cond (small (List.length v9)) (cond (aL x8 (List.length x0)) (cond (small (List.length v9+List.length ([List.getD x0 x8.toNat dZ]))) (let v10:List ((Int)×((Int)×((Int)×((Int)×((Int)×((Int)×(Unit))))))):=v9++([List.getD x0 x8.toNat dZ]);cond (fi x9 (List.length x7:Int) (List.length x7:Int) (List.length x7:Int)) (let v11:List ((Int)×((Int)×((Int)×((Int)×((Int)×((Int)×(Unit))))))):=List.drop x9.toNat (List.take (List.length x7:Int).toNat x7);cond (small (List.length v10+List.length v11)) (bc x0 x1 x2 (v10++v11) (W .i64 (x8+1))) (none)) (none)) (none)) (none)) (none)) (none)
def c3.Gr(N:Nat)(bc:c3.bl)(x0:a6)(x1:Int)(x2:Int)(x7:a6)(x8:Int)(x9:Int):Option a6:=c3.yR N bc x0 x1 x2 x7 x8 x9
def c3.rN(N:Nat)(vZ:c3.EV)(bc:c3.bl)(mR:c3.il)(x0:a6)(x1:Int)(x2:Int)(x7:a6)(x8:Int)(x9:Int):Option a6:=
 cond (aM x9 (List.length x7:Int)) (cond (aL x9 (List.length x7)) (cond (aL x8 (List.length x0)) ((Q4 N (List.getD x7 x9.toNat dZ) (List.getD x0 x8.toNat dZ)).bind fun r6=>cond (r6) (mR x0 x1 x2 x7 x8 (W .i64 (x9+1))) (vZ x0 x1 x2 x7 x8 x9)) (none)) (none)) (vZ x0 x1 x2 x7 x8 x9)
def c3.l9(N:Nat)(bc:c3.bl):Nat→c3.il
 |0,_,_,_,_,_,_=>none
 |n+1,x0,x1,x2,x7,x8,x9=>c3.rN N (c3.Gr N bc) bc (c3.l9 N bc n) x0 x1 x2 x7 x8 x9
def c3.dd(N:Nat)(sL:c3.il)(bc:c3.bl)(x0:a6)(x1:Int)(x2:Int)(x7:a6)(x8:Int):Option a6:=
 cond (aM x8 (List.length x0:Int)) (cond (aL x8 (List.length x0)) (cond (!az ((((List.getD x0 x8.toNat dZ).2).2).1) x1) (bc x0 x1 x2 x7 (W .i64 (x8+1))) (cond (aL x8 (List.length x0)) (cond (!az (((((List.getD x0 x8.toNat dZ).2).2).2).1) x2) (bc x0 x1 x2 x7 (W .i64 (x8+1))) (sL x0 x1 x2 x7 x8 (0:Int))) (none))) (none)) (some x7)
def c3.l5(N:Nat):Nat→c3.bl
 |0,_,_,_,_,_=>none
 |n+1,x0,x1,x2,x7,x8=>c3.dd N (c3.l9 N (c3.l5 N n) N) (c3.l5 N n) x0 x1 x2 x7 x8
def c3.b(N:Nat)(dz:c3.bl)(a0:a6)(a1:Int)(a2:Int):Option a6:=
 (iF N a0).bind fun r1=>cond (!r1) (some ([])) (dz a0 a1 a2 ([]) (0:Int))
def c3(N:Nat)(a0:a6)(a1:Int)(a2:Int):Option a6:=c3.b N (c3.l5 N N) a0 a1 a2
abbrev bI.qK:=a6→Int→bg→a6→Int→Option (a6×bg×(Int)×(Int))
abbrev bI.adi:=a6→Int→bg→Option (a6×bg×(Int)×(Int))
abbrev bI.mQ:=fG→a6→Int→bg→a6→Int→Int→Int→Option (a6×bg×(Int)×(Int))
abbrev bI.zd:=fG→a6→Int→bg→a6→Int→Int→tV→Option (a6×bg×(Int)×(Int))
abbrev bI.OB:=fG→a6→Int→bg→a6→Int→Option (a6×bg×(Int)×(Int))
abbrev bI.cR:=fG→a6→Int→bg→a6→Int→Option (a6×bg×(Int)×(Int))
def bI.HF(N:Nat)(pK:bI.qK)(x8:a6)(x9:Int)(aQ:bg)(cC:a6)(cD:Int):Option (a6×bg×(Int)×(Int)):=
 cond (aM cD (List.length x8:Int)) (cond (aL cD (List.length x8)) (cond (aM 0 ((((((List.getD x8 cD.toNat dZ).2).2).2).2).1)) (cond (aL cD (List.length x8)) (cond (small (List.length cC+List.length ([List.getD x8 cD.toNat dZ]))) (pK x8 x9 aQ (cC++([List.getD x8 cD.toNat dZ])) (W .i64 (cD+1))) (none)) (none)) (pK x8 x9 aQ cC (W .i64 (cD+1)))) (none)) (some (cC,aQ,x9,(0:Int)))
def bI.Gs(N:Nat):Nat→bI.qK
 |0,_,_,_,_,_=>none
 |n+1,x8,x9,aQ,cC,cD=>bI.HF N (bI.Gs N n) x8 x9 aQ cC cD
def bI.XM(N:Nat)(OC:bI.qK)(x8:a6)(x9:Int)(aQ:bg):Option (a6×bg×(Int)×(Int)):=
 OC x8 x9 aQ ([]) (0:Int)
def bI.j22(N:Nat)(x8:a6)(x9:Int)(aQ:bg):Option (a6×bg×(Int)×(Int)):=bI.XM N (bI.Gs N N) x8 x9 aQ
def bI.rB(N:Nat)(cA:bI.cR)(ue:bI.mQ)(x3:fG)(x8:a6)(x9:Int)(aQ:bg)(aH:a6)(aP:Int)(bf:Int)(bN:Int):Option (a6×bg×(Int)×(Int)):=
 cond (aM bN (List.length x8:Int)) (cond (aL bN (List.length x8)) (cond (aL aP (List.length aH)) (cond (az ((List.getD x8 bN.toNat dZ).1) ((List.getD aH aP.toNat dZ).1)) (cond (aL bN (List.length x8)) (cond (aL bN (List.length x8)) (ue x3 (List.set x8 bN.toNat ((List.getD x8 bN.toNat dZ).1,(((List.getD x8 bN.toNat dZ).2).1,((((List.getD x8 bN.toNat dZ).2).2).1,(((((List.getD x8 bN.toNat dZ).2).2).2).1,((W .i64 (((((((List.getD x8 bN.toNat dZ).2).2).2).2).1)-bf)),(((((List.getD x8 bN.toNat dZ).2).2).2).2).2)))))) x9 aQ aH aP bf (W .i64 (bN+1))) (none)) (none)) (ue x3 x8 x9 aQ aH aP bf (W .i64 (bN+1)))) (none)) (none)) (cA x3 x8 x9 aQ aH (W .i64 (aP+1)))
def bI.tR(N:Nat)(cA:bI.cR):Nat→bI.mQ
 |0,_,_,_,_,_,_,_,_=>none
 |n+1,x3,x8,x9,aQ,aH,aP,bf,bN=>bI.rB N cA (bI.tR N cA n) x3 x8 x9 aQ aH aP bf bN
def bI.sI(N:Nat)(za:bI.mQ)(cA:bI.cR)(x3:fG)(x8:a6)(x9:Int)(aQ:bg)(aH:a6)(aP:Int)(bf:Int)(bx:tV):Option (a6×bg×(Int)×(Int)):=
 cond (small (List.length aQ+List.length ([bx]))) (za x3 x8 (W .i64 (x9-bf)) (aQ++([bx])) aH aP bf (0:Int)) (none)
def bI.zX(N:Nat)(cA:bI.cR)(x3:fG)(x8:a6)(x9:Int)(aQ:bg)(aH:a6)(aP:Int)(bf:Int)(bx:tV):Option (a6×bg×(Int)×(Int)):=bI.sI N (bI.tR N cA N) cA x3 x8 x9 aQ aH aP bf bx
def bI.HG(N:Nat)(pJ:bI.zd)(cA:bI.cR)(x3:fG)(x8:a6)(x9:Int)(aQ:bg)(aH:a6)(aP:Int):Option (a6×bg×(Int)×(Int)):=
 cond (aL aP (List.length aH)) (cond (az (((List.getD aH aP.toNat dZ).2).1) x3.2.1) (cA x3 x8 x9 aQ aH (W .i64 (aP+1))) (cond (aL aP (List.length aH)) (let X5:Int:=mn x9 ((((((List.getD aH aP.toNat dZ).2).2).2).2).1);cond (aL aP (List.length aH)) (cond (aL aP (List.length aH)) (cond (az x3.2.2.2.1 2) (cond (aL aP (List.length aH)) (pJ x3 x8 x9 aQ aH aP X5 (((List.getD aH aP.toNat dZ).2).1,(x3.2.1,(x3.2.2.1,(X5,(((((((List.getD aH aP.toNat dZ).2).2).2).2).2).1,())))))) (none)) (pJ x3 x8 x9 aQ aH aP X5 (x3.2.1,(((List.getD aH aP.toNat dZ).2).1,(x3.2.2.1,(X5,(((((((List.getD aH aP.toNat dZ).2).2).2).2).2).1,()))))))) (none)) (none)) (none))) (none)
def bI.NX(N:Nat)(cA:bI.cR)(x3:fG)(x8:a6)(x9:Int)(aQ:bg)(aH:a6)(aP:Int):Option (a6×bg×(Int)×(Int)):=bI.HG N (bI.zX N cA) cA x3 x8 x9 aQ aH aP
def bI.ns(N:Nat)(EW:bI.adi)(zf:bI.OB)(cA:bI.cR)(x3:fG)(x8:a6)(x9:Int)(aQ:bg)(aH:a6)(aP:Int):Option (a6×bg×(Int)×(Int)):=
 cond (aM aP (List.length aH:Int)) (cond (aM 0 x9) (cond (az x3.2.2.2.1 1) (cond (aL aP (List.length aH)) (cond (aM x3.2.2.2.2.2.1 (((((((List.getD aH aP.toNat dZ).2).2).2).2).2).1)) (EW x8 x9 aQ) (cond (az x3.2.2.2.1 2) (cond (aL aP (List.length aH)) (cond (aM (((((((List.getD aH aP.toNat dZ).2).2).2).2).2).1) x3.2.2.2.2.2.1) (EW x8 x9 aQ) (zf x3 x8 x9 aQ aH aP)) (none)) (zf x3 x8 x9 aQ aH aP))) (none)) (cond (az x3.2.2.2.1 2) (cond (aL aP (List.length aH)) (cond (aM (((((((List.getD aH aP.toNat dZ).2).2).2).2).2).1) x3.2.2.2.2.2.1) (EW x8 x9 aQ) (zf x3 x8 x9 aQ aH aP)) (none)) (zf x3 x8 x9 aQ aH aP))) (EW x8 x9 aQ)) (EW x8 x9 aQ)
def bI.l7(N:Nat):Nat→bI.cR
 |0,_,_,_,_,_,_=>none
 |n+1,x3,x8,x9,aQ,aH,aP=>bI.ns N (bI.j22 N) (bI.NX N (bI.l7 N n)) (bI.l7 N n) x3 x8 x9 aQ aH aP
def bI.b(N:Nat)(nZ:bI.cR)(a0:a6)(a1:fG):Option (a6×bg×(Int)×(Int)):=
 (iF N a0).bind fun r1=>cond (!r1) (some ([],[],(0:Int),(1:Int))) ((Ha N a1).bind fun r2=>cond (!r2) (some ([],[],(0:Int),(1:Int))) (cond (small (List.length cT+List.length a0)) ((c3 N a0 a1.2.2.1 (W .i64 ((3:Int)-a1.2.2.2.1))).bind fun r5=>nZ a1 (cT++a0) a1.2.2.2.2.1 ([]) r5 (0:Int)) (none)))
def bI(N:Nat)(a0:a6)(a1:fG):Option (a6×bg×(Int)×(Int)):=bI.b N (bI.l7 N N) a0 a1
def Nu(N:Nat)(a0:tV):Option (Bool):=
 cond (bS 0 a0.1) (cond (bS a0.1 24) (cond (bS 0 a0.2.1) (cond (bS a0.2.1 24) (cond (!az a0.1 a0.2.1) (cond (bS 0 a0.2.2.1) (cond (aM a0.2.2.1 6) (cond (bS 1 a0.2.2.2.1) (cond (bS a0.2.2.2.1 1000000000) ((wD N a0.2.2.2.2.1).bind fun r1=>some r1) (some false)) (some false)) (some false)) (some false)) (some false)) (some false)) (some false)) (some false)) (some false)
def HB(N:Nat)(a0:Int):Option ((Int)×(Int)):=
 cond (az a0 0) (some ((2:Int),(0:Int))) (some ((5:Int),a0))
def QR(N:Nat)(a0:tV)(a1:Int):Option (bk×(Int)):=
 (Nu N a0).bind fun r1=>cond (!r1) (some ([],(1:Int))) ((wD N a1).bind fun r2=>cond (!r2) (some ([],(1:Int))) ((fT N (W .i64 (a1-a0.2.2.2.2.1))).bind fun r4=>(fT N a0.2.2.2.1).bind fun r5=>(fF N r4 r5).bind fun r6=>(IS N r6).bind fun r7=>cond (az r7 0) (some ([],(0:Int))) ((HB N a0.1).bind fun r8=>(HB N a0.2.1).bind fun r9=>(Lp N r6).bind fun ji=>some ([(r8.1,(r8.2,(r6,()))),(r9.1,(r9.2,(ji,())))],(0:Int)))))
abbrev fe.qL:=bg→aa→ah→ah→aj→bk→Int→Option (ah×(Int))
abbrev fe.ba:=bg→aa→ah→ah→Int→Option (ah×(Int))
def fe.yP(N:Nat)(uh:fe.qL)(x2:bg)(x3:aa)(x4:ah)(x6:ah)(x9:aj)(aQ:bk)(aH:Int):Option (ah×(Int)):=
 cond (aM aH (List.length x2:Int)) (cond (aL aH (List.length x2)) ((BV N x4 ((List.getD x2 aH.toNat jv).1)).bind fun r6=>cond (!r6) (some ((aV,(cm,(bh,(bh,(cK,(cT,())))))),(3:Int))) ((BV N x4 (((List.getD x2 aH.toNat jv).2).1)).bind fun r7=>cond (!r7) (some ((aV,(cm,(bh,(bh,(cK,(cT,())))))),(3:Int))) (cond (bS (List.length x3.1:Int) ((((List.getD x2 aH.toNat jv).2).2).1)) (some ((aV,(cm,(bh,(bh,(cK,(cT,())))))),(3:Int))) (let v8:Int:=W .i64 (0-(((((List.getD x2 aH.toNat jv).2).2).2).1));cond (small (List.length x9+List.length ([((List.getD x2 aH.toNat jv).1,((((List.getD x2 aH.toNat jv).2).2).1,(((((List.getD x2 aH.toNat jv).2).2).2).1,()))),(((List.getD x2 aH.toNat jv).2).1,((((List.getD x2 aH.toNat jv).2).2).1,(v8,())))]))) (cond (aL ((((List.getD x2 aH.toNat jv).2).2).1) (List.length x4.2.2.2.2.1)) ((QR N (List.getD x2 aH.toNat jv) (List.getD x4.2.2.2.2.1 ((((List.getD x2 aH.toNat jv).2).2).1).toNat (0:Int))).bind fun ji=>cond (small (List.length aQ+List.length ji.1)) (uh x2 x3 x4 x6 (x9++([((List.getD x2 aH.toNat jv).1,((((List.getD x2 aH.toNat jv).2).2).1,(((((List.getD x2 aH.toNat jv).2).2).2).1,()))),(((List.getD x2 aH.toNat jv).2).1,((((List.getD x2 aH.toNat jv).2).2).1,(v8,())))])) (aQ++ji.1) (W .i64 (aH+1))) (none)) (none)) (none))))) (none)) ((yO N x4 x9 aQ).bind fun kI=>some (kI.1,kI.2))
def fe.A4(N:Nat):Nat→fe.qL
 |0,_,_,_,_,_,_,_=>none
 |n+1,x2,x3,x4,x6,x9,aQ,aH=>fe.yP N (fe.A4 N n) x2 x3 x4 x6 x9 aQ aH
def fe.cL(N:Nat)(EX:fe.qL)(bw:fe.ba)(x2:bg)(x3:aa)(x4:ah)(x6:ah)(x8:Int):Option (ah×(Int)):=
 cond (aM x8 (List.length x2:Int)) (cond (aL x8 (List.length x2)) ((Nu N (List.getD x2 x8.toNat jv)).bind fun r3=>cond (!r3) (some ((aV,(cm,(bh,(bh,(cK,(cT,())))))),(1:Int))) (bw x2 x3 x4 x6 (W .i64 (x8+1)))) (none)) (EX x2 x3 x4 x6 ([]) ([]) (0:Int))
def fe.l4(N:Nat):Nat→fe.ba
 |0,_,_,_,_,_=>none
 |n+1,x2,x3,x4,x6,x8=>fe.cL N (fe.A4 N N) (fe.l4 N n) x2 x3 x4 x6 x8
def fe.b(N:Nat)(df:fe.ba)(a0:aa)(a1:ah)(a2:bg):Option (ah×(Int)):=
 (bD N a0 a1).bind fun r1=>cond (!r1) (some ((aV,(cm,(bh,(bh,(cK,(cT,())))))),(1:Int))) (cond (aM 200 (List.length a2:Int)) (some ((aV,(cm,(bh,(bh,(cK,(cT,())))))),(1:Int))) (df a2 a0 a1 (aV,(cm,(bh,(bh,(cK,(cT,())))))) (0:Int)))
def fe(N:Nat)(a0:aa)(a1:ah)(a2:bg):Option (ah×(Int)):=fe.b N (fe.l4 N N) a0 a1 a2
abbrev iH.OB:=aa→ah→fG→ah→a6→bg→Int→Option (ah×bg×(Int)×(Int))
abbrev iH.X3:=aa→ah→fG→ah→Option (ah×bg×(Int)×(Int))
def iH.HG(N:Nat)(x3:aa)(x4:ah)(x5:fG)(x6:ah)(aP:a6)(bf:bg)(bx:Int):Option (ah×bg×(Int)×(Int)):=
 (fe N x3 x4 bf).bind fun r6=>cond (!az r6.2 0) (some ((aV,(cm,(bh,(bh,(cK,(cT,())))))),we,(0:Int),r6.2)) (cond (aM 0 bx) (cond (small (List.length aP+List.length ([(x5.1,(x5.2.1,(x5.2.2.1,(x5.2.2.2.1,(bx,x5.2.2.2.2.2)))))]))) (some ((r6.1.1,(r6.1.2.1,(r6.1.2.2.1,(r6.1.2.2.2.1,(r6.1.2.2.2.2.1,((aP++([(x5.1,(x5.2.1,(x5.2.2.1,(x5.2.2.2.1,(bx,x5.2.2.2.2.2)))))])),r6.1.2.2.2.2.2.2)))))),bf,bx,(0:Int))) (none)) (some ((r6.1.1,(r6.1.2.1,(r6.1.2.2.1,(r6.1.2.2.2.1,(r6.1.2.2.2.2.1,(aP,r6.1.2.2.2.2.2.2)))))),bf,bx,(0:Int))))
def iH.NX(N:Nat)(x3:aa)(x4:ah)(x5:fG)(x6:ah)(aP:a6)(bf:bg)(bx:Int):Option (ah×bg×(Int)×(Int)):=iH.HG N x3 x4 x5 x6 aP bf bx
def iH.Xt(N:Nat)(zf:iH.OB)(x3:aa)(x4:ah)(x5:fG)(x6:ah):Option (ah×bg×(Int)×(Int)):=
 (bI N x4.2.2.2.2.2.1 x5).bind fun r4=>cond (aM 0 r4.2.2.1) (cond (az (List.length r4.1:Int) 32) (some ((aV,(cm,(bh,(bh,(cK,(cT,())))))),we,(0:Int),(5:Int))) (zf x3 x4 x5 x6 r4.1 r4.2.1 r4.2.2.1)) (zf x3 x4 x5 x6 r4.1 r4.2.1 r4.2.2.1)
def iH.j7(N:Nat)(x3:aa)(x4:ah)(x5:fG)(x6:ah):Option (ah×bg×(Int)×(Int)):=iH.Xt N (iH.NX N) x3 x4 x5 x6
def iH.b(N:Nat)(HZ:iH.X3)(a0:aa)(a1:ah)(a2:fG):Option (ah×bg×(Int)×(Int)):=
 (NK N a0 a1 a2).bind fun r1=>cond (!az r1 0) (some ((aV,(cm,(bh,(bh,(cK,(cT,())))))),we,(0:Int),r1)) (cond (aM 0 (List.length a1.2.2.2.2.2.1:Int)) (let v2:Int:=W .i64 ((List.length a1.2.2.2.2.2.1:Int)-1);cond (aL v2 (List.length a1.2.2.2.2.2.1)) (cond (bS a2.1 ((List.getD a1.2.2.2.2.2.1 v2.toNat dZ).1)) (some ((aV,(cm,(bh,(bh,(cK,(cT,())))))),we,(0:Int),(1:Int))) (HZ a0 a1 a2 (aV,(cm,(bh,(bh,(cK,(cT,())))))))) (none)) (HZ a0 a1 a2 (aV,(cm,(bh,(bh,(cK,(cT,()))))))))
def iH(N:Nat)(a0:aa)(a1:ah)(a2:fG):Option (ah×bg×(Int)×(Int)):=iH.b N (iH.j7 N) a0 a1 a2
abbrev mE.bl:=a6→Int→Int→a6→Int→Option (a6×(Int))
def mE.dd(N:Nat)(bc:mE.bl)(x0:a6)(x1:Int)(x2:Int)(x8:a6)(x9:Int):Option (a6×(Int)):=
 cond (aM x9 (List.length x0:Int)) (cond (aL x9 (List.length x0)) (cond (!az ((List.getD x0 x9.toNat dZ).1) x2) (cond (aL x9 (List.length x0)) (cond (small (List.length x8+List.length ([List.getD x0 x9.toNat dZ]))) (bc x0 x1 x2 (x8++([List.getD x0 x9.toNat dZ])) (W .i64 (x9+1))) (none)) (none)) (cond (aL x9 (List.length x0)) (cond (!az (((List.getD x0 x9.toNat dZ).2).1) x1) (cond (aL x9 (List.length x0)) (cond (small (List.length x8+List.length ([List.getD x0 x9.toNat dZ]))) (bc x0 x1 x2 (x8++([List.getD x0 x9.toNat dZ])) (W .i64 (x9+1))) (none)) (none)) (bc x0 x1 x2 x8 (W .i64 (x9+1)))) (none))) (none)) (cond (az (List.length x8:Int) (List.length x0:Int)) (some ([],(3:Int))) (some (x8,(0:Int))))
def mE.l5(N:Nat):Nat→mE.bl
 |0,_,_,_,_,_=>none
 |n+1,x0,x1,x2,x8,x9=>mE.dd N (mE.l5 N n) x0 x1 x2 x8 x9
def mE.b(N:Nat)(dz:mE.bl)(a0:a6)(a1:Int)(a2:Int):Option (a6×(Int)):=
 (iF N a0).bind fun r1=>cond (!r1) (some ([],(1:Int))) (dz a0 a1 a2 ([]) (0:Int))
def mE(N:Nat)(a0:a6)(a1:Int)(a2:Int):Option (a6×(Int)):=mE.b N (mE.l5 N N) a0 a1 a2
abbrev mF.eC:=aj→Int→bk→aw→Int→Option (bk×(Int))
def mF.n4(N:Nat)(eu:mF.eC)(x0:aj)(x1:Int)(aQ:bk)(aH:aw)(aP:Int):Option (bk×(Int)):=
 cond (aM aP (List.length x0:Int)) (cond (aL aP (List.length x0)) (cond (!az (((List.getD x0 aP.toNat a7).2).1) x1) (eu x0 x1 aQ aH (W .i64 (aP+1))) ((IS N aH).bind fun r9=>cond (az r9 0) (eu x0 x1 aQ aH (W .i64 (aP+1))) (cond (aL aP (List.length x0)) ((HB N ((List.getD x0 aP.toNat a7).1)).bind fun lR=>cond (aL aP (List.length x0)) ((fT N ((((List.getD x0 aP.toNat a7).2).2).1)).bind fun mU=>(fF N mU aH).bind fun kI=>cond (small (List.length aQ+List.length ([(lR.1,(lR.2,(kI,())))]))) (eu x0 x1 (aQ++([(lR.1,(lR.2,(kI,())))])) aH (W .i64 (aP+1))) (none)) (none)) (none)))) (none)) (some (aQ,(0:Int)))
def mF.l6(N:Nat):Nat→mF.eC
 |0,_,_,_,_,_=>none
 |n+1,x0,x1,aQ,aH,aP=>mF.n4 N (mF.l6 N n) x0 x1 aQ aH aP
def mF.b(N:Nat)(pv:mF.eC)(a0:aj)(a1:Int)(a2:Int)(a3:Int):Option (bk×(Int)):=
 (sP N a0).bind fun r1=>cond (!r1) (some ([],(1:Int))) ((wD N a2).bind fun r2=>cond (!r2) (some ([],(1:Int))) ((wD N a3).bind fun r3=>cond (!r3) (some ([],(1:Int))) ((fT N a3).bind fun r4=>(fT N a2).bind fun r5=>(IQ N r4 r5).bind fun r6=>pv a0 a1 ([]) r6 (0:Int))))
def mF(N:Nat)(a0:aj)(a1:Int)(a2:Int)(a3:Int):Option (bk×(Int)):=mF.b N (mF.l6 N N) a0 a1 a2 a3
def Q6(N:Nat)(a0:aa)(a1:ah)(a2:Int)(a3:Int):Option (ah×bk×(Int)):=
 (bD N a0 a1).bind fun r1=>cond (!r1) (some ((aV,(cm,(bh,(bh,(cK,(cT,())))))),([]:List ((Int)×((Int)×(((Bool)×((List (Int))×(Unit)))×(Unit))))),(1:Int))) ((wD N a3).bind fun r2=>cond (!r2) (some ((aV,(cm,(bh,(bh,(cK,(cT,())))))),([]:List ((Int)×((Int)×(((Bool)×((List (Int))×(Unit)))×(Unit))))),(1:Int))) (cond (aM a2 0) (some ((aV,(cm,(bh,(bh,(cK,(cT,())))))),([]:List ((Int)×((Int)×(((Bool)×((List (Int))×(Unit)))×(Unit))))),(3:Int))) (cond (bS (List.length a0.1:Int) a2) (some ((aV,(cm,(bh,(bh,(cK,(cT,())))))),([]:List ((Int)×((Int)×(((Bool)×((List (Int))×(Unit)))×(Unit))))),(3:Int))) (cond (aL a2 (List.length a1.2.2.2.2.1)) ((mF N a1.2.2.2.1 a2 (List.getD a1.2.2.2.2.1 a2.toNat (0:Int)) a3).bind fun r3=>(yO N a1 bh r3.1).bind fun r4=>cond (!az r4.2 0) (some ((aV,(cm,(bh,(bh,(cK,(cT,())))))),([]:List ((Int)×((Int)×(((Bool)×((List (Int))×(Unit)))×(Unit))))),r4.2)) (cond (small (List.length cK+List.length a1.2.2.2.2.1)) (let v5:List (Int):=cK++a1.2.2.2.2.1;cond (aL a2 (List.length v5)) (some ((r4.1.1,(r4.1.2.1,(r4.1.2.2.1,(r4.1.2.2.2.1,((List.set v5 a2.toNat a3),r4.1.2.2.2.2.2))))),r3.1,(0:Int))) (none)) (none))) (none)))))
abbrev lC.bJ:=ax→Int→Option (Bool)
def lC.dx(N:Nat)(cz:lC.bJ)(x0:ax)(x3:Int):Option (Bool):=
 cond (aM x3 (List.length x0:Int)) (cond (aL x3 (List.length x0)) (cond (aM ((List.getD x0 x3.toNat bO).1) (1:Int)) (some false) (cond (aL x3 (List.length x0)) (cond (aM 24 ((List.getD x0 x3.toNat bO).1)) (some false) (cond (aL x3 (List.length x0)) (cond (az (((List.getD x0 x3.toNat bO).2).1) (0:Int)) (some false) (cond (aM 0 x3) (cond (aL x3 (List.length x0)) (let v2:Int:=W .i64 (x3-1);cond (aL v2 (List.length x0)) (cond (bS ((List.getD x0 x3.toNat bO).1) ((List.getD x0 v2.toNat bO).1)) (some false) (cz x0 (W .i64 (x3+1)))) (none)) (none)) (cz x0 (W .i64 (x3+1))))) (none))) (none))) (none)) (some true)
def lC.l2(N:Nat):Nat→lC.bJ
 |0,_,_=>none
 |n+1,x0,x3=>lC.dx N (lC.l2 N n) x0 x3
def lC.b(N:Nat)(eB:lC.bJ)(a0:ax):Option (Bool):=
 eB a0 (0:Int)
def lC(N:Nat)(a0:ax):Option (Bool):=lC.b N (lC.l2 N N) a0
abbrev cV.qM:=ax→bk→ax→Int→aw→Int→Option (ax×(Int))
abbrev cV.il:=ax→bk→ax→Int→aw→Int→Option (ax×(Int))
abbrev cV.bl:=ax→bk→ax→Int→Option (ax×(Int))
def cV.yI(N:Nat)(bc:cV.bl)(wa:cV.qM)(x0:ax)(x1:bk)(x6:ax)(x7:Int)(x8:aw)(aQ:Int):Option (ax×(Int)):=
 cond (aM aQ (List.length x1:Int)) (cond (aL aQ (List.length x1)) (cond (az ((List.getD x1 aQ.toNat ((0:Int),((0:Int),((false,kY),())))).1) (5:Int)) (cond (aL aQ (List.length x1)) (cond (az (((List.getD x1 aQ.toNat ((0:Int),((0:Int),((false,kY),())))).2).1) x7) (cond (aL aQ (List.length x1)) ((ur N x8 ((((List.getD x1 aQ.toNat ((0:Int),((0:Int),((false,kY),())))).2).2).1)).bind fun r8=>wa x0 x1 x6 x7 r8 (W .i64 (aQ+1))) (none)) (wa x0 x1 x6 x7 x8 (W .i64 (aQ+1)))) (none)) (wa x0 x1 x6 x7 x8 (W .i64 (aQ+1)))) (none)) ((qm N x8).bind fun mU=>cond (!mU.2) (some ([],(2:Int))) (cond (!az mU.1 0) (cond (small (List.length x6+List.length ([(x7,(mU.1,()))]))) (bc x0 x1 (x6++([(x7,(mU.1,()))])) (W .i64 (x7+1))) (none)) (bc x0 x1 x6 (W .i64 (x7+1)))))
def cV.AT(N:Nat)(bc:cV.bl):Nat→cV.qM
 |0,_,_,_,_,_,_=>none
 |n+1,x0,x1,x6,x7,x8,aQ=>cV.yI N bc (cV.AT N bc n) x0 x1 x6 x7 x8 aQ
def cV.rN(N:Nat)(EY:cV.qM)(bc:cV.bl)(mR:cV.il)(x0:ax)(x1:bk)(x6:ax)(x7:Int)(x8:aw)(x9:Int):Option (ax×(Int)):=
 cond (aM x9 (List.length x0:Int)) (cond (aL x9 (List.length x0)) (cond (az ((List.getD x0 x9.toNat bO).1) x7) (cond (aL x9 (List.length x0)) ((fT N (((List.getD x0 x9.toNat bO).2).1)).bind fun r4=>mR x0 x1 x6 x7 r4 (W .i64 (x9+1))) (none)) (mR x0 x1 x6 x7 x8 (W .i64 (x9+1)))) (none)) (EY x0 x1 x6 x7 x8 (0:Int))
def cV.l9(N:Nat)(bc:cV.bl):Nat→cV.il
 |0,_,_,_,_,_,_=>none
 |n+1,x0,x1,x6,x7,x8,x9=>cV.rN N (cV.AT N bc N) bc (cV.l9 N bc n) x0 x1 x6 x7 x8 x9
def cV.dd(N:Nat)(sL:cV.il)(bc:cV.bl)(x0:ax)(x1:bk)(x6:ax)(x7:Int):Option (ax×(Int)):=
 cond (bS x7 24) (sL x0 x1 x6 x7 (false,kY) (0:Int)) (some (x6,(0:Int)))
def cV.l5(N:Nat):Nat→cV.bl
 |0,_,_,_,_=>none
 |n+1,x0,x1,x6,x7=>cV.dd N (cV.l9 N (cV.l5 N n) N) (cV.l5 N n) x0 x1 x6 x7
def cV.b(N:Nat)(dz:cV.bl)(a0:ax)(a1:bk):Option (ax×(Int)):=
 (lC N a0).bind fun r1=>cond (!r1) (some ([],(1:Int))) (dz a0 a1 ([]) (1:Int))
def cV(N:Nat)(a0:ax)(a1:bk):Option (ax×(Int)):=cV.b N (cV.l5 N N) a0 a1
def K6(N:Nat)(a0:aJ)(a1:Int):Option ((Int)×(Bool)):=
 (fT N a0.1).bind fun r1=>(fT N a1).bind fun r2=>(ur N r1 r2).bind fun r3=>(qm N r3).bind fun r4=>some (r4.1,r4.2)
def Q2(N:Nat)(a0:Int)(a1:Int):Option ((Int)×(Bool)):=
 cond (az a0 0) (cond (az a1 1) (some ((1:Int),true)) (cond (az a0 1) (cond (az a1 11) (some ((2:Int),true)) (cond (az a0 2) (cond (az a1 12) (some ((1:Int),true)) (cond (az a0 2) (cond (az a1 13) (some ((3:Int),true)) (cond (az a0 3) (cond (az a1 21) (some ((4:Int),true)) (some ((0:Int),false))) (some ((0:Int),false)))) (cond (az a0 3) (cond (az a1 21) (some ((4:Int),true)) (some ((0:Int),false))) (some ((0:Int),false))))) (cond (az a0 2) (cond (az a1 13) (some ((3:Int),true)) (cond (az a0 3) (cond (az a1 21) (some ((4:Int),true)) (some ((0:Int),false))) (some ((0:Int),false)))) (cond (az a0 3) (cond (az a1 21) (some ((4:Int),true)) (some ((0:Int),false))) (some ((0:Int),false)))))) (cond (az a0 2) (cond (az a1 12) (some ((1:Int),true)) (cond (az a0 2) (cond (az a1 13) (some ((3:Int),true)) (cond (az a0 3) (cond (az a1 21) (some ((4:Int),true)) (some ((0:Int),false))) (some ((0:Int),false)))) (cond (az a0 3) (cond (az a1 21) (some ((4:Int),true)) (some ((0:Int),false))) (some ((0:Int),false))))) (cond (az a0 2) (cond (az a1 13) (some ((3:Int),true)) (cond (az a0 3) (cond (az a1 21) (some ((4:Int),true)) (some ((0:Int),false))) (some ((0:Int),false)))) (cond (az a0 3) (cond (az a1 21) (some ((4:Int),true)) (some ((0:Int),false))) (some ((0:Int),false))))))) (cond (az a0 1) (cond (az a1 11) (some ((2:Int),true)) (cond (az a0 2) (cond (az a1 12) (some ((1:Int),true)) (cond (az a0 2) (cond (az a1 13) (some ((3:Int),true)) (cond (az a0 3) (cond (az a1 21) (some ((4:Int),true)) (some ((0:Int),false))) (some ((0:Int),false)))) (cond (az a0 3) (cond (az a1 21) (some ((4:Int),true)) (some ((0:Int),false))) (some ((0:Int),false))))) (cond (az a0 2) (cond (az a1 13) (some ((3:Int),true)) (cond (az a0 3) (cond (az a1 21) (some ((4:Int),true)) (some ((0:Int),false))) (some ((0:Int),false)))) (cond (az a0 3) (cond (az a1 21) (some ((4:Int),true)) (some ((0:Int),false))) (some ((0:Int),false)))))) (cond (az a0 2) (cond (az a1 12) (some ((1:Int),true)) (cond (az a0 2) (cond (az a1 13) (some ((3:Int),true)) (cond (az a0 3) (cond (az a1 21) (some ((4:Int),true)) (some ((0:Int),false))) (some ((0:Int),false)))) (cond (az a0 3) (cond (az a1 21) (some ((4:Int),true)) (some ((0:Int),false))) (some ((0:Int),false))))) (cond (az a0 2) (cond (az a1 13) (some ((3:Int),true)) (cond (az a0 3) (cond (az a1 21) (some ((4:Int),true)) (some ((0:Int),false))) (some ((0:Int),false)))) (cond (az a0 3) (cond (az a1 21) (some ((4:Int),true)) (some ((0:Int),false))) (some ((0:Int),false))))))
abbrev kF.qL:=Int→Int→ax→Int→Option (ax×(Int))
def kF.yP(N:Nat)(uh:kF.qL)(x1:Int)(x9:Int)(aH:ax)(aP:Int):Option (ax×(Int)):=
 cond (aM aP (List.length aH:Int)) (cond (aL aP (List.length aH)) (cond (az ((List.getD aH aP.toNat bO).1) x1) (cond (aL aP (List.length aH)) (uh x1 x9 (List.set aH aP.toNat ((List.getD aH aP.toNat bO).1,(x9,((List.getD aH aP.toNat bO).2).2))) (W .i64 (aP+1))) (none)) (uh x1 x9 aH (W .i64 (aP+1)))) (none)) (some (aH,(0:Int)))
def kF.A4(N:Nat):Nat→kF.qL
 |0,_,_,_,_=>none
 |n+1,x1,x9,aH,aP=>kF.yP N (kF.A4 N n) x1 x9 aH aP
def kF.b(N:Nat)(EX:kF.qL)(a0:ax)(a1:Int)(a2:Int):Option (ax×(Int)):=
 (jl N a0).bind fun r1=>cond (!r1) (some ([],(1:Int))) ((iG N a0 a1).bind fun r2=>cond (az r2 0) (some ([],(3:Int))) ((Q2 N r2 a2).bind fun r3=>cond (!r3.2) (some ([],(8:Int))) (cond (small (List.length aV+List.length a0)) (EX a1 r3.1 (aV++a0) (0:Int)) (none))))
def kF(N:Nat)(a0:ax)(a1:Int)(a2:Int):Option (ax×(Int)):=kF.b N (kF.A4 N N) a0 a1 a2
abbrev mD.bl:=ay→Int→(List (Int))→Int→Option (List (Int))
def mD.dd(N:Nat)(bc:mD.bl)(x0:ay)(x1:Int)(x5:List (Int))(x6:Int):Option (List (Int)):=
 cond (aM x6 (List.length x0:Int)) (cond (aL x6 (List.length x0)) (cond (az (((List.getD x0 x6.toNat aA).2).1) x1) (cond (aL x6 (List.length x0)) (cond (small (List.length x5+List.length ([(List.getD x0 x6.toNat aA).1]))) (bc x0 x1 (x5++([(List.getD x0 x6.toNat aA).1])) (W .i64 (x6+1))) (none)) (none)) (bc x0 x1 x5 (W .i64 (x6+1)))) (none)) (some x5)
def mD.l5(N:Nat):Nat→mD.bl
 |0,_,_,_,_=>none
 |n+1,x0,x1,x5,x6=>mD.dd N (mD.l5 N n) x0 x1 x5 x6
def mD.b(N:Nat)(dz:mD.bl)(a0:ay)(a1:Int):Option (List (Int)):=
 (g2 N a0).bind fun r1=>cond (!r1) (some ([])) (dz a0 a1 ([]) (0:Int))
def mD(N:Nat)(a0:ay)(a1:Int):Option (List (Int)):=mD.b N (mD.l5 N N) a0 a1
abbrev eI.il:=a6→(List (Int))→a6→Int→Bool→Int→Option a6
abbrev eI.bl:=a6→(List (Int))→a6→Int→Option a6
def eI.rN(N:Nat)(bc:eI.bl)(mR:eI.il)(x0:a6)(x1:List (Int))(x5:a6)(x6:Int)(x7:Bool)(x8:Int):Option a6:=
 cond (aM x8 (List.length x1:Int)) (cond (x7) (mR x0 x1 x5 x6 true (W .i64 (x8+1))) (cond (aL x8 (List.length x1)) (cond (aL x6 (List.length x0)) (mR x0 x1 x5 x6 (az (List.getD x1 x8.toNat (0:Int)) (((List.getD x0 x6.toNat dZ).2).1)) (W .i64 (x8+1))) (none)) (none))) (cond (!x7) (cond (aL x6 (List.length x0)) (cond (small (List.length x5+List.length ([List.getD x0 x6.toNat dZ]))) (bc x0 x1 (x5++([List.getD x0 x6.toNat dZ])) (W .i64 (x6+1))) (none)) (none)) (bc x0 x1 x5 (W .i64 (x6+1))))
def eI.l9(N:Nat)(bc:eI.bl):Nat→eI.il
 |0,_,_,_,_,_,_=>none
 |n+1,x0,x1,x5,x6,x7,x8=>eI.rN N bc (eI.l9 N bc n) x0 x1 x5 x6 x7 x8
def eI.dd(N:Nat)(sL:eI.il)(bc:eI.bl)(x0:a6)(x1:List (Int))(x5:a6)(x6:Int):Option a6:=
 cond (aM x6 (List.length x0:Int)) (sL x0 x1 x5 x6 false (0:Int)) (some x5)
def eI.l5(N:Nat):Nat→eI.bl
 |0,_,_,_,_=>none
 |n+1,x0,x1,x5,x6=>eI.dd N (eI.l9 N (eI.l5 N n) N) (eI.l5 N n) x0 x1 x5 x6
def eI.b(N:Nat)(dz:eI.bl)(a0:a6)(a1:List (Int)):Option a6:=
 (iF N a0).bind fun r1=>cond (!r1) (some ([])) (dz a0 a1 ([]) (0:Int))
def eI(N:Nat)(a0:a6)(a1:List (Int)):Option a6:=eI.b N (eI.l5 N N) a0 a1
def KS(N:Nat)(a0:aa)(a1:ah)(a2:Int):Option (ah×(Int)):=
 (bD N a0 a1).bind fun r1=>cond (!r1) (some ((aV,(cm,(bh,(bh,(cK,(cT,())))))),(1:Int))) ((tC N a1.1 a2).bind fun r2=>cond (az r2 0) (some ((aV,(cm,(bh,(bh,(cK,(cT,())))))),(3:Int))) ((mD N a1.2.1 a2).bind fun r3=>(eI N a1.2.2.2.2.2.1 r3).bind fun r4=>some ((a1.1,(a1.2.1,(a1.2.2.1,(a1.2.2.2.1,(a1.2.2.2.2.1,(r4,a1.2.2.2.2.2.2)))))),(0:Int))))
def Qu(N:Nat)(a0:bp):Option (Bool):=
 cond (bS 1 a0.1) (cond (bS a0.1 1099511627776) (cond (bS 1 a0.2.1) (cond (bS a0.2.1 1099511627776) (cond (bS 1 a0.2.2.1) (cond (bS a0.2.2.1 12) (cond (bS (-1152921504606846976) a0.2.2.2.1) (some (bS a0.2.2.2.1 1152921504606846976)) (some false)) (some false)) (some false)) (some false)) (some false)) (some false)) (some false)
abbrev cP.il:=ay→Int→Int→Option (Bool)
abbrev cP.HV:=ay→Int→Option (Bool)
abbrev cP.ba:=ay→Int→Option (Bool)
def cP.rN(N:Nat)(bw:cP.ba)(mR:cP.il)(x0:ay)(x3:Int)(x4:Int):Option (Bool):=
 cond (aM x4 x3) (cond (aL x4 (List.length x0)) (cond (aL x3 (List.length x0)) (cond (az ((((List.getD x0 x4.toNat aA).2).2).1) ((((List.getD x0 x3.toNat aA).2).2).1)) (cond (aL x4 (List.length x0)) (cond (aL x3 (List.length x0)) (cond (az (((List.getD x0 x4.toNat aA).2).1) (((List.getD x0 x3.toNat aA).2).1)) (some false) (mR x0 x3 (W .i64 (x4+1)))) (none)) (none)) (mR x0 x3 (W .i64 (x4+1)))) (none)) (none)) (bw x0 (W .i64 (x3+1)))
def cP.l9(N:Nat)(bw:cP.ba):Nat→cP.il
 |0,_,_,_=>none
 |n+1,x0,x3,x4=>cP.rN N bw (cP.l9 N bw n) x0 x3 x4
def cP.Hk(N:Nat)(sL:cP.il)(bw:cP.ba)(x0:ay)(x3:Int):Option (Bool):=
 sL x0 x3 (0:Int)
def cP.j8(N:Nat)(bw:cP.ba)(x0:ay)(x3:Int):Option (Bool):=cP.Hk N (cP.l9 N bw N) bw x0 x3
def cP.cL(N:Nat)(y7:cP.HV)(bw:cP.ba)(x0:ay)(x3:Int):Option (Bool):=
 cond (aM x3 (List.length x0:Int)) (cond (aL x3 (List.length x0)) ((Qu N (List.getD x0 x3.toNat aA)).bind fun r2=>cond (!r2) (some false) (cond (aM 0 x3) (cond (aL x3 (List.length x0)) (let v3:Int:=W .i64 (x3-1);cond (aL v3 (List.length x0)) (cond (bS ((List.getD x0 x3.toNat aA).1) ((List.getD x0 v3.toNat aA).1)) (some false) (y7 x0 x3)) (none)) (none)) (y7 x0 x3))) (none)) (some true)
def cP.l4(N:Nat):Nat→cP.ba
 |0,_,_=>none
 |n+1,x0,x3=>cP.cL N (cP.j8 N (cP.l4 N n)) (cP.l4 N n) x0 x3
def cP.b(N:Nat)(df:cP.ba)(a0:ay):Option (Bool):=
 cond (aM 40 (List.length a0:Int)) (some false) (df a0 (0:Int))
def cP(N:Nat)(a0:ay):Option (Bool):=cP.b N (cP.l4 N N) a0
abbrev kU.bl:=ay→Int→ay→Int→Option ay
def kU.dd(N:Nat)(bc:kU.bl)(x0:ay)(x1:Int)(x5:ay)(x6:Int):Option ay:=
 cond (aM x6 (List.length x0:Int)) (cond (aL x6 (List.length x0)) (cond (!az ((((List.getD x0 x6.toNat aA).2).2).1) x1) (cond (aL x6 (List.length x0)) (cond (small (List.length x5+List.length ([List.getD x0 x6.toNat aA]))) (bc x0 x1 (x5++([List.getD x0 x6.toNat aA])) (W .i64 (x6+1))) (none)) (none)) (bc x0 x1 x5 (W .i64 (x6+1)))) (none)) (some x5)
def kU.l5(N:Nat):Nat→kU.bl
 |0,_,_,_,_=>none
 |n+1,x0,x1,x5,x6=>kU.dd N (kU.l5 N n) x0 x1 x5 x6
def kU.b(N:Nat)(dz:kU.bl)(a0:ay)(a1:Int):Option ay:=
 (cP N a0).bind fun r1=>cond (!r1) (some ([])) (dz a0 a1 ([]) (0:Int))
def kU(N:Nat)(a0:ay)(a1:Int):Option ay:=kU.b N (kU.l5 N N) a0 a1
def Rm(N:Nat)(a0:aJ)(a1:Int):Option (Bool):=
 cond (az a1 14) (cond (az a0.2.2.2.1.2.1 1) (some (aM a0.1 a0.2.2.2.1.2.2.1)) (some false)) (cond (az a1 15) (cond (az a0.2.2.2.1.2.1 1) (some (bS a0.2.2.2.1.2.2.1 a0.1)) (some false)) (cond (az a1 19) (cond (az a0.2.2.2.1.2.1 3) (some (aM a0.1 a0.2.2.2.1.2.2.1)) (some false)) (cond (az a1 20) (cond (az a0.2.2.2.1.2.1 3) (some (bS a0.2.2.2.1.2.2.1 a0.1)) (some false)) (some (az a0.2.2.2.1.2.1 2)))))
def Ci(N:Nat)(a0:ah)(a1:Int):Option (Int):=
 (tC N a0.1 a1).bind fun r1=>some r1
abbrev kV.bl:=ax→Bool→aa→aw→aw→Int→Option (aw×(Int))
def kV.dd(N:Nat)(bc:kV.bl)(x1:ax)(x2:Bool)(x3:aa)(x6:aw)(x8:aw)(x9:Int):Option (aw×(Int)):=
 cond (aM x9 (List.length x1:Int)) (cond (aL x9 (List.length x1)) (cond (aL ((List.getD x1 x9.toNat bO).1) (List.length x3.1)) (cond (x2) (cond (aL x9 (List.length x1)) (cond (aL ((List.getD x1 x9.toNat bO).1) (List.length x3.1)) (cond (aL x9 (List.length x1)) ((fT N (((List.getD x1 x9.toNat bO).2).1)).bind fun r3=>(MM N r3).bind fun r4=>(fT N (((((List.getD x3.1 ((List.getD x1 x9.toNat bO).1).toNat aA).2).2).2).1)).bind fun r5=>(fF N r4 r5).bind fun r6=>(ur N x8 r6).bind fun r7=>bc x1 x2 x3 x6 r7 (W .i64 (x9+1))) (none)) (none)) (none)) (cond (aL x9 (List.length x1)) ((fT N (((List.getD x1 x9.toNat bO).2).1)).bind fun r9=>(MM N r9).bind fun ji=>(fT N ((((List.getD x3.1 ((List.getD x1 x9.toNat bO).1).toNat aA).2).2).1)).bind fun lR=>(fF N ji lR).bind fun mU=>(ur N x8 mU).bind fun kI=>bc x1 x2 x3 x6 kI (W .i64 (x9+1))) (none))) (none)) (none)) (some (x8,(0:Int)))
def kV.l5(N:Nat):Nat→kV.bl
 |0,_,_,_,_,_,_=>none
 |n+1,x1,x2,x3,x6,x8,x9=>kV.dd N (kV.l5 N n) x1 x2 x3 x6 x8 x9
def kV.b(N:Nat)(dz:kV.bl)(a0:aa)(a1:ax)(a2:Bool):Option (aw×(Int)):=
 (jb N a0 a1).bind fun r1=>cond (!r1) (some ((false,kY),(1:Int))) (dz a1 a2 a0 (false,kY) (false,kY) (0:Int))
def kV(N:Nat)(a0:aa)(a1:ax)(a2:Bool):Option (aw×(Int)):=kV.b N (kV.l5 N N) a0 a1 a2
def XO(N:Nat)(a0:aa)(a1:ax):Option (aw×(Int)):=
 (kV N a0 a1 false).bind fun r1=>some (r1.1,r1.2)
def HI(N:Nat)(a0:ah)(a1:Int):Option (Int):=
 (oz N a0.2.2.1 (5:Int) a1).bind fun r1=>some r1
def Ra(N:Nat)(a0:aa)(a1:ah)(a2:Int)(a3:Int)(a4:Int):Option (Int):=
 (bD N a0 a1).bind fun r1=>cond (!r1) (some (1:Int)) ((ye N a1.2.1 a4).bind fun r2=>cond (!r2.2) (some (3:Int)) ((Ci N a1 a2).bind fun r3=>cond (az r3 0) (some (3:Int)) ((Ci N a1 a3).bind fun r4=>cond (az r4 0) (some (3:Int)) (cond (!az r2.1.2.1 a2) (some (8:Int)) (cond (!az r2.1.2.2.1 2) (some (8:Int)) ((Ci N a1 a3).bind fun r5=>cond (!az r5 1) (some (7:Int)) ((rQ N a1.2.2.2.1 a4).bind fun r6=>(XO N a0 r6).bind fun r7=>(HI N a1 a4).bind fun r8=>(fT N r8).bind fun r9=>(Gp N r9 r7.1).bind fun ji=>cond (aM ji 0) (some (10:Int)) (some (0:Int)))))))))
abbrev mC.eG:=Int→Int→ay→Int→Option (ay×(Int))
def mC.lx(N:Nat)(fD:mC.eG)(x2:Int)(x3:Int)(bf:ay)(bx:Int):Option (ay×(Int)):=
 cond (aM bx (List.length bf:Int)) (cond (aL bx (List.length bf)) (cond (az ((List.getD bf bx.toNat aA).1) x2) (cond (aL bx (List.length bf)) (fD x2 x3 (List.set bf bx.toNat ((List.getD bf bx.toNat aA).1,(x3,((List.getD bf bx.toNat aA).2).2))) (W .i64 (bx+1))) (none)) (fD x2 x3 bf (W .i64 (bx+1)))) (none)) (some (bf,(0:Int)))
def mC.nA(N:Nat):Nat→mC.eG
 |0,_,_,_,_=>none
 |n+1,x2,x3,bf,bx=>mC.lx N (mC.nA N n) x2 x3 bf bx
def mC.b(N:Nat)(qH:mC.eG)(a0:ax)(a1:ay)(a2:Int)(a3:Int):Option (ay×(Int)):=
 (jG N a0 a1).bind fun r1=>cond (!r1) (some ([],(1:Int))) ((jm N a1 a2).bind fun r2=>(iG N a0 a3).bind fun r3=>cond (!r2.2) (some ([],(3:Int))) (cond (az r3 0) (some ([],(3:Int))) (cond (!az r2.1.2.2.1 2) (some ([],(8:Int))) (cond (!az r3 1) (some ([],(7:Int))) (cond (small (List.length cm+List.length a1)) (qH a2 a3 (cm++a1) (0:Int)) (none))))))
def mC(N:Nat)(a0:ax)(a1:ay)(a2:Int)(a3:Int):Option (ay×(Int)):=mC.b N (mC.nA N N) a0 a1 a2 a3
def Q9(N:Nat)(a0:aa)(a1:ah)(a2:Int)(a3:Int)(a4:Int):Option (ah×(Int)):=
 (Ra N a0 a1 a2 a3 a4).bind fun r1=>cond (!az r1 0) (some ((aV,(cm,(bh,(bh,(cK,(cT,())))))),r1)) ((mC N a1.1 a1.2.1 a4 a3).bind fun r2=>cond (!az r2.2 0) (some ((aV,(cm,(bh,(bh,(cK,(cT,())))))),r2.2)) (some ((a1.1,(r2.1,a1.2.2)),(0:Int))))
def N5(N:Nat)(a0:aa)(a1:ax):Option (aw×(Int)):=
 (kV N a0 a1 true).bind fun r1=>some (r1.1,r1.2)
def Rj(N:Nat)(a0:aa)(a1:ah)(a2:Int):Option ((Int)×(Int)):=
 (bD N a0 a1).bind fun r1=>cond (!r1) (some ((0:Int),(1:Int))) ((ye N a1.2.1 a2).bind fun r2=>cond (!r2.2) (some ((0:Int),(3:Int))) ((rQ N a1.2.2.2.1 a2).bind fun r3=>(N5 N a0 r3).bind fun r4=>(HI N a1 a2).bind fun r5=>cond (bS r5 0) (some ((0:Int),(0:Int))) ((qm N r4.1).bind fun r6=>cond (r6.2) (cond (aM r6.1 r5) (some (r6.1,(0:Int))) (some (r5,(0:Int)))) (some (r5,(0:Int))))))
abbrev lE.bl:=aj→Int→Int→aj→Int→Option aj
def lE.dd(N:Nat)(bc:lE.bl)(x0:aj)(x1:Int)(x2:Int)(x7:aj)(x8:Int):Option aj:=
 cond (aM x8 (List.length x0:Int)) (cond (aL x8 (List.length x0)) (cond (az ((List.getD x0 x8.toNat a7).1) x1) (cond (aL x8 (List.length x0)) (cond (aL x8 (List.length x0)) (let v3:Int:=W .i64 (0-((((List.getD x0 x8.toNat a7).2).2).1));cond (aL x8 (List.length x0)) (cond (aL x8 (List.length x0)) (cond (small (List.length x7+List.length ([(x1,(((List.getD x0 x8.toNat a7).2).1,(v3,()))),(x2,(((List.getD x0 x8.toNat a7).2).1,((((List.getD x0 x8.toNat a7).2).2).1,())))]))) (bc x0 x1 x2 (x7++([(x1,(((List.getD x0 x8.toNat a7).2).1,(v3,()))),(x2,(((List.getD x0 x8.toNat a7).2).1,((((List.getD x0 x8.toNat a7).2).2).1,())))])) (W .i64 (x8+1))) (none)) (none)) (none)) (none)) (none)) (bc x0 x1 x2 x7 (W .i64 (x8+1)))) (none)) (some x7)
def lE.l5(N:Nat):Nat→lE.bl
 |0,_,_,_,_,_=>none
 |n+1,x0,x1,x2,x7,x8=>lE.dd N (lE.l5 N n) x0 x1 x2 x7 x8
def lE.b(N:Nat)(dz:lE.bl)(a0:aj)(a1:Int)(a2:Int):Option aj:=
 (sP N a0).bind fun r1=>cond (!r1) (some ([])) (cond (az a1 a2) (some ([])) (cond (aM a1 0) (some ([])) (cond (aM 24 a1) (some ([])) (cond (aM a2 0) (some ([])) (cond (aM 24 a2) (some ([])) (dz a0 a1 a2 ([]) (0:Int)))))))
def lE(N:Nat)(a0:aj)(a1:Int)(a2:Int):Option aj:=lE.b N (lE.l5 N N) a0 a1 a2
abbrev fp.zd:=Int→aa→ah→ah→aj→bk→Int→bp→Option (ah×(Int))
abbrev fp.fh:=Int→aa→ah→ah→aj→bk→Int→Option (ah×(Int))
def fp.sI(N:Nat)(dr:fp.fh)(x2:Int)(x3:aa)(x4:ah)(x6:ah)(x8:aj)(x9:bk)(aQ:Int)(aH:bp):Option (ah×(Int)):=
 (HI N x4 aH.1).bind fun ji=>cond (aM ji 0) ((fT N ji).bind fun lR=>(Lp N lR).bind fun mU=>(yS N (2:Int) (0:Int) (5:Int) aH.1 mU).bind fun kI=>cond (small (List.length x9+List.length kI)) ((lE N x4.2.2.2.1 aH.1 (0:Int)).bind fun rT=>cond (small (List.length x8+List.length rT)) (dr x2 x3 x4 x6 (x8++rT) (x9++kI) (W .i64 (aQ+1))) (none)) (none)) ((lE N x4.2.2.2.1 aH.1 (0:Int)).bind fun uv=>cond (small (List.length x8+List.length uv)) (dr x2 x3 x4 x6 (x8++uv) x9 (W .i64 (aQ+1))) (none))
def fp.zX(N:Nat)(dr:fp.fh)(x2:Int)(x3:aa)(x4:ah)(x6:ah)(x8:aj)(x9:bk)(aQ:Int)(aH:bp):Option (ah×(Int)):=fp.sI N dr x2 x3 x4 x6 x8 x9 aQ aH
def fp.w5(N:Nat)(pJ:fp.zd)(dr:fp.fh)(x2:Int)(x3:aa)(x4:ah)(x6:ah)(x8:aj)(x9:bk)(aQ:Int):Option (ah×(Int)):=
 cond (aM aQ (List.length x4.2.1:Int)) (cond (aL aQ (List.length x4.2.1)) (cond (!az (((List.getD x4.2.1 aQ.toNat aA).2).1) x2) (dr x2 x3 x4 x6 x8 x9 (W .i64 (aQ+1))) (cond (az ((((List.getD x4.2.1 aQ.toNat aA).2).2).1) (2:Int)) ((Rj N x3 x4 ((List.getD x4.2.1 aQ.toNat aA).1)).bind fun r5=>(fT N r5.1).bind fun r6=>(yS N (5:Int) ((List.getD x4.2.1 aQ.toNat aA).1) (2:Int) (0:Int) r6).bind fun r7=>cond (small (List.length x9+List.length r7)) (pJ x2 x3 x4 x6 x8 (x9++r7) aQ (List.getD x4.2.1 aQ.toNat aA)) (none)) (pJ x2 x3 x4 x6 x8 x9 aQ (List.getD x4.2.1 aQ.toNat aA)))) (none)) ((yO N x4 x8 x9).bind fun y3=>some (y3.1,y3.2))
def fp.l8(N:Nat):Nat→fp.fh
 |0,_,_,_,_,_,_,_=>none
 |n+1,x2,x3,x4,x6,x8,x9,aQ=>fp.w5 N (fp.zX N (fp.l8 N n)) (fp.l8 N n) x2 x3 x4 x6 x8 x9 aQ
def fp.b(N:Nat)(zc:fp.fh)(a0:aa)(a1:ah)(a2:Int):Option (ah×(Int)):=
 (bD N a0 a1).bind fun r1=>cond (!r1) (some ((aV,(cm,(bh,(bh,(cK,(cT,())))))),(1:Int))) ((Ci N a1 a2).bind fun r2=>cond (az r2 0) (some ((aV,(cm,(bh,(bh,(cK,(cT,())))))),(3:Int))) (zc a2 a0 a1 (aV,(cm,(bh,(bh,(cK,(cT,())))))) ([]) ([]) (0:Int)))
def fp(N:Nat)(a0:aa)(a1:ah)(a2:Int):Option (ah×(Int)):=fp.b N (fp.l8 N N) a0 a1 a2
abbrev mw.bl:=aa→ah→kz→Int→Option (kz×(Int))
def mw.dd(N:Nat)(bc:mw.bl)(x2:aa)(x3:ah)(x6:kz)(x7:Int):Option (kz×(Int)):=
 cond (aM x7 (List.length x2.1:Int)) (cond (aL x7 (List.length x2.1)) (cond (aL ((List.getD x2.1 x7.toNat aA).1) (List.length x6)) ((sQ N x3.2.2.2.1 (0:Int) x7).bind fun r4=>(fT N r4).bind fun r5=>cond (aL x7 (List.length x3.2.2.2.2.1)) ((fT N (List.getD x3.2.2.2.2.1 x7.toNat (0:Int))).bind fun r6=>(fF N r5 r6).bind fun r7=>(ur N (List.getD x6 ((List.getD x2.1 x7.toNat aA).1).toNat (false,kY)) r7).bind fun r8=>cond (aL ((List.getD x2.1 x7.toNat aA).1) (List.length x6)) (bc x2 x3 (List.set x6 ((List.getD x2.1 x7.toNat aA).1).toNat r8) (W .i64 (x7+1))) (none)) (none)) (none)) (none)) (some (x6,(0:Int)))
def mw.l5(N:Nat):Nat→mw.bl
 |0,_,_,_,_=>none
 |n+1,x2,x3,x6,x7=>mw.dd N (mw.l5 N n) x2 x3 x6 x7
def mw.b(N:Nat)(dz:mw.bl)(a0:aa)(a1:ah):Option (kz×(Int)):=
 (bD N a0 a1).bind fun r1=>cond (!r1) (some ([],(1:Int))) (cond (fK 4 4) (dz a0 a1 (List.replicate (4:Int).toNat (false,kY)) (0:Int)) (none))
def mw(N:Nat)(a0:aa)(a1:ah):Option (kz×(Int)):=mw.b N (mw.l5 N N) a0 a1
abbrev vO.bl:=Int→aa→(List (Int))→Int→Option (List (Int))
def vO.dd(N:Nat)(bc:vO.bl)(x1:Int)(x2:aa)(x5:List (Int))(x6:Int):Option (List (Int)):=
 cond (aM x6 (List.length x2.1:Int)) (cond (aL x6 (List.length x2.1)) (cond (az ((List.getD x2.1 x6.toNat aA).1) x1) (cond (small (List.length x5+List.length ([x6]))) (bc x1 x2 (x5++([x6])) (W .i64 (x6+1))) (none)) (bc x1 x2 x5 (W .i64 (x6+1)))) (none)) (some x5)
def vO.l5(N:Nat):Nat→vO.bl
 |0,_,_,_,_=>none
 |n+1,x1,x2,x5,x6=>vO.dd N (vO.l5 N n) x1 x2 x5 x6
def vO.b(N:Nat)(dz:vO.bl)(a0:aa)(a1:Int):Option (List (Int)):=
 (hQ N a0).bind fun r1=>cond (!r1) (some ([])) (dz a1 a0 ([]) (0:Int))
def vO(N:Nat)(a0:aa)(a1:Int):Option (List (Int)):=vO.b N (vO.l5 N N) a0 a1
abbrev kQ.ba:=(List (Int))→(List (Int))→Int→Int→Option ((List (Int))×(Int))
def kQ.cL(N:Nat)(bw:kQ.ba)(x0:List (Int))(x4:List (Int))(x5:Int)(x6:Int):Option ((List (Int))×(Int)):=
 cond (bS 0 x6) (cond (aM 32 0) (none) (cond (aL x6 (List.length x0)) (let v5:Int:=n5 .or .u64 (W .u64 (shl .u64 x5 32)) (List.getD x0 x6.toNat (0:Int));cond (aM 1 0) (none) (cond (aL x6 (List.length x4)) (bw x0 (List.set x4 x6.toNat (shr .u64 v5 1)) (n5 .and .u64 v5 1) (W .i64 (x6-1))) (none))) (none))) ((jB N x4).bind fun ji=>some (ji,x5))
def kQ.l4(N:Nat):Nat→kQ.ba
 |0,_,_,_,_=>none
 |n+1,x0,x4,x5,x6=>kQ.cL N (kQ.l4 N n) x0 x4 x5 x6
def kQ.b(N:Nat)(df:kQ.ba)(a0:List (Int)):Option ((List (Int))×(Int)):=
 cond (fK (List.length a0:Int) (List.length a0:Int)) (df a0 (List.replicate (List.length a0:Int).toNat (0:Int)) (0:Int) (W .i64 ((List.length a0:Int)-1))) (none)
def kQ(N:Nat)(a0:List (Int)):Option ((List (Int))×(Int)):=kQ.b N (kQ.l4 N N) a0
abbrev eH.il:=aw→aw→aw→aw→(List (Int))→aw→aw→Int→Option (aw×aw)
abbrev eH.cq:=aw→aw→aw→aw→(List (Int))→(List (Int))→Option (aw×aw)
def eH.rN(N:Nat)(mR:eH.il)(x2:aw)(x3:aw)(x4:aw)(x5:aw)(x6:List (Int))(aQ:aw)(aH:aw)(aP:Int):Option (aw×aw):=
 cond (bS 0 aP) ((ur N aQ aQ).bind fun r6=>(ur N aH aH).bind fun r7=>cond (aL aP (List.length x6)) (cond (az (List.getD x6 aP.toNat (0:Int)) (1:Int)) ((fT N (1:Int)).bind fun r8=>(ur N r7 r8).bind fun r9=>(Gp N r9 x3).bind fun ji=>cond (bS 0 ji) ((IQ N r9 x3).bind fun lR=>(fT N (1:Int)).bind fun mU=>(ur N r6 mU).bind fun kI=>mR x2 x3 x4 x5 x6 kI lR (W .i64 (aP-1))) (mR x2 x3 x4 x5 x6 r6 r9 (W .i64 (aP-1)))) ((Gp N r7 x3).bind fun u7=>cond (bS 0 u7) ((IQ N r7 x3).bind fun rS=>(fT N (1:Int)).bind fun uv=>(ur N r6 uv).bind fun EZ=>mR x2 x3 x4 x5 x6 EZ rS (W .i64 (aP-1))) (mR x2 x3 x4 x5 x6 r6 r7 (W .i64 (aP-1))))) (none)) (cond (!x2.1) (some (aQ,aH)) ((IS N aH).bind fun Gv=>cond (az Gv 0) ((Lp N aQ).bind fun y4=>some (y4,aH)) ((Lp N aQ).bind fun zr=>(fT N (1:Int)).bind fun CN=>(IQ N zr CN).bind fun vY=>(IQ N x3 aH).bind fun Le=>some (vY,Le))))
def eH.l9(N:Nat):Nat→eH.il
 |0,_,_,_,_,_,_,_,_=>none
 |n+1,x2,x3,x4,x5,x6,aQ,aH,aP=>eH.rN N (eH.l9 N n) x2 x3 x4 x5 x6 aQ aH aP
def eH.iE(N:Nat)(sL:eH.il)(bZ:eH.cq)(x2:aw)(x3:aw)(x4:aw)(x5:aw)(x6:List (Int))(x7:List (Int)):Option (aw×aw):=
 cond (aM 0 (List.length x7:Int)) ((kQ N x7).bind fun r2=>cond (small (List.length x6+List.length ([r2.2]))) (bZ x2 x3 x4 x5 (x6++([r2.2])) r2.1) (none)) (sL x2 x3 x4 x5 x6 (false,kY) (false,kY) (W .i64 ((List.length x6:Int)-1)))
def eH.l3(N:Nat):Nat→eH.cq
 |0,_,_,_,_,_,_=>none
 |n+1,x2,x3,x4,x5,x6,x7=>eH.iE N (eH.l9 N N) (eH.l3 N n) x2 x3 x4 x5 x6 x7
def eH.b(N:Nat)(jj:eH.cq)(a0:aw)(a1:aw):Option (aw×aw):=
 jj a0 a1 (false,kY) (false,kY) ([]) a0.2.1
def eH(N:Nat)(a0:aw)(a1:aw):Option (aw×aw):=eH.b N (eH.l3 N N) a0 a1
abbrev pf.zd:=Int→aa→ah→kz→ay→Int→(List (Int))→Int→Option (ay×(Int))
abbrev pf.eC:=Int→aa→ah→kz→ay→Int→Option (ay×(Int))
def pf.sI(N:Nat)(eu:pf.eC)(x2:Int)(x3:aa)(x4:ah)(x8:kz)(aQ:ay)(aH:Int)(aP:List (Int))(cC:Int):Option (ay×(Int)):=
 cond (az cC 0) (eu x2 x3 x4 x8 aQ (W .i64 (aH+1))) (cond (aL 0 (List.length aP)) (cond (aL aH (List.length x8)) ((IS N (List.getD x8 aH.toNat (false,kY))).bind fun rC=>cond (aM 0 rC) (cond (small (List.length aQ+List.length ([(x2,(List.getD aP (0:Int).toNat (0:Int),((2:Int),(cC,()))))]))) (eu (W .i64 (x2+1)) x3 x4 x8 (aQ++([(x2,(List.getD aP (0:Int).toNat (0:Int),((2:Int),(cC,()))))])) (W .i64 (aH+1))) (none)) (cond (small (List.length aQ+List.length ([(x2,(List.getD aP (0:Int).toNat (0:Int),((1:Int),(cC,()))))]))) (eu (W .i64 (x2+1)) x3 x4 x8 (aQ++([(x2,(List.getD aP (0:Int).toNat (0:Int),((1:Int),(cC,()))))])) (W .i64 (aH+1))) (none))) (none)) (none))
def pf.zX(N:Nat)(eu:pf.eC)(x2:Int)(x3:aa)(x4:ah)(x8:kz)(aQ:ay)(aH:Int)(aP:List (Int))(cC:Int):Option (ay×(Int)):=pf.sI N eu x2 x3 x4 x8 aQ aH aP cC
def pf.n4(N:Nat)(pJ:pf.zd)(eu:pf.eC)(x2:Int)(x3:aa)(x4:ah)(x8:kz)(aQ:ay)(aH:Int):Option (ay×(Int)):=
 cond (aM aH 4) ((vO N x3 aH).bind fun r3=>cond (aL aH (List.length x8)) ((MM N (List.getD x8 aH.toNat (false,kY))).bind fun r4=>cond (az (List.length r3:Int) 0) (eu x2 x3 x4 x8 aQ (W .i64 (aH+1))) ((fT N x3.2.2.2.2.2.2.1).bind fun r6=>(Gp N r4 r6).bind fun r7=>cond (bS r7 0) (eu x2 x3 x4 x8 aQ (W .i64 (aH+1))) (cond (aL 0 (List.length r3)) (cond (aL (List.getD r3 (0:Int).toNat (0:Int)) (List.length x4.2.2.2.2.1)) ((fT N (List.getD x4.2.2.2.2.1 (List.getD r3 (0:Int).toNat (0:Int)).toNat (0:Int))).bind fun r9=>(eH N r4 r9).bind fun ji=>(qm N ji.1).bind fun lR=>cond (!lR.2) (pJ x2 x3 x4 x8 aQ aH r3 (1000000000:Int)) (cond (aM 1000000000 lR.1) (pJ x2 x3 x4 x8 aQ aH r3 (1000000000:Int)) (pJ x2 x3 x4 x8 aQ aH r3 lR.1))) (none)) (none)))) (none)) (some (aQ,(0:Int)))
def pf.l6(N:Nat):Nat→pf.eC
 |0,_,_,_,_,_,_=>none
 |n+1,x2,x3,x4,x8,aQ,aH=>pf.n4 N (pf.zX N (pf.l6 N n)) (pf.l6 N n) x2 x3 x4 x8 aQ aH
def pf.b(N:Nat)(pv:pf.eC)(a0:aa)(a1:ah)(a2:Int):Option (ay×(Int)):=
 (mw N a0 a1).bind fun r1=>cond (!az r1.2 0) (some ([],(1:Int))) (cond (aM a2 1) (some ([],(1:Int))) (cond (aM 1099511627772 a2) (some ([],(1:Int))) (pv a2 a0 a1 r1.1 ([]) (0:Int))))
def pf(N:Nat)(a0:aa)(a1:ah)(a2:Int):Option (ay×(Int)):=pf.b N (pf.l6 N N) a0 a1 a2
def QN(N:Nat)(a0:bp):Option (Bool):=
 cond (bS 1 a0.1) (cond (bS a0.1 1099511627776) (cond (bS 0 a0.2.1) (cond (aM a0.2.1 6) (cond (az a0.2.2.1 1) (cond (bS 1 a0.2.2.2.1) (some (bS a0.2.2.2.1 1000000000)) (some false)) (cond (az a0.2.2.1 2) (cond (bS 1 a0.2.2.2.1) (some (bS a0.2.2.2.1 1000000000)) (some false)) (some false))) (some false)) (some false)) (some false)) (some false)
abbrev pg.adj:=Int→aa→ah→bp→ah→bp→tV→Option (ah×bp×(Int))
def pg.XI(N:Nat)(x4:Int)(x6:aa)(x7:ah)(x8:bp)(aP:ah)(bf:bp)(cD:tV):Option (ah×bp×(Int)):=
 (fe N x6 x7 ([cD])).bind fun r6=>cond (!az r6.2 0) (some ((aV,(cm,(bh,(bh,(cK,(cT,())))))),aA,r6.2)) (some (r6.1,(x8.1,(x8.2.1,(x8.2.2.1,((W .i64 (x8.2.2.2.1-x4)),x8.2.2.2.2)))),(0:Int)))
def pg.j14(N:Nat)(x4:Int)(x6:aa)(x7:ah)(x8:bp)(aP:ah)(bf:bp)(cD:tV):Option (ah×bp×(Int)):=pg.XI N x4 x6 x7 x8 aP bf cD
def pg.b(N:Nat)(VW:pg.adj)(a0:aa)(a1:ah)(a2:bp)(a3:Int)(a4:Int)(a5:Int):Option (ah×bp×(Int)):=
 (bD N a0 a1).bind fun r1=>cond (!r1) (some ((aV,(cm,(bh,(bh,(cK,(cT,())))))),aA,(1:Int))) ((QN N a2).bind fun r2=>cond (!r2) (some ((aV,(cm,(bh,(bh,(cK,(cT,())))))),aA,(1:Int))) (cond (aM a4 1) (some ((aV,(cm,(bh,(bh,(cK,(cT,())))))),aA,(1:Int))) (cond (aM 1000000000 a4) (some ((aV,(cm,(bh,(bh,(cK,(cT,())))))),aA,(1:Int))) (cond (aM a5 1) (some ((aV,(cm,(bh,(bh,(cK,(cT,())))))),aA,(1:Int))) (cond (aM 1000000000000 a5) (some ((aV,(cm,(bh,(bh,(cK,(cT,())))))),aA,(1:Int))) (cond (aM a2.2.2.2.1 a4) (some ((aV,(cm,(bh,(bh,(cK,(cT,())))))),aA,(9:Int))) (cond (aM a3 1) (some ((aV,(cm,(bh,(bh,(cK,(cT,())))))),aA,(1:Int))) (cond (aM 24 a3) (some ((aV,(cm,(bh,(bh,(cK,(cT,())))))),aA,(1:Int))) ((NK N a0 a1 (a2.1,(a3,(a2.2.1,((W .i64 ((3:Int)-a2.2.2.1)),(a4,(a5,()))))))).bind fun r4=>cond (!az r4 0) (some ((aV,(cm,(bh,(bh,(cK,(cT,())))))),aA,r4)) (cond (az a2.2.2.1 2) (VW a4 a0 a1 a2 (aV,(cm,(bh,(bh,(cK,(cT,())))))) aA (a3,((0:Int),(a2.2.1,(a4,(a5,())))))) (VW a4 a0 a1 a2 (aV,(cm,(bh,(bh,(cK,(cT,())))))) aA ((0:Int),(a3,(a2.2.1,(a4,(a5,()))))))))))))))))
def pg(N:Nat)(a0:aa)(a1:ah)(a2:bp)(a3:Int)(a4:Int)(a5:Int):Option (ah×bp×(Int)):=pg.b N (pg.j14 N) a0 a1 a2 a3 a4 a5
abbrev mM.bl:=aa→aJ→fg→aJ→cy→ay→Bool→Int→Int→Option (aJ×cy)
def mM.dd(N:Nat)(bc:mM.bl)(x3:aa)(x4:aJ)(x5:fg)(x6:aJ)(x7:cy)(x8:ay)(x9:Bool)(aQ:Int)(aH:Int):Option (aJ×cy):=
 cond (aM aH (List.length x4.2.2.2.1.2.2.2.2.1:Int)) (cond (aL aH (List.length x4.2.2.2.1.2.2.2.2.1)) (cond (az ((List.getD x4.2.2.2.1.2.2.2.2.1 aH.toNat aA).1) x5.2.2.2.2.2.1) ((pg N x3 x4.2.2.1 (List.getD x4.2.2.2.1.2.2.2.2.1 aH.toNat aA) x5.2.2.1 x5.2.2.2.2.2.2.1 x5.2.2.2.2.2.2.2.1).bind fun r2=>cond (!az r2.2.2 0) ((dM N r2.2.2).bind fun r3=>some (x4,r3)) (cond (aM 0 r2.2.1.2.2.2.1) (cond (small (List.length x8+List.length ([r2.2.1]))) (bc x3 (x4.1,(x4.2.1,(r2.1,x4.2.2.2))) x5 x6 x7 (x8++([r2.2.1])) true r2.2.1.2.2.2.1 (W .i64 (aH+1))) (none)) (bc x3 (x4.1,(x4.2.1,(r2.1,x4.2.2.2))) x5 x6 x7 x8 true r2.2.1.2.2.2.1 (W .i64 (aH+1))))) (cond (aM 0 (((((List.getD x4.2.2.2.1.2.2.2.2.1 aH.toNat aA).2).2).2).1)) (cond (small (List.length x8+List.length ([List.getD x4.2.2.2.1.2.2.2.2.1 aH.toNat aA]))) (bc x3 x4 x5 x6 x7 (x8++([List.getD x4.2.2.2.1.2.2.2.2.1 aH.toNat aA])) x9 aQ (W .i64 (aH+1))) (none)) (bc x3 x4 x5 x6 x7 x8 x9 aQ (W .i64 (aH+1))))) (none)) (cond (!x9) ((dM N (3:Int)).bind fun ji=>some (x4,ji)) (some ((x4.1,(x4.2.1,(x4.2.2.1,((x4.2.2.2.1.1,(x4.2.2.2.1.2.1,(x4.2.2.2.1.2.2.1,(x4.2.2.2.1.2.2.2.1,(x8,x4.2.2.2.1.2.2.2.2.2))))),x4.2.2.2.2)))),((0:Int),((0:Int),(aQ,()))))))
def mM.l5(N:Nat):Nat→mM.bl
 |0,_,_,_,_,_,_,_,_,_=>none
 |n+1,x3,x4,x5,x6,x7,x8,x9,aQ,aH=>mM.dd N (mM.l5 N n) x3 x4 x5 x6 x7 x8 x9 aQ aH
def mM.b(N:Nat)(dz:mM.bl)(a0:aa)(a1:aJ)(a2:fg):Option (aJ×cy):=
 dz a0 a1 a2 ((0:Int),((0:Int),((aV,(cm,(bh,(bh,(cK,(cT,())))))),(((0:Int),((0:Int),((0:Int),((0:Int),(cm,(([]:List ((Int)×((List ((Int)×((Int)×(Unit))))×((Int)×((Int)×((Int)×((Int)×(Unit)))))))),(cm,(cK,(aV,(aV,())))))))))),(((0:Int),((0:Int),(we,((0:Int),())))),()))))) a7 ([]) false (0:Int) (0:Int)
def mM(N:Nat)(a0:aa)(a1:aJ)(a2:fg):Option (aJ×cy):=mM.b N (mM.l5 N N) a0 a1 a2
abbrev mG.ba:=Int→aw→Int→Option (Int)
def mG.cL(N:Nat)(bw:mG.ba)(x1:Int)(x2:aw)(x5:Int):Option (Int):=
 cond (aM x5 3) ((fT N x5).bind fun r3=>(fT N x1).bind fun r4=>(fF N r3 r4).bind fun r5=>(Gp N r5 x2).bind fun r6=>cond (aM r6 0) (bw x1 x2 (W .i64 (x5+1))) (some x5)) (some x5)
def mG.l4(N:Nat):Nat→mG.ba
 |0,_,_,_=>none
 |n+1,x1,x2,x5=>mG.cL N (mG.l4 N n) x1 x2 x5
def mG.b(N:Nat)(df:mG.ba)(a0:aw)(a1:Int):Option (Int):=
 (IS N a0).bind fun r1=>cond (bS r1 0) (some (0:Int)) (cond (aM a1 1) (some (0:Int)) (df a1 a0 (1:Int)))
def mG(N:Nat)(a0:aw)(a1:Int):Option (Int):=mG.b N (mG.l4 N N) a0 a1
abbrev kT.ba:=(List (Int))→Int→Option (Bool)
def kT.cL(N:Nat)(bw:kT.ba)(x1:List (Int))(x5:Int):Option (Bool):=
 cond (aM x5 (List.length x1:Int)) (cond (aL x5 (List.length x1)) (cond (aM (List.getD x1 x5.toNat (0:Int)) (0:Int)) (some true) (bw x1 (W .i64 (x5+1)))) (none)) (some false)
def kT.l4(N:Nat):Nat→kT.ba
 |0,_,_=>none
 |n+1,x1,x5=>kT.cL N (kT.l4 N n) x1 x5
def kT.b(N:Nat)(df:kT.ba)(a0:Int)(a1:List (Int)):Option (Bool):=
 cond (aM a0 0) (some true) (cond (aM 64 (List.length a1:Int)) (some true) (df a1 (0:Int)))
def kT(N:Nat)(a0:Int)(a1:List (Int)):Option (Bool):=kT.b N (kT.l4 N N) a0 a1
abbrev kP.cq:=(List (Int))→aw→aw→Int→Option aw
def kP.iE(N:Nat)(bZ:kP.cq)(x0:List (Int))(x2:aw)(x3:aw)(x4:Int):Option aw:=
 cond (aM x4 (List.length x0:Int)) (cond (aL x4 (List.length x0)) ((fT N (List.getD x0 x4.toNat (0:Int))).bind fun r2=>(ur N x3 r2).bind fun r3=>bZ x0 x2 r3 (W .i64 (x4+1))) (none)) (some x3)
def kP.l3(N:Nat):Nat→kP.cq
 |0,_,_,_,_=>none
 |n+1,x0,x2,x3,x4=>kP.iE N (kP.l3 N n) x0 x2 x3 x4
def kP.b(N:Nat)(jj:kP.cq)(a0:List (Int)):Option aw:=
 jj a0 (false,kY) (false,kY) (0:Int)
def kP(N:Nat)(a0:List (Int)):Option aw:=kP.b N (kP.l3 N N) a0
abbrev de.HV:=(List (Int))→(List (Int))→Int→Int→Option (List (Int))
abbrev de.eC:=(List (Int))→(List (Int))→Int→Int→Option (List (Int))
abbrev de.cq:=(List (Int))→(List (Int))→Int→Option (List (Int))
def de.Hk(N:Nat)(bZ:de.cq)(x0:List (Int))(x3:List (Int))(x4:Int)(x5:Int):Option (List (Int)):=
 cond (fi 0 x5 (List.length x3:Int) (List.length x3:Int)) (let v5:List (Int):=List.drop (0:Int).toNat (List.take x5.toNat x3);cond (small (List.length v5)) (cond (small (List.length v5+List.length ([x4]))) (let v6:List (Int):=v5++([x4]);cond (fi x5 (List.length x3:Int) (List.length x3:Int) (List.length x3:Int)) (let v7:List (Int):=List.drop x5.toNat (List.take (List.length x3:Int).toNat x3);cond (small (List.length v6+List.length v7)) (bZ x0 (v6++v7) (W .i64 (x4+1))) (none)) (none)) (none)) (none)) (none)
def de.j8(N:Nat)(bZ:de.cq)(x0:List (Int))(x3:List (Int))(x4:Int)(x5:Int):Option (List (Int)):=de.Hk N bZ x0 x3 x4 x5
def de.n4(N:Nat)(y7:de.HV)(bZ:de.cq)(eu:de.eC)(x0:List (Int))(x3:List (Int))(x4:Int)(x5:Int):Option (List (Int)):=
 cond (aM x5 (List.length x3:Int)) (cond (aL x5 (List.length x3)) (cond (aL (List.getD x3 x5.toNat (0:Int)) (List.length x0)) (cond (aL x4 (List.length x0)) (cond (bS (List.getD x0 x4.toNat (0:Int)) (List.getD x0 (List.getD x3 x5.toNat (0:Int)).toNat (0:Int))) (eu x0 x3 x4 (W .i64 (x5+1))) (y7 x0 x3 x4 x5)) (none)) (none)) (none)) (y7 x0 x3 x4 x5)
def de.l6(N:Nat)(bZ:de.cq):Nat→de.eC
 |0,_,_,_,_=>none
 |n+1,x0,x3,x4,x5=>de.n4 N (de.j8 N bZ) bZ (de.l6 N bZ n) x0 x3 x4 x5
def de.iE(N:Nat)(pv:de.eC)(bZ:de.cq)(x0:List (Int))(x3:List (Int))(x4:Int):Option (List (Int)):=
 cond (aM x4 (List.length x0:Int)) (pv x0 x3 x4 (0:Int)) (some x3)
def de.l3(N:Nat):Nat→de.cq
 |0,_,_,_=>none
 |n+1,x0,x3,x4=>de.iE N (de.l6 N (de.l3 N n) N) (de.l3 N n) x0 x3 x4
def de.b(N:Nat)(jj:de.cq)(a0:List (Int)):Option (List (Int)):=
 jj a0 ([]) (0:Int)
def de(N:Nat)(a0:List (Int)):Option (List (Int)):=de.b N (de.l3 N N) a0
abbrev dn.mP:=(List (Int))→Int→(List (Int))→Int→Option ((List (Int))×(Int))
abbrev dn.qM:=Int→(List (Int))→aw→(List (Int))→(List (Int))→Int→Int→Option ((List (Int))×(Int))
abbrev dn.Ox:=Int→(List (Int))→aw→Option ((List (Int))×(Int))
def dn.qu(N:Nat)(yZ:dn.mP)(x9:List (Int))(aH:Int)(bN:List (Int))(cC:Int):Option ((List (Int))×(Int)):=
 cond (aM cC (List.length bN:Int)) (cond (aM 0 aH) (cond (aL cC (List.length bN)) (cond (aL (List.getD bN cC.toNat (0:Int)) (List.length x9)) (cond (aL (List.getD bN cC.toNat (0:Int)) (List.length x9)) (yZ (List.set x9 (List.getD bN cC.toNat (0:Int)).toNat (W .i64 ((List.getD x9 (List.getD bN cC.toNat (0:Int)).toNat (0:Int))+1))) (W .i64 (aH-1)) bN (W .i64 (cC+1))) (none)) (none)) (none)) (some (x9,(0:Int)))) (some (x9,(0:Int)))
def dn.rA(N:Nat):Nat→dn.mP
 |0,_,_,_,_=>none
 |n+1,x9,aH,bN,cC=>dn.qu N (dn.rA N n) x9 aH bN cC
def dn.yI(N:Nat)(y5:dn.mP)(wa:dn.qM)(x0:Int)(x1:List (Int))(x6:aw)(x9:List (Int))(aQ:List (Int))(aH:Int)(aP:Int):Option ((List (Int))×(Int)):=
 cond (aM aP (List.length x1:Int)) ((fT N x0).bind fun ji=>cond (aL aP (List.length x1)) ((fT N (List.getD x1 aP.toNat (0:Int))).bind fun lR=>(fF N ji lR).bind fun mU=>(eH N mU x6).bind fun kI=>(qm N kI.1).bind fun rC=>cond (aL aP (List.length x9)) (let v15:List (Int):=List.set x9 aP.toNat rC.1;(qm N kI.2).bind fun u7=>cond (aL aP (List.length aQ)) (cond (aL aP (List.length v15)) (wa x0 x1 x6 v15 (List.set aQ aP.toNat u7.1) (W .i64 (aH-(List.getD v15 aP.toNat (0:Int)))) (W .i64 (aP+1))) (none)) (none)) (none)) (none)) ((de N aQ).bind fun Bc=>y5 x9 aH Bc (0:Int))
def dn.AT(N:Nat):Nat→dn.qM
 |0,_,_,_,_,_,_,_=>none
 |n+1,x0,x1,x6,x9,aQ,aH,aP=>dn.yI N (dn.rA N N) (dn.AT N n) x0 x1 x6 x9 aQ aH aP
def dn.Lo(N:Nat)(EY:dn.qM)(x0:Int)(x1:List (Int))(x6:aw):Option ((List (Int))×(Int)):=
 (qm N x6).bind fun r5=>cond (!r5.2) (some ([],(2:Int))) (cond (fK (List.length x1:Int) (List.length x1:Int)) (let v6:List (Int):=List.replicate (List.length x1:Int).toNat (0:Int);cond (fK (List.length x1:Int) (List.length x1:Int)) ((IS N x6).bind fun r8=>cond (az r8 0) (some (v6,(0:Int))) (EY x0 x1 x6 v6 (List.replicate (List.length x1:Int).toNat (0:Int)) x0 (0:Int))) (none)) (none))
def dn.j6(N:Nat)(x0:Int)(x1:List (Int))(x6:aw):Option ((List (Int))×(Int)):=dn.Lo N (dn.AT N N) x0 x1 x6
def dn.b(N:Nat)(Cq:dn.Ox)(a0:Int)(a1:List (Int)):Option ((List (Int))×(Int)):=
 (kT N a0 a1).bind fun r1=>cond (r1) (some ([],(1:Int))) ((kP N a1).bind fun r2=>(IS N r2).bind fun r3=>cond (az r3 0) (cond (!az a0 0) (some ([],(1:Int))) (Cq a0 a1 r2)) (Cq a0 a1 r2))
def dn(N:Nat)(a0:Int)(a1:List (Int)):Option ((List (Int))×(Int)):=dn.b N (dn.j6 N) a0 a1
abbrev mu.bl:=Int→Int→(List (Int))→Int→Option ((List (Int))×(Int))
def mu.dd(N:Nat)(bc:mu.bl)(x0:Int)(x1:Int)(x6:List (Int))(x7:Int):Option ((List (Int))×(Int)):=
 cond (aM x7 x1) (cond (aL x7 (List.length x6)) (bc x0 x1 (List.set x6 x7.toNat (1:Int)) (W .i64 (x7+1))) (none)) ((dn N x0 x6).bind fun r5=>some (r5.1,r5.2))
def mu.l5(N:Nat):Nat→mu.bl
 |0,_,_,_,_=>none
 |n+1,x0,x1,x6,x7=>mu.dd N (mu.l5 N n) x0 x1 x6 x7
def mu.b(N:Nat)(dz:mu.bl)(a0:Int)(a1:Int):Option ((List (Int))×(Int)):=
 cond (aM a0 0) (some ([],(1:Int))) (cond (aM a1 1) (some ([],(1:Int))) (cond (aM 64 a1) (some ([],(1:Int))) (cond (fK a1 a1) (dz a0 a1 (List.replicate a1.toNat (0:Int)) (0:Int)) (none))))
def mu(N:Nat)(a0:Int)(a1:Int):Option ((List (Int))×(Int)):=mu.b N (mu.l5 N N) a0 a1
abbrev cG.adk:=Int→aa→ax→aB→Int→ax→Int→Int→cN→ax→Int→(List (Int))→Option (aB×(Int))
abbrev cG.OD:=Int→aa→ax→aB→Int→ax→Int→Int→cN→ax→Int→Int→Option (aB×(Int))
abbrev cG.qK:=Int→aa→ax→aB→Int→ax→Int→Int→cN→ax→Int→Option (aB×(Int))
abbrev cG.ow:=Int→aa→ax→aB→Int→ax→Int→Int→Option (aB×(Int))
abbrev cG.eG:=Int→aa→ax→aB→Int→ax→aw→Int→Option (aB×(Int))
abbrev cG.fh:=Int→aa→ax→aB→Int→Option (aB×(Int))
def cG.XQ(N:Nat)(dr:cG.fh)(iC:cG.ow)(pK:cG.qK)(x2:Int)(x3:aa)(x8:ax)(x9:aB)(aQ:Int)(aH:ax)(bx:Int)(bN:Int)(cC:cN)(px:ax)(cD:Int)(kJ:List (Int)):Option (aB×(Int)):=
 cond (aL bN (List.length kJ)) (cond (!az (List.getD kJ bN.toNat (0:Int)) (0:Int)) (cond (aL cD (List.length aH)) (cond (aL bN (List.length kJ)) (cond (small (List.length px+List.length ([((List.getD aH cD.toNat bO).1,(List.getD kJ bN.toNat (0:Int),()))]))) (pK x2 x3 x8 x9 aQ aH bx bN (cC.1,(aV,cC.2.2)) (px++([((List.getD aH cD.toNat bO).1,(List.getD kJ bN.toNat (0:Int),()))])) (W .i64 (cD+1))) (none)) (none)) (none)) (pK x2 x3 x8 x9 aQ aH bx bN cC px (W .i64 (cD+1)))) (none)
def cG.j32(N:Nat)(dr:cG.fh)(iC:cG.ow)(pK:cG.qK)(x2:Int)(x3:aa)(x8:ax)(x9:aB)(aQ:Int)(aH:ax)(bx:Int)(bN:Int)(cC:cN)(px:ax)(cD:Int)(kJ:List (Int)):Option (aB×(Int)):=cG.XQ N dr iC pK x2 x3 x8 x9 aQ aH bx bN cC px cD kJ
def cG.HK(N:Nat)(VX:cG.adk)(dr:cG.fh)(iC:cG.ow)(pK:cG.qK)(x2:Int)(x3:aa)(x8:ax)(x9:aB)(aQ:Int)(aH:ax)(bx:Int)(bN:Int)(cC:cN)(px:ax)(cD:Int)(iI:Int):Option (aB×(Int)):=
 (mu N iI bx).bind fun u7=>cond (aL cD (List.length aH)) (cond (aM (((List.getD aH cD.toNat bO).2).1) (0:Int)) (cond (aL bN (List.length u7.1)) (cond (aL bN (List.length u7.1)) (VX x2 x3 x8 x9 aQ aH bx bN cC px cD (List.set u7.1 bN.toNat (W .i64 (0-(List.getD u7.1 bN.toNat (0:Int)))))) (none)) (none)) (VX x2 x3 x8 x9 aQ aH bx bN cC px cD u7.1)) (none)
def cG.N4(N:Nat)(dr:cG.fh)(iC:cG.ow)(pK:cG.qK)(x2:Int)(x3:aa)(x8:ax)(x9:aB)(aQ:Int)(aH:ax)(bx:Int)(bN:Int)(cC:cN)(px:ax)(cD:Int)(iI:Int):Option (aB×(Int)):=cG.HK N (cG.j32 N dr iC pK) dr iC pK x2 x3 x8 x9 aQ aH bx bN cC px cD iI
def cG.HF(N:Nat)(E0:cG.OD)(dr:cG.fh)(iC:cG.ow)(pK:cG.qK)(x2:Int)(x3:aa)(x8:ax)(x9:aB)(aQ:Int)(aH:ax)(bx:Int)(bN:Int)(cC:cN)(px:ax)(cD:Int):Option (aB×(Int)):=
 cond (aM cD (List.length aH:Int)) (cond (aL cD (List.length aH)) (cond (aM (((List.getD aH cD.toNat bO).2).1) (0:Int)) (E0 x2 x3 x8 x9 aQ aH bx bN cC px cD (W .i64 (0-(((List.getD aH cD.toNat bO).2).1)))) (E0 x2 x3 x8 x9 aQ aH bx bN cC px cD (((List.getD aH cD.toNat bO).2).1))) (none)) (cond (az (List.length px:Int) 0) (iC x2 x3 x8 x9 aQ aH bx (W .i64 (bN+1))) ((N5 N x3 px).bind fun zr=>(Lp N zr.1).bind fun CN=>(qm N CN).bind fun vY=>cond (!vY.2) (some ([],(2:Int))) (cond (small (List.length x9+List.length ([(cC.1,(px,(vY.1,cC.2.2.2)))]))) (iC (W .i64 (x2+1)) x3 x8 (x9++([(cC.1,(px,(vY.1,cC.2.2.2)))])) aQ aH bx (W .i64 (bN+1))) (none))))
def cG.Gs(N:Nat)(dr:cG.fh)(iC:cG.ow):Nat→cG.qK
 |0,_,_,_,_,_,_,_,_,_,_,_=>none
 |n+1,x2,x3,x8,x9,aQ,aH,bx,bN,cC,px,cD=>cG.HF N (cG.N4 N dr iC (cG.Gs N dr iC n)) dr iC (cG.Gs N dr iC n) x2 x3 x8 x9 aQ aH bx bN cC px cD
def cG.HJ(N:Nat)(OC:cG.qK)(dr:cG.fh)(iC:cG.ow)(x2:Int)(x3:aa)(x8:ax)(x9:aB)(aQ:Int)(aH:ax)(bx:Int)(bN:Int):Option (aB×(Int)):=
 cond (aM bN bx) (OC x2 x3 x8 x9 aQ aH bx bN (x2,(aV,((0:Int),((1:Int),bO)))) aV (0:Int)) (dr x2 x3 x8 x9 (W .i64 (aQ+1)))
def cG.Cj(N:Nat)(dr:cG.fh):Nat→cG.ow
 |0,_,_,_,_,_,_,_,_=>none
 |n+1,x2,x3,x8,x9,aQ,aH,bx,bN=>cG.HJ N (cG.Gs N dr (cG.Cj N dr n) N) dr (cG.Cj N dr n) x2 x3 x8 x9 aQ aH bx bN
def cG.lx(N:Nat)(OE:cG.ow)(dr:cG.fh)(fD:cG.eG)(x2:Int)(x3:aa)(x8:ax)(x9:aB)(aQ:Int)(aH:ax)(aP:aw)(bf:Int):Option (aB×(Int)):=
 cond (aM bf (List.length x8:Int)) (cond (aL bf (List.length x8)) (cond (aL ((List.getD x8 bf.toNat bO).1) (List.length x3.1)) (cond (az ((List.getD x3.1 ((List.getD x8 bf.toNat bO).1).toNat aA).1) aQ) (cond (aL bf (List.length x8)) (cond (small (List.length aH+List.length ([List.getD x8 bf.toNat bO]))) (cond (aL bf (List.length x8)) ((fT N (((List.getD x8 bf.toNat bO).2).1)).bind fun r6=>(MM N r6).bind fun r7=>(ur N aP r7).bind fun r8=>fD x2 x3 x8 x9 aQ (aH++([List.getD x8 bf.toNat bO])) r8 (W .i64 (bf+1))) (none)) (none)) (none)) (fD x2 x3 x8 x9 aQ aH aP (W .i64 (bf+1)))) (none)) (none)) ((mG N aP x3.2.2.2.2.2.1).bind fun lR=>OE x2 x3 x8 x9 aQ aH lR (0:Int))
def cG.nA(N:Nat)(dr:cG.fh):Nat→cG.eG
 |0,_,_,_,_,_,_,_,_=>none
 |n+1,x2,x3,x8,x9,aQ,aH,aP,bf=>cG.lx N (cG.Cj N dr N) dr (cG.nA N dr n) x2 x3 x8 x9 aQ aH aP bf
def cG.w5(N:Nat)(qH:cG.eG)(dr:cG.fh)(x2:Int)(x3:aa)(x8:ax)(x9:aB)(aQ:Int):Option (aB×(Int)):=
 cond (aM aQ 4) (qH x2 x3 x8 x9 aQ ([]) (false,kY) (0:Int)) (some (x9,(0:Int)))
def cG.l8(N:Nat):Nat→cG.fh
 |0,_,_,_,_,_=>none
 |n+1,x2,x3,x8,x9,aQ=>cG.w5 N (cG.nA N (cG.l8 N n) N) (cG.l8 N n) x2 x3 x8 x9 aQ
def cG.b(N:Nat)(zc:cG.fh)(a0:aa)(a1:ah)(a2:Int):Option (aB×(Int)):=
 (bD N a0 a1).bind fun r1=>cond (!r1) (some ([],(1:Int))) (cond (aM a2 1) (some ([],(1:Int))) (cond (aM 1099511627764 a2) (some ([],(1:Int))) ((rQ N a1.2.2.2.1 (0:Int)).bind fun r2=>cond (az (List.length r2:Int) 0) (some ([],(3:Int))) (zc a2 a0 r2 ([]) (0:Int)))))
def cG(N:Nat)(a0:aa)(a1:ah)(a2:Int):Option (aB×(Int)):=cG.b N (cG.l8 N N) a0 a1 a2
abbrev mH.bl:=ah→(List (Int))→Int→Option ((List (Int))×(Int))
def mH.dd(N:Nat)(bc:mH.bl)(x3:ah)(x6:List (Int))(x7:Int):Option ((List (Int))×(Int)):=
 cond (aM x7 (List.length x3.1:Int)) (cond (aL x7 (List.length x3.1)) (cond (az (((List.getD x3.1 x7.toNat bO).2).1) (1:Int)) (cond (aL x7 (List.length x3.1)) ((oz N x3.2.2.1 (6:Int) ((List.getD x3.1 x7.toNat bO).1)).bind fun r3=>cond (aM 0 r3) (cond (aL x7 (List.length x3.1)) (cond (small (List.length x6+List.length ([(List.getD x3.1 x7.toNat bO).1]))) (bc x3 (x6++([(List.getD x3.1 x7.toNat bO).1])) (W .i64 (x7+1))) (none)) (none)) (bc x3 x6 (W .i64 (x7+1)))) (none)) (bc x3 x6 (W .i64 (x7+1)))) (none)) (some (x6,(0:Int)))
def mH.l5(N:Nat):Nat→mH.bl
 |0,_,_,_=>none
 |n+1,x3,x6,x7=>mH.dd N (mH.l5 N n) x3 x6 x7
def mH.b(N:Nat)(dz:mH.bl)(a0:aa)(a1:ah):Option ((List (Int))×(Int)):=
 (bD N a0 a1).bind fun r1=>cond (!r1) (some ([],(1:Int))) (dz a1 ([]) (0:Int))
def mH(N:Nat)(a0:aa)(a1:ah):Option ((List (Int))×(Int)):=mH.b N (mH.l5 N N) a0 a1
abbrev eS.HY:=aB→aa→Int→cN→Option (Bool)
abbrev eS.ba:=aB→aa→Int→Option (Bool)
def eS.GY(N:Nat)(bw:eS.ba)(x1:aB)(x2:aa)(x5:Int)(x6:cN):Option (Bool):=
 cond (az x6.2.2.2.1 1) (cond (!az x6.2.2.2.2.1 0) (some false) (cond (!az x6.2.2.2.2.2.1 0) (some false) (bw x1 x2 (W .i64 (x5+1))))) (cond (az x6.2.2.2.1 3) (cond (!az x6.2.2.2.2.1 0) (some false) (cond (!az x6.2.2.2.2.2.1 0) (some false) (bw x1 x2 (W .i64 (x5+1))))) (cond (az x6.2.2.2.1 2) (cond (aM x6.2.2.2.2.1 1) (some false) (cond (aM 12 x6.2.2.2.2.1) (some false) (cond (aM x6.2.2.2.2.2.1 (-1152921504606846976)) (some false) (cond (aM 1152921504606846976 x6.2.2.2.2.2.1) (some false) (bw x1 x2 (W .i64 (x5+1))))))) (some false)))
def eS.j9(N:Nat)(bw:eS.ba)(x1:aB)(x2:aa)(x5:Int)(x6:cN):Option (Bool):=eS.GY N bw x1 x2 x5 x6
def eS.cL(N:Nat)(zb:eS.HY)(bw:eS.ba)(x1:aB)(x2:aa)(x5:Int):Option (Bool):=
 cond (aM x5 (List.length x1:Int)) (cond (aL x5 (List.length x1)) (cond (aM ((List.getD x1 x5.toNat ((0:Int),(aV,aA))).1) (1:Int)) (some false) (cond (aM 1099511627776 ((List.getD x1 x5.toNat ((0:Int),(aV,aA))).1)) (some false) (cond (aM 0 x5) (let v3:Int:=W .i64 (x5-1);cond (aL v3 (List.length x1)) (cond (bS ((List.getD x1 x5.toNat ((0:Int),(aV,aA))).1) ((List.getD x1 v3.toNat ((0:Int),(aV,aA))).1)) (some false) (cond (az (List.length (((List.getD x1 x5.toNat ((0:Int),(aV,aA))).2).1):Int) (0:Int)) (some false) ((jb N x2 (((List.getD x1 x5.toNat ((0:Int),(aV,aA))).2).1)).bind fun r4=>cond (!r4) (some false) (cond (aM 0 ((((List.getD x1 x5.toNat ((0:Int),(aV,aA))).2).2).1)) (some false) (zb x1 x2 x5 (List.getD x1 x5.toNat ((0:Int),(aV,aA)))))))) (none)) (cond (az (List.length (((List.getD x1 x5.toNat ((0:Int),(aV,aA))).2).1):Int) (0:Int)) (some false) ((jb N x2 (((List.getD x1 x5.toNat ((0:Int),(aV,aA))).2).1)).bind fun r9=>cond (!r9) (some false) (cond (aM 0 ((((List.getD x1 x5.toNat ((0:Int),(aV,aA))).2).2).1)) (some false) (zb x1 x2 x5 (List.getD x1 x5.toNat ((0:Int),(aV,aA)))))))))) (none)) (some true)
def eS.l4(N:Nat):Nat→eS.ba
 |0,_,_,_=>none
 |n+1,x1,x2,x5=>eS.cL N (eS.j9 N (eS.l4 N n)) (eS.l4 N n) x1 x2 x5
def eS.b(N:Nat)(df:eS.ba)(a0:aa)(a1:aB):Option (Bool):=
 (hQ N a0).bind fun r1=>cond (!r1) (some false) (cond (aM 12 (List.length a1:Int)) (some false) (df a1 a0 (0:Int)))
def eS(N:Nat)(a0:aa)(a1:aB):Option (Bool):=eS.b N (eS.l4 N N) a0 a1
abbrev lD.bJ:=aB→Int→cN→Int→Option (cN×(Bool))
def lD.dx(N:Nat)(cz:lD.bJ)(x0:aB)(x1:Int)(x4:cN)(x6:Int):Option (cN×(Bool)):=
 cond (aM x6 (List.length x0:Int)) (cond (aL x6 (List.length x0)) (cond (az ((List.getD x0 x6.toNat ((0:Int),(aV,aA))).1) x1) (cond (aL x6 (List.length x0)) (some (List.getD x0 x6.toNat ((0:Int),(aV,aA)),true)) (none)) (cz x0 x1 x4 (W .i64 (x6+1)))) (none)) (some (((0:Int),(aV,aA)),false))
def lD.l2(N:Nat):Nat→lD.bJ
 |0,_,_,_,_=>none
 |n+1,x0,x1,x4,x6=>lD.dx N (lD.l2 N n) x0 x1 x4 x6
def lD.b(N:Nat)(eB:lD.bJ)(a0:aB)(a1:Int):Option (cN×(Bool)):=
 eB a0 a1 ((0:Int),(aV,aA)) (0:Int)
def lD(N:Nat)(a0:aB)(a1:Int):Option (cN×(Bool)):=lD.b N (lD.l2 N N) a0 a1
abbrev cW.fu:=ax→ax→ax→Int→aw→Int→Option (ax×(Bool))
abbrev cW.cR:=ax→ax→ax→Int→aw→Int→Option (ax×(Bool))
abbrev cW.cq:=ax→ax→ax→Int→Option (ax×(Bool))
def cW.lq(N:Nat)(bZ:cW.cq)(gV:cW.fu)(x0:ax)(x1:ax)(x6:ax)(x7:Int)(x8:aw)(aQ:Int):Option (ax×(Bool)):=
 cond (aM aQ (List.length x1:Int)) (cond (aL aQ (List.length x1)) (cond (az ((List.getD x1 aQ.toNat bO).1) x7) (cond (aL aQ (List.length x1)) ((fT N (((List.getD x1 aQ.toNat bO).2).1)).bind fun r8=>(ur N x8 r8).bind fun r9=>gV x0 x1 x6 x7 r9 (W .i64 (aQ+1))) (none)) (gV x0 x1 x6 x7 x8 (W .i64 (aQ+1)))) (none)) ((NF N x8).bind fun mU=>cond (!mU.2) (some ([],false)) (cond (!az mU.1 0) (cond (small (List.length x6+List.length ([(x7,(mU.1,()))]))) (bZ x0 x1 (x6++([(x7,(mU.1,()))])) (W .i64 (x7+1))) (none)) (bZ x0 x1 x6 (W .i64 (x7+1)))))
def cW.mT(N:Nat)(bZ:cW.cq):Nat→cW.fu
 |0,_,_,_,_,_,_=>none
 |n+1,x0,x1,x6,x7,x8,aQ=>cW.lq N bZ (cW.mT N bZ n) x0 x1 x6 x7 x8 aQ
def cW.ns(N:Nat)(qJ:cW.fu)(bZ:cW.cq)(cA:cW.cR)(x0:ax)(x1:ax)(x6:ax)(x7:Int)(x8:aw)(x9:Int):Option (ax×(Bool)):=
 cond (aM x9 (List.length x0:Int)) (cond (aL x9 (List.length x0)) (cond (az ((List.getD x0 x9.toNat bO).1) x7) (cond (aL x9 (List.length x0)) ((fT N (((List.getD x0 x9.toNat bO).2).1)).bind fun r3=>(ur N x8 r3).bind fun r4=>cA x0 x1 x6 x7 r4 (W .i64 (x9+1))) (none)) (cA x0 x1 x6 x7 x8 (W .i64 (x9+1)))) (none)) (qJ x0 x1 x6 x7 x8 (0:Int))
def cW.l7(N:Nat)(bZ:cW.cq):Nat→cW.cR
 |0,_,_,_,_,_,_=>none
 |n+1,x0,x1,x6,x7,x8,x9=>cW.ns N (cW.mT N bZ N) bZ (cW.l7 N bZ n) x0 x1 x6 x7 x8 x9
def cW.iE(N:Nat)(nZ:cW.cR)(bZ:cW.cq)(x0:ax)(x1:ax)(x6:ax)(x7:Int):Option (ax×(Bool)):=
 cond (aM x7 6) (nZ x0 x1 x6 x7 (false,kY) (0:Int)) (some (x6,true))
def cW.l3(N:Nat):Nat→cW.cq
 |0,_,_,_,_=>none
 |n+1,x0,x1,x6,x7=>cW.iE N (cW.l7 N (cW.l3 N n) N) (cW.l3 N n) x0 x1 x6 x7
def cW.b(N:Nat)(jj:cW.cq)(a0:ax)(a1:ax):Option (ax×(Bool)):=
 jj a0 a1 ([]) (0:Int)
def cW(N:Nat)(a0:ax)(a1:ax):Option (ax×(Bool)):=cW.b N (cW.l3 N N) a0 a1
def XP(N:Nat)(a0:a6)(a1:Int):Option aj:=
 (iF N a0).bind fun r1=>cond (!r1) (some ([])) ((ep N a0 a1).bind fun r2=>some r2)
abbrev gy.eG:=ay→aa→ah→bp→cN→Int→Int→Option (Int)
abbrev gy.aih:=aB→ay→aa→ah→bp→Option (Int)
def gy.lx(N:Nat)(fD:gy.eG)(x3:ay)(x5:aa)(x6:ah)(x9:bp)(aP:cN)(bx:Int)(bN:Int):Option (Int):=
 cond (aM bN (List.length x3:Int)) (cond (aL bN (List.length x3)) (cond (az ((((List.getD x3 bN.toNat aA).2).2).1) x9.2.2.1) (cond (aL bN (List.length x3)) (cond (az (((List.getD x3 bN.toNat aA).2).1) x9.2.1) (some (4:Int)) (fD x3 x5 x6 x9 aP bx (W .i64 (bN+1)))) (none)) (fD x3 x5 x6 x9 aP bx (W .i64 (bN+1)))) (none)) (cond (az (List.length x3:Int) 40) (some (5:Int)) ((fT N x9.2.2.2.1).bind fun kI=>(fT N (4:Int)).bind fun rC=>(fT N aP.2.2.1).bind fun rT=>(fF N rC rT).bind fun u7=>(Gp N kI u7).bind fun rS=>cond (aM rS 0) (some (11:Int)) ((rQ N x6.2.2.2.1 bx).bind fun uv=>(cW N uv aP.2.1).bind fun EZ=>cond (!EZ.2) (some (2:Int)) ((XP N x6.2.2.2.2.2.1 bx).bind fun Bc=>(lB N x5 EZ.1 Bc).bind fun y3=>(HI N x6 bx).bind fun Gv=>(fT N Gv).bind fun y4=>(fT N x9.2.2.2.1).bind fun zr=>(IQ N y4 zr).bind fun CN=>(Gp N CN y3.1).bind fun vY=>cond (aM vY 0) (some (10:Int)) (some (0:Int))))))
def gy.nA(N:Nat):Nat→gy.eG
 |0,_,_,_,_,_,_,_=>none
 |n+1,x3,x5,x6,x9,aP,bx,bN=>gy.lx N (gy.nA N n) x3 x5 x6 x9 aP bx bN
def gy.j3b(N:Nat)(qH:gy.eG)(x2:aB)(x3:ay)(x5:aa)(x6:ah)(x9:bp):Option (Int):=
 (Ci N x6 x9.2.2.1).bind fun r7=>cond (az r7 0) (some (3:Int)) (cond (!az r7 1) (some (7:Int)) ((lD N x2 x9.2.1).bind fun r8=>(su N x6.2.1 x9.2.2.1).bind fun r9=>cond (!r8.2) (some (3:Int)) (cond (!az r8.1.2.2.2.1 1) (some (3:Int)) (cond (az r9 0) (some (3:Int)) (qH x3 x5 x6 x9 r8.1 r9 (0:Int))))))
def gy.j3(N:Nat)(x2:aB)(x3:ay)(x5:aa)(x6:ah)(x9:bp):Option (Int):=gy.j3b N (gy.nA N N) x2 x3 x5 x6 x9
def gy.b(N:Nat)(adl:gy.aih)(a0:aa)(a1:ah)(a2:aB)(a3:ay)(a4:bp):Option (Int):=
 (bD N a0 a1).bind fun r1=>cond (!r1) (some (1:Int)) ((eS N a0 a2).bind fun r2=>cond (!r2) (some (1:Int)) ((cP N a3).bind fun r3=>cond (!r3) (some (1:Int)) ((Qu N a4).bind fun r4=>cond (!r4) (some (1:Int)) (cond (aM 0 (List.length a3:Int)) (let v5:Int:=W .i64 ((List.length a3:Int)-1);cond (aL v5 (List.length a3)) (cond (bS a4.1 ((List.getD a3 v5.toNat aA).1)) (some (1:Int)) (adl a2 a3 a0 a1 a4)) (none)) (adl a2 a3 a0 a1 a4)))))
def gy(N:Nat)(a0:aa)(a1:ah)(a2:aB)(a3:ay)(a4:bp):Option (Int):=gy.b N (gy.j3 N) a0 a1 a2 a3 a4
def Rc(N:Nat)(a0:aa)(a1:ah)(a2:aB)(a3:ay)(a4:bp):Option (ay×(Int)):=
 (gy N a0 a1 a2 a3 a4).bind fun r1=>cond (!az r1 0) (some ([],r1)) (cond (small (List.length cm+List.length a3)) (let v2:List ((Int)×((Int)×((Int)×((Int)×(Unit))))):=cm++a3;cond (small (List.length v2+List.length ([a4]))) (some ((v2++([a4])),(0:Int))) (none)) (none))
abbrev yW.eC:=ay→Int→bp→bp→Bool→Int→Option (bp×(Bool))
def yW.n4(N:Nat)(eu:yW.eC)(x0:ay)(x1:Int)(x4:bp)(x6:bp)(x7:Bool)(x8:Int):Option (bp×(Bool)):=
 cond (aM x8 (List.length x0:Int)) (cond (aL x8 (List.length x0)) (cond (az (((List.getD x0 x8.toNat aA).2).1) x1) (cond (!x7) (cond (aL x8 (List.length x0)) (eu x0 x1 x4 (List.getD x0 x8.toNat aA) true (W .i64 (x8+1))) (none)) (cond (aL x8 (List.length x0)) (cond (aM x6.2.2.2.1 (((((List.getD x0 x8.toNat aA).2).2).2).1)) (cond (aL x8 (List.length x0)) (eu x0 x1 x4 (List.getD x0 x8.toNat aA) true (W .i64 (x8+1))) (none)) (eu x0 x1 x4 x6 x7 (W .i64 (x8+1)))) (none))) (eu x0 x1 x4 x6 x7 (W .i64 (x8+1)))) (none)) (some (x6,x7))
def yW.l6(N:Nat):Nat→yW.eC
 |0,_,_,_,_,_,_=>none
 |n+1,x0,x1,x4,x6,x7,x8=>yW.n4 N (yW.l6 N n) x0 x1 x4 x6 x7 x8
def yW.b(N:Nat)(pv:yW.eC)(a0:ay)(a1:Int):Option (bp×(Bool)):=
 (cP N a0).bind fun r1=>cond (!r1) (some (aA,false)) (pv a0 a1 aA aA false (0:Int))
def yW(N:Nat)(a0:ay)(a1:Int):Option (bp×(Bool)):=yW.b N (yW.l6 N N) a0 a1
abbrev nX.mP:=aB→ay→ah→ah→aj→bk→aB→Int→cN→bp→Int→Int→Option (ah×aB×(Int))
abbrev nX.cR:=aB→ay→ah→ah→aj→bk→aB→Int→Option (ah×aB×(Int))
def nX.qu(N:Nat)(cA:nX.cR)(yZ:nX.mP)(x2:aB)(x3:ay)(x5:ah)(x8:ah)(aH:aj)(aP:bk)(bf:aB)(bx:Int)(bN:cN)(cC:bp)(iI:Int)(kJ:Int):Option (ah×aB×(Int)):=
 cond (aM kJ (List.length bN.2.1:Int)) (cond (aL kJ (List.length bN.2.1)) (cond (aL kJ (List.length bN.2.1)) (let X5:Int:=W .i64 (0-(((List.getD bN.2.1 kJ.toNat bO).2).1));cond (aL kJ (List.length bN.2.1)) (cond (aL kJ (List.length bN.2.1)) (cond (small (List.length aH+List.length ([((0:Int),((List.getD bN.2.1 kJ.toNat bO).1,(X5,()))),(iI,((List.getD bN.2.1 kJ.toNat bO).1,(((List.getD bN.2.1 kJ.toNat bO).2).1,())))]))) (yZ x2 x3 x5 x8 (aH++([((0:Int),((List.getD bN.2.1 kJ.toNat bO).1,(X5,()))),(iI,((List.getD bN.2.1 kJ.toNat bO).1,(((List.getD bN.2.1 kJ.toNat bO).2).1,())))])) aP bf bx bN cC iI (W .i64 (kJ+1))) (none)) (none)) (none)) (none)) (none)) ((fT N cC.2.2.2.1).bind fun rS=>(yS N (5:Int) iI (2:Int) (0:Int) rS).bind fun uv=>cond (small (List.length aP+List.length uv)) (cond (small (List.length bf+List.length ([bN]))) (cA x2 x3 x5 x8 aH (aP++uv) (bf++([bN])) (W .i64 (bx+1))) (none)) (none))
def nX.rA(N:Nat)(cA:nX.cR):Nat→nX.mP
 |0,_,_,_,_,_,_,_,_,_,_,_,_=>none
 |n+1,x2,x3,x5,x8,aH,aP,bf,bx,bN,cC,iI,kJ=>nX.qu N cA (nX.rA N cA n) x2 x3 x5 x8 aH aP bf bx bN cC iI kJ
def nX.ns(N:Nat)(y5:nX.mP)(cA:nX.cR)(x2:aB)(x3:ay)(x5:ah)(x8:ah)(aH:aj)(aP:bk)(bf:aB)(bx:Int):Option (ah×aB×(Int)):=
 cond (aM bx (List.length x2:Int)) (cond (aL bx (List.length x2)) (cond (small (List.length aV+List.length (((List.getD x2 bx.toNat ((0:Int),(aV,aA))).2).1))) (let v5:List ((Int)×((Int)×(Unit))):=aV++(((List.getD x2 bx.toNat ((0:Int),(aV,aA))).2).1);cond (!az (((((List.getD x2 bx.toNat ((0:Int),(aV,aA))).2).2).2).1) (1:Int)) (cond (small (List.length bf+List.length ([((List.getD x2 bx.toNat ((0:Int),(aV,aA))).1,(v5,((List.getD x2 bx.toNat ((0:Int),(aV,aA))).2).2))]))) (cA x2 x3 x5 x8 aH aP (bf++([((List.getD x2 bx.toNat ((0:Int),(aV,aA))).1,(v5,((List.getD x2 bx.toNat ((0:Int),(aV,aA))).2).2))])) (W .i64 (bx+1))) (none)) ((yW N x3 ((List.getD x2 bx.toNat ((0:Int),(aV,aA))).1)).bind fun r8=>cond (!r8.2) (cond (small (List.length bf+List.length ([((List.getD x2 bx.toNat ((0:Int),(aV,aA))).1,(v5,((((List.getD x2 bx.toNat ((0:Int),(aV,aA))).2).2).1,((3:Int),((((List.getD x2 bx.toNat ((0:Int),(aV,aA))).2).2).2).2))))]))) (cA x2 x3 x5 x8 aH aP (bf++([((List.getD x2 bx.toNat ((0:Int),(aV,aA))).1,(v5,((((List.getD x2 bx.toNat ((0:Int),(aV,aA))).2).2).1,((3:Int),((((List.getD x2 bx.toNat ((0:Int),(aV,aA))).2).2).2).2))))])) (W .i64 (bx+1))) (none)) ((su N x5.2.1 r8.1.2.2.1).bind fun lR=>cond (az lR 0) (some ((aV,(cm,(bh,(bh,(cK,(cT,())))))),[],(3:Int))) ((Ci N x5 r8.1.2.2.1).bind fun mU=>cond (az mU 0) (some ((aV,(cm,(bh,(bh,(cK,(cT,())))))),[],(3:Int))) (y5 x2 x3 x5 x8 aH aP bf bx ((List.getD x2 bx.toNat ((0:Int),(aV,aA))).1,(v5,((((List.getD x2 bx.toNat ((0:Int),(aV,aA))).2).2).1,((2:Int),(r8.1.2.2.1,(r8.1.2.2.2.1,((((((List.getD x2 bx.toNat ((0:Int),(aV,aA))).2).2).2).2).2).2)))))) r8.1 lR (0:Int)))))) (none)) (none)) ((yO N x5 aH aP).bind fun Gv=>cond (!az Gv.2 0) (some ((aV,(cm,(bh,(bh,(cK,(cT,())))))),[],Gv.2)) (some (Gv.1,bf,(0:Int))))
def nX.l7(N:Nat):Nat→nX.cR
 |0,_,_,_,_,_,_,_,_=>none
 |n+1,x2,x3,x5,x8,aH,aP,bf,bx=>nX.ns N (nX.rA N (nX.l7 N n) N) (nX.l7 N n) x2 x3 x5 x8 aH aP bf bx
def nX.b(N:Nat)(nZ:nX.cR)(a0:aa)(a1:ah)(a2:aB)(a3:ay):Option (ah×aB×(Int)):=
 (bD N a0 a1).bind fun r1=>cond (!r1) (some ((aV,(cm,(bh,(bh,(cK,(cT,())))))),[],(1:Int))) ((eS N a0 a2).bind fun r2=>cond (!r2) (some ((aV,(cm,(bh,(bh,(cK,(cT,())))))),[],(1:Int))) ((cP N a3).bind fun r3=>cond (!r3) (some ((aV,(cm,(bh,(bh,(cK,(cT,())))))),[],(1:Int))) (nZ a2 a3 a1 (aV,(cm,(bh,(bh,(cK,(cT,())))))) ([]) ([]) ([]) (0:Int))))
def nX(N:Nat)(a0:aa)(a1:ah)(a2:aB)(a3:ay):Option (ah×aB×(Int)):=nX.b N (nX.l7 N N) a0 a1 a2 a3
abbrev kG.bJ:=ax→Int→Option (Bool)
def kG.dx(N:Nat)(cz:kG.bJ)(x0:ax)(x3:Int):Option (Bool):=
 cond (aM x3 (List.length x0:Int)) (cond (aL x3 (List.length x0)) (cond (aM ((List.getD x0 x3.toNat bO).1) (1:Int)) (some false) (cond (aL x3 (List.length x0)) (cond (aM 12 ((List.getD x0 x3.toNat bO).1)) (some false) (cond (aL x3 (List.length x0)) (cond (aM (((List.getD x0 x3.toNat bO).2).1) (1:Int)) (some false) (cond (aL x3 (List.length x0)) (cond (aM 4 (((List.getD x0 x3.toNat bO).2).1)) (some false) (cond (aM 0 x3) (cond (aL x3 (List.length x0)) (let v2:Int:=W .i64 (x3-1);cond (aL v2 (List.length x0)) (cond (bS ((List.getD x0 x3.toNat bO).1) ((List.getD x0 v2.toNat bO).1)) (some false) (cz x0 (W .i64 (x3+1)))) (none)) (none)) (cz x0 (W .i64 (x3+1))))) (none))) (none))) (none))) (none)) (some true)
def kG.l2(N:Nat):Nat→kG.bJ
 |0,_,_=>none
 |n+1,x0,x3=>kG.dx N (kG.l2 N n) x0 x3
def kG.b(N:Nat)(eB:kG.bJ)(a0:ax):Option (Bool):=
 eB a0 (0:Int)
def kG(N:Nat)(a0:ax):Option (Bool):=kG.b N (kG.l2 N N) a0
abbrev mI.bJ:=(List (Int))→Int→Option (Bool)
def mI.dx(N:Nat)(cz:mI.bJ)(x0:List (Int))(x3:Int):Option (Bool):=
 cond (aM x3 (List.length x0:Int)) (cond (aL x3 (List.length x0)) (cond (aM (List.getD x0 x3.toNat (0:Int)) (1:Int)) (some false) (cond (aL x3 (List.length x0)) (cond (aM 12 (List.getD x0 x3.toNat (0:Int))) (some false) (cond (aM 0 x3) (cond (aL x3 (List.length x0)) (let v2:Int:=W .i64 (x3-1);cond (aL v2 (List.length x0)) (cond (bS (List.getD x0 x3.toNat (0:Int)) (List.getD x0 v2.toNat (0:Int))) (some false) (cz x0 (W .i64 (x3+1)))) (none)) (none)) (cz x0 (W .i64 (x3+1))))) (none))) (none)) (some true)
def mI.l2(N:Nat):Nat→mI.bJ
 |0,_,_=>none
 |n+1,x0,x3=>mI.dx N (mI.l2 N n) x0 x3
def mI.b(N:Nat)(eB:mI.bJ)(a0:List (Int)):Option (Bool):=
 eB a0 (0:Int)
def mI(N:Nat)(a0:List (Int)):Option (Bool):=mI.b N (mI.l2 N N) a0
abbrev fm.fu:=Int→aB→Int→Int→Option (Int)
abbrev fm.cq:=Int→aB→ay→Int→Int→Option (Int)
def fm.lq(N:Nat)(gV:fm.fu)(x0:Int)(x1:aB)(x7:Int)(aP:Int):Option (Int):=
 cond (aM aP (List.length x1:Int)) (cond (aL aP (List.length x1)) (cond (az (((((List.getD x1 aP.toNat ((0:Int),(aV,aA))).2).2).2).1) (2:Int)) (cond (aL aP (List.length x1)) (cond (az ((((((List.getD x1 aP.toNat ((0:Int),(aV,aA))).2).2).2).2).1) x0) (gV x0 x1 (4:Int) (W .i64 (aP+1))) (gV x0 x1 x7 (W .i64 (aP+1)))) (none)) (gV x0 x1 x7 (W .i64 (aP+1)))) (none)) (some x7)
def fm.mT(N:Nat):Nat→fm.fu
 |0,_,_,_,_=>none
 |n+1,x0,x1,x7,aP=>fm.lq N (fm.mT N n) x0 x1 x7 aP
def fm.iE(N:Nat)(qJ:fm.fu)(bZ:fm.cq)(x0:Int)(x1:aB)(x2:ay)(x7:Int)(x8:Int):Option (Int):=
 cond (aM x8 (List.length x2:Int)) (cond (aL x8 (List.length x2)) (cond (!az ((((List.getD x2 x8.toNat aA).2).2).1) x0) (bZ x0 x1 x2 x7 (W .i64 (x8+1))) (cond (aL x8 (List.length x2)) ((lD N x1 (((List.getD x2 x8.toNat aA).2).1)).bind fun r3=>cond (r3.2) (cond (aL x8 (List.length x2)) (cond (bS r3.1.2.2.1 (((((List.getD x2 x8.toNat aA).2).2).2).1)) (bZ x0 x1 x2 (mx x7 3) (W .i64 (x8+1))) (bZ x0 x1 x2 (mx x7 2) (W .i64 (x8+1)))) (none)) (bZ x0 x1 x2 (mx x7 2) (W .i64 (x8+1)))) (none))) (none)) (qJ x0 x1 x7 (0:Int))
def fm.l3(N:Nat):Nat→fm.cq
 |0,_,_,_,_,_=>none
 |n+1,x0,x1,x2,x7,x8=>fm.iE N (fm.mT N N) (fm.l3 N n) x0 x1 x2 x7 x8
def fm.b(N:Nat)(jj:fm.cq)(a0:Int)(a1:aB)(a2:ay):Option (Int):=
 jj a0 a1 a2 (1:Int) (0:Int)
def fm(N:Nat)(a0:Int)(a1:aB)(a2:ay):Option (Int):=fm.b N (fm.l3 N N) a0 a1 a2
abbrev cc.mQ:=ax→(List (Int))→aB→ay→ax→Int→Int→Bool→Int→Option (ax×(Int))
abbrev cc.qM:=ax→(List (Int))→aB→ay→ax→Int→Int→Bool→Int→Option (ax×(Int))
abbrev cc.il:=ax→(List (Int))→aB→ay→ax→Int→Int→Bool→Int→Option (ax×(Int))
abbrev cc.bl:=ax→(List (Int))→aB→ay→ax→Int→Option (ax×(Int))
def cc.rB(N:Nat)(bc:cc.bl)(ue:cc.mQ)(x1:ax)(x2:List (Int))(x3:aB)(x4:ay)(aP:ax)(bf:Int)(bx:Int)(bN:Bool)(iI:Int):Option (ax×(Int)):=
 cond (aM iI (List.length x4:Int)) (cond (bN) (ue x1 x2 x3 x4 aP bf bx true (W .i64 (iI+1))) (cond (aL iI (List.length x4)) (ue x1 x2 x3 x4 aP bf bx (az ((((List.getD x4 iI.toNat aA).2).2).1) bf) (W .i64 (iI+1))) (none))) (cond (bN) ((fm N bf x3 x4).bind fun rT=>let Jo:Int:=mx bx rT;cond (small (List.length aP+List.length ([(bf,(Jo,()))]))) (bc x1 x2 x3 x4 (aP++([(bf,(Jo,()))])) (W .i64 (bf+1))) (none)) (bc x1 x2 x3 x4 aP (W .i64 (bf+1))))
def cc.tR(N:Nat)(bc:cc.bl):Nat→cc.mQ
 |0,_,_,_,_,_,_,_,_,_=>none
 |n+1,x1,x2,x3,x4,aP,bf,bx,bN,iI=>cc.rB N bc (cc.tR N bc n) x1 x2 x3 x4 aP bf bx bN iI
def cc.yI(N:Nat)(za:cc.mQ)(bc:cc.bl)(wa:cc.qM)(x1:ax)(x2:List (Int))(x3:aB)(x4:ay)(aP:ax)(bf:Int)(bx:Int)(bN:Bool)(cD:Int):Option (ax×(Int)):=
 cond (aM cD (List.length x2:Int)) (cond (bN) (wa x1 x2 x3 x4 aP bf bx true (W .i64 (cD+1))) (cond (aL cD (List.length x2)) (wa x1 x2 x3 x4 aP bf bx (az (List.getD x2 cD.toNat (0:Int)) bf) (W .i64 (cD+1))) (none))) (za x1 x2 x3 x4 aP bf bx bN (0:Int))
def cc.AT(N:Nat)(bc:cc.bl):Nat→cc.qM
 |0,_,_,_,_,_,_,_,_,_=>none
 |n+1,x1,x2,x3,x4,aP,bf,bx,bN,cD=>cc.yI N (cc.tR N bc N) bc (cc.AT N bc n) x1 x2 x3 x4 aP bf bx bN cD
def cc.rN(N:Nat)(EY:cc.qM)(bc:cc.bl)(mR:cc.il)(x1:ax)(x2:List (Int))(x3:aB)(x4:ay)(aP:ax)(bf:Int)(bx:Int)(bN:Bool)(cC:Int):Option (ax×(Int)):=
 cond (aM cC (List.length x1:Int)) (cond (aL cC (List.length x1)) (cond (az ((List.getD x1 cC.toNat bO).1) bf) (cond (aL cC (List.length x1)) (mR x1 x2 x3 x4 aP bf (((List.getD x1 cC.toNat bO).2).1) true (W .i64 (cC+1))) (none)) (mR x1 x2 x3 x4 aP bf bx bN (W .i64 (cC+1)))) (none)) (EY x1 x2 x3 x4 aP bf bx bN (0:Int))
def cc.l9(N:Nat)(bc:cc.bl):Nat→cc.il
 |0,_,_,_,_,_,_,_,_,_=>none
 |n+1,x1,x2,x3,x4,aP,bf,bx,bN,cC=>cc.rN N (cc.AT N bc N) bc (cc.l9 N bc n) x1 x2 x3 x4 aP bf bx bN cC
def cc.dd(N:Nat)(sL:cc.il)(bc:cc.bl)(x1:ax)(x2:List (Int))(x3:aB)(x4:ay)(aP:ax)(bf:Int):Option (ax×(Int)):=
 cond (bS bf 12) (sL x1 x2 x3 x4 aP bf (0:Int) false (0:Int)) (some (aP,(0:Int)))
def cc.l5(N:Nat):Nat→cc.bl
 |0,_,_,_,_,_,_=>none
 |n+1,x1,x2,x3,x4,aP,bf=>cc.dd N (cc.l9 N (cc.l5 N n) N) (cc.l5 N n) x1 x2 x3 x4 aP bf
def cc.b(N:Nat)(dz:cc.bl)(a0:aa)(a1:ax)(a2:List (Int))(a3:aB)(a4:ay):Option (ax×(Int)):=
 (kG N a1).bind fun r1=>cond (!r1) (some ([],(1:Int))) ((mI N a2).bind fun r2=>cond (!r2) (some ([],(1:Int))) ((eS N a0 a3).bind fun r3=>cond (!r3) (some ([],(1:Int))) ((cP N a4).bind fun r4=>cond (!r4) (some ([],(1:Int))) (dz a1 a2 a3 a4 ([]) (1:Int)))))
def cc(N:Nat)(a0:aa)(a1:ax)(a2:List (Int))(a3:aB)(a4:ay):Option (ax×(Int)):=cc.b N (cc.l5 N N) a0 a1 a2 a3 a4
def HM(N:Nat)(a0:bg)(a1:ah)(a2:Int)(a3:Int)(a4:Int):Option bg:=
 (oz N a1.2.2.1 a3 a4).bind fun r1=>cond (aM 0 r1) (cond (small (List.length a0+List.length ([(a2,(a3,(a4,(r1,((0:Int),())))))]))) (some (a0++([(a2,(a3,(a4,(r1,((0:Int),())))))]))) (none)) (some a0)
def N9(N:Nat)(a0:Int):Option (Bool):=
 cond (az a0 1) (some true) (some (az a0 2))
abbrev mJ.ba:=ax→Int→Int→Option (Int)
def mJ.cL(N:Nat)(bw:mJ.ba)(x0:ax)(x1:Int)(x5:Int):Option (Int):=
 cond (aM x5 (List.length x0:Int)) (cond (aL x5 (List.length x0)) (cond (az ((List.getD x0 x5.toNat bO).1) x1) (cond (aL x5 (List.length x0)) (some (((List.getD x0 x5.toNat bO).2).1)) (none)) (bw x0 x1 (W .i64 (x5+1)))) (none)) (some (1:Int))
def mJ.l4(N:Nat):Nat→mJ.ba
 |0,_,_,_=>none
 |n+1,x0,x1,x5=>mJ.cL N (mJ.l4 N n) x0 x1 x5
def mJ.b(N:Nat)(df:mJ.ba)(a0:ax)(a1:Int):Option (Int):=
 (kG N a0).bind fun r1=>cond (!r1) (some (0:Int)) (df a0 a1 (0:Int))
def mJ(N:Nat)(a0:ax)(a1:Int):Option (Int):=mJ.b N (mJ.l4 N N) a0 a1
abbrev mK.bl:=ax→Int→Int→ah→(List (Int))→Int→Option ((List (Int))×(Int))
def mK.dd(N:Nat)(bc:mK.bl)(x2:ax)(x3:Int)(x4:Int)(x6:ah)(aP:List (Int))(bf:Int):Option ((List (Int))×(Int)):=
 cond (aM bf (List.length x6.1:Int)) (cond (aL bf (List.length x6.1)) ((N9 N (((List.getD x6.1 bf.toNat bO).2).1)).bind fun r4=>cond (r4) (cond (!az ((List.getD x6.1 bf.toNat bO).1) x3) ((oz N x6.2.2.1 (6:Int) ((List.getD x6.1 bf.toNat bO).1)).bind fun r5=>cond (aM 0 r5) ((mJ N x2 ((List.getD x6.1 bf.toNat bO).1)).bind fun r6=>cond (az r6 x4) (cond (small (List.length aP+List.length ([(List.getD x6.1 bf.toNat bO).1]))) (bc x2 x3 x4 x6 (aP++([(List.getD x6.1 bf.toNat bO).1])) (W .i64 (bf+1))) (none)) (bc x2 x3 x4 x6 aP (W .i64 (bf+1)))) (bc x2 x3 x4 x6 aP (W .i64 (bf+1)))) (bc x2 x3 x4 x6 aP (W .i64 (bf+1)))) (bc x2 x3 x4 x6 aP (W .i64 (bf+1)))) (none)) (some (aP,(0:Int)))
def mK.l5(N:Nat):Nat→mK.bl
 |0,_,_,_,_,_,_=>none
 |n+1,x2,x3,x4,x6,aP,bf=>mK.dd N (mK.l5 N n) x2 x3 x4 x6 aP bf
def mK.b(N:Nat)(dz:mK.bl)(a0:aa)(a1:ah)(a2:ax)(a3:Int)(a4:Int):Option ((List (Int))×(Int)):=
 (bD N a0 a1).bind fun r1=>cond (!r1) (some ([],(1:Int))) ((kG N a2).bind fun r2=>cond (!r2) (some ([],(1:Int))) (dz a2 a3 a4 a1 ([]) (0:Int)))
def mK(N:Nat)(a0:aa)(a1:ah)(a2:ax)(a3:Int)(a4:Int):Option ((List (Int))×(Int)):=mK.b N (mK.l5 N N) a0 a1 a2 a3 a4
abbrev bY.iA:=Int→ax→ax→aa→ah→bg→Int→(List (Int))→Int→Option (bg×(Int))
abbrev bY.y8:=Int→ax→ah→bg→Int→Option (bg×(Int))
abbrev bY.ow:=Int→ax→aa→ah→bg→Int→Option (bg×(Int))
abbrev bY.fu:=Int→ax→ax→aa→ah→bg→Int→Option (bg×(Int))
abbrev bY.HY:=Int→ax→ax→aa→ah→bg→Option (bg×(Int))
def bY.qt(N:Nat)(gV:bY.fu)(jt:bY.iA)(x2:Int)(x3:ax)(x4:ax)(x5:aa)(x6:ah)(aP:bg)(bx:Int)(bN:List (Int))(cD:Int):Option (bg×(Int)):=
 cond (aM cD (List.length bN:Int)) (cond (aL cD (List.length bN)) ((HM N aP x6 (W .i64 ((W .i64 ((4:Int)+bx))-1)) (6:Int) (List.getD bN cD.toNat (0:Int))).bind fun rT=>jt x2 x3 x4 x5 x6 rT bx bN (W .i64 (cD+1))) (none)) (gV x2 x3 x4 x5 x6 aP (W .i64 (bx+1)))
def bY.rz(N:Nat)(gV:bY.fu):Nat→bY.iA
 |0,_,_,_,_,_,_,_,_,_=>none
 |n+1,x2,x3,x4,x5,x6,aP,bx,bN,cD=>bY.qt N gV (bY.rz N gV n) x2 x3 x4 x5 x6 aP bx bN cD
def bY.D8(N:Nat)(vX:bY.y8)(x2:Int)(x4:ax)(x6:ah)(aP:bg)(Lf:Int):Option (bg×(Int)):=
 cond (aM Lf (List.length x4:Int)) (cond (aL Lf (List.length x4)) ((ye N x6.2.1 ((List.getD x4 Lf.toNat bO).1)).bind fun Jp=>cond (aL Lf (List.length x4)) (cond (aL Lf (List.length x4)) ((oz N x6.2.2.1 (5:Int) ((List.getD x4 Lf.toNat bO).1)).bind fun r32=>let v33:Int:=mn (((List.getD x4 Lf.toNat bO).2).1) r32;cond (Jp.2) (cond (!az Jp.1.2.1 x2) (cond (aM 0 v33) (cond (small (List.length aP+List.length ([((9:Int),((5:Int),(Jp.1.1,(v33,((0:Int),())))))]))) (vX x2 x4 x6 (aP++([((9:Int),((5:Int),(Jp.1.1,(v33,((0:Int),())))))])) (W .i64 (Lf+1))) (none)) (vX x2 x4 x6 aP (W .i64 (Lf+1)))) (vX x2 x4 x6 aP (W .i64 (Lf+1)))) (vX x2 x4 x6 aP (W .i64 (Lf+1)))) (none)) (none)) (none)) (some (aP,(0:Int)))
def bY.Hj(N:Nat):Nat→bY.y8
 |0,_,_,_,_,_=>none
 |n+1,x2,x4,x6,aP,Lf=>bY.D8 N (bY.Hj N n) x2 x4 x6 aP Lf
def bY.HJ(N:Nat)(Ou:bY.y8)(iC:bY.ow)(x2:Int)(x4:ax)(x5:aa)(x6:ah)(aP:bg)(iI:Int):Option (bg×(Int)):=
 cond (aM iI (List.length x6.1:Int)) (cond (aL iI (List.length x6.1)) ((N9 N (((List.getD x6.1 iI.toNat bO).2).1)).bind fun EZ=>cond (!EZ) (iC x2 x4 x5 x6 aP (W .i64 (iI+1))) (cond (az ((List.getD x6.1 iI.toNat bO).1) x2) (iC x2 x4 x5 x6 aP (W .i64 (iI+1))) ((fT N x5.2.2.1).bind fun Gv=>(oz N x6.2.2.1 (6:Int) ((List.getD x6.1 iI.toNat bO).1)).bind fun y4=>(fT N y4).bind fun zr=>(fF N Gv zr).bind fun CN=>(qm N CN).bind fun vY=>cond (!vY.2) (some ([],(2:Int))) (cond (aM 0 vY.1) (cond (small (List.length aP+List.length ([((8:Int),((7:Int),((List.getD x6.1 iI.toNat bO).1,(vY.1,((0:Int),())))))]))) (iC x2 x4 x5 x6 (aP++([((8:Int),((7:Int),((List.getD x6.1 iI.toNat bO).1,(vY.1,((0:Int),())))))])) (W .i64 (iI+1))) (none)) (iC x2 x4 x5 x6 aP (W .i64 (iI+1))))))) (none)) (Ou x2 x4 x6 aP (0:Int))
def bY.Cj(N:Nat):Nat→bY.ow
 |0,_,_,_,_,_,_=>none
 |n+1,x2,x4,x5,x6,aP,iI=>bY.HJ N (bY.Hj N N) (bY.Cj N n) x2 x4 x5 x6 aP iI
def bY.lq(N:Nat)(y6:bY.iA)(OE:bY.ow)(gV:bY.fu)(x2:Int)(x3:ax)(x4:ax)(x5:aa)(x6:ah)(aP:bg)(bx:Int):Option (bg×(Int)):=
 cond (bS bx 4) ((mK N x5 x6 x3 x2 bx).bind fun lR=>y6 x2 x3 x4 x5 x6 aP bx lR.1 (0:Int)) (OE x2 x4 x5 x6 aP (0:Int))
def bY.mT(N:Nat):Nat→bY.fu
 |0,_,_,_,_,_,_,_=>none
 |n+1,x2,x3,x4,x5,x6,aP,bx=>bY.lq N (bY.rz N (bY.mT N n) N) (bY.Cj N N) (bY.mT N n) x2 x3 x4 x5 x6 aP bx
def bY.GY(N:Nat)(qJ:bY.fu)(x2:Int)(x3:ax)(x4:ax)(x5:aa)(x6:ah)(aP:bg):Option (bg×(Int)):=
 (HM N aP x6 (2:Int) (6:Int) x2).bind fun r8=>(HM N r8 x6 (3:Int) (3:Int) (0:Int)).bind fun r9=>qJ x2 x3 x4 x5 x6 r9 (1:Int)
def bY.j9(N:Nat)(x2:Int)(x3:ax)(x4:ax)(x5:aa)(x6:ah)(aP:bg):Option (bg×(Int)):=bY.GY N (bY.mT N N) x2 x3 x4 x5 x6 aP
def bY.b(N:Nat)(zb:bY.HY)(a0:aa)(a1:ah)(a2:Int)(a3:ax)(a4:ax):Option (bg×(Int)):=
 (bD N a0 a1).bind fun r1=>cond (!r1) (some ([],(1:Int))) ((kG N a3).bind fun r2=>cond (!r2) (some ([],(1:Int))) ((lC N a4).bind fun r3=>cond (!r3) (some ([],(1:Int))) ((tC N a1.1 a2).bind fun r4=>cond (az r4 0) (some ([],(3:Int))) ((su N a1.2.1 a2).bind fun r5=>cond (!az r5 0) ((HM N ([]) a1 (1:Int) (5:Int) r5).bind fun r6=>zb a2 a3 a4 a0 a1 r6) (zb a2 a3 a4 a0 a1 ([]))))))
def bY(N:Nat)(a0:aa)(a1:ah)(a2:Int)(a3:ax)(a4:ax):Option (bg×(Int)):=bY.b N (bY.j9 N) a0 a1 a2 a3 a4
def Re(N:Nat)(a0:aa)(a1:ah):Option ((Int)×(Int)):=
 (bD N a0 a1).bind fun r1=>cond (!r1) (some ((0:Int),(1:Int))) ((oz N a1.2.2.1 (2:Int) (0:Int)).bind fun r2=>cond (az r2 (-9223372036854775808)) (some ((0:Int),(2:Int))) (some ((mx (W .i64 (0-r2)) (0:Int)),(0:Int))))
abbrev mL.ba:=bg→Int→Option (Bool)
def mL.cL(N:Nat)(bw:mL.ba)(x0:bg)(x3:Int):Option (Bool):=
 cond (aM x3 (List.length x0:Int)) (cond (aL x3 (List.length x0)) (cond (aM ((List.getD x0 x3.toNat jv).1) (1:Int)) (some false) (cond (aM 9 ((List.getD x0 x3.toNat jv).1)) (some false) ((G6 N (((List.getD x0 x3.toNat jv).2).1) ((((List.getD x0 x3.toNat jv).2).2).1)).bind fun r2=>cond (!r2) (some false) (cond (aM (((((List.getD x0 x3.toNat jv).2).2).2).1) (1:Int)) (some false) (cond (aM ((((((List.getD x0 x3.toNat jv).2).2).2).2).1) (0:Int)) (some false) (cond (aM (((((List.getD x0 x3.toNat jv).2).2).2).1) ((((((List.getD x0 x3.toNat jv).2).2).2).2).1)) (some false) (cond (aM 0 x3) (let v3:Int:=W .i64 (x3-1);cond (aL v3 (List.length x0)) (cond (aM ((List.getD x0 x3.toNat jv).1) ((List.getD x0 v3.toNat jv).1)) (some false) (let v4:Int:=W .i64 (x3-1);cond (aL v4 (List.length x0)) (cond (az ((List.getD x0 x3.toNat jv).1) ((List.getD x0 v4.toNat jv).1)) (let v5:Int:=W .i64 (x3-1);cond (aL v5 (List.length x0)) (cond (!az (((List.getD x0 x3.toNat jv).2).1) (((List.getD x0 v5.toNat jv).2).1)) (some false) (let v6:Int:=W .i64 (x3-1);cond (aL v6 (List.length x0)) (cond (bS ((((List.getD x0 x3.toNat jv).2).2).1) ((((List.getD x0 v6.toNat jv).2).2).1)) (some false) (bw x0 (W .i64 (x3+1)))) (none))) (none)) (bw x0 (W .i64 (x3+1)))) (none))) (none)) (bw x0 (W .i64 (x3+1)))))))))) (none)) (some true)
def mL.l4(N:Nat):Nat→mL.ba
 |0,_,_=>none
 |n+1,x0,x3=>mL.cL N (mL.l4 N n) x0 x3
def mL.b(N:Nat)(df:mL.ba)(a0:bg):Option (Bool):=
 cond (aM 64 (List.length a0:Int)) (some false) (df a0 (0:Int))
def mL(N:Nat)(a0:bg):Option (Bool):=mL.b N (mL.l4 N N) a0
abbrev ct.mQ:=bg→Int→Int→Int→(List (Int))→Int→Option (bg×(Int)×(Int))
abbrev ct.EV:=bg→Int→Int→Int→(List (Int))→Option (bg×(Int)×(Int))
abbrev ct.fh:=bg→Int→Int→Int→(List (Int))→Option (bg×(Int)×(Int))
abbrev ct.bl:=bg→Int→Int→Option (bg×(Int)×(Int))
def ct.rB(N:Nat)(bc:ct.bl)(ue:ct.mQ)(x7:bg)(x8:Int)(x9:Int)(aQ:Int)(bx:List (Int))(cC:Int):Option (bg×(Int)×(Int)):=
 cond (aM cC aQ) (let EU:Int:=W .i64 (cC-x9);cond (aL EU (List.length bx)) (cond (aL cC (List.length x7)) (let v15:Int:=W .i64 (cC-x9);cond (aL v15 (List.length bx)) (ue (List.set x7 cC.toNat ((List.getD x7 cC.toNat jv).1,(((List.getD x7 cC.toNat jv).2).1,((((List.getD x7 cC.toNat jv).2).2).1,(((((List.getD x7 cC.toNat jv).2).2).2).1,(List.getD bx EU.toNat (0:Int),(((((List.getD x7 cC.toNat jv).2).2).2).2).2)))))) (W .i64 (x8-(List.getD bx v15.toNat (0:Int)))) x9 aQ bx (W .i64 (cC+1))) (none)) (none)) (none)) (bc x7 x8 aQ)
def ct.tR(N:Nat)(bc:ct.bl):Nat→ct.mQ
 |0,_,_,_,_,_,_=>none
 |n+1,x7,x8,x9,aQ,bx,cC=>ct.rB N bc (ct.tR N bc n) x7 x8 x9 aQ bx cC
def ct.yR(N:Nat)(za:ct.mQ)(bc:ct.bl)(x7:bg)(x8:Int)(x9:Int)(aQ:Int)(aH:List (Int)):Option (bg×(Int)×(Int)):=
 (kP N aH).bind fun r8=>(qm N r8).bind fun r9=>cond (!r9.2) (some ([],(0:Int),(2:Int))) ((dn N (mn r9.1 x8) aH).bind fun lR=>cond (!az lR.2 0) (some ([],(0:Int),lR.2)) (za x7 x8 x9 aQ lR.1 x9))
def ct.Gr(N:Nat)(bc:ct.bl)(x7:bg)(x8:Int)(x9:Int)(aQ:Int)(aH:List (Int)):Option (bg×(Int)×(Int)):=ct.yR N (ct.tR N bc N) bc x7 x8 x9 aQ aH
def ct.w5(N:Nat)(vZ:ct.EV)(bc:ct.bl)(dr:ct.fh)(x7:bg)(x8:Int)(x9:Int)(aQ:Int)(aH:List (Int)):Option (bg×(Int)×(Int)):=
 cond (aM aQ (List.length x7:Int)) (cond (aL aQ (List.length x7)) (cond (aL x9 (List.length x7)) (cond (az ((List.getD x7 aQ.toNat jv).1) ((List.getD x7 x9.toNat jv).1)) (cond (aL aQ (List.length x7)) (cond (small (List.length aH+List.length ([((((List.getD x7 aQ.toNat jv).2).2).2).1]))) (dr x7 x8 x9 (W .i64 (aQ+1)) (aH++([((((List.getD x7 aQ.toNat jv).2).2).2).1]))) (none)) (none)) (vZ x7 x8 x9 aQ aH)) (none)) (none)) (vZ x7 x8 x9 aQ aH)
def ct.l8(N:Nat)(bc:ct.bl):Nat→ct.fh
 |0,_,_,_,_,_=>none
 |n+1,x7,x8,x9,aQ,aH=>ct.w5 N (ct.Gr N bc) bc (ct.l8 N bc n) x7 x8 x9 aQ aH
def ct.dd(N:Nat)(zc:ct.fh)(bc:ct.bl)(x7:bg)(x8:Int)(x9:Int):Option (bg×(Int)×(Int)):=
 cond (aM x9 (List.length x7:Int)) (zc x7 x8 x9 x9 ([])) (some (x7,x8,(0:Int)))
def ct.l5(N:Nat):Nat→ct.bl
 |0,_,_,_=>none
 |n+1,x7,x8,x9=>ct.dd N (ct.l8 N (ct.l5 N n) N) (ct.l5 N n) x7 x8 x9
def ct.b(N:Nat)(dz:ct.bl)(a0:bg)(a1:Int):Option (bg×(Int)×(Int)):=
 (mL N a0).bind fun r1=>cond (!r1) (some ([],(0:Int),(1:Int))) (cond (aM a1 0) (some ([],(0:Int),(1:Int))) (cond (small (List.length we+List.length a0)) (dz (we++a0) a1 (0:Int)) (none)))
def ct(N:Nat)(a0:bg)(a1:Int):Option (bg×(Int)×(Int)):=ct.b N (ct.l5 N N) a0 a1
def Rf(N:Nat)(a0:aa)(a1:ah):Option ((Int)×(Int)):=
 (bD N a0 a1).bind fun r1=>cond (!r1) (some ((0:Int),(1:Int))) ((oz N a1.2.2.1 (2:Int) (0:Int)).bind fun r2=>some ((mx r2 0),(0:Int)))
abbrev gz.adm:=ah→ah→cJ→bk→cJ→bg→Int→Int→Int→Option (ah×cJ×(Int))
abbrev gz.ze:=Int→aa→ah→ah→cJ→bg→Int→bk→cJ→bg→Int→Option (ah×cJ×(Int))
def gz.XS(N:Nat)(x6:ah)(aQ:ah)(aH:cJ)(iI:bk)(kJ:cJ)(zg:bg)(x21:Int)(x23:Int)(x24:Int):Option (ah×cJ×(Int)):=
 (fT N x21).bind fun rS=>(yS N (2:Int) (0:Int) x23 x24 rS).bind fun uv=>cond (small (List.length iI+List.length uv)) ((yO N x6 bh (iI++uv)).bind fun Bc=>cond (!az Bc.2 0) (some ((aV,(cm,(bh,(bh,(cK,(cT,())))))),((0:Int),((0:Int),(we,((0:Int),())))),Bc.2)) (some (Bc.1,(kJ.1,(kJ.2.1,(zg,kJ.2.2.2))),(0:Int)))) (none)
def gz.j26(N:Nat)(x6:ah)(aQ:ah)(aH:cJ)(iI:bk)(kJ:cJ)(zg:bg)(x21:Int)(x23:Int)(x24:Int):Option (ah×cJ×(Int)):=gz.XS N x6 aQ aH iI kJ zg x21 x23 x24
def gz.HA(N:Nat)(VY:gz.adm)(Bd:gz.ze)(x2:Int)(x5:aa)(x6:ah)(aQ:ah)(aH:cJ)(bf:bg)(cD:Int)(iI:bk)(kJ:cJ)(zg:bg)(Gw:Int):Option (ah×cJ×(Int)):=
 cond (aM Gw (List.length bf:Int)) (cond (aL Gw (List.length bf)) (cond (aM 0 ((((((List.getD bf Gw.toNat jv).2).2).2).2).1)) (cond (aL Gw (List.length bf)) (cond (small (List.length zg+List.length ([List.getD bf Gw.toNat jv]))) (cond (aL Gw (List.length bf)) (cond (aL Gw (List.length bf)) (cond (aL Gw (List.length bf)) ((fT N ((((((List.getD bf Gw.toNat jv).2).2).2).2).1)).bind fun r6=>(yS N (((List.getD bf Gw.toNat jv).2).1) ((((List.getD bf Gw.toNat jv).2).2).1) (2:Int) (0:Int) r6).bind fun r7=>cond (small (List.length iI+List.length r7)) (Bd x2 x5 x6 aQ aH bf cD (iI++r7) (kJ.1,(kJ.2.1,(we,kJ.2.2.2))) (zg++([List.getD bf Gw.toNat jv])) (W .i64 (Gw+1))) (none)) (none)) (none)) (none)) (none)) (none)) (Bd x2 x5 x6 aQ aH bf cD iI kJ zg (W .i64 (Gw+1)))) (none)) ((fT N cD).bind fun lR=>(yS N (4:Int) (0:Int) (2:Int) (0:Int) lR).bind fun mU=>cond (small (List.length iI+List.length mU)) (let EU:List ((Int)×((Int)×(((Bool)×((List (Int))×(Unit)))×(Unit)))):=iI++mU;(Rf N x5 x6).bind fun rC=>(su N x6.2.1 x2).bind fun rT=>cond (!az rT 0) (VY x6 aQ aH EU kJ zg rC.1 (5:Int) rT) (VY x6 aQ aH EU kJ zg rC.1 (6:Int) x2)) (none))
def gz.KK(N:Nat):Nat→gz.ze
 |0,_,_,_,_,_,_,_,_,_,_,_=>none
 |n+1,x2,x5,x6,aQ,aH,bf,cD,iI,kJ,zg,Gw=>gz.HA N (gz.j26 N) (gz.KK N n) x2 x5 x6 aQ aH bf cD iI kJ zg Gw
def gz.b(N:Nat)(Oz:gz.ze)(a0:aa)(a1:ah)(a2:Int)(a3:ax)(a4:ax):Option (ah×cJ×(Int)):=
 (bY N a0 a1 a2 a3 a4).bind fun r1=>cond (az r1.2 1) (some ((aV,(cm,(bh,(bh,(cK,(cT,())))))),((0:Int),((0:Int),(we,((0:Int),())))),r1.2)) (cond (az r1.2 3) (some ((aV,(cm,(bh,(bh,(cK,(cT,())))))),((0:Int),((0:Int),(we,((0:Int),())))),r1.2)) ((Re N a0 a1).bind fun r2=>cond (!az r2.2 0) (some ((aV,(cm,(bh,(bh,(cK,(cT,())))))),((0:Int),((0:Int),(we,((0:Int),())))),r2.2)) (cond (!az r1.2 0) (some ((aV,(cm,(bh,(bh,(cK,(cT,())))))),((0:Int),((0:Int),(we,((0:Int),())))),r1.2)) ((ct N r1.1 r2.1).bind fun r3=>cond (!az r3.2.2 0) (some ((aV,(cm,(bh,(bh,(cK,(cT,())))))),((0:Int),((0:Int),(we,((0:Int),())))),r3.2.2)) (Oz a2 a0 a1 (aV,(cm,(bh,(bh,(cK,(cT,())))))) ((0:Int),((0:Int),(we,((0:Int),())))) r3.1 r3.2.1 ([]) (a2,(r2.1,(we,(r3.2.1,())))) we (0:Int))))))
def gz(N:Nat)(a0:aa)(a1:ah)(a2:Int)(a3:ax)(a4:ax):Option (ah×cJ×(Int)):=gz.b N (gz.KK N N) a0 a1 a2 a3 a4
abbrev cS.qI:=(List (Int))→(List (Int))→(List (Int))→Int→Int→(List (Int))→Int→Option ((List (Int))×(Int)×(Int))
abbrev cS.fu:=(List (Int))→(List (Int))→(List (Int))→Int→Int→(List (Int))→Bool→Int→Option ((List (Int))×(Int)×(Int))
abbrev cS.fh:=(List (Int))→(List (Int))→(List (Int))→Int→Int→Option ((List (Int))×(Int)×(Int))
def cS.wI(N:Nat)(dr:cS.fh)(vW:cS.qI)(x1:List (Int))(x2:List (Int))(aH:List (Int))(aP:Int)(bf:Int)(cD:List (Int))(kJ:Int):Option ((List (Int))×(Int)×(Int)):=
 cond (aM kJ (List.length x1:Int)) (cond (aL kJ (List.length cD)) (cond (aL kJ (List.length x2)) (cond (aL kJ (List.length aH)) (let Jo:Int:=mn (List.getD cD kJ.toNat (0:Int)) (W .i64 ((List.getD x2 kJ.toNat (0:Int))-(List.getD aH kJ.toNat (0:Int))));cond (aL kJ (List.length aH)) (cond (aL kJ (List.length aH)) (vW x1 x2 (List.set aH kJ.toNat (W .i64 ((List.getD aH kJ.toNat (0:Int))+Jo))) (W .i64 (aP-Jo)) bf cD (W .i64 (kJ+1))) (none)) (none)) (none)) (none)) (none)) (dr x1 x2 aH aP (W .i64 (bf+1)))
def cS.yq(N:Nat)(dr:cS.fh):Nat→cS.qI
 |0,_,_,_,_,_,_,_=>none
 |n+1,x1,x2,aH,aP,bf,cD,kJ=>cS.wI N dr (cS.yq N dr n) x1 x2 aH aP bf cD kJ
def cS.lq(N:Nat)(ET:cS.qI)(dr:cS.fh)(gV:cS.fu)(x1:List (Int))(x2:List (Int))(aH:List (Int))(aP:Int)(bf:Int)(bx:List (Int))(bN:Bool)(cC:Int):Option ((List (Int))×(Int)×(Int)):=
 cond (aM cC (List.length x1:Int)) (cond (aL cC (List.length x1)) (cond (aM 0 (List.getD x1 cC.toNat (0:Int))) (cond (aL cC (List.length aH)) (cond (aL cC (List.length x2)) (cond (aM (List.getD aH cC.toNat (0:Int)) (List.getD x2 cC.toNat (0:Int))) (cond (aL cC (List.length x1)) (cond (aL cC (List.length bx)) (gV x1 x2 aH aP bf (List.set bx cC.toNat (List.getD x1 cC.toNat (0:Int))) true (W .i64 (cC+1))) (none)) (none)) (gV x1 x2 aH aP bf bx bN (W .i64 (cC+1)))) (none)) (none)) (gV x1 x2 aH aP bf bx bN (W .i64 (cC+1)))) (none)) (cond (az aP 0) (some (aH,aP,(0:Int))) (cond (!bN) (some (aH,aP,(0:Int))) ((dn N aP bx).bind fun kI=>ET x1 x2 aH aP bf kI.1 (0:Int))))
def cS.mT(N:Nat)(dr:cS.fh):Nat→cS.fu
 |0,_,_,_,_,_,_,_,_=>none
 |n+1,x1,x2,aH,aP,bf,bx,bN,cC=>cS.lq N (cS.yq N dr N) dr (cS.mT N dr n) x1 x2 aH aP bf bx bN cC
def cS.w5(N:Nat)(qJ:cS.fu)(dr:cS.fh)(x1:List (Int))(x2:List (Int))(aH:List (Int))(aP:Int)(bf:Int):Option ((List (Int))×(Int)×(Int)):=
 cond (bS bf (List.length x1:Int)) (cond (fK (List.length x1:Int) (List.length x1:Int)) (qJ x1 x2 aH aP bf (List.replicate (List.length x1:Int).toNat (0:Int)) false (0:Int)) (none)) (some (aH,aP,(0:Int)))
def cS.l8(N:Nat):Nat→cS.fh
 |0,_,_,_,_,_=>none
 |n+1,x1,x2,aH,aP,bf=>cS.w5 N (cS.mT N (cS.l8 N n) N) (cS.l8 N n) x1 x2 aH aP bf
def cS.b(N:Nat)(zc:cS.fh)(a0:Int)(a1:List (Int))(a2:List (Int)):Option ((List (Int))×(Int)×(Int)):=
 (kT N a0 a1).bind fun r1=>cond (r1) (some ([],(0:Int),(1:Int))) (cond (!az (List.length a2:Int) (List.length a1:Int)) (some ([],(0:Int),(1:Int))) ((kT N (0:Int) a2).bind fun r2=>cond (r2) (some ([],(0:Int),(1:Int))) ((kP N a1).bind fun r3=>(qm N r3).bind fun r4=>cond (!r4.2) (some ([],(0:Int),(2:Int))) (cond (fK (List.length a1:Int) (List.length a1:Int)) (zc a1 a2 (List.replicate (List.length a1:Int).toNat (0:Int)) a0 (0:Int)) (none)))))
def cS(N:Nat)(a0:Int)(a1:List (Int))(a2:List (Int)):Option ((List (Int))×(Int)×(Int)):=cS.b N (cS.l8 N N) a0 a1 a2
abbrev pj.OF:=Int→Int→(List (Int))→(List (Int))→aj→Int→Option (aj×(Int))
abbrev pj.qL:=Int→ah→Int→(List (Int))→(List (Int))→Int→Option (aj×(Int))
def pj.XU(N:Nat)(Jq:pj.OF)(x2:Int)(x8:Int)(x9:List (Int))(bf:List (Int))(cC:aj)(cD:Int):Option (aj×(Int)):=
 cond (aM cD (List.length bf:Int)) (cond (aL cD (List.length bf)) (cond (aM x8 0) (let v17:Int:=W .i64 (0-(List.getD bf cD.toNat (0:Int)));cond (!az v17 0) (cond (aL cD (List.length x9)) (cond (small (List.length cC+List.length ([(List.getD x9 cD.toNat (0:Int),(x2,(v17,())))]))) (Jq x2 x8 x9 bf (cC++([(List.getD x9 cD.toNat (0:Int),(x2,(v17,())))])) (W .i64 (cD+1))) (none)) (none)) (Jq x2 x8 x9 bf cC (W .i64 (cD+1)))) (cond (!az (List.getD bf cD.toNat (0:Int)) (0:Int)) (cond (aL cD (List.length x9)) (cond (small (List.length cC+List.length ([(List.getD x9 cD.toNat (0:Int),(x2,(List.getD bf cD.toNat (0:Int),())))]))) (Jq x2 x8 x9 bf (cC++([(List.getD x9 cD.toNat (0:Int),(x2,(List.getD bf cD.toNat (0:Int),())))])) (W .i64 (cD+1))) (none)) (none)) (Jq x2 x8 x9 bf cC (W .i64 (cD+1))))) (none)) (some (cC,(0:Int)))
def pj.XT(N:Nat):Nat→pj.OF
 |0,_,_,_,_,_,_=>none
 |n+1,x2,x8,x9,bf,cC,cD=>pj.XU N (pj.XT N n) x2 x8 x9 bf cC cD
def pj.yP(N:Nat)(adn:pj.OF)(uh:pj.qL)(x2:Int)(x4:ah)(x8:Int)(x9:List (Int))(aQ:List (Int))(aH:Int):Option (aj×(Int)):=
 cond (aM aH (List.length x4.2.2.2.1:Int)) (cond (aL aH (List.length x4.2.2.2.1)) (cond (!az ((List.getD x4.2.2.2.1 aH.toNat a7).1) (0:Int)) (cond (az (((List.getD x4.2.2.2.1 aH.toNat a7).2).1) x2) (cond (!(pz .bool (aM 0 ((((List.getD x4.2.2.2.1 aH.toNat a7).2).2).1)) (aM 0 x8))) (cond (small (List.length x9+List.length ([(List.getD x4.2.2.2.1 aH.toNat a7).1]))) (let v6:Int:=mx ((((List.getD x4.2.2.2.1 aH.toNat a7).2).2).1) (W .i64 (0-((((List.getD x4.2.2.2.1 aH.toNat a7).2).2).1)));cond (small (List.length aQ+List.length ([v6]))) (uh x2 x4 x8 (x9++([(List.getD x4.2.2.2.1 aH.toNat a7).1])) (aQ++([v6])) (W .i64 (aH+1))) (none)) (none)) (uh x2 x4 x8 x9 aQ (W .i64 (aH+1)))) (uh x2 x4 x8 x9 aQ (W .i64 (aH+1)))) (uh x2 x4 x8 x9 aQ (W .i64 (aH+1)))) (none)) ((cS N (mx x8 (W .i64 (0-x8))) aQ aQ).bind fun rC=>cond (!az rC.2.2 0) (some ([],rC.2.2)) (adn x2 x8 x9 rC.1 ([((0:Int),(x2,((W .i64 (0-x8)),())))]) (0:Int)))
def pj.A4(N:Nat):Nat→pj.qL
 |0,_,_,_,_,_,_=>none
 |n+1,x2,x4,x8,x9,aQ,aH=>pj.yP N (pj.XT N N) (pj.A4 N n) x2 x4 x8 x9 aQ aH
def pj.b(N:Nat)(EX:pj.qL)(a0:aa)(a1:ah)(a2:Int):Option (aj×(Int)):=
 (bD N a0 a1).bind fun r1=>cond (!r1) (some ([],(1:Int))) (cond (aM a2 0) (some ([],(3:Int))) (cond (bS (List.length a0.1:Int) a2) (some ([],(3:Int))) ((sQ N a1.2.2.2.1 (0:Int) a2).bind fun r2=>cond (az r2 0) (some ([],(0:Int))) (EX a2 a1 r2 ([]) ([]) (0:Int)))))
def pj(N:Nat)(a0:aa)(a1:ah)(a2:Int):Option (aj×(Int)):=pj.b N (pj.A4 N N) a0 a1 a2
abbrev yV.bl:=aa→ah→ah→aj→Int→Option (ah×(Int))
def yV.dd(N:Nat)(bc:yV.bl)(x2:aa)(x3:ah)(x4:ah)(x6:aj)(x7:Int):Option (ah×(Int)):=
 cond (aM x7 (List.length x2.1:Int)) ((pj N x2 x3 x7).bind fun r3=>cond (!az r3.2 0) (some ((aV,(cm,(bh,(bh,(cK,(cT,())))))),r3.2)) (cond (small (List.length x6+List.length r3.1)) (bc x2 x3 x4 (x6++r3.1) (W .i64 (x7+1))) (none))) ((yO N x3 x6 ([]:List ((Int)×((Int)×(((Bool)×((List (Int))×(Unit)))×(Unit)))))).bind fun r6=>some (r6.1,r6.2))
def yV.l5(N:Nat):Nat→yV.bl
 |0,_,_,_,_,_=>none
 |n+1,x2,x3,x4,x6,x7=>yV.dd N (yV.l5 N n) x2 x3 x4 x6 x7
def yV.b(N:Nat)(dz:yV.bl)(a0:aa)(a1:ah):Option (ah×(Int)):=
 (bD N a0 a1).bind fun r1=>cond (!r1) (some ((aV,(cm,(bh,(bh,(cK,(cT,())))))),(1:Int))) (dz a0 a1 (aV,(cm,(bh,(bh,(cK,(cT,())))))) ([]) (0:Int))
def yV(N:Nat)(a0:aa)(a1:ah):Option (ah×(Int)):=yV.b N (yV.l5 N N) a0 a1
abbrev mN.OG:=aJ→aJ→cy→aB→Int→Int→Option (aJ×cy)
def mN.XV(N:Nat)(VZ:mN.OG)(x4:aJ)(x6:aJ)(x7:cy)(bx:aB)(cC:Int)(cD:Int):Option (aJ×cy):=
 cond (aM cD (List.length bx:Int)) (cond (aL cD (List.length bx)) (cond (az (((((List.getD bx cD.toNat ((0:Int),(aV,aA))).2).2).2).1) (2:Int)) (VZ x4 x6 x7 bx (W .i64 (cC+1)) (W .i64 (cD+1))) (VZ x4 x6 x7 bx cC (W .i64 (cD+1)))) (none)) (some (x4,((0:Int),(cC,((0:Int),())))))
def mN.l41(N:Nat):Nat→mN.OG
 |0,_,_,_,_,_,_=>none
 |n+1,x4,x6,x7,bx,cC,cD=>mN.XV N (mN.l41 N n) x4 x6 x7 bx cC cD
def mN.b(N:Nat)(ado:mN.OG)(a0:aa)(a1:aJ)(a2:fg):Option (aJ×cy):=
 cond (az a2.1 14) ((Q9 N a0 a1.2.2.1 a1.2.2.2.1.1 a2.2.1 a2.2.2.1).bind fun r1=>(dM N r1.2).bind fun r2=>some ((a1.1,(a1.2.1,(r1.1,a1.2.2.2))),r2)) (cond (az a2.1 15) ((fp N a0 a1.2.2.1 a1.2.2.2.1.1).bind fun r3=>(dM N r3.2).bind fun r4=>some ((a1.1,(a1.2.1,(r3.1,((a1.2.2.2.1.1,((2:Int),((0:Int),a1.2.2.2.1.2.2.2))),a1.2.2.2.2)))),r4)) (cond (az a2.1 16) ((pf N a0 a1.2.2.1 a1.2.1).bind fun r5=>some ((a1.1,((W .i64 (a1.2.1+(List.length r5.1:Int))),(a1.2.2.1,((a1.2.2.2.1.1,(a1.2.2.2.1.2.1,(a1.2.2.2.1.2.2.1,(a1.2.2.2.1.2.2.2.1,(r5.1,a1.2.2.2.1.2.2.2.2.2))))),a1.2.2.2.2)))),(r5.2,((List.length r5.1:Int),((0:Int),()))))) (cond (az a2.1 17) ((mM N a0 a1 a2).bind fun r7=>some (r7.1,r7.2)) (cond (az a2.1 18) (cond (az a1.2.2.2.1.2.2.2.1 3) ((dM N (5:Int)).bind fun r8=>some (a1,r8)) ((cG N a0 a1.2.2.1 a1.2.1).bind fun r9=>cond (!az r9.2 0) ((dM N r9.2).bind fun ji=>some (a1,ji)) ((K6 N a1 a0.2.2.2.2.1).bind fun lR=>cond (!lR.2) ((dM N (2:Int)).bind fun mU=>some (a1,mU)) ((mH N a0 a1.2.2.1).bind fun rC=>some ((a1.1,((W .i64 (a1.2.1+(List.length r9.1:Int))),(a1.2.2.1,((a1.2.2.2.1.1,((3:Int),(lR.1,((W .i64 (a1.2.2.2.1.2.2.2.1+1)),(cm,(r9.1,(cm,(rC.1,a1.2.2.2.1.2.2.2.2.2.2.2.2)))))))),a1.2.2.2.2)))),((0:Int),((List.length r9.1:Int),((0:Int),())))))))) (cond (az a2.1 19) ((Rc N a0 a1.2.2.1 a1.2.2.2.1.2.2.2.2.2.1 a1.2.2.2.1.2.2.2.2.2.2.1 (a1.2.1,(a2.2.2.2.2.2.1,(a2.2.1,(a2.2.2.2.2.2.2.2.1,()))))).bind fun u7=>let v17:Int:=W .i64 (a1.2.1+1);some ((a1.1,(v17,(a1.2.2.1,((a1.2.2.2.1.1,(a1.2.2.2.1.2.1,(a1.2.2.2.1.2.2.1,(a1.2.2.2.1.2.2.2.1,(a1.2.2.2.1.2.2.2.2.1,(a1.2.2.2.1.2.2.2.2.2.1,(u7.1,a1.2.2.2.1.2.2.2.2.2.2.2))))))),a1.2.2.2.2)))),(u7.2,((W .i64 (v17-1)),((0:Int),()))))) (cond (az a2.1 20) ((nX N a0 a1.2.2.1 a1.2.2.2.1.2.2.2.2.2.1 a1.2.2.2.1.2.2.2.2.2.2.1).bind fun EZ=>cond (!az EZ.2.2 0) ((dM N EZ.2.2).bind fun Bc=>some (a1,Bc)) ((cc N a0 a1.2.2.2.1.2.2.2.2.2.2.2.2.1 a1.2.2.2.1.2.2.2.2.2.2.2.1 EZ.2.1 a1.2.2.2.1.2.2.2.2.2.2.1).bind fun y3=>ado (a1.1,(a1.2.1,(EZ.1,((a1.2.2.2.1.1,((2:Int),((0:Int),(a1.2.2.2.1.2.2.2.1,(a1.2.2.2.1.2.2.2.2.1,(EZ.2.1,(a1.2.2.2.1.2.2.2.2.2.2.1,(a1.2.2.2.1.2.2.2.2.2.2.2.1,(y3.1,a1.2.2.2.1.2.2.2.2.2.2.2.2.2))))))))),a1.2.2.2.2)))) ((0:Int),((0:Int),((aV,(cm,(bh,(bh,(cK,(cT,())))))),(((0:Int),((0:Int),((0:Int),((0:Int),(cm,(([]:List ((Int)×((List ((Int)×((Int)×(Unit))))×((Int)×((Int)×((Int)×((Int)×(Unit)))))))),(cm,(cK,(aV,(aV,())))))))))),(((0:Int),((0:Int),(we,((0:Int),())))),()))))) a7 EZ.2.1 (0:Int) (0:Int))) (cond (az a2.1 21) ((gz N a0 a1.2.2.1 a1.2.2.2.1.1 a1.2.2.2.1.2.2.2.2.2.2.2.2.1 a1.2.2.2.1.2.2.2.2.2.2.2.2.2.1).bind fun vY=>cond (!az vY.2.2 0) ((dM N vY.2.2).bind fun Le=>some (a1,Le)) ((yV N a0 vY.1).bind fun VS=>cond (!az VS.2 0) ((dM N VS.2).bind fun Ba=>some (a1,Ba)) ((kF N VS.1.1 a1.2.2.2.1.1 a2.1).bind fun HW=>some ((a1.1,(a1.2.1,((HW.1,VS.1.2),(((0:Int),((0:Int),((0:Int),((0:Int),(cm,(([]:List ((Int)×((List ((Int)×((Int)×(Unit))))×((Int)×((Int)×((Int)×((Int)×(Unit)))))))),(cm,(cK,(aV,(aV,())))))))))),(vY.2.1,a1.2.2.2.2.2))))),(HW.2,((0:Int),(vY.2.1.2.1,()))))))) ((dM N (0:Int)).bind fun Jp=>some (a1,Jp)))))))))
def mN(N:Nat)(a0:aa)(a1:aJ)(a2:fg):Option (aJ×cy):=mN.b N (mN.l41 N N) a0 a1 a2
abbrev pk.OD:=aa→aJ→fg→aJ→cy→Option (aJ×cy)
def pk.HK(N:Nat)(x3:aa)(x4:aJ)(x5:fg)(x6:aJ)(x7:cy):Option (aJ×cy):=
 (Rm N x4 x5.1).bind fun Le=>cond (!Le) ((dM N (6:Int)).bind fun VS=>some (x4,VS)) ((mN N x3 x4 x5).bind fun Ba=>some (Ba.1,Ba.2))
def pk.N4(N:Nat)(x3:aa)(x4:aJ)(x5:fg)(x6:aJ)(x7:cy):Option (aJ×cy):=pk.HK N x3 x4 x5 x6 x7
def pk.b(N:Nat)(E0:pk.OD)(a0:aa)(a1:aJ)(a2:fg):Option (aJ×cy):=
 cond (az a2.1 11) ((kF N a1.2.2.1.1 a2.2.1 a2.1).bind fun r1=>cond (az r1.2 0) (cond (az a2.1 11) ((KS N a0 (r1.1,a1.2.2.1.2) a2.2.1).bind fun r2=>cond (az a1.2.2.2.1.2.1 3) ((kU N a1.2.2.2.1.2.2.2.2.2.2.1 a2.2.1).bind fun r3=>(dM N r1.2).bind fun r4=>some ((a1.1,(a1.2.1,(r2.1,((a1.2.2.2.1.1,(a1.2.2.2.1.2.1,(a1.2.2.2.1.2.2.1,(a1.2.2.2.1.2.2.2.1,(a1.2.2.2.1.2.2.2.2.1,(a1.2.2.2.1.2.2.2.2.2.1,(r3,a1.2.2.2.1.2.2.2.2.2.2.2))))))),a1.2.2.2.2)))),r4)) ((dM N r1.2).bind fun r5=>some ((a1.1,(a1.2.1,(r2.1,a1.2.2.2))),r5))) ((dM N r1.2).bind fun r6=>some ((a1.1,(a1.2.1,((r1.1,a1.2.2.1.2),a1.2.2.2))),r6))) ((dM N r1.2).bind fun r7=>some ((a1.1,(a1.2.1,((r1.1,a1.2.2.1.2),a1.2.2.2))),r7))) (cond (az a2.1 12) ((kF N a1.2.2.1.1 a2.2.1 a2.1).bind fun r8=>cond (az r8.2 0) (cond (az a2.1 11) ((KS N a0 (r8.1,a1.2.2.1.2) a2.2.1).bind fun r9=>cond (az a1.2.2.2.1.2.1 3) ((kU N a1.2.2.2.1.2.2.2.2.2.2.1 a2.2.1).bind fun ji=>(dM N r8.2).bind fun lR=>some ((a1.1,(a1.2.1,(r9.1,((a1.2.2.2.1.1,(a1.2.2.2.1.2.1,(a1.2.2.2.1.2.2.1,(a1.2.2.2.1.2.2.2.1,(a1.2.2.2.1.2.2.2.2.1,(a1.2.2.2.1.2.2.2.2.2.1,(ji,a1.2.2.2.1.2.2.2.2.2.2.2))))))),a1.2.2.2.2)))),lR)) ((dM N r8.2).bind fun mU=>some ((a1.1,(a1.2.1,(r9.1,a1.2.2.2))),mU))) ((dM N r8.2).bind fun kI=>some ((a1.1,(a1.2.1,((r8.1,a1.2.2.1.2),a1.2.2.2))),kI))) ((dM N r8.2).bind fun rC=>some ((a1.1,(a1.2.1,((r8.1,a1.2.2.1.2),a1.2.2.2))),rC))) (cond (az a2.1 13) ((Cm N a1 a2.2.1).bind fun rT=>cond (az rT 0) ((dM N (3:Int)).bind fun u7=>some (a1,u7)) (cond (!az a1.2.2.2.1.2.1 0) ((dM N (6:Int)).bind fun rS=>some (a1,rS)) ((kF N a1.2.2.1.1 a2.2.1 a2.1).bind fun uv=>cond (!az uv.2 0) ((dM N uv.2).bind fun EZ=>some ((a1.1,(a1.2.1,((uv.1,a1.2.2.1.2),a1.2.2.2))),EZ)) ((K6 N (a1.1,(a1.2.1,((uv.1,a1.2.2.1.2),a1.2.2.2))) a0.2.2.2.1).bind fun Bc=>cond (!Bc.2) ((dM N (2:Int)).bind fun y3=>some ((a1.1,(a1.2.1,((uv.1,a1.2.2.1.2),a1.2.2.2))),y3)) (some ((a1.1,(a1.2.1,((uv.1,a1.2.2.1.2),((a2.2.1,((1:Int),(Bc.1,((0:Int),(cm,(([]:List ((Int)×((List ((Int)×((Int)×(Unit))))×((Int)×((Int)×((Int)×((Int)×(Unit)))))))),(cm,(cK,(aV,(aV,())))))))))),a1.2.2.2.2)))),a7)))))) (cond (az a2.1 19) ((Cm N a1 a2.2.1).bind fun Gv=>cond (az Gv 0) ((dM N (3:Int)).bind fun y4=>some (a1,y4)) ((Cm N a1 a2.2.1).bind fun zr=>cond (!az zr 1) ((dM N (7:Int)).bind fun CN=>some (a1,CN)) (E0 a0 a1 a2 ((0:Int),((0:Int),((aV,(cm,(bh,(bh,(cK,(cT,())))))),(((0:Int),((0:Int),((0:Int),((0:Int),(cm,(([]:List ((Int)×((List ((Int)×((Int)×(Unit))))×((Int)×((Int)×((Int)×((Int)×(Unit)))))))),(cm,(cK,(aV,(aV,())))))))))),(((0:Int),((0:Int),(we,((0:Int),())))),()))))) a7))) (E0 a0 a1 a2 ((0:Int),((0:Int),((aV,(cm,(bh,(bh,(cK,(cT,())))))),(((0:Int),((0:Int),((0:Int),((0:Int),(cm,(([]:List ((Int)×((List ((Int)×((Int)×(Unit))))×((Int)×((Int)×((Int)×((Int)×(Unit)))))))),(cm,(cK,(aV,(aV,())))))))))),(((0:Int),((0:Int),(we,((0:Int),())))),()))))) a7))))
def pk(N:Nat)(a0:aa)(a1:aJ)(a2:fg):Option (aJ×cy):=pk.b N (pk.N4 N) a0 a1 a2
def Rp(N:Nat)(a0:aa)(a1:aJ)(a2:fg):Option (aJ×cy):=
 cond (az a2.1 1) ((gw N a1.2.2.1.1 a2.2.1).bind fun r1=>(dM N r1.2).bind fun r2=>some ((a1.1,(a1.2.1,((r1.1,a1.2.2.1.2),a1.2.2.2))),r2)) (cond (az a2.1 2) ((ec N a1.2.2.1.1 a1.2.2.1.2.1 (a2.2.2.1,(a2.2.1,(a2.2.2.2.2.1,((0:Int),()))))).bind fun r3=>(dM N r3.2).bind fun r4=>some ((a1.1,(a1.2.1,((a1.2.2.1.1,(r3.1,a1.2.2.1.2.2)),a1.2.2.2))),r4)) (cond (az a2.1 3) ((Oi N a1 a2.2.2.1).bind fun r5=>cond (!r5) ((dM N (3:Int)).bind fun r6=>some (a1,r6)) ((K7 N a1 (1:Int) (0:Int) (5:Int) a2.2.2.1 a2.2.2.2.2.2.2.1).bind fun r7=>some (r7.1,r7.2))) (cond (az a2.1 4) ((Q7 N a0 a1.2.2.1 a2.2.2.1 a2.2.2.2.2.2.2.1).bind fun r8=>(dM N r8.2).bind fun r9=>some ((a1.1,(a1.2.1,(r8.1,a1.2.2.2))),r9)) (cond (az a2.1 5) ((Cm N a1 a2.2.1).bind fun ji=>cond (az ji 0) ((dM N (3:Int)).bind fun lR=>some (a1,lR)) ((Cm N a1 a2.2.1).bind fun mU=>cond (!az mU 1) ((dM N (7:Int)).bind fun kI=>some (a1,kI)) ((K7 N a1 (1:Int) (0:Int) (6:Int) a2.2.1 a2.2.2.2.2.2.2.1).bind fun rC=>some (rC.1,rC.2)))) (cond (az a2.1 22) ((Cm N a1 a2.2.1).bind fun rT=>cond (az rT 0) ((dM N (3:Int)).bind fun u7=>some (a1,u7)) ((oz N a1.2.2.1.2.2.1 (7:Int) a2.2.1).bind fun rS=>(fT N rS).bind fun uv=>(Lp N uv).bind fun EZ=>(fT N a2.2.2.2.2.2.2.1).bind fun Bc=>(Gp N Bc EZ).bind fun y3=>cond (aM 0 y3) ((dM N (9:Int)).bind fun Gv=>some (a1,Gv)) ((K7 N a1 (1:Int) (0:Int) (7:Int) a2.2.1 a2.2.2.2.2.2.2.1).bind fun y4=>some (y4.1,y4.2)))) (cond (az a2.1 6) ((mB N a1.2.2.1.2.1 a2.2.2.1 a2.2.2.2.2.2.2.1).bind fun zr=>(dM N zr.2).bind fun CN=>some ((a1.1,(a1.2.1,((a1.2.2.1.1,(zr.1,a1.2.2.1.2.2)),a1.2.2.2))),CN)) (cond (az a2.1 7) ((iH N a0 a1.2.2.1 (a1.2.1,(a2.2.2.1,(a2.2.2.2.1,(a2.2.2.2.2.1,(a2.2.2.2.2.2.2.1,(a2.2.2.2.2.2.2.2.1,()))))))).bind fun vY=>let v27:Int:=W .i64 (a1.2.1+1);some ((a1.1,(v27,(vY.1,a1.2.2.2))),(vY.2.2.2,((W .i64 (v27-1)),((W .i64 (a2.2.2.2.2.2.2.1-vY.2.2.1)),()))))) (cond (az a2.1 8) ((Oi N a1 a2.2.2.1).bind fun HW=>cond (!HW) ((dM N (3:Int)).bind fun Jp=>some (a1,Jp)) ((mE N a1.2.2.1.2.2.2.2.2.1 a2.2.2.1 a2.2.2.2.2.2.1).bind fun r32=>(dM N r32.2).bind fun r33=>some ((a1.1,(a1.2.1,((a1.2.2.1.1,(a1.2.2.1.2.1,(a1.2.2.1.2.2.1,(a1.2.2.1.2.2.2.1,(a1.2.2.1.2.2.2.2.1,(r32.1,a1.2.2.1.2.2.2.2.2.2)))))),a1.2.2.2))),r33))) (cond (az a2.1 9) ((Q6 N a0 a1.2.2.1 a2.2.2.2.1 a2.2.2.2.2.2.2.2.1).bind fun Ot=>cond (az Ot.2.2 0) (cond (!az a1.2.2.2.1.2.1 0) ((cV N a1.2.2.2.1.2.2.2.2.2.2.2.2.2.1 Ot.2.1).bind fun r35=>(dM N r35.2).bind fun r36=>some ((a1.1,(a1.2.1,(Ot.1,((a1.2.2.2.1.1,(a1.2.2.2.1.2.1,(a1.2.2.2.1.2.2.1,(a1.2.2.2.1.2.2.2.1,(a1.2.2.2.1.2.2.2.2.1,(a1.2.2.2.1.2.2.2.2.2.1,(a1.2.2.2.1.2.2.2.2.2.2.1,(a1.2.2.2.1.2.2.2.2.2.2.2.1,(a1.2.2.2.1.2.2.2.2.2.2.2.2.1,(r35.1,a1.2.2.2.1.2.2.2.2.2.2.2.2.2.2)))))))))),a1.2.2.2.2)))),r36)) ((dM N Ot.2.2).bind fun r37=>some ((a1.1,(a1.2.1,(Ot.1,a1.2.2.2))),r37))) ((dM N Ot.2.2).bind fun r38=>some ((a1.1,(a1.2.1,(Ot.1,a1.2.2.2))),r38))) (cond (az a2.1 10) ((K6 N a1 a2.2.2.2.2.2.2.1).bind fun r39=>cond (!r39.2) ((dM N (2:Int)).bind fun r40=>some (a1,r40)) (some ((r39.1,a1.2),a7))) ((pk N a0 a1 a2).bind fun r41=>some (r41.1,r41.2))))))))))))
def Rr(N:Nat)(a0:aa)(a1:aJ)(a2:fg):Option (aJ×cy):=
 (hQ N a0).bind fun r1=>cond (!r1) (some (a1,((1:Int),bO))) ((mA N a2).bind fun r2=>cond (!r2) (some (a1,((1:Int),bO))) ((Rp N a0 a1 a2).bind fun r3=>cond (!az r3.2.1 0) (some (a1,(r3.2.1,bO))) (some (r3.1,r3.2))))
abbrev yY.eC:=fy→aa→aJ→aJ→aj→Int→Option (aJ×aj)
def yY.n4(N:Nat)(eu:yY.eC)(x1:fy)(x2:aa)(x4:aJ)(x6:aJ)(x8:aj)(x9:Int):Option (aJ×aj):=
 cond (aM x9 (List.length x1:Int)) (cond (aL x9 (List.length x1)) ((Rr N x2 x6 (List.getD x1 x9.toNat zz8)).bind fun r3=>cond (small (List.length x8+List.length ([r3.2]))) (eu x1 x2 x4 r3.1 (x8++([r3.2])) (W .i64 (x9+1))) (none)) (none)) (some (x6,x8))
def yY.l6(N:Nat):Nat→yY.eC
 |0,_,_,_,_,_,_=>none
 |n+1,x1,x2,x4,x6,x8,x9=>yY.n4 N (yY.l6 N n) x1 x2 x4 x6 x8 x9
def yY.b(N:Nat)(pv:yY.eC)(a0:aa)(a1:fy):Option (aJ×aj):=
 (XX N a0).bind fun r1=>cond (!az r1.2 0) (some (((0:Int),((0:Int),((aV,(cm,(bh,(bh,(cK,(cT,())))))),(((0:Int),((0:Int),((0:Int),((0:Int),(cm,(([]:List ((Int)×((List ((Int)×((Int)×(Unit))))×((Int)×((Int)×((Int)×((Int)×(Unit)))))))),(cm,(cK,(aV,(aV,())))))))))),(((0:Int),((0:Int),(we,((0:Int),())))),()))))),[])) (pv a1 a0 ((0:Int),((0:Int),((aV,(cm,(bh,(bh,(cK,(cT,())))))),(((0:Int),((0:Int),((0:Int),((0:Int),(cm,(([]:List ((Int)×((List ((Int)×((Int)×(Unit))))×((Int)×((Int)×((Int)×((Int)×(Unit)))))))),(cm,(cK,(aV,(aV,())))))))))),(((0:Int),((0:Int),(we,((0:Int),())))),()))))) r1.1 ([]) (0:Int))
def yY(N:Nat)(a0:aa)(a1:fy):Option (aJ×aj):=yY.b N (yY.l6 N N) a0 a1
def F28(N:Nat)(a0:aI)(a1:aa)(a2:Int):Option (aJ×aI):=
 (xd N a0 a1 a2).bind fun r1=>(nJ N r1.2 (2:Int)).bind fun r2=>let v3:Int:=W .i64 ((1:Int)+r2.1);cond (small (List.length r1.1+List.length ([((11:Int),(v3,dZ)),((13:Int),(v3,dZ))]))) (let v4:List ((Int)×((Int)×((Int)×((Int)×((Int)×((Int)×((Int)×((Int)×(Unit))))))))):=r1.1++([((11:Int),(v3,dZ)),((13:Int),(v3,dZ))]);(wL N r2.2 a1).bind fun r5=>cond (small (List.length v4+List.length r5.1)) (let v6:List ((Int)×((Int)×((Int)×((Int)×((Int)×((Int)×((Int)×((Int)×(Unit))))))))):=v4++r5.1;cond (small (List.length v6+List.length ([((10:Int),((0:Int),((0:Int),((0:Int),((0:Int),((0:Int),((2:Int),((0:Int),())))))))),((15:Int),Vp)]))) (let v7:List ((Int)×((Int)×((Int)×((Int)×((Int)×((Int)×((Int)×((Int)×(Unit))))))))):=v6++([((10:Int),((0:Int),((0:Int),((0:Int),((0:Int),((0:Int),((2:Int),((0:Int),())))))))),((15:Int),Vp)]);(wL N r5.2 a1).bind fun r8=>cond (small (List.length v7+List.length r8.1)) ((yY N a1 (v7++r8.1)).bind fun ji=>some (ji.1,r8.2)) (none)) (none)) (none)) (none)
abbrev m3.il:=aI→aa→aJ→aa→aJ→aB→ay→Int→Int→Option (aa×aJ×aB×ay×aI)
abbrev m3.eC:=aI→aa→aJ→aa→aJ→aB→ay→Int→Option (aa×aJ×aB×ay×aI)
def m3.rN(N:Nat)(eu:m3.eC)(mR:m3.il)(x0:aI)(x2:aa)(x3:aJ)(x6:aa)(x7:aJ)(x8:aB)(aQ:ay)(aH:Int)(aP:Int):Option (aa×aJ×aB×ay×aI):=
 cond (bS aP 4) (cond (aM (List.length aQ:Int) 40) ((HC N x0 (3:Int)).bind fun r6=>cond (!r6.1) (let v7:Int:=W .i64 ((100:Int)+(List.length aQ:Int));cond (aL aH (List.length x8)) ((nJ N r6.2 (9:Int)).bind fun r8=>let v9:Int:=W .i64 (r8.1-6);cond (small (List.length aQ+List.length ([(v7,((List.getD x8 aH.toNat ((0:Int),(aV,aA))).1,(aP,(v9,()))))]))) (mR r8.2 x2 x3 x6 x7 x8 (aQ++([(v7,((List.getD x8 aH.toNat ((0:Int),(aV,aA))).1,(aP,(v9,()))))])) aH (W .i64 (aP+1))) (none)) (none)) (mR r6.2 x2 x3 x6 x7 x8 aQ aH (W .i64 (aP+1)))) ((HC N x0 (12:Int)).bind fun kI=>cond (kI.1) (cond (aL aH (List.length x8)) (eu kI.2 x2 x3 x6 x7 (List.set x8 aH.toNat ((List.getD x8 aH.toNat ((0:Int),(aV,aA))).1,(((List.getD x8 aH.toNat ((0:Int),(aV,aA))).2).1,((((List.getD x8 aH.toNat ((0:Int),(aV,aA))).2).2).1,((3:Int),((((List.getD x8 aH.toNat ((0:Int),(aV,aA))).2).2).2).2))))) aQ (W .i64 (aH+1))) (none)) (eu kI.2 x2 x3 x6 x7 x8 aQ (W .i64 (aH+1))))) ((HC N x0 (12:Int)).bind fun rS=>cond (rS.1) (cond (aL aH (List.length x8)) (eu rS.2 x2 x3 x6 x7 (List.set x8 aH.toNat ((List.getD x8 aH.toNat ((0:Int),(aV,aA))).1,(((List.getD x8 aH.toNat ((0:Int),(aV,aA))).2).1,((((List.getD x8 aH.toNat ((0:Int),(aV,aA))).2).2).1,((3:Int),((((List.getD x8 aH.toNat ((0:Int),(aV,aA))).2).2).2).2))))) aQ (W .i64 (aH+1))) (none)) (eu rS.2 x2 x3 x6 x7 x8 aQ (W .i64 (aH+1))))
def m3.l9(N:Nat)(eu:m3.eC):Nat→m3.il
 |0,_,_,_,_,_,_,_,_,_=>none
 |n+1,x0,x2,x3,x6,x7,x8,aQ,aH,aP=>m3.rN N eu (m3.l9 N eu n) x0 x2 x3 x6 x7 x8 aQ aH aP
def m3.n4(N:Nat)(sL:m3.il)(eu:m3.eC)(x0:aI)(x2:aa)(x3:aJ)(x6:aa)(x7:aJ)(x8:aB)(aQ:ay)(aH:Int):Option (aa×aJ×aB×ay×aI):=
 cond (aM aH (List.length x8:Int)) (sL x0 x2 x3 x6 x7 x8 aQ aH (1:Int)) (cond (aM 0 (List.length aQ:Int)) ((HC N x0 (20:Int)).bind fun y3=>cond (y3.1) (cond (aL 0 (List.length aQ)) (some (x6,x7,x8,(List.set aQ (0:Int).toNat ((List.getD aQ (0:Int).toNat aA).1,(((List.getD aQ (0:Int).toNat aA).2).1,((9:Int),(((List.getD aQ (0:Int).toNat aA).2).2).2)))),y3.2)) (none)) (some (x6,x7,x8,aQ,y3.2))) (some (x6,x7,x8,aQ,x0)))
def m3.l6(N:Nat):Nat→m3.eC
 |0,_,_,_,_,_,_,_,_=>none
 |n+1,x0,x2,x3,x6,x7,x8,aQ,aH=>m3.n4 N (m3.l9 N (m3.l6 N n) N) (m3.l6 N n) x0 x2 x3 x6 x7 x8 aQ aH
def m3.b(N:Nat)(pv:m3.eC)(a0:aI):Option (aa×aJ×aB×ay×aI):=
 (ph N a0).bind fun r1=>(F28 N r1.2 r1.1 (20:Int)).bind fun r2=>(cG N r1.1 r2.1.2.2.1 r2.1.2.1).bind fun r3=>pv r2.2 (cm,dZ) ((0:Int),((0:Int),((aV,(cm,(bh,(bh,(cK,(cT,())))))),(((0:Int),((0:Int),((0:Int),((0:Int),(cm,(([]:List ((Int)×((List ((Int)×((Int)×(Unit))))×((Int)×((Int)×((Int)×((Int)×(Unit)))))))),(cm,(cK,(aV,(aV,())))))))))),(((0:Int),((0:Int),(we,((0:Int),())))),()))))) r1.1 r2.1 r3.1 ([]) (0:Int)
def m3(N:Nat)(a0:aI):Option (aa×aJ×aB×ay×aI):=m3.b N (m3.l6 N N) a0
abbrev wM.ba:=ax→ax→Int→Option (Bool)
def wM.cL(N:Nat)(bw:wM.ba)(x0:ax)(x1:ax)(x5:Int):Option (Bool):=
 cond (aM x5 (List.length x0:Int)) (cond (aL x5 (List.length x0)) (cond (aL x5 (List.length x1)) (cond (!(pz (.pair (.int .i64) (.pair (.int .i64) .unit)) (List.getD x0 x5.toNat bO) (List.getD x1 x5.toNat bO))) (some false) (bw x0 x1 (W .i64 (x5+1)))) (none)) (none)) (some true)
def wM.l4(N:Nat):Nat→wM.ba
 |0,_,_,_=>none
 |n+1,x0,x1,x5=>wM.cL N (wM.l4 N n) x0 x1 x5
def wM.b(N:Nat)(df:wM.ba)(a0:ax)(a1:ax):Option (Bool):=
 cond (!az (List.length a0:Int) (List.length a1:Int)) (some false) (df a0 a1 (0:Int))
def wM(N:Nat)(a0:ax)(a1:ax):Option (Bool):=wM.b N (wM.l4 N N) a0 a1
abbrev F4.qI:=aB→ay→aB→Int→Bool→Int→Int→Option (Bool)
abbrev F4.A8:=aB→ay→aB→Int→Option (Bool)
def F4.wI(N:Nat)(ui:F4.A8)(vW:F4.qI)(x5:aB)(x6:ay)(x8:aB)(aQ:Int)(aH:Bool)(aP:Int)(bf:Int):Option (Bool):=
 cond (aM bf (List.length x6:Int)) (cond (aL bf (List.length x6)) (cond (aL aQ (List.length x8)) (cond (!az (((List.getD x6 bf.toNat aA).2).1) ((List.getD x8 aQ.toNat ((0:Int),(aV,aA))).1)) (vW x5 x6 x8 aQ aH aP (W .i64 (bf+1))) (cond (aL aQ (List.length x8)) (cond (!az (((((List.getD x8 aQ.toNat ((0:Int),(aV,aA))).2).2).2).1) (2:Int)) (some false) (cond (aL bf (List.length x6)) (cond (aL aQ (List.length x8)) (cond (aM (((((((List.getD x8 aQ.toNat ((0:Int),(aV,aA))).2).2).2).2).2).1) (((((List.getD x6 bf.toNat aA).2).2).2).1)) (some false) (cond (aM aP 0) (cond (aL bf (List.length x6)) (cond (aL aQ (List.length x8)) (cond (az (((((List.getD x6 bf.toNat aA).2).2).2).1) (((((((List.getD x8 aQ.toNat ((0:Int),(aV,aA))).2).2).2).2).2).1)) (vW x5 x6 x8 aQ true bf (W .i64 (bf+1))) (vW x5 x6 x8 aQ true aP (W .i64 (bf+1)))) (none)) (none)) (vW x5 x6 x8 aQ true aP (W .i64 (bf+1))))) (none)) (none))) (none))) (none)) (none)) (cond (!aH) (cond (aL aQ (List.length x8)) (cond (!az (((((List.getD x8 aQ.toNat ((0:Int),(aV,aA))).2).2).2).1) (3:Int)) (some false) (cond (aL aQ (List.length x8)) (cond (!az ((((((List.getD x8 aQ.toNat ((0:Int),(aV,aA))).2).2).2).2).1) (0:Int)) (some false) (cond (aL aQ (List.length x8)) (cond (!az (((((((List.getD x8 aQ.toNat ((0:Int),(aV,aA))).2).2).2).2).2).1) (0:Int)) (some false) (cond (aH) (cond (aM aP 0) (some false) (cond (aL aP (List.length x6)) (cond (aL aQ (List.length x8)) (cond (!az ((((List.getD x6 aP.toNat aA).2).2).1) ((((((List.getD x8 aQ.toNat ((0:Int),(aV,aA))).2).2).2).2).1)) (some false) (ui x5 x6 x8 (W .i64 (aQ+1)))) (none)) (none))) (ui x5 x6 x8 (W .i64 (aQ+1))))) (none))) (none))) (none)) (cond (aH) (cond (aM aP 0) (some false) (cond (aL aP (List.length x6)) (cond (aL aQ (List.length x8)) (cond (!az ((((List.getD x6 aP.toNat aA).2).2).1) ((((((List.getD x8 aQ.toNat ((0:Int),(aV,aA))).2).2).2).2).1)) (some false) (ui x5 x6 x8 (W .i64 (aQ+1)))) (none)) (none))) (ui x5 x6 x8 (W .i64 (aQ+1)))))
def F4.yq(N:Nat)(ui:F4.A8):Nat→F4.qI
 |0,_,_,_,_,_,_,_=>none
 |n+1,x5,x6,x8,aQ,aH,aP,bf=>F4.wI N ui (F4.yq N ui n) x5 x6 x8 aQ aH aP bf
def F4.X0(N:Nat)(ET:F4.qI)(ui:F4.A8)(x5:aB)(x6:ay)(x8:aB)(aQ:Int):Option (Bool):=
 cond (aM aQ (List.length x8:Int)) (cond (aL aQ (List.length x8)) (cond (aL aQ (List.length x5)) (cond (!az ((List.getD x8 aQ.toNat ((0:Int),(aV,aA))).1) ((List.getD x5 aQ.toNat ((0:Int),(aV,aA))).1)) (some false) (cond (aL aQ (List.length x8)) (cond (aL aQ (List.length x5)) (cond (!az ((((List.getD x8 aQ.toNat ((0:Int),(aV,aA))).2).2).1) ((((List.getD x5 aQ.toNat ((0:Int),(aV,aA))).2).2).1)) (some false) (cond (aL aQ (List.length x8)) (cond (aL aQ (List.length x5)) ((wM N (((List.getD x8 aQ.toNat ((0:Int),(aV,aA))).2).1) (((List.getD x5 aQ.toNat ((0:Int),(aV,aA))).2).1)).bind fun r6=>cond (!r6) (some false) (cond (aL aQ (List.length x5)) (cond (!az (((((List.getD x5 aQ.toNat ((0:Int),(aV,aA))).2).2).2).1) (1:Int)) (cond (aL aQ (List.length x8)) (cond (aL aQ (List.length x5)) (cond (!az (((((List.getD x8 aQ.toNat ((0:Int),(aV,aA))).2).2).2).1) (((((List.getD x5 aQ.toNat ((0:Int),(aV,aA))).2).2).2).1)) (some false) (ui x5 x6 x8 (W .i64 (aQ+1)))) (none)) (none)) (ET x5 x6 x8 aQ false (-1:Int) (0:Int))) (none))) (none)) (none))) (none)) (none))) (none)) (none)) (some true)
def F4.XZ(N:Nat):Nat→F4.A8
 |0,_,_,_,_=>none
 |n+1,x5,x6,x8,aQ=>F4.X0 N (F4.yq N (F4.XZ N n) N) (F4.XZ N n) x5 x6 x8 aQ
def F4.b(N:Nat)(adp:F4.A8)(a0:List (Int)):Option (Bool):=
 (F12 N).bind fun r1=>cond (!r1) (some false) ((F13 N a0).bind fun r2=>(m3 N r2).bind fun r3=>(ly N r3.1 r3.2.1.2.2.1 r3.2.2.1 r3.2.2.2.1).bind fun r4=>cond (!az r4.2.2 0) (some (az (List.length r4.2.1:Int) 0)) (cond (!az (List.length r4.2.1:Int) (List.length r3.2.2.1:Int)) (some false) (adp r3.2.2.1 r3.2.2.2.1 r4.2.1 (0:Int))))
def F4(N:Nat)(a0:List (Int)):Option (Bool):=F4.b N (F4.XZ N N) a0
end
end VM.F
