/- A part of the proof of WindDrawn of layer 21: the functions as equations between values, printed by a program. -/
import Derived.Test.YtecmobijochjkaaGreatVm0
set_option linter.all false
namespace VM.F
open Go VM
set_option maxRecDepth 100000
noncomputable section
abbrev kS:Ty:=(.pair .str (.pair (.int .u64) .unit))
abbrev js:Ty:=(.pair (.int .i64) (.pair (.int .i64) .unit))
abbrev fO:Ty:=(.pair (.int .i64) (.pair (.int .u64) .unit))
abbrev cV:Ty:=(.pair .bool (.pair (.slice (.int .u64)) .unit))
abbrev dA:Ty:=(.pair (.slice (.int .u64)) (.pair (.int .i64) .unit))
abbrev jk:Ty:=(.pair (.int .i64) js)
abbrev uQ:Ty:=(.pair (.int .i64) (.pair (.int .i64) (.pair .bool (.pair (.int .u8) .unit))))
abbrev ej:Ty:=(.pair (.int .i64) jk)
abbrev wZ:Ty:=(.pair (.int .i64) (.pair (.int .i64) (.pair fO .unit)))
abbrev sL:Ty:=(.pair (.int .i64) ej)
abbrev rA:Ty:=(.pair (.int .i64) (.pair (.int .i64) (.pair cV .unit)))
abbrev mJ:Ty:=(.pair (.int .i64) sL)
abbrev kO:Ty:=(.pair (.int .i64) (.pair (.int .i64) mJ))
abbrev jc:Ty:=(.pair (.int .i64) (.pair (.slice js) ej))
abbrev gG:Ty:=(.pair (.int .i64) (.pair (.int .i64) (.pair (.slice sL) (.pair (.int .i64) .unit))))
abbrev aA:Ty:=(.pair (.slice ej) mJ)
abbrev aK:Ty:=(.pair (.slice js) (.pair (.slice ej) (.pair (.slice jk) (.pair (.slice jk) (.pair (.slice (.int .i64)) (.pair (.slice mJ) .unit))))))
abbrev rr:Ty:=(.pair (.int .i64) (.pair (.int .i64) (.pair (.int .i64) (.pair (.int .i64) (.pair (.slice ej) (.pair (.slice jc) (.pair (.slice ej) (.pair (.slice (.int .i64)) (.pair (.slice js) (.pair (.slice js) .unit))))))))))
abbrev dr:Ty:=(.pair (.int .i64) (.pair (.int .i64) (.pair aK (.pair rr (.pair gG .unit)))))
abbrev lZ:Ty:=(.pair aA (.pair dr (.pair (.int .i64) .unit)))
abbrev NW:=Ty.den kS
abbrev NX:=List (Ty.den kS)
abbrev yI:=Ty.den js
abbrev aD:=List (Ty.den js)
abbrev cB:=Ty.den fO
abbrev jt:=List (Ty.den fO)
abbrev aH:=Ty.den cV
abbrev o0:=List (Ty.den cV)
abbrev aL:=Ty.den dA
abbrev asb:=List (Ty.den dA)
abbrev db:=Ty.den jk
abbrev au:=List (Ty.den jk)
abbrev YL:=Ty.den uQ
abbrev YM:=List (Ty.den uQ)
abbrev bX:=Ty.den ej
abbrev aM:=List (Ty.den ej)
abbrev uw:=Ty.den wZ
abbrev dh:=List (Ty.den wZ)
abbrev sK:=Ty.den sL
abbrev bK:=List (Ty.den sL)
abbrev ahA:=Ty.den rA
abbrev bE:=List (Ty.den rA)
abbrev gj:=Ty.den mJ
abbrev bq:=List (Ty.den mJ)
abbrev gJ:=Ty.den kO
abbrev cR:=List (Ty.den kO)
abbrev ik:=Ty.den jc
abbrev bw:=List (Ty.den jc)
abbrev dJ:=Ty.den gG
abbrev amW:=List (Ty.den gG)
abbrev ae:=Ty.den aA
abbrev amX:=List (Ty.den aA)
abbrev aq:=Ty.den aK
abbrev asc:=List (Ty.den aK)
abbrev akZ:=Ty.den rr
abbrev ak0:=List (Ty.den rr)
abbrev aQ:=Ty.den dr
abbrev aqp:=List (Ty.den dr)
abbrev cD:=Ty.den lZ
abbrev aqq:=List (Ty.den lZ)
def F56(N:Nat):Option (ae×aq):=
 some (([((0:Int),((100:Int),((2:Int),((3:Int),()))))],((0:Int),((0:Int),((0:Int),((0:Int),((1:Int),((0:Int),()))))))),([((1:Int),((3:Int),())),((2:Int),((1:Int),()))],([((1:Int),((1:Int),((1:Int),((0:Int),())))),((2:Int),((1:Int),((2:Int),((0:Int),())))),((3:Int),((2:Int),((1:Int),((0:Int),()))))],([((1:Int),((0:Int),((-10:Int),()))),((5:Int),((1:Int),((-10:Int),()))),((5:Int),((2:Int),((20:Int),())))],([((1:Int),((0:Int),((1:Int),()))),((2:Int),((0:Int),((5:Int),()))),((3:Int),((0:Int),((-6:Int),())))],([(100:Int)],(dP,())))))))
def Da(N:Nat)(a0:Int)(a1:Int)(a2:Int):Option (Bool):=
 cond (dj a1 a0) (some (dj a0 a2)) (some false)
abbrev Co.bD:=ae→aM→Int→Int→Option (Bool)
def Co.dv(N:Nat)(cr:Co.bD)(x1:ae)(aZ:aM)(bf:Int)(bY:Int):Option (Bool):=
 cond (aY bY bf) (cond (ba bY (List.length aZ)) ((Da N ((List.getD aZ bY.toNat aV).1) (0:Int) (3:Int)).bind λr3=>cond (!r3) (some false) ((Da N (((List.getD aZ bY.toNat aV).2).1) (1:Int) (1000000000000:Int)).bind λr4=>cond (!r4) (some false) ((Da N ((((List.getD aZ bY.toNat aV).2).2).1) (0:Int) (1000000000:Int)).bind λr5=>cond (!r5) (some false) ((Da N (((((List.getD aZ bY.toNat aV).2).2).2).1) (0:Int) (1000000000:Int)).bind λr6=>cond (!r6) (some false) (cr x1 aZ bf (W .i64 (bY+1))))))) (none)) (cond (dj 0 x1.2.1) ((Da N x1.2.2.1 (0:Int) (4:Int)).bind λr8=>cond (r8) ((Da N x1.2.2.2.1 (0:Int) (1000000:Int)).bind λr9=>cond (r9) ((Da N x1.2.2.2.2.1 (0:Int) (1000000:Int)).bind λkK=>cond (kK) ((Da N x1.2.2.2.2.2.1 (1:Int) (4611686018427387904:Int)).bind λnI=>cond (nI) (some (dj 0 x1.2.2.2.2.2.2.1)) (some false)) (some false)) (some false)) (some false)) (some false))
def Co.l4(N:Nat):Nat→Co.bD
 |0,_,_,_,_=>none
 |n+1,x1,aZ,bf,bY=>Co.dv N (Co.l4 N n) x1 aZ bf bY
def Co.b(N:Nat)(eB:Co.bD)(a0:ae):Option (Bool):=
 (Da N (List.length a0.1:Int) (1:Int) (6:Int)).bind λr1=>cond (!r1) (some false) (eB a0 a0.1 (List.length a0.1:Int) (0:Int))
def Co(N:Nat)(a0:ae):Option (Bool):=Co.b N (Co.l4 N N) a0
abbrev oP.da:=aD→aD→Int→Int→Option (Bool)
def oP.gD(N:Nat)(ew:oP.da)(x0:aD)(x5:aD)(x6:Int)(x7:Int):Option (Bool):=
 cond (aY x7 x6) (cond (ba x7 (List.length x5)) (cond (aY ((List.getD x5 x7.toNat cz).1) (1:Int)) (some false) (cond (aY 12 ((List.getD x5 x7.toNat cz).1)) (some false) (cond (aY (((List.getD x5 x7.toNat cz).2).1) (1:Int)) (some false) (cond (aY 4 (((List.getD x5 x7.toNat cz).2).1)) (some false) (cond (aY 0 x7) (let v2:Int:=W .i64 (x7-1);cond (ba v2 (List.length x0)) (cond (dj ((List.getD x5 x7.toNat cz).1) ((List.getD x0 v2.toNat cz).1)) (some false) (ew x0 x5 x6 (W .i64 (x7+1)))) (none)) (ew x0 x5 x6 (W .i64 (x7+1)))))))) (none)) (some true)
def oP.l2(N:Nat):Nat→oP.da
 |0,_,_,_,_=>none
 |n+1,x0,x5,x6,x7=>oP.gD N (oP.l2 N n) x0 x5 x6 x7
def oP.b(N:Nat)(jf:oP.da)(a0:aD):Option (Bool):=
 jf a0 a0 (List.length a0:Int) (0:Int)
def oP(N:Nat)(a0:aD):Option (Bool):=oP.b N (oP.l2 N N) a0
abbrev mD.dQ:=aM→(List (Bool))→aM→Int→Int→Option (Bool)
def mD.nC(N:Nat)(dn:mD.dQ)(x0:aM)(x3:List (Bool))(x6:aM)(x7:Int)(x8:Int):Option (Bool):=
 cond (aY x8 x7) (cond (ba x8 (List.length x6)) (cond (aY ((List.getD x6 x8.toNat aV).1) (1:Int)) (some false) (cond (aY 24 ((List.getD x6 x8.toNat aV).1)) (some false) (cond (aY (((List.getD x6 x8.toNat aV).2).1) (1:Int)) (some false) (cond (aY 12 (((List.getD x6 x8.toNat aV).2).1)) (some false) (cond (!aO ((((List.getD x6 x8.toNat aV).2).2).1) (1:Int)) (cond (!aO ((((List.getD x6 x8.toNat aV).2).2).1) (2:Int)) (some false) (cond (aY (((((List.getD x6 x8.toNat aV).2).2).2).1) (0:Int)) (some false) (cond (aY 1000000000000 (((((List.getD x6 x8.toNat aV).2).2).2).1)) (some false) (cond (aY 0 x8) (let v2:Int:=W .i64 (x8-1);cond (ba v2 (List.length x0)) (cond (dj ((List.getD x6 x8.toNat aV).1) ((List.getD x0 v2.toNat aV).1)) (some false) (cond (aO ((((List.getD x6 x8.toNat aV).2).2).1) (1:Int)) (cond (ba (((List.getD x6 x8.toNat aV).2).1) 13) (cond (List.getD x3 (((List.getD x6 x8.toNat aV).2).1).toNat false) (some false) (cond (ba (((List.getD x6 x8.toNat aV).2).1) 13) (dn x0 (List.set x3 (((List.getD x6 x8.toNat aV).2).1).toNat true) x6 x7 (W .i64 (x8+1))) (none))) (none)) (dn x0 x3 x6 x7 (W .i64 (x8+1))))) (none)) (cond (aO ((((List.getD x6 x8.toNat aV).2).2).1) (1:Int)) (cond (ba (((List.getD x6 x8.toNat aV).2).1) 13) (cond (List.getD x3 (((List.getD x6 x8.toNat aV).2).1).toNat false) (some false) (cond (ba (((List.getD x6 x8.toNat aV).2).1) 13) (dn x0 (List.set x3 (((List.getD x6 x8.toNat aV).2).1).toNat true) x6 x7 (W .i64 (x8+1))) (none))) (none)) (dn x0 x3 x6 x7 (W .i64 (x8+1)))))))) (cond (aY (((((List.getD x6 x8.toNat aV).2).2).2).1) (0:Int)) (some false) (cond (aY 1000000000000 (((((List.getD x6 x8.toNat aV).2).2).2).1)) (some false) (cond (aY 0 x8) (let v7:Int:=W .i64 (x8-1);cond (ba v7 (List.length x0)) (cond (dj ((List.getD x6 x8.toNat aV).1) ((List.getD x0 v7.toNat aV).1)) (some false) (cond (aO ((((List.getD x6 x8.toNat aV).2).2).1) (1:Int)) (cond (ba (((List.getD x6 x8.toNat aV).2).1) 13) (cond (List.getD x3 (((List.getD x6 x8.toNat aV).2).1).toNat false) (some false) (cond (ba (((List.getD x6 x8.toNat aV).2).1) 13) (dn x0 (List.set x3 (((List.getD x6 x8.toNat aV).2).1).toNat true) x6 x7 (W .i64 (x8+1))) (none))) (none)) (dn x0 x3 x6 x7 (W .i64 (x8+1))))) (none)) (cond (aO ((((List.getD x6 x8.toNat aV).2).2).1) (1:Int)) (cond (ba (((List.getD x6 x8.toNat aV).2).1) 13) (cond (List.getD x3 (((List.getD x6 x8.toNat aV).2).1).toNat false) (some false) (cond (ba (((List.getD x6 x8.toNat aV).2).1) 13) (dn x0 (List.set x3 (((List.getD x6 x8.toNat aV).2).1).toNat true) x6 x7 (W .i64 (x8+1))) (none))) (none)) (dn x0 x3 x6 x7 (W .i64 (x8+1)))))))))))) (none)) (some true)
def mD.l3(N:Nat):Nat→mD.dQ
 |0,_,_,_,_,_=>none
 |n+1,x0,x3,x6,x7,x8=>mD.nC N (mD.l3 N n) x0 x3 x6 x7 x8
def mD.b(N:Nat)(oj:mD.dQ)(a0:aM):Option (Bool):=
 oj a0 (List.replicate 13 false) a0 (List.length a0:Int) (0:Int)
def mD(N:Nat)(a0:aM):Option (Bool):=mD.b N (mD.l3 N N) a0
abbrev Ab.bD:=Int→aD→Int→Int→Option (Int)
def Ab.dv(N:Nat)(cr:Ab.bD)(x1:Int)(bu:aD)(aZ:Int)(bf:Int):Option (Int):=
 cond (aY bf aZ) (cond (ba bf (List.length bu)) (cond (aO ((List.getD bu bf.toNat cz).1) x1) (some (((List.getD bu bf.toNat cz).2).1)) (cr x1 bu aZ (W .i64 (bf+1)))) (none)) (some (0:Int))
def Ab.l4(N:Nat):Nat→Ab.bD
 |0,_,_,_,_=>none
 |n+1,x1,bu,aZ,bf=>Ab.dv N (Ab.l4 N n) x1 bu aZ bf
def Ab.b(N:Nat)(eB:Ab.bD)(a0:aD)(a1:Int):Option (Int):=
 (oP N a0).bind λr1=>cond (!r1) (some (0:Int)) (eB a1 a0 (List.length a0:Int) (0:Int))
def Ab(N:Nat)(a0:aD)(a1:Int):Option (Int):=Ab.b N (Ab.l4 N N) a0 a1
abbrev Dd.bD:=aD→aM→Int→Int→Option (Bool)
def Dd.dv(N:Nat)(cr:Dd.bD)(x0:aD)(dL:aM)(eN:Int)(fp:Int):Option (Bool):=
 cond (aY fp eN) (cond (ba fp (List.length dL)) ((Ab N x0 (((List.getD dL fp.toNat aV).2).1)).bind λr4=>cond (aO r4 0) (some false) (cr x0 dL eN (W .i64 (fp+1)))) (none)) (some true)
def Dd.l4(N:Nat):Nat→Dd.bD
 |0,_,_,_,_=>none
 |n+1,x0,dL,eN,fp=>Dd.dv N (Dd.l4 N n) x0 dL eN fp
def Dd.b(N:Nat)(eB:Dd.bD)(a0:aD)(a1:aM):Option (Bool):=
 (oP N a0).bind λr1=>cond (!r1) (some false) ((mD N a1).bind λr2=>cond (!r2) (some false) (eB a0 a1 (List.length a1:Int) (0:Int)))
def Dd(N:Nat)(a0:aD)(a1:aM):Option (Bool):=Dd.b N (Dd.l4 N N) a0 a1
def PY(N:Nat)(a0:Int)(a1:Int):Option (Bool):=
 cond (aO a0 1) (some (aO a1 0)) (cond (aO a0 2) (some (aO a1 0)) (cond (aO a0 3) (some (aO a1 0)) (cond (aO a0 4) (some (aO a1 0)) (cond (aO a0 5) (cond (dj 1 a1) (some (dj a1 24)) (some false)) (cond (aO a0 6) (cond (dj 1 a1) (some (dj a1 12)) (some false)) (cond (aO a0 7) (cond (dj 1 a1) (some (dj a1 12)) (some false)) (some false)))))))
def P0(N:Nat)(a0:Int)(a1:Int)(a2:db):Option (Int):=
 cond (!aO a0 a2.1) (some (W .i64 (a0-a2.1))) (some (W .i64 (a1-a2.2.1)))
abbrev AT.da:=au→au→Int→Int→Option (Bool)
def AT.gD(N:Nat)(ew:AT.da)(x0:au)(x5:au)(x6:Int)(x7:Int):Option (Bool):=
 cond (aY x7 x6) (cond (ba x7 (List.length x5)) ((PY N ((List.getD x5 x7.toNat bl).1) (((List.getD x5 x7.toNat bl).2).1)).bind λr2=>cond (!r2) (some false) (cond (aO ((((List.getD x5 x7.toNat bl).2).2).1) (0:Int)) (some false) (cond (aY 0 x7) (let v3:Int:=W .i64 (x7-1);cond (ba v3 (List.length x0)) ((P0 N ((List.getD x5 x7.toNat bl).1) (((List.getD x5 x7.toNat bl).2).1) (List.getD x0 v3.toNat bl)).bind λr4=>cond (dj r4 0) (some false) (ew x0 x5 x6 (W .i64 (x7+1)))) (none)) (ew x0 x5 x6 (W .i64 (x7+1)))))) (none)) (some true)
def AT.l2(N:Nat):Nat→AT.da
 |0,_,_,_,_=>none
 |n+1,x0,x5,x6,x7=>AT.gD N (AT.l2 N n) x0 x5 x6 x7
def AT.b(N:Nat)(jf:AT.da)(a0:au):Option (Bool):=
 jf a0 a0 (List.length a0:Int) (0:Int)
def AT(N:Nat)(a0:au):Option (Bool):=AT.b N (AT.l2 N N) a0
def UP(N:Nat)(a0:Int):Option cB:=
 cond (aY 63 0) (none) (some ((shr .i64 a0 63),((W .u64 a0),())))
abbrev mB.dQ:=cB→Int→Int→Int→jt→Int→Int→Option (cB×(Bool))
def mB.nC(N:Nat)(dn:mB.dQ)(x2:cB)(x4:Int)(x5:Int)(x6:Int)(bu:jt)(aZ:Int)(bf:Int):Option (cB×(Bool)):=
 cond (aY bf aZ) (cond (ba bf (List.length bu)) ((yb N x6 (((List.getD bu bf.toNat cz).2).1) (0:Int)).bind λr2=>(yb N x5 (W .u64 ((List.getD bu bf.toNat cz).1)) r2.2).bind λr4=>cond (aY 63 0) (none) (dn x2 (W .i64 ((W .i64 (x4+(shr .i64 ((List.getD bu bf.toNat cz).1) (63:Int))))+(W .i64 r4.2))) r4.1 r2.1 bu aZ (W .i64 (bf+1)))) (none)) (cond (aY 63 0) (none) (cond (!aO x4 (shr .i64 (W .i64 x5) 63)) (some (cz,false)) (some (((W .i64 x5),(x6,())),true))))
def mB.l3(N:Nat):Nat→mB.dQ
 |0,_,_,_,_,_,_,_=>none
 |n+1,x2,x4,x5,x6,bu,aZ,bf=>mB.nC N (mB.l3 N n) x2 x4 x5 x6 bu aZ bf
def mB.b(N:Nat)(oj:mB.dQ)(a0:jt):Option (cB×(Bool)):=
 oj cz (0:Int) (0:Int) (0:Int) a0 (List.length a0:Int) (0:Int)
def mB(N:Nat)(a0:jt):Option (cB×(Bool)):=mB.b N (mB.l3 N N) a0
abbrev Cp.bM:=cB→jt→au→Int→Int→Option cB
def Cp.dV(N:Nat)(bO:Cp.bM)(x2:cB)(x3:jt)(bf:au)(bY:Int)(cw:Int):Option cB:=
 cond (aY cw bY) (cond (ba cw (List.length bf)) ((UP N ((((List.getD bf cw.toNat bl).2).2).1)).bind λr3=>cond (small (List.length x3+List.length ([r3]))) (bO x2 (x3++([r3])) bf bY (W .i64 (cw+1))) (none)) (none)) ((mB N x3).bind λr6=>some r6.1)
def Cp.l5(N:Nat):Nat→Cp.bM
 |0,_,_,_,_,_=>none
 |n+1,x2,x3,bf,bY,cw=>Cp.dV N (Cp.l5 N n) x2 x3 bf bY cw
def Cp.b(N:Nat)(eT:Cp.bM)(a0:au):Option cB:=
 (AT N a0).bind λr1=>cond (!r1) (some cz) (eT cz ([]) a0 (List.length a0:Int) (0:Int))
def Cp(N:Nat)(a0:au):Option cB:=Cp.b N (Cp.l5 N N) a0
def V9(N:Nat)(a0:cB)(a1:cB):Option (Int):=
 cond (aY a0.1 a1.1) (some (-1:Int)) (cond (aO a0.1 a1.1) (cond (aY a0.2.1 a1.2.1) (some (-1:Int)) (cond (pa (.pair (.int .i64) (.pair (.int .u64) .unit)) a0 a1) (some (0:Int)) (some (1:Int)))) (cond (pa (.pair (.int .i64) (.pair (.int .u64) .unit)) a0 a1) (some (0:Int)) (some (1:Int))))
def F74(N:Nat)(a0:cB):Option (Int):=
 (V9 N a0 cz).bind λr1=>some r1
def P2(N:Nat)(a0:Int)(a1:Int):Option (Bool):=
 cond (dj 0 a0) (cond (dj a0 24) (cond (dj 0 a1) (some (aY a1 6)) (some false)) (some false)) (some false)
def P3(N:Nat)(a0:Int):Option (Bool):=
 some (!aO a0 (-9223372036854775808))
def To(N:Nat)(a0:Int)(a1:Int)(a2:db):Option (Int):=
 cond (!aO a0 a2.1) (some (W .i64 (a0-a2.1))) (some (W .i64 (a1-a2.2.1)))
abbrev m5.da:=au→au→Int→Int→Option (Bool)
def m5.gD(N:Nat)(ew:m5.da)(x0:au)(x5:au)(x6:Int)(x7:Int):Option (Bool):=
 cond (aY x7 x6) (cond (ba x7 (List.length x5)) ((P2 N ((List.getD x5 x7.toNat bl).1) (((List.getD x5 x7.toNat bl).2).1)).bind λr2=>cond (!r2) (some false) (cond (aO ((((List.getD x5 x7.toNat bl).2).2).1) (0:Int)) (some false) ((P3 N ((((List.getD x5 x7.toNat bl).2).2).1)).bind λr3=>cond (!r3) (some false) (cond (aY 0 x7) (let v4:Int:=W .i64 (x7-1);cond (ba v4 (List.length x0)) ((To N ((List.getD x5 x7.toNat bl).1) (((List.getD x5 x7.toNat bl).2).1) (List.getD x0 v4.toNat bl)).bind λr5=>cond (dj r5 0) (some false) (ew x0 x5 x6 (W .i64 (x7+1)))) (none)) (ew x0 x5 x6 (W .i64 (x7+1))))))) (none)) (some true)
def m5.l2(N:Nat):Nat→m5.da
 |0,_,_,_,_=>none
 |n+1,x0,x5,x6,x7=>m5.gD N (m5.l2 N n) x0 x5 x6 x7
def m5.b(N:Nat)(jf:m5.da)(a0:au):Option (Bool):=
 jf a0 a0 (List.length a0:Int) (0:Int)
def m5(N:Nat)(a0:au):Option (Bool):=m5.b N (m5.l2 N N) a0
abbrev oR.bM:=Int→cB→jt→au→Int→Int→Option cB
def oR.dV(N:Nat)(bO:oR.bM)(x1:Int)(x4:cB)(x5:jt)(cw:au)(dL:Int)(eN:Int):Option cB:=
 cond (aY eN dL) (cond (ba eN (List.length cw)) (cond (aO (((List.getD cw eN.toNat bl).2).1) x1) ((UP N ((((List.getD cw eN.toNat bl).2).2).1)).bind λr3=>cond (small (List.length x5+List.length ([r3]))) (bO x1 x4 (x5++([r3])) cw dL (W .i64 (eN+1))) (none)) (bO x1 x4 x5 cw dL (W .i64 (eN+1)))) (none)) ((mB N x5).bind λr7=>some r7.1)
def oR.l5(N:Nat):Nat→oR.bM
 |0,_,_,_,_,_,_=>none
 |n+1,x1,x4,x5,cw,dL,eN=>oR.dV N (oR.l5 N n) x1 x4 x5 cw dL eN
def oR.b(N:Nat)(eT:oR.bM)(a0:au)(a1:Int):Option cB:=
 (m5 N a0).bind λr1=>cond (!r1) (some cz) (eT a1 cz ([]) a0 (List.length a0:Int) (0:Int))
def oR(N:Nat)(a0:au)(a1:Int):Option cB:=oR.b N (oR.l5 N N) a0 a1
abbrev De.da:=au→Int→Option (Bool)
def De.gD(N:Nat)(ew:De.da)(x0:au)(x4:Int):Option (Bool):=
 cond (aY x4 6) ((oR N x0 x4).bind λr2=>(F74 N r2).bind λr3=>cond (!aO r3 0) (some false) (ew x0 (W .i64 (x4+1)))) ((m5 N x0).bind λr5=>some r5)
def De.l2(N:Nat):Nat→De.da
 |0,_,_=>none
 |n+1,x0,x4=>De.gD N (De.l2 N n) x0 x4
def De.b(N:Nat)(jf:De.da)(a0:au):Option (Bool):=
 jf a0 (0:Int)
def De(N:Nat)(a0:au):Option (Bool):=De.b N (De.l2 N N) a0
def ZN(N:Nat)(a0:gj):Option (Bool):=
 cond (dj 1 a0.1) (cond (dj a0.1 1099511627776) (cond (dj 1 a0.2.1) (cond (dj a0.2.1 24) (cond (dj 0 a0.2.2.1) (cond (aY a0.2.2.1 6) (cond (aO a0.2.2.2.1 1) (cond (dj 1 a0.2.2.2.2.1) (cond (dj a0.2.2.2.2.1 1000000000) (cond (dj 1 a0.2.2.2.2.2.1) (some (dj a0.2.2.2.2.2.1 1000000000000)) (some false)) (some false)) (some false)) (cond (aO a0.2.2.2.1 2) (cond (dj 1 a0.2.2.2.2.1) (cond (dj a0.2.2.2.2.1 1000000000) (cond (dj 1 a0.2.2.2.2.2.1) (some (dj a0.2.2.2.2.2.1 1000000000000)) (some false)) (some false)) (some false)) (some false))) (some false)) (some false)) (some false)) (some false)) (some false)) (some false)
abbrev Dc.da:=bq→bq→Int→Int→Option (Bool)
def Dc.gD(N:Nat)(ew:Dc.da)(x0:bq)(x5:bq)(x6:Int)(x7:Int):Option (Bool):=
 cond (aY x7 x6) (cond (ba x7 (List.length x5)) ((ZN N (List.getD x5 x7.toNat e7)).bind λr2=>cond (!r2) (some false) (cond (aY 0 x7) (let v3:Int:=W .i64 (x7-1);cond (ba v3 (List.length x0)) (cond (dj ((List.getD x5 x7.toNat e7).1) ((List.getD x0 v3.toNat e7).1)) (some false) (ew x0 x5 x6 (W .i64 (x7+1)))) (none)) (ew x0 x5 x6 (W .i64 (x7+1))))) (none)) (some (dj (List.length x0:Int) 32))
def Dc.l2(N:Nat):Nat→Dc.da
 |0,_,_,_,_=>none
 |n+1,x0,x5,x6,x7=>Dc.gD N (Dc.l2 N n) x0 x5 x6 x7
def Dc.b(N:Nat)(jf:Dc.da)(a0:bq):Option (Bool):=
 jf a0 a0 (List.length a0:Int) (0:Int)
def Dc(N:Nat)(a0:bq):Option (Bool):=Dc.b N (Dc.l2 N N) a0
abbrev oQ.bD:=Int→bX→aM→Int→Int→Option (bX×(Bool))
def oQ.dv(N:Nat)(cr:oQ.bD)(x1:Int)(x4:bX)(bf:aM)(bY:Int)(cw:Int):Option (bX×(Bool)):=
 cond (aY cw bY) (cond (ba cw (List.length bf)) (cond (aO ((List.getD bf cw.toNat aV).1) x1) (some (List.getD bf cw.toNat aV,true)) (cr x1 x4 bf bY (W .i64 (cw+1)))) (none)) (some (aV,false))
def oQ.l4(N:Nat):Nat→oQ.bD
 |0,_,_,_,_,_=>none
 |n+1,x1,x4,bf,bY,cw=>oQ.dv N (oQ.l4 N n) x1 x4 bf bY cw
def oQ.b(N:Nat)(eB:oQ.bD)(a0:aM)(a1:Int):Option (bX×(Bool)):=
 (mD N a0).bind λr1=>cond (!r1) (some (aV,false)) (eB a1 aV a0 (List.length a0:Int) (0:Int))
def oQ(N:Nat)(a0:aM)(a1:Int):Option (bX×(Bool)):=oQ.b N (oQ.l4 N N) a0 a1
def F78(N:Nat)(a0:aq)(a1:Int):Option (Bool):=
 (oQ N a0.2.1 a1).bind λr1=>some r1.2
def F81(N:Nat)(a0:Int):Option (Bool):=
 cond (dj 1 a0) (some (dj a0 1000000000000)) (some false)
def F80(N:Nat)(a0:Int):Option (Bool):=
 (F81 N a0).bind λr1=>some (!r1)
abbrev rI.da:=(List (Int))→Unit→Int→Int→Option (Int)
def rI.gD(N:Nat)(ew:rI.da)(x0:List (Int))(x1:Unit)(x7:Int)(x8:Int):Option (Int):=
 cond (aY x8 x7) (cond (ba x8 (List.length x0)) ((F80 N (List.getD x0 x8.toNat (0:Int))).bind λr2=>cond (r2) (some x8) (ew x0 () x7 (W .i64 (x8+1)))) (none)) (some (-1:Int))
def rI.l2(N:Nat):Nat→rI.da
 |0,_,_,_,_=>none
 |n+1,x0,x1,x7,x8=>rI.gD N (rI.l2 N n) x0 x1 x7 x8
def rI.b(N:Nat)(jf:rI.da)(a0:List (Int))(a1:Unit):Option (Int):=
 jf a0 () (List.length a0:Int) (0:Int)
def rI(N:Nat)(a0:List (Int))(a1:Unit):Option (Int):=rI.b N (rI.l2 N N) a0 a1
def F79(N:Nat)(a0:List (Int))(a1:Unit):Option (Bool):=
 (rI N a0 ()).bind λr1=>some (dj 0 r1)
abbrev lh.rB:=ae→aq→bq→Int→Int→Option (Bool)
abbrev lh.mu:=ae→aq→au→Int→Int→Option (Bool)
abbrev lh.bD:=ae→aq→au→Int→Int→Option (Bool)
def lh.vl(N:Nat)(Gl:lh.rB)(x2:ae)(x3:aq)(rM:bq)(aaY:Int)(QN:Int):Option (Bool):=
 cond (aY QN aaY) (cond (ba QN (List.length rM)) ((F78 N x3 (((List.getD rM QN.toNat e7).2).1)).bind λDY=>cond (!DY) (some false) (cond (dj (List.length x2.1:Int) ((((List.getD rM QN.toNat e7).2).2).1)) (some false) (Gl x2 x3 rM aaY (W .i64 (QN+1))))) (none)) ((F79 N x3.2.2.2.2.1 ()).bind λCL=>some (!CL))
def lh.wF(N:Nat):Nat→lh.rB
 |0,_,_,_,_,_=>none
 |n+1,x2,x3,rM,aaY,QN=>lh.vl N (lh.wF N n) x2 x3 rM aaY QN
def lh.vk(N:Nat)(Gm:lh.rB)(nL:lh.mu)(x2:ae)(x3:aq)(x83:au)(x84:Int)(YN:Int):Option (Bool):=
 cond (aY YN x84) (cond (ba YN (List.length x83)) (cond (!aO ((List.getD x83 YN.toNat bl).1) (0:Int)) ((F78 N x3 ((List.getD x83 YN.toNat bl).1)).bind λAV=>cond (!AV) (some false) (cond (dj (List.length x2.1:Int) (((List.getD x83 YN.toNat bl).2).1)) (some false) (nL x2 x3 x83 x84 (W .i64 (YN+1))))) (cond (dj (List.length x2.1:Int) (((List.getD x83 YN.toNat bl).2).1)) (some false) (nL x2 x3 x83 x84 (W .i64 (YN+1))))) (none)) (Gm x2 x3 x3.2.2.2.2.2.1 (List.length x3.2.2.2.2.2.1:Int) (0:Int))
def lh.wE(N:Nat):Nat→lh.mu
 |0,_,_,_,_,_=>none
 |n+1,x2,x3,x83,x84,YN=>lh.vk N (lh.wF N N) (lh.wE N n) x2 x3 x83 x84 YN
def lh.dv(N:Nat)(Gn:lh.mu)(cr:lh.bD)(x2:ae)(x3:aq)(Uy:au)(x58:Int)(So:Int):Option (Bool):=
 cond (aY So x58) (cond (ba So (List.length Uy)) (cond (aO ((List.getD Uy So.toNat bl).1) (5:Int)) ((F78 N x3 (((List.getD Uy So.toNat bl).2).1)).bind λr9=>cond (!r9) (some false) (cr x2 x3 Uy x58 (W .i64 (So+1)))) (cond (aO ((List.getD Uy So.toNat bl).1) (6:Int)) ((Ab N x3.1 (((List.getD Uy So.toNat bl).2).1)).bind λnI=>cond (aO nI 0) (some false) (cr x2 x3 Uy x58 (W .i64 (So+1)))) (cond (aO ((List.getD Uy So.toNat bl).1) (7:Int)) ((Ab N x3.1 (((List.getD Uy So.toNat bl).2).1)).bind λqm=>cond (aO qm 0) (some false) (cr x2 x3 Uy x58 (W .i64 (So+1)))) (cr x2 x3 Uy x58 (W .i64 (So+1)))))) (none)) (Gn x2 x3 x3.2.2.2.1 (List.length x3.2.2.2.1:Int) (0:Int))
def lh.l4(N:Nat):Nat→lh.bD
 |0,_,_,_,_,_=>none
 |n+1,x2,x3,Uy,x58,So=>lh.dv N (lh.wE N N) (lh.l4 N n) x2 x3 Uy x58 So
def lh.b(N:Nat)(eB:lh.bD)(a0:ae)(a1:aq):Option (Bool):=
 (Co N a0).bind λr1=>cond (!r1) (some false) ((Dd N a1.1 a1.2.1).bind λr2=>cond (!r2) (some false) ((AT N a1.2.2.1).bind λr3=>cond (!r3) (some false) ((Cp N a1.2.2.1).bind λr4=>(F74 N r4).bind λr5=>cond (!aO r5 0) (some false) ((De N a1.2.2.2.1).bind λr6=>cond (!r6) (some false) ((Dc N a1.2.2.2.2.2.1).bind λr7=>cond (!r7) (some false) (cond (!aO (List.length a1.2.2.2.2.1:Int) (List.length a0.1:Int)) (some false) (eB a0 a1 a1.2.2.1 (List.length a1.2.2.1:Int) (0:Int))))))))
def lh(N:Nat)(a0:ae)(a1:aq):Option (Bool):=lh.b N (lh.l4 N N) a0 a1
abbrev Bq.bD:=Int→Int→au→Int→Int→Option (Int)
def Bq.dv(N:Nat)(cr:Bq.bD)(x1:Int)(x2:Int)(bf:au)(bY:Int)(cw:Int):Option (Int):=
 cond (aY cw bY) (cond (ba cw (List.length bf)) (cond (aO ((List.getD bf cw.toNat bl).1) x1) (cond (aO (((List.getD bf cw.toNat bl).2).1) x2) (some ((((List.getD bf cw.toNat bl).2).2).1)) (cr x1 x2 bf bY (W .i64 (cw+1)))) (cr x1 x2 bf bY (W .i64 (cw+1)))) (none)) (some (0:Int))
def Bq.l4(N:Nat):Nat→Bq.bD
 |0,_,_,_,_,_=>none
 |n+1,x1,x2,bf,bY,cw=>Bq.dv N (Bq.l4 N n) x1 x2 bf bY cw
def Bq.b(N:Nat)(eB:Bq.bD)(a0:au)(a1:Int)(a2:Int):Option (Int):=
 (AT N a0).bind λr1=>cond (!r1) (some (0:Int)) (eB a1 a2 a0 (List.length a0:Int) (0:Int))
def Bq(N:Nat)(a0:au)(a1:Int)(a2:Int):Option (Int):=Bq.b N (Bq.l4 N N) a0 a1 a2
abbrev Bs.bM:=Int→aD→au→Int→Int→Option aD
def Bs.dV(N:Nat)(bO:Bs.bM)(x1:Int)(x5:aD)(aZ:au)(bf:Int)(bY:Int):Option aD:=
 cond (aY bY bf) (cond (ba bY (List.length aZ)) (cond (aO ((List.getD aZ bY.toNat bl).1) x1) (cond (small (List.length x5+List.length ([(((List.getD aZ bY.toNat bl).2).1,((((List.getD aZ bY.toNat bl).2).2).1,()))]))) (bO x1 (x5++([(((List.getD aZ bY.toNat bl).2).1,((((List.getD aZ bY.toNat bl).2).2).1,()))])) aZ bf (W .i64 (bY+1))) (none)) (bO x1 x5 aZ bf (W .i64 (bY+1)))) (none)) (some x5)
def Bs.l5(N:Nat):Nat→Bs.bM
 |0,_,_,_,_,_=>none
 |n+1,x1,x5,aZ,bf,bY=>Bs.dV N (Bs.l5 N n) x1 x5 aZ bf bY
def Bs.b(N:Nat)(eT:Bs.bM)(a0:au)(a1:Int):Option aD:=
 (m5 N a0).bind λr1=>cond (!r1) (some ([])) (eT a1 ([]) a0 (List.length a0:Int) (0:Int))
def Bs(N:Nat)(a0:au)(a1:Int):Option aD:=Bs.b N (Bs.l5 N N) a0 a1
abbrev pv.da:=aD→ae→aD→Int→Int→Option (Bool)
def pv.gD(N:Nat)(ew:pv.da)(x1:aD)(x2:ae)(x7:aD)(x8:Int)(x9:Int):Option (Bool):=
 cond (aY x9 x8) (cond (ba x9 (List.length x7)) (cond (aY ((List.getD x7 x9.toNat cz).1) (0:Int)) (some false) (cond (dj (List.length x2.1:Int) ((List.getD x7 x9.toNat cz).1)) (some false) (cond (aO (((List.getD x7 x9.toNat cz).2).1) (0:Int)) (some false) ((P3 N (((List.getD x7 x9.toNat cz).2).1)).bind λr2=>cond (!r2) (some false) (cond (aY 0 x9) (let v3:Int:=W .i64 (x9-1);cond (ba v3 (List.length x1)) (cond (dj ((List.getD x7 x9.toNat cz).1) ((List.getD x1 v3.toNat cz).1)) (some false) (ew x1 x2 x7 x8 (W .i64 (x9+1)))) (none)) (ew x1 x2 x7 x8 (W .i64 (x9+1)))))))) (none)) ((Co N x2).bind λr6=>some r6)
def pv.l2(N:Nat):Nat→pv.da
 |0,_,_,_,_,_=>none
 |n+1,x1,x2,x7,x8,x9=>pv.gD N (pv.l2 N n) x1 x2 x7 x8 x9
def pv.b(N:Nat)(jf:pv.da)(a0:ae)(a1:aD):Option (Bool):=
 jf a1 a0 a1 (List.length a1:Int) (0:Int)
def pv(N:Nat)(a0:ae)(a1:aD):Option (Bool):=pv.b N (pv.l2 N N) a0 a1
def Ti(N:Nat)(a0:Int):Option (Int):=
 cond (aY a0 0) (some (W .u64 (0-(W .u64 a0)))) (some (W .u64 a0))
def ahE(N:Nat)(a0:bX):Option (Int):=
 some a0.2.2.2.1
def ZA(N:Nat)(a0:Int)(a1:Int):Option ((Int)×(Int)):=
 let v1:Int:=qC .and .u64 a0 4294967295;cond (aY 32 0) (none) (let v2:Int:=shr .u64 a0 32;let v3:Int:=qC .and .u64 a1 4294967295;cond (aY 32 0) (none) (let v4:Int:=shr .u64 a1 32;cond (aY 32 0) (none) (let v8:Int:=W .u64 ((W .u64 (v2*v3))+(shr .u64 (W .u64 (v1*v3)) (32:Int)));cond (aY 32 0) (none) (cond (aY 32 0) (none) (some ((W .u64 ((W .u64 ((W .u64 (v2*v4))+(shr .u64 v8 32)))+(shr .u64 (W .u64 ((qC .and .u64 v8 4294967295)+(W .u64 (v1*v4)))) (32:Int)))),(W .u64 (a0*a1))))))))
abbrev rH.XX:=Int→Int→cB→Option (cB×(Bool))
def rH.UO(N:Nat)(x1:Int)(x2:Int)(x6:cB):Option (cB×(Bool)):=
 (uT N (0:Int) x2 (0:Int)).bind λr3=>(uT N (0:Int) x1 r3.2).bind λr4=>some (((W .i64 r4.1),(r3.1,())),true)
def rH.j7(N:Nat)(x1:Int)(x2:Int)(x6:cB):Option (cB×(Bool)):=rH.UO N x1 x2 x6
def rH.b(N:Nat)(HE:rH.XX)(a0:Bool)(a1:Int)(a2:Int):Option (cB×(Bool)):=
 cond (!a0) (cond (dj 9223372036854775808 a1) (some (cz,false)) (some (((W .i64 a1),(a2,())),true))) (cond (aY 9223372036854775808 a1) (some (cz,false)) (cond (aO a1 9223372036854775808) (cond (aY 0 a2) (some (cz,false)) (HE a1 a2 cz)) (HE a1 a2 cz)))
def rH(N:Nat)(a0:Bool)(a1:Int)(a2:Int):Option (cB×(Bool)):=rH.b N (rH.j7 N) a0 a1 a2
def ZJ(N:Nat)(a0:Int)(a1:Int):Option cB:=
 (Ti N a0).bind λr1=>(Ti N a1).bind λr2=>(ZA N r1 r2).bind λr3=>(rH N (!(pa .bool (aY a0 0) (aY a1 0))) r3.1 r3.2).bind λr4=>some r4.1
abbrev px.bM:=Unit→ae→cB→jt→aD→Int→Int→Option (cB×(Int))
def px.dV(N:Nat)(bO:px.bM)(x2:Unit)(x3:ae)(x6:cB)(x8:jt)(mG:aD)(nD:Int)(Du:Int):Option (cB×(Int)):=
 cond (aY Du nD) (cond (ba Du (List.length mG)) ((Ti N (((List.getD mG Du.toNat cz).2).1)).bind λr3=>cond (ba ((List.getD mG Du.toNat cz).1) (List.length x3.1)) ((ahE N (List.getD x3.1 ((List.getD mG Du.toNat cz).1).toNat aV)).bind λr5=>(ZJ N (W .i64 r3) r5).bind λr6=>cond (small (List.length x8+List.length ([r6]))) (bO () x3 x6 (x8++([r6])) mG nD (W .i64 (Du+1))) (none)) (none)) (none)) ((mB N x8).bind λr9=>some (r9.1,(0:Int)))
def px.l5(N:Nat):Nat→px.bM
 |0,_,_,_,_,_,_,_=>none
 |n+1,x2,x3,x6,x8,mG,nD,Du=>px.dV N (px.l5 N n) x2 x3 x6 x8 mG nD Du
def px.b(N:Nat)(eT:px.bM)(a0:ae)(a1:aD)(a2:Unit):Option (cB×(Int)):=
 (pv N a0 a1).bind λr1=>cond (!r1) (some (cz,(1:Int))) (eT () a0 cz ([]) a1 (List.length a1:Int) (0:Int))
def px(N:Nat)(a0:ae)(a1:aD)(a2:Unit):Option (cB×(Int)):=px.b N (px.l5 N N) a0 a1 a2
def F89(N:Nat)(a0:ae)(a1:aD):Option (cB×(Int)):=
 (px N a0 a1 ()).bind λr1=>some (r1.1,r1.2)
def F91(N:Nat)(a0:Int)(a1:cB):Option (Bool):=
 (UP N a0).bind λr1=>(V9 N r1 a1).bind λr2=>some (dj 0 r2)
def F92(N:Nat)(a0:cB):Option ((Int)×(Bool)):=
 cond (aY 63 0) (none) (cond (!aO a0.1 (shr .i64 (W .i64 a0.2.1) 63)) (some ((0:Int),false)) (some ((W .i64 a0.2.1),true)))
def F31(N:Nat)(a0:ae)(a1:aq)(a2:Int):Option ((Int)×(Int)):=
 (lh N a0 a1).bind λr1=>cond (!r1) (some ((0:Int),(1:Int))) ((F78 N a1 a2).bind λr2=>cond (!r2) (some ((0:Int),(3:Int))) ((Bq N a1.2.2.1 (5:Int) a2).bind λr3=>let v4:Int:=mx r3 0;(Bs N a1.2.2.2.1 a2).bind λr5=>(F89 N a0 r5).bind λr6=>(F91 N v4 r6.1).bind λr7=>cond (r7) ((F92 N r6.1).bind λr8=>some (r8.1,(0:Int))) (some (v4,(0:Int)))))
def ahC(N:Nat)(a0:cB)(a1:cB):Option (cB×(Bool)):=
 (uT N a0.2.1 a1.2.1 (0:Int)).bind λr1=>(uT N (W .u64 a0.1) (W .u64 a1.1) r1.2).bind λr4=>let v5:Int:=W .i64 r4.1;cond (!(pa .bool (aY a0.1 0) (aY a1.1 0))) (cond (!(pa .bool (aY v5 0) (aY a0.1 0))) (some (cz,false)) (some ((v5,(r1.1,())),true))) (some ((v5,(r1.1,())),true))
def F66(N:Nat)(a0:cB):Option (cB×(Bool)):=
 (ahC N cz a0).bind λr1=>some (r1.1,r1.2)
abbrev Cw.bM:=Int→Int→au→aD→Int→Int→Option au
def Cw.dV(N:Nat)(bO:Cw.bM)(x1:Int)(x2:Int)(x7:au)(w1:aD)(Ji:Int)(u7:Int):Option au:=
 cond (aY u7 Ji) (cond (ba u7 (List.length w1)) (let v6:Int:=W .i64 (0-(((List.getD w1 u7.toNat cz).2).1));cond (small (List.length x7+List.length ([(x1,((List.getD w1 u7.toNat cz).1,(v6,()))),(x2,((List.getD w1 u7.toNat cz).1,(((List.getD w1 u7.toNat cz).2).1,())))]))) (bO x1 x2 (x7++([(x1,((List.getD w1 u7.toNat cz).1,(v6,()))),(x2,((List.getD w1 u7.toNat cz).1,(((List.getD w1 u7.toNat cz).2).1,())))])) w1 Ji (W .i64 (u7+1))) (none)) (none)) (some x7)
def Cw.l5(N:Nat):Nat→Cw.bM
 |0,_,_,_,_,_,_=>none
 |n+1,x1,x2,x7,w1,Ji,u7=>Cw.dV N (Cw.l5 N n) x1 x2 x7 w1 Ji u7
def Cw.b(N:Nat)(eT:Cw.bM)(a0:au)(a1:Int)(a2:Int):Option au:=
 (m5 N a0).bind λr1=>cond (!r1) (some ([])) ((P2 N a1 (0:Int)).bind λr2=>cond (!r2) (some ([])) ((P2 N a2 (0:Int)).bind λr3=>cond (!r3) (some ([])) (cond (aO a1 a2) (some ([])) ((Bs N a0 a1).bind λr4=>eT a1 a2 ([]) r4 (List.length r4:Int) (0:Int)))))
def Cw(N:Nat)(a0:au)(a1:Int)(a2:Int):Option au:=Cw.b N (Cw.l5 N N) a0 a1 a2
def Z2(N:Nat)(a0:aq):Option aq:=
 (nO N a0.1).bind λr1=>(nO N a0.2.1).bind λr2=>(nO N a0.2.2.1).bind λr3=>(nO N a0.2.2.2.1).bind λr4=>(nO N a0.2.2.2.2.1).bind λr5=>(nO N a0.2.2.2.2.2.1).bind λr6=>some (r1,(r2,(r3,(r4,(r5,(r6,()))))))
abbrev gu.ju:=au→Int→jt→Int→au→Int→Int→Option (Bool)
abbrev gu.da:=au→Int→Option (Bool)
def gu.ud(N:Nat)(ew:gu.da)(ko:gu.ju)(x0:au)(x3:Int)(x4:jt)(x9:Int)(bf:au)(bY:Int)(cw:Int):Option (Bool):=
 cond (aY cw bY) (cond (ba cw (List.length bf)) (cond (aO (((List.getD bf cw.toNat bl).2).1) x3) ((UP N ((((List.getD bf cw.toNat bl).2).2).1)).bind λr3=>cond (small (List.length x4+List.length ([r3]))) (ko x0 x3 (x4++([r3])) x9 bf bY (W .i64 (cw+1))) (none)) (ko x0 x3 x4 x9 bf bY (W .i64 (cw+1)))) (none)) ((mB N x4).bind λr7=>cond (!r7.2) (some false) ((F74 N r7.1).bind λr8=>cond (!aO r8 0) (some false) (ew x0 (W .i64 (x9+1)))))
def gu.l6(N:Nat)(ew:gu.da):Nat→gu.ju
 |0,_,_,_,_,_,_,_=>none
 |n+1,x0,x3,x4,x9,bf,bY,cw=>gu.ud N ew (gu.l6 N ew n) x0 x3 x4 x9 bf bY cw
def gu.gD(N:Nat)(w3:gu.ju)(ew:gu.da)(x0:au)(x9:Int):Option (Bool):=
 cond (aY x9 6) (w3 x0 x9 ([]) x9 x0 (List.length x0:Int) (0:Int)) (some true)
def gu.l2(N:Nat):Nat→gu.da
 |0,_,_=>none
 |n+1,x0,x9=>gu.gD N (gu.l6 N (gu.l2 N n) N) (gu.l2 N n) x0 x9
def gu.b(N:Nat)(jf:gu.da)(a0:au):Option (Bool):=
 jf a0 (0:Int)
def gu(N:Nat)(a0:au):Option (Bool):=gu.b N (gu.l2 N N) a0
def ZT(N:Nat)(a0:au):Option au:=
 cond (jS 0 (List.length a0:Int) (List.length a0:Int) (List.length a0:Int)) (some (List.drop (0:Int).toNat (List.take (List.length a0:Int).toNat a0))) (none)
abbrev cn.amZ:=au→au→db→Int→au→Int→Int→Option (au×(Int))
abbrev cn.mu:=au→au→db→Int→au→Int→Int→Option (au×(Int))
abbrev cn.XY:=au→au→db→jt→au→Int→Int→au→Int→Int→Option (au×(Int))
abbrev cn.Il:=au→au→au→Int→Int→Option (au×(Int))
abbrev cn.fV:=au→au→au→Int→Int→Option (au×(Int))
abbrev cn.bD:=au→au→au→Int→Int→Option (au×(Int))
def cn.ahw(N:Nat)(gI:cn.fV)(x1:au)(x8:au)(bu:db)(aZ:Int)(NY:au)(Pw:Int)(Lb:Int):Option (au×(Int)):=
 cond (aO aZ (List.length x8:Int)) ((pQ N x8 aZ ([(bu.1,(bu.2.1,((0:Int),())))])).bind λqm=>gI x1 qm NY Pw (W .i64 (Lb+1))) (cond (ba aZ (List.length x8)) ((To N bu.1 bu.2.1 (List.getD x8 aZ.toNat bl)).bind λwY=>cond (!aO wY 0) ((pQ N x8 aZ ([(bu.1,(bu.2.1,((0:Int),())))])).bind λxF=>gI x1 xF NY Pw (W .i64 (Lb+1))) (gI x1 x8 NY Pw (W .i64 (Lb+1)))) (none))
def cn.j18(N:Nat)(gI:cn.fV)(x1:au)(x8:au)(bu:db)(aZ:Int)(NY:au)(Pw:Int)(Lb:Int):Option (au×(Int)):=cn.ahw N gI x1 x8 bu aZ NY Pw Lb
def cn.vk(N:Nat)(afU:cn.amZ)(gI:cn.fV)(nL:cn.mu)(x1:au)(x8:au)(bu:db)(aZ:Int)(NY:au)(Pw:Int)(Lb:Int):Option (au×(Int)):=
 cond (aY aZ (List.length x8:Int)) (cond (ba aZ (List.length x8)) ((To N bu.1 bu.2.1 (List.getD x8 aZ.toNat bl)).bind λkK=>cond (aY 0 kK) (nL x1 x8 bu (W .i64 (aZ+1)) NY Pw Lb) (afU x1 x8 bu aZ NY Pw Lb)) (none)) (afU x1 x8 bu aZ NY Pw Lb)
def cn.wE(N:Nat)(gI:cn.fV):Nat→cn.mu
 |0,_,_,_,_,_,_,_=>none
 |n+1,x1,x8,bu,aZ,NY,Pw,Lb=>cn.vk N (cn.j18 N gI) gI (cn.wE N gI n) x1 x8 bu aZ NY Pw Lb
def cn.ZU(N:Nat)(Jj:cn.Il)(XZ:cn.XY)(x1:au)(bf:au)(cw:db)(dL:jt)(AK:au)(Dv:Int)(rM:Int)(KQ:au)(Uz:Int)(HF:Int):Option (au×(Int)):=
 cond (aY HF Uz) (cond (ba HF (List.length KQ)) (cond (aO ((List.getD KQ HF.toNat bl).1) cw.1) (cond (aO (((List.getD KQ HF.toNat bl).2).1) cw.2.1) ((UP N ((((List.getD KQ HF.toNat bl).2).2).1)).bind λCL=>cond (small (List.length dL+List.length ([CL]))) (XZ x1 bf cw (dL++([CL])) AK Dv rM KQ Uz (W .i64 (HF+1))) (none)) (XZ x1 bf cw dL AK Dv rM KQ Uz (W .i64 (HF+1)))) (XZ x1 bf cw dL AK Dv rM KQ Uz (W .i64 (HF+1)))) (none)) ((mB N dL).bind λr28=>(F92 N r28.1).bind λDZ=>cond (!DZ.2) (some (bH,(2:Int))) ((P3 N DZ.1).bind λQO=>cond (!QO) (some (bH,(2:Int))) (cond (!aO DZ.1 0) (cond (small (List.length bf+List.length ([(cw.1,(cw.2.1,(DZ.1,())))]))) (Jj x1 (bf++([(cw.1,(cw.2.1,(DZ.1,())))])) AK Dv (W .i64 (rM+1))) (none)) (Jj x1 bf AK Dv (W .i64 (rM+1))))))
def cn.l27(N:Nat)(Jj:cn.Il):Nat→cn.XY
 |0,_,_,_,_,_,_,_,_,_,_=>none
 |n+1,x1,bf,cw,dL,AK,Dv,rM,KQ,Uz,HF=>cn.ZU N Jj (cn.l27 N Jj n) x1 bf cw dL AK Dv rM KQ Uz HF
def cn.ZW(N:Nat)(am0:cn.XY)(Jj:cn.Il)(x1:au)(bf:au)(AK:au)(Dv:Int)(rM:Int):Option (au×(Int)):=
 cond (aY rM Dv) (cond (ba rM (List.length AK)) ((UP N ((((List.getD AK rM.toNat bl).2).2).1)).bind λDY=>am0 x1 bf (List.getD AK rM.toNat bl) ([DY]) AK Dv rM x1 (List.length x1:Int) (0:Int)) (none)) ((ZT N bf).bind λX0=>some (X0,(0:Int)))
def cn.ZV(N:Nat):Nat→cn.Il
 |0,_,_,_,_,_=>none
 |n+1,x1,bf,AK,Dv,rM=>cn.ZW N (cn.l27 N (cn.ZV N n) N) (cn.ZV N n) x1 bf AK Dv rM
def cn.mE(N:Nat)(Gn:cn.mu)(am1:cn.Il)(gI:cn.fV)(x1:au)(x8:au)(NY:au)(Pw:Int)(Lb:Int):Option (au×(Int)):=
 cond (aY Lb Pw) (cond (ba Lb (List.length NY)) (Gn x1 x8 (List.getD NY Lb.toNat bl) (0:Int) NY Pw Lb) (none)) (cond (jR 0 (List.length x8:Int)) (am1 x1 (List.replicate (0:Int).toNat bl) x8 (List.length x8:Int) (0:Int)) (none))
def cn.nG(N:Nat):Nat→cn.fV
 |0,_,_,_,_,_=>none
 |n+1,x1,x8,NY,Pw,Lb=>cn.mE N (cn.wE N (cn.nG N n) N) (cn.ZV N N) (cn.nG N n) x1 x8 NY Pw Lb
def cn.dv(N:Nat)(tG:cn.fV)(cr:cn.bD)(x0:au)(x1:au)(w1:au)(Ji:Int)(u7:Int):Option (au×(Int)):=
 cond (aY u7 Ji) (cond (ba u7 (List.length w1)) ((P2 N ((List.getD w1 u7.toNat bl).1) (((List.getD w1 u7.toNat bl).2).1)).bind λr3=>cond (!r3) (some (bH,(1:Int))) ((P3 N ((((List.getD w1 u7.toNat bl).2).2).1)).bind λr4=>cond (!r4) (some (bH,(1:Int))) (cr x0 x1 w1 Ji (W .i64 (u7+1))))) (none)) ((gu N x1).bind λr6=>cond (!r6) (some (bH,(1:Int))) ((nO N x0).bind λr7=>tG x1 r7 x1 (List.length x1:Int) (0:Int)))
def cn.l4(N:Nat):Nat→cn.bD
 |0,_,_,_,_,_=>none
 |n+1,x0,x1,w1,Ji,u7=>cn.dv N (cn.nG N N) (cn.l4 N n) x0 x1 w1 Ji u7
def cn.b(N:Nat)(eB:cn.bD)(a0:au)(a1:au):Option (au×(Int)):=
 (m5 N a0).bind λr1=>cond (!r1) (some (bH,(1:Int))) (cond (aY 400 (List.length a1:Int)) (some (bH,(1:Int))) (eB a0 a1 a1 (List.length a1:Int) (0:Int)))
def cn(N:Nat)(a0:au)(a1:au):Option (au×(Int)):=cn.b N (cn.l4 N N) a0 a1
def ahy(N:Nat)(a0:au):Option au:=
 cond (jS 0 (List.length a0:Int) (List.length a0:Int) (List.length a0:Int)) (some (List.drop (0:Int).toNat (List.take (List.length a0:Int).toNat a0))) (none)
abbrev cq.am2:=dh→au→uw→Int→dh→Int→Int→Option (au×(Int))
abbrev cq.Gp:=dh→au→uw→Int→dh→Int→Int→Option (au×(Int))
abbrev cq.Gq:=dh→au→db→jt→au→Int→Int→dh→Int→Int→Option (au×(Int))
abbrev cq.Iv:=dh→au→au→Int→Int→Option (au×(Int))
abbrev cq.mu:=dh→au→dh→Int→Int→Option (au×(Int))
abbrev cq.bM:=au→dh→jt→dh→Int→Int→Option (au×(Int))
def cq.ahz(N:Nat)(nL:cq.mu)(x1:dh)(aZ:au)(bY:uw)(cw:Int)(NZ:dh)(Px:Int)(Lc:Int):Option (au×(Int)):=
 cond (aO cw (List.length aZ:Int)) ((pQ N aZ cw ([(bY.1,(bY.2.1,((0:Int),())))])).bind λwY=>nL x1 wY NZ Px (W .i64 (Lc+1))) (cond (ba cw (List.length aZ)) ((P0 N bY.1 bY.2.1 (List.getD aZ cw.toNat bl)).bind λAV=>cond (!aO AV 0) ((pQ N aZ cw ([(bY.1,(bY.2.1,((0:Int),())))])).bind λu6=>nL x1 u6 NZ Px (W .i64 (Lc+1))) (nL x1 aZ NZ Px (W .i64 (Lc+1)))) (none))
def cq.j21(N:Nat)(nL:cq.mu)(x1:dh)(aZ:au)(bY:uw)(cw:Int)(NZ:dh)(Px:Int)(Lc:Int):Option (au×(Int)):=cq.ahz N nL x1 aZ bY cw NZ Px Lc
def cq.Qb(N:Nat)(afW:cq.am2)(nL:cq.mu)(X1:cq.Gp)(x1:dh)(aZ:au)(bY:uw)(cw:Int)(NZ:dh)(Px:Int)(Lc:Int):Option (au×(Int)):=
 cond (aY cw (List.length aZ:Int)) (cond (ba cw (List.length aZ)) ((P0 N bY.1 bY.2.1 (List.getD aZ cw.toNat bl)).bind λoE=>cond (aY 0 oE) (X1 x1 aZ bY (W .i64 (cw+1)) NZ Px Lc) (afW x1 aZ bY cw NZ Px Lc)) (none)) (afW x1 aZ bY cw NZ Px Lc)
def cq.TD(N:Nat)(nL:cq.mu):Nat→cq.Gp
 |0,_,_,_,_,_,_,_=>none
 |n+1,x1,aZ,bY,cw,NZ,Px,Lc=>cq.Qb N (cq.j21 N nL) nL (cq.TD N nL n) x1 aZ bY cw NZ Px Lc
def cq.Ke(N:Nat)(Jk:cq.Iv)(CN:cq.Gq)(x1:dh)(dL:au)(fp:db)(mG:jt)(AL:au)(Dw:Int)(yT:Int)(HG:dh)(UA:Int)(Gr:Int):Option (au×(Int)):=
 cond (aY Gr UA) (cond (ba Gr (List.length HG)) (cond (aO ((List.getD HG Gr.toNat ((0:Int),((0:Int),(cz,())))).1) fp.1) (cond (aO (((List.getD HG Gr.toNat ((0:Int),((0:Int),(cz,())))).2).1) fp.2.1) (cond (small (List.length mG+List.length ([(((List.getD HG Gr.toNat ((0:Int),((0:Int),(cz,())))).2).2).1]))) (CN x1 dL fp (mG++([(((List.getD HG Gr.toNat ((0:Int),((0:Int),(cz,())))).2).2).1])) AL Dw yT HG UA (W .i64 (Gr+1))) (none)) (CN x1 dL fp mG AL Dw yT HG UA (W .i64 (Gr+1)))) (CN x1 dL fp mG AL Dw yT HG UA (W .i64 (Gr+1)))) (none)) ((mB N mG).bind λDZ=>(F92 N DZ.1).bind λQO=>cond (!DZ.2) (some (bH,(2:Int))) (cond (!QO.2) (some (bH,(2:Int))) (cond (!aO QO.1 0) (cond (small (List.length dL+List.length ([(fp.1,(fp.2.1,(QO.1,())))]))) (Jk x1 (dL++([(fp.1,(fp.2.1,(QO.1,())))])) AL Dw (W .i64 (yT+1))) (none)) (Jk x1 dL AL Dw (W .i64 (yT+1))))))
def cq.MZ(N:Nat)(Jk:cq.Iv):Nat→cq.Gq
 |0,_,_,_,_,_,_,_,_,_,_=>none
 |n+1,x1,dL,fp,mG,AL,Dw,yT,HG,UA,Gr=>cq.Ke N Jk (cq.MZ N Jk n) x1 dL fp mG AL Dw yT HG UA Gr
def cq.Z0(N:Nat)(X2:cq.Gq)(Jk:cq.Iv)(x1:dh)(dL:au)(AL:au)(Dw:Int)(yT:Int):Option (au×(Int)):=
 cond (aY yT Dw) (cond (ba yT (List.length AL)) ((UP N ((((List.getD AL yT.toNat bl).2).2).1)).bind λCL=>X2 x1 dL (List.getD AL yT.toNat bl) ([CL]) AL Dw yT x1 (List.length x1:Int) (0:Int)) (none)) ((ahy N dL).bind λX0=>some (X0,(0:Int)))
def cq.ZZ(N:Nat):Nat→cq.Iv
 |0,_,_,_,_,_=>none
 |n+1,x1,dL,AL,Dw,yT=>cq.Z0 N (cq.MZ N (cq.ZZ N n) N) (cq.ZZ N n) x1 dL AL Dw yT
def cq.vk(N:Nat)(X4:cq.Gp)(am3:cq.Iv)(nL:cq.mu)(x1:dh)(aZ:au)(NZ:dh)(Px:Int)(Lc:Int):Option (au×(Int)):=
 cond (aY Lc Px) (cond (ba Lc (List.length NZ)) (X4 x1 aZ (List.getD NZ Lc.toNat ((0:Int),((0:Int),(cz,())))) (0:Int) NZ Px Lc) (none)) (cond (jR 0 (List.length aZ:Int)) (am3 x1 (List.replicate (0:Int).toNat bl) aZ (List.length aZ:Int) (0:Int)) (none))
def cq.wE(N:Nat):Nat→cq.mu
 |0,_,_,_,_,_=>none
 |n+1,x1,aZ,NZ,Px,Lc=>cq.vk N (cq.TD N (cq.wE N n) N) (cq.ZZ N N) (cq.wE N n) x1 aZ NZ Px Lc
def cq.dV(N:Nat)(Gn:cq.mu)(bO:cq.bM)(x0:au)(x1:dh)(x6:jt)(x36:dh)(x37:Int)(x38:Int):Option (au×(Int)):=
 cond (aY x38 x37) (cond (ba x38 (List.length x36)) ((PY N ((List.getD x36 x38.toNat ((0:Int),((0:Int),(cz,())))).1) (((List.getD x36 x38.toNat ((0:Int),((0:Int),(cz,())))).2).1)).bind λr4=>cond (!r4) (some (bH,(1:Int))) (cond (small (List.length x6+List.length ([(((List.getD x36 x38.toNat ((0:Int),((0:Int),(cz,())))).2).2).1]))) (bO x0 x1 (x6++([(((List.getD x36 x38.toNat ((0:Int),((0:Int),(cz,())))).2).2).1])) x36 x37 (W .i64 (x38+1))) (none))) (none)) ((mB N x6).bind λr7=>cond (!r7.2) (some (bH,(1:Int))) ((F74 N r7.1).bind λr8=>cond (!aO r8 0) (some (bH,(1:Int))) ((nO N x0).bind λr9=>Gn x1 r9 x1 (List.length x1:Int) (0:Int))))
def cq.l5(N:Nat):Nat→cq.bM
 |0,_,_,_,_,_,_=>none
 |n+1,x0,x1,x6,x36,x37,x38=>cq.dV N (cq.wE N N) (cq.l5 N n) x0 x1 x6 x36 x37 x38
def cq.b(N:Nat)(eT:cq.bM)(a0:au)(a1:dh):Option (au×(Int)):=
 (AT N a0).bind λr1=>cond (!r1) (some (bH,(1:Int))) (cond (aY 400 (List.length a1:Int)) (some (bH,(1:Int))) (cond (jR 0 (List.length a1:Int)) (eT a0 a1 (List.replicate (0:Int).toNat cz) a1 (List.length a1:Int) (0:Int)) (none)))
def cq(N:Nat)(a0:au)(a1:dh):Option (au×(Int)):=cq.b N (cq.l5 N N) a0 a1
def F68(N:Nat)(a0:aq)(a1:au)(a2:dh):Option (aq×(Int)):=
 (Z2 N a0).bind λr1=>(cn N a0.2.2.2.1 a1).bind λr2=>cond (!aO r2.2 0) (some ((cm,(c8,(bH,(bH,(dC,(dP,())))))),r2.2)) ((cq N a0.2.2.1 a2).bind λr3=>cond (!aO r3.2 0) (some ((cm,(c8,(bH,(bH,(dC,(dP,())))))),r3.2)) (some ((r1.1,(r1.2.1,(r3.1,(r2.1,r1.2.2.2.2)))),(0:Int))))
abbrev sM.X5:=Int→ae→aq→aq→au→dh→bX→Int→aM→Int→Int→Option (aq×(Int))
abbrev sM.gK:=Int→ae→aq→aq→au→dh→aM→Int→Int→Option (aq×(Int))
def sM.Nq(N:Nat)(eX:sM.gK)(x2:Int)(x3:ae)(x4:aq)(x6:aq)(x8:au)(x9:dh)(aZ:bX)(bf:Int)(w1:aM)(Ji:Int)(u7:Int):Option (aq×(Int)):=
 (Bq N x4.2.2.1 (5:Int) aZ.1).bind λr7=>(UP N (W .i64 (bf+(mn r7 0)))).bind λkK=>(F66 N kK).bind λnI=>(Cw N x4.2.2.2.1 aZ.1 (0:Int)).bind λoE=>cond (small (List.length x8+List.length oE)) (cond (small (List.length x9+List.length ([((5:Int),(aZ.1,(nI.1,()))),((2:Int),((0:Int),(kK,())))]))) (eX x2 x3 x4 x6 (x8++oE) (x9++([((5:Int),(aZ.1,(nI.1,()))),((2:Int),((0:Int),(kK,())))])) w1 Ji (W .i64 (u7+1))) (none)) (none)
def sM.UR(N:Nat)(eX:sM.gK)(x2:Int)(x3:ae)(x4:aq)(x6:aq)(x8:au)(x9:dh)(aZ:bX)(bf:Int)(w1:aM)(Ji:Int)(u7:Int):Option (aq×(Int)):=sM.Nq N eX x2 x3 x4 x6 x8 x9 aZ bf w1 Ji u7
def sM.xR(N:Nat)(N0:sM.X5)(eX:sM.gK)(x2:Int)(x3:ae)(x4:aq)(x6:aq)(x8:au)(x9:dh)(w1:aM)(Ji:Int)(u7:Int):Option (aq×(Int)):=
 cond (aY u7 Ji) (cond (ba u7 (List.length w1)) (cond (!aO (((List.getD w1 u7.toNat aV).2).1) x2) (eX x2 x3 x4 x6 x8 x9 w1 Ji (W .i64 (u7+1))) (cond (aO ((((List.getD w1 u7.toNat aV).2).2).1) (2:Int)) ((F31 N x3 x4 ((List.getD w1 u7.toNat aV).1)).bind λr5=>N0 x2 x3 x4 x6 x8 x9 (List.getD w1 u7.toNat aV) r5.1 w1 Ji u7) (N0 x2 x3 x4 x6 x8 x9 (List.getD w1 u7.toNat aV) (0:Int) w1 Ji u7))) (none)) ((F68 N x4 x8 x9).bind λxF=>some (xF.1,xF.2))
def sM.l8(N:Nat):Nat→sM.gK
 |0,_,_,_,_,_,_,_,_,_=>none
 |n+1,x2,x3,x4,x6,x8,x9,w1,Ji,u7=>sM.xR N (sM.UR N (sM.l8 N n)) (sM.l8 N n) x2 x3 x4 x6 x8 x9 w1 Ji u7
def sM.b(N:Nat)(BO:sM.gK)(a0:ae)(a1:aq)(a2:Int):Option (aq×(Int)):=
 (lh N a0 a1).bind λr1=>cond (!r1) (some ((cm,(c8,(bH,(bH,(dC,(dP,())))))),(1:Int))) ((Ab N a1.1 a2).bind λr2=>cond (aO r2 0) (some ((cm,(c8,(bH,(bH,(dC,(dP,())))))),(3:Int))) (BO a2 a0 a1 (cm,(c8,(bH,(bH,(dC,(dP,())))))) ([]) ([]) a1.2.1 (List.length a1.2.1:Int) (0:Int)))
def sM(N:Nat)(a0:ae)(a1:aq)(a2:Int):Option (aq×(Int)):=sM.b N (sM.l8 N N) a0 a1 a2
abbrev yY.da:=au→Int→Option (Bool)
def yY.gD(N:Nat)(ew:yY.da)(x0:au)(x3:Int):Option (Bool):=
 cond (aY x3 (List.length x0:Int)) (cond (ba x3 (List.length x0)) (cond (aY ((List.getD x0 x3.toNat bl).1) (0:Int)) (some false) (cond (aY 24 ((List.getD x0 x3.toNat bl).1)) (some false) (cond (aY (((List.getD x0 x3.toNat bl).2).1) (0:Int)) (some false) (cond (dj 6 (((List.getD x0 x3.toNat bl).2).1)) (some false) (cond (aO ((((List.getD x0 x3.toNat bl).2).2).1) (0:Int)) (some false) (cond (aO ((((List.getD x0 x3.toNat bl).2).2).1) (-9223372036854775808:Int)) (some false) (cond (aY 0 x3) (let v2:Int:=W .i64 (x3-1);cond (ba v2 (List.length x0)) (cond (aY ((List.getD x0 x3.toNat bl).1) ((List.getD x0 v2.toNat bl).1)) (some false) (let v3:Int:=W .i64 (x3-1);cond (ba v3 (List.length x0)) (cond (aO ((List.getD x0 x3.toNat bl).1) ((List.getD x0 v3.toNat bl).1)) (let v4:Int:=W .i64 (x3-1);cond (ba v4 (List.length x0)) (cond (dj (((List.getD x0 x3.toNat bl).2).1) (((List.getD x0 v4.toNat bl).2).1)) (some false) (ew x0 (W .i64 (x3+1)))) (none)) (ew x0 (W .i64 (x3+1)))) (none))) (none)) (ew x0 (W .i64 (x3+1)))))))))) (none)) (some true)
def yY.l2(N:Nat):Nat→yY.da
 |0,_,_=>none
 |n+1,x0,x3=>yY.gD N (yY.l2 N n) x0 x3
def yY.b(N:Nat)(jf:yY.da)(a0:au):Option (Bool):=
 jf a0 (0:Int)
def yY(N:Nat)(a0:au):Option (Bool):=yY.b N (yY.l2 N N) a0
abbrev Bo.bD:=au→Int→Int→Int→Option (Int)
def Bo.dv(N:Nat)(cr:Bo.bD)(x0:au)(x1:Int)(x2:Int)(x7:Int):Option (Int):=
 cond (aY x7 (List.length x0:Int)) (cond (ba x7 (List.length x0)) (cond (aO ((List.getD x0 x7.toNat bl).1) x1) (cond (ba x7 (List.length x0)) (cond (aO (((List.getD x0 x7.toNat bl).2).1) x2) (cond (ba x7 (List.length x0)) (some ((((List.getD x0 x7.toNat bl).2).2).1)) (none)) (cr x0 x1 x2 (W .i64 (x7+1)))) (none)) (cr x0 x1 x2 (W .i64 (x7+1)))) (none)) (some (0:Int))
def Bo.l4(N:Nat):Nat→Bo.bD
 |0,_,_,_,_=>none
 |n+1,x0,x1,x2,x7=>Bo.dv N (Bo.l4 N n) x0 x1 x2 x7
def Bo.b(N:Nat)(eB:Bo.bD)(a0:au)(a1:Int)(a2:Int):Option (Int):=
 (yY N a0).bind λr1=>cond (!r1) (some (0:Int)) (eB a0 a1 a2 (0:Int))
def Bo(N:Nat)(a0:au)(a1:Int)(a2:Int):Option (Int):=Bo.b N (Bo.l4 N N) a0 a1 a2
def PZ(N:Nat)(a0:Int)(a1:Int):Option (Bool):=
 cond (aO a0 1) (some (aO a1 0)) (cond (aO a0 2) (some (aO a1 0)) (cond (aO a0 3) (some (aO a1 0)) (cond (aO a0 4) (some (aO a1 0)) (cond (aO a0 5) (cond (dj 1 a1) (some (dj a1 24)) (some false)) (cond (aO a0 6) (cond (dj 1 a1) (some (dj a1 12)) (some false)) (cond (aO a0 7) (cond (dj 1 a1) (some (dj a1 12)) (some false)) (some false)))))))
abbrev Bh.da:=au→Int→Option (Bool)
def Bh.gD(N:Nat)(ew:Bh.da)(x0:au)(x3:Int):Option (Bool):=
 cond (aY x3 (List.length x0:Int)) (cond (ba x3 (List.length x0)) (cond (ba x3 (List.length x0)) ((PZ N ((List.getD x0 x3.toNat bl).1) (((List.getD x0 x3.toNat bl).2).1)).bind λr2=>cond (!r2) (some false) (cond (ba x3 (List.length x0)) (cond (aO ((((List.getD x0 x3.toNat bl).2).2).1) (0:Int)) (some false) (cond (aY 0 x3) (cond (ba x3 (List.length x0)) (let v3:Int:=W .i64 (x3-1);cond (ba v3 (List.length x0)) (cond (aY ((List.getD x0 x3.toNat bl).1) ((List.getD x0 v3.toNat bl).1)) (some false) (cond (ba x3 (List.length x0)) (let v4:Int:=W .i64 (x3-1);cond (ba v4 (List.length x0)) (cond (aO ((List.getD x0 x3.toNat bl).1) ((List.getD x0 v4.toNat bl).1)) (cond (ba x3 (List.length x0)) (let v5:Int:=W .i64 (x3-1);cond (ba v5 (List.length x0)) (cond (dj (((List.getD x0 x3.toNat bl).2).1) (((List.getD x0 v5.toNat bl).2).1)) (some false) (ew x0 (W .i64 (x3+1)))) (none)) (none)) (ew x0 (W .i64 (x3+1)))) (none)) (none))) (none)) (none)) (ew x0 (W .i64 (x3+1))))) (none))) (none)) (none)) (some true)
def Bh.l2(N:Nat):Nat→Bh.da
 |0,_,_=>none
 |n+1,x0,x3=>Bh.gD N (Bh.l2 N n) x0 x3
def Bh.b(N:Nat)(jf:Bh.da)(a0:au):Option (Bool):=
 jf a0 (0:Int)
def Bh(N:Nat)(a0:au):Option (Bool):=Bh.b N (Bh.l2 N N) a0
abbrev uy.bD:=au→Int→Int→Int→Option (Int)
def uy.dv(N:Nat)(cr:uy.bD)(x0:au)(x1:Int)(x2:Int)(x7:Int):Option (Int):=
 cond (aY x7 (List.length x0:Int)) (cond (ba x7 (List.length x0)) (cond (aO ((List.getD x0 x7.toNat bl).1) x1) (cond (ba x7 (List.length x0)) (cond (aO (((List.getD x0 x7.toNat bl).2).1) x2) (cond (ba x7 (List.length x0)) (some ((((List.getD x0 x7.toNat bl).2).2).1)) (none)) (cr x0 x1 x2 (W .i64 (x7+1)))) (none)) (cr x0 x1 x2 (W .i64 (x7+1)))) (none)) (some (0:Int))
def uy.l4(N:Nat):Nat→uy.bD
 |0,_,_,_,_=>none
 |n+1,x0,x1,x2,x7=>uy.dv N (uy.l4 N n) x0 x1 x2 x7
def uy.b(N:Nat)(eB:uy.bD)(a0:au)(a1:Int)(a2:Int):Option (Int):=
 (Bh N a0).bind λr1=>cond (!r1) (some (0:Int)) (eB a0 a1 a2 (0:Int))
def uy(N:Nat)(a0:au)(a1:Int)(a2:Int):Option (Int):=uy.b N (uy.l4 N N) a0 a1 a2
def F15(N:Nat):Option (Bool):=
 (F56 N).bind λr1=>(F31 N r1.1 r1.2 (2:Int)).bind λr2=>(sM N r1.1 r1.2 (1:Int)).bind λr3=>(sM N r1.1 r1.2 (9:Int)).bind λr4=>cond (aO r2.2 0) (cond (aO r2.1 15) (cond (aO r3.2 0) ((Bo N r3.1.2.2.2.1 (0:Int) (0:Int)).bind λr5=>cond (aO r5 6) ((uy N r3.1.2.2.1 (5:Int) (1:Int)).bind λr6=>cond (aO r6 0) ((uy N r3.1.2.2.1 (5:Int) (2:Int)).bind λr7=>cond (aO r7 5) ((uy N r3.1.2.2.1 (2:Int) (0:Int)).bind λr8=>cond (aO r8 5) (some (aO r4.2 3)) (some false)) (some false)) (some false)) (some false)) (some false)) (some false)) (some false)
def F16(N:Nat)(a0:List (Int)):Option aL:=
 some (a0,((0:Int),()))
def F62(N:Nat)(a0:aL):Option ((Int)×aL):=
 cond (aY a0.2.1 (List.length a0.1:Int)) (cond (ba a0.2.1 (List.length a0.1)) (some (List.getD a0.1 a0.2.1.toNat (0:Int),(a0.1,((W .i64 (a0.2.1+1)),a0.2.2)))) (none)) (some ((0:Int),(a0.1,((W .i64 (a0.2.1+1)),a0.2.2))))
def pB(N:Nat)(a0:aL)(a1:Int):Option ((Int)×aL):=
 (F62 N a0).bind λr1=>let v2:Int:=W .u64 a1;cond (aO v2 0) (none) (some ((W .i64 (rem r1.1 v2)),r1.2))
def Qr(N:Nat)(a0:aL)(a1:Int):Option ((Bool)×aL):=
 (pB N a0 a1).bind λr1=>some (aO r1.1 (W .i64 (a1-1)),r1.2)
def K9(N:Nat)(a0:aL):Option ((Int)×aL):=
 (F62 N a0).bind λr1=>cond (aO 8 0) (none) (let v2:Int:=rem r1.1 8;cond (aO v2 0) (cond (aY 1 0) (none) (some ((W .i64 (shr .u64 r1.1 1)),r1.2))) (cond (aO v2 1) (cond (aY 3 0) (none) (cond (aO 1000000000000 0) (none) (some ((W .i64 (rem (shr .u64 r1.1 3) 1000000000000)),r1.2)))) (cond (aO v2 2) (cond (aY 3 0) (none) (cond (aO 2 0) (none) (some ((W .i64 (rem (shr .u64 r1.1 3) 2)),r1.2)))) (cond (aY 3 0) (none) (cond (aO 5000 0) (none) (some ((W .i64 (rem (shr .u64 r1.1 3) 5000)),r1.2)))))))
abbrev uN.X6:=aL→ae→ae→aM→Int→bX→Option (ae×aL)
abbrev uN.dQ:=aL→ae→ae→aM→Int→Option (ae×aL)
def uN.Wu(N:Nat)(dn:uN.dQ)(x0:aL)(x2:ae)(x3:ae)(UB:aM)(x4:Int)(x5:bX):Option (ae×aL):=
 (Qr N x0 (12:Int)).bind λxV=>cond (xV.1) ((K9 N xV.2).bind λwY=>cond (aO 1000000001 0) (none) (let X7:Int:=rem wY.1 1000000001;(K9 N wY.2).bind λAV=>cond (aO 1000000001 0) (none) (let v18:Int:=rem AV.1 1000000001;cond (small (List.length UB+List.length ([(x5.1,(x5.2.1,(X7,(v18,x5.2.2.2.2))))]))) (dn AV.2 x2 (c8,x3.2) (UB++([(x5.1,(x5.2.1,(X7,(v18,x5.2.2.2.2))))])) (W .i64 (x4-1))) (none)))) (cond (small (List.length UB+List.length ([x5]))) (dn xV.2 x2 (c8,x3.2) (UB++([x5])) (W .i64 (x4-1))) (none))
def uN.j8(N:Nat)(dn:uN.dQ)(x0:aL)(x2:ae)(x3:ae)(UB:aM)(x4:Int)(x5:bX):Option (ae×aL):=uN.Wu N dn x0 x2 x3 UB x4 x5
def uN.nC(N:Nat)(N1:uN.X6)(dn:uN.dQ)(x0:aL)(x2:ae)(x3:ae)(UB:aM)(x4:Int):Option (ae×aL):=
 cond (aY 0 x4) ((pB N x0 (3:Int)).bind λr4=>(pB N r4.2 (300:Int)).bind λr5=>(pB N r5.2 (12:Int)).bind λr7=>(pB N r7.2 (6:Int)).bind λr8=>(Qr N r8.2 (12:Int)).bind λr9=>cond (r9.1) ((K9 N r9.2).bind λkK=>cond (aO 1000000000000 0) (none) (N1 kK.2 x2 x3 UB x4 (r4.1,((W .i64 ((1:Int)+(rem kK.1 1000000000000))),(r7.1,(r8.1,())))))) (N1 r9.2 x2 x3 UB x4 (r4.1,((W .i64 ((1:Int)+r5.1)),(r7.1,(r8.1,())))))) ((pB N x0 (300:Int)).bind λCL=>(pB N CL.2 (5:Int)).bind λLd=>(pB N Ld.2 (3:Int)).bind λGP=>(pB N GP.2 (3:Int)).bind λCO=>(pB N CO.2 (20:Int)).bind λN2=>let v28:Int:=W .i64 ((1:Int)+N2.1);(pB N N2.2 (100:Int)).bind λDZ=>(Qr N DZ.2 (15:Int)).bind λQO=>cond (QO.1) ((K9 N QO.2).bind λGQ=>some ((UB,(GQ.1,(Ld.1,(GP.1,(CO.1,(v28,(DZ.1,x3.2.2.2.2.2.2.2))))))),GQ.2)) (some ((UB,(CL.1,(Ld.1,(GP.1,(CO.1,(v28,(DZ.1,x3.2.2.2.2.2.2.2))))))),QO.2)))
def uN.l3(N:Nat):Nat→uN.dQ
 |0,_,_,_,_,_=>none
 |n+1,x0,x2,x3,UB,x4=>uN.nC N (uN.j8 N (uN.l3 N n)) (uN.l3 N n) x0 x2 x3 UB x4
def uN.b(N:Nat)(oj:uN.dQ)(a0:aL):Option (ae×aL):=
 (pB N a0 (4:Int)).bind λr1=>oj r1.2 (c8,e7) (c8,e7) c8 (W .i64 ((1:Int)+r1.1))
def uN(N:Nat)(a0:aL):Option (ae×aL):=uN.b N (uN.l3 N N) a0
def TT(N:Nat)(a0:aL)(a1:ae)(a2:Int):Option (gJ×aL):=
 cond (ba a2 (List.length a1.1)) ((pB N a0 (61:Int)).bind λr1=>(Qr N r1.2 (20:Int)).bind λr6=>cond (r6.1) ((K9 N r6.2).bind λr7=>cond (aO 1000000000000 0) (none) (some (((9:Int),((0:Int),((0:Int),(a2,((0:Int),((0:Int),((0:Int),((W .i64 ((1:Int)+(rem r7.1 1000000000000))),())))))))),r7.2))) (some (((9:Int),((0:Int),((0:Int),(a2,((0:Int),((0:Int),((0:Int),((mx 1 (mn 1000000000000 (W .i64 ((W .i64 ((((List.getD a1.1 a2.toNat aV).2).1)+r1.1))-30)))),())))))))),r6.2))) (none)
def W2(N:Nat)(a0:aL)(a1:ae):Option (gJ×aL):=
 (pB N a0 (List.length a1.1:Int)).bind λr1=>(pB N r1.2 (7:Int)).bind λr2=>let v3:Int:=W .i64 ((1:Int)+r2.1);(pB N r2.2 (2:Int)).bind λr4=>let v5:Int:=W .i64 ((1:Int)+r4.1);(pB N r4.2 (30:Int)).bind λr6=>cond (ba r1.1 (List.length a1.1)) ((pB N r6.2 (21:Int)).bind λr8=>(Qr N r8.2 (30:Int)).bind λqm=>cond (qm.1) ((K9 N qm.2).bind λxV=>cond (aO 1000000000 0) (none) ((K9 N xV.2).bind λAV=>cond (aO 1000000000000 0) (none) (some (((7:Int),((0:Int),(v3,(r1.1,(v5,((0:Int),((W .i64 ((1:Int)+(rem xV.1 1000000000))),((W .i64 ((1:Int)+(rem AV.1 1000000000000))),())))))))),AV.2)))) (some (((7:Int),((0:Int),(v3,(r1.1,(v5,((0:Int),((W .i64 ((1:Int)+r6.1)),((mx 1 (mn 1000000000000 (W .i64 ((W .i64 ((((List.getD a1.1 r1.1.toNat aV).2).1)+r8.1))-10)))),())))))))),qm.2))) (none)
def TU(N:Nat)(a0:aL)(a1:ae):Option (gJ×aL):=
 (pB N a0 (4:Int)).bind λr1=>let v2:Int:=W .i64 ((1:Int)+r1.1);(pB N r1.2 (7:Int)).bind λr3=>let v4:Int:=W .i64 ((1:Int)+r3.1);(pB N r3.2 (List.length a1.1:Int)).bind λr5=>(pB N r5.2 (36:Int)).bind λr6=>let v7:Int:=W .i64 ((1:Int)+r6.1);cond (aO v7 1) (some ((v7,(v2,e7)),r6.2)) (cond (aO v7 11) (some ((v7,(v2,e7)),r6.2)) (cond (aO v7 12) (some ((v7,(v2,e7)),r6.2)) (cond (aO v7 13) (some ((v7,(v2,e7)),r6.2)) (cond (aO v7 2) ((pB N r6.2 (2:Int)).bind λr8=>some ((v7,(v2,(v4,((0:Int),((W .i64 ((1:Int)+r8.1)),bl))))),r8.2)) (cond (aO v7 3) ((K9 N r6.2).bind λkK=>some ((v7,((0:Int),(v4,((0:Int),((0:Int),((0:Int),((mx kK.1 1),((0:Int),())))))))),kK.2)) (cond (aO v7 4) ((K9 N r6.2).bind λoE=>some ((v7,((0:Int),(v4,((0:Int),((0:Int),((0:Int),((mx oE.1 1),((0:Int),())))))))),oE.2)) (cond (aO v7 5) ((K9 N r6.2).bind λxV=>some ((v7,(v2,((0:Int),((0:Int),((0:Int),((0:Int),((mx xV.1 1),((0:Int),())))))))),xV.2)) (cond (aO v7 22) ((K9 N r6.2).bind λxF=>some ((v7,(v2,((0:Int),((0:Int),((0:Int),((0:Int),((mx xF.1 1),((0:Int),())))))))),xF.2)) (cond (aO v7 6) ((K9 N r6.2).bind λu6=>cond (aO 1000000000001 0) (none) (some ((v7,((0:Int),(v4,((0:Int),((0:Int),((0:Int),((rem u6.1 1000000000001),((0:Int),())))))))),u6.2))) (cond (aO v7 8) ((pB N r6.2 (40:Int)).bind λN3=>some ((v7,((0:Int),(v4,((0:Int),((0:Int),((W .i64 ((1:Int)+N3.1)),cz)))))),N3.2)) (cond (aO v7 9) ((TT N r6.2 a1 r5.1).bind λKR=>some (KR.1,KR.2)) (cond (aO v7 10) ((pB N r6.2 (3:Int)).bind λCL=>some ((v7,((0:Int),((0:Int),((0:Int),((0:Int),((0:Int),((W .i64 ((1:Int)+CL.1)),((0:Int),())))))))),CL.2)) (cond (aO v7 14) (some ((v7,(v2,(v4,mz))),r6.2)) (cond (aO v7 15) (some ((v7,K4),r6.2)) (cond (aO v7 16) (some ((v7,K4),r6.2)) (cond (aO v7 18) (some ((v7,K4),r6.2)) (cond (aO v7 20) (some ((v7,K4),r6.2)) (cond (aO v7 21) (some ((v7,K4),r6.2)) (cond (aO v7 17) ((pB N r6.2 (60:Int)).bind λGP=>(pB N GP.2 (20:Int)).bind λN2=>cond (ba r5.1 (List.length a1.1)) (some ((v7,((0:Int),(v4,((0:Int),((0:Int),((W .i64 ((1:Int)+GP.1)),((W .i64 ((1:Int)+N2.1)),(((List.getD a1.1 r5.1.toNat aV).2).1,())))))))),N2.2)) (none)) (cond (aO v7 19) ((pB N r6.2 (60:Int)).bind λDZ=>(pB N DZ.2 (80:Int)).bind λGQ=>some ((v7,(v2,((0:Int),((0:Int),((0:Int),((W .i64 ((1:Int)+DZ.1)),((0:Int),((W .i64 (GQ.1-60)),())))))))),GQ.2)) ((W2 N r6.2 a1).bind λr33=>some (r33.1,r33.2))))))))))))))))))))))
abbrev fN.fV:=aL→cR→Int→Option (cR×aL)
abbrev fN.mc:=aL→cR→Int→Option (cR×aL)
abbrev fN.dQ:=aL→cR→Int→Option (cR×aL)
def fN.mE(N:Nat)(gI:fN.fV)(x0:aL)(x5:cR)(x8:Int):Option (cR×aL):=
 cond (dj x8 7) ((pB N x0 (3000:Int)).bind λwY=>let X7:Int:=W .i64 ((200:Int)+wY.1);(pB N wY.2 (200:Int)).bind λAV=>let v18:Int:=W .i64 ((20:Int)+AV.1);cond (small (List.length x5+List.length ([((3:Int),((0:Int),(x8,((0:Int),((0:Int),((0:Int),(X7,((0:Int),())))))))),((6:Int),((0:Int),(x8,((0:Int),((0:Int),((0:Int),(v18,((0:Int),()))))))))]))) (gI AV.2 (x5++([((3:Int),((0:Int),(x8,((0:Int),((0:Int),((0:Int),(X7,((0:Int),())))))))),((6:Int),((0:Int),(x8,((0:Int),((0:Int),((0:Int),(v18,((0:Int),()))))))))])) (W .i64 (x8+1))) (none)) (some (x5,x0))
def fN.nG(N:Nat):Nat→fN.fV
 |0,_,_,_=>none
 |n+1,x0,x5,x8=>fN.mE N (fN.nG N n) x0 x5 x8
def fN.xp(N:Nat)(tG:fN.fV)(rC:fN.mc)(x0:aL)(x5:cR)(x7:Int):Option (cR×aL):=
 cond (dj x7 7) ((pB N x0 (2:Int)).bind λkK=>let v11:Int:=W .i64 ((1:Int)+kK.1);cond (small (List.length x5+List.length ([((2:Int),(v11,(x7,((0:Int),((2:Int),bl)))))]))) (rC kK.2 (x5++([((2:Int),(v11,(x7,((0:Int),((2:Int),bl)))))])) (W .i64 (x7+1))) (none)) (tG x0 x5 (1:Int))
def fN.l9(N:Nat):Nat→fN.mc
 |0,_,_,_=>none
 |n+1,x0,x5,x7=>fN.xp N (fN.nG N N) (fN.l9 N n) x0 x5 x7
def fN.nC(N:Nat)(yU:fN.mc)(dn:fN.dQ)(x0:aL)(x5:cR)(x6:Int):Option (cR×aL):=
 cond (dj x6 4) (cond (small (List.length x5+List.length ([((1:Int),(x6,e7)),((2:Int),(x6,(x6,((0:Int),((1:Int),bl)))))]))) (let v2:List ((Int)×((Int)×((Int)×((Int)×((Int)×((Int)×((Int)×((Int)×(Unit))))))))):=x5++([((1:Int),(x6,e7)),((2:Int),(x6,(x6,((0:Int),((1:Int),bl)))))]);(Qr N x0 (5:Int)).bind λr3=>cond (!r3.1) ((pB N r3.2 (400:Int)).bind λr4=>let v5:Int:=W .i64 ((1:Int)+r4.1);cond (small (List.length v2+List.length ([((5:Int),(x6,((0:Int),((0:Int),((0:Int),((0:Int),(v5,((0:Int),()))))))))]))) (dn r4.2 (v2++([((5:Int),(x6,((0:Int),((0:Int),((0:Int),((0:Int),(v5,((0:Int),()))))))))])) (W .i64 (x6+1))) (none)) (dn r3.2 v2 (W .i64 (x6+1)))) (none)) (yU x0 x5 (5:Int))
def fN.l3(N:Nat):Nat→fN.dQ
 |0,_,_,_=>none
 |n+1,x0,x5,x6=>fN.nC N (fN.l9 N N) (fN.l3 N n) x0 x5 x6
def fN.b(N:Nat)(oj:fN.dQ)(a0:aL)(a1:ae):Option (cR×aL):=
 oj a0 ([]) (1:Int)
def fN(N:Nat)(a0:aL)(a1:ae):Option (cR×aL):=fN.b N (fN.l3 N N) a0 a1
abbrev pD.dQ:=aL→ae→cR→Int→Option (cR×aL)
def pD.nC(N:Nat)(dn:pD.dQ)(x0:aL)(x4:ae)(x7:cR)(x8:Int):Option (cR×aL):=
 cond (aY 0 x8) ((pB N x0 (8:Int)).bind λr5=>cond (aO r5.1 0) ((TU N r5.2 x4).bind λr6=>cond (small (List.length x7+List.length ([r6.1]))) (dn r6.2 x4 (x7++([r6.1])) (W .i64 (x8-1))) (none)) (cond (aO r5.1 1) ((pB N r5.2 (List.length x4.1:Int)).bind λr9=>(TT N r9.2 x4 r9.1).bind λkK=>cond (small (List.length x7+List.length ([kK.1]))) (dn kK.2 x4 (x7++([kK.1])) (W .i64 (x8-1))) (none)) ((W2 N r5.2 x4).bind λqm=>cond (small (List.length x7+List.length ([qm.1]))) (dn qm.2 x4 (x7++([qm.1])) (W .i64 (x8-1))) (none)))) (some (x7,x0))
def pD.l3(N:Nat):Nat→pD.dQ
 |0,_,_,_,_=>none
 |n+1,x0,x4,x7,x8=>pD.nC N (pD.l3 N n) x0 x4 x7 x8
def pD.b(N:Nat)(oj:pD.dQ)(a0:aL)(a1:ae)(a2:Int):Option (cR×aL):=
 (fN N a0 a1).bind λr1=>(pB N r1.2 (W .i64 (a2+1))).bind λr3=>oj r3.2 a1 r1.1 r3.1
def pD(N:Nat)(a0:aL)(a1:ae)(a2:Int):Option (cR×aL):=pD.b N (pD.l3 N N) a0 a1 a2
def Hj(N:Nat)(a0:Int)(a1:Int)(a2:Int):Option (Bool):=
 cond (dj a1 a0) (some (dj a0 a2)) (some false)
abbrev lR.bD:=ae→Int→Option (Bool)
def lR.dv(N:Nat)(cr:lR.bD)(x1:ae)(x3:Int):Option (Bool):=
 cond (aY x3 (List.length x1.1:Int)) (cond (ba x3 (List.length x1.1)) ((Hj N ((List.getD x1.1 x3.toNat aV).1) (0:Int) (3:Int)).bind λr2=>cond (!r2) (some false) ((Hj N (((List.getD x1.1 x3.toNat aV).2).1) (1:Int) (1000000000000:Int)).bind λr3=>cond (!r3) (some false) ((Hj N ((((List.getD x1.1 x3.toNat aV).2).2).1) (0:Int) (1000000000:Int)).bind λr4=>cond (!r4) (some false) ((Hj N (((((List.getD x1.1 x3.toNat aV).2).2).2).1) (0:Int) (1000000000:Int)).bind λr5=>cond (!r5) (some false) (cr x1 (W .i64 (x3+1))))))) (none)) (cond (dj 0 x1.2.1) ((Hj N x1.2.2.1 (0:Int) (4:Int)).bind λr7=>cond (r7) ((Hj N x1.2.2.2.1 (0:Int) (1000000:Int)).bind λr8=>cond (r8) ((Hj N x1.2.2.2.2.1 (0:Int) (1000000:Int)).bind λr9=>cond (r9) ((Hj N x1.2.2.2.2.2.1 (1:Int) (4611686018427387904:Int)).bind λkK=>cond (kK) (some (dj 0 x1.2.2.2.2.2.2.1)) (some false)) (some false)) (some false)) (some false)) (some false))
def lR.l4(N:Nat):Nat→lR.bD
 |0,_,_=>none
 |n+1,x1,x3=>lR.dv N (lR.l4 N n) x1 x3
def lR.b(N:Nat)(eB:lR.bD)(a0:ae):Option (Bool):=
 cond (aY (List.length a0.1:Int) 1) (some false) (cond (aY 6 (List.length a0.1:Int)) (some false) (eB a0 (0:Int)))
def lR(N:Nat)(a0:ae):Option (Bool):=lR.b N (lR.l4 N N) a0
abbrev ia.eK:=ae→aq→aq→(List (Int))→Int→Option (aq×(Int))
abbrev ia.X8:=ae→aq→aq→(List (Int))→Option (aq×(Int))
def ia.pj(N:Nat)(eC:ia.eK)(x1:ae)(x2:aq)(x4:aq)(x4l:List (Int))(x5:Int):Option (aq×(Int)):=
 cond (aY x5 (List.length x1.1:Int)) (cond (ba x5 (List.length x1.1)) (cond (small (List.length x4l+List.length ([((List.getD x1.1 x5.toNat aV).2).1]))) (eC x1 x2 (x4.1,(x4.2.1,(x4.2.2.1,(x4.2.2.2.1,(dC,x4.2.2.2.2.2))))) (x4l++([((List.getD x1.1 x5.toNat aV).2).1])) (W .i64 (x5+1))) (none)) (none)) (some ((x4.1,(x4.2.1,(x4.2.2.1,(x4.2.2.2.1,(x4l,x4.2.2.2.2.2))))),(0:Int)))
def ia.l7(N:Nat):Nat→ia.eK
 |0,_,_,_,_,_=>none
 |n+1,x1,x2,x4,x4l,x5=>ia.pj N (ia.l7 N n) x1 x2 x4 x4l x5
def ia.Tj(N:Nat)(sN:ia.eK)(x1:ae)(x2:aq)(x4:aq)(x4l:List (Int)):Option (aq×(Int)):=
 sN x1 x2 x4 x4l (0:Int)
def ia.j6(N:Nat)(x1:ae)(x2:aq)(x4:aq)(x4l:List (Int)):Option (aq×(Int)):=ia.Tj N (ia.l7 N N) x1 x2 x4 x4l
def ia.b(N:Nat)(KS:ia.X8)(a0:ae):Option (aq×(Int)):=
 (lR N a0).bind λr1=>cond (!r1) (some ((cm,(c8,(bH,(bH,(dC,(dP,())))))),(1:Int))) (cond (!aO a0.2.1 0) (KS a0 (cm,(c8,(bH,(bH,(dC,(dP,())))))) (cm,(c8,([((1:Int),((0:Int),((W .i64 (0-a0.2.1)),()))),((3:Int),((0:Int),(a0.2.1,())))],(bH,(dC,(dP,())))))) dC) (KS a0 (cm,(c8,(bH,(bH,(dC,(dP,())))))) (cm,(c8,(bH,(bH,(dC,(dP,())))))) dC))
def ia(N:Nat)(a0:ae):Option (aq×(Int)):=ia.b N (ia.j6 N) a0
def XP(N:Nat)(a0:ae):Option (aQ×(Int)):=
 (ia N a0).bind λr1=>cond (!aO r1.2 0) (some (((0:Int),((0:Int),((cm,(c8,(bH,(bH,(dC,(dP,())))))),(((0:Int),((0:Int),((0:Int),((0:Int),(c8,(([]:List ((Int)×((List ((Int)×((Int)×(Unit))))×((Int)×((Int)×((Int)×((Int)×(Unit)))))))),(c8,(dC,(cm,(cm,())))))))))),(((0:Int),((0:Int),(CT,((0:Int),())))),()))))),r1.2)) (some (((0:Int),((1:Int),(r1.1,(((0:Int),((0:Int),((0:Int),((0:Int),(c8,(([]:List ((Int)×((List ((Int)×((Int)×(Unit))))×((Int)×((Int)×((Int)×((Int)×(Unit)))))))),(c8,(dC,(cm,(cm,())))))))))),(((0:Int),((0:Int),(CT,((0:Int),())))),()))))),(0:Int)))
abbrev nq.dQ:=aL→ae→cR→Int→Option (cR×aL)
def nq.nC(N:Nat)(dn:nq.dQ)(x0:aL)(x3:ae)(x5:cR)(x6:Int):Option (cR×aL):=
 cond (aY 0 x6) ((Qr N x0 (2:Int)).bind λr3=>cond (r3.1) ((pB N r3.2 (List.length x3.1:Int)).bind λr4=>(TT N r4.2 x3 r4.1).bind λr5=>cond (small (List.length x5+List.length ([r5.1]))) (dn r5.2 x3 (x5++([r5.1])) (W .i64 (x6-1))) (none)) ((TU N r3.2 x3).bind λr8=>cond (small (List.length x5+List.length ([r8.1]))) (dn r8.2 x3 (x5++([r8.1])) (W .i64 (x6-1))) (none))) (some (x5,x0))
def nq.l3(N:Nat):Nat→nq.dQ
 |0,_,_,_,_=>none
 |n+1,x0,x3,x5,x6=>nq.nC N (nq.l3 N n) x0 x3 x5 x6
def nq.b(N:Nat)(oj:nq.dQ)(a0:aL)(a1:ae):Option (cR×aL):=
 (pB N a0 (3:Int)).bind λr1=>oj r1.2 a1 ([]) r1.1
def nq(N:Nat)(a0:aL)(a1:ae):Option (cR×aL):=nq.b N (nq.l3 N N) a0 a1
def ahP(N:Nat)(a0:Int):Option (Bool):=
 cond (dj 1 a0) (some (dj a0 22)) (some false)
def aan(N:Nat)(a0:Int):Option (ByteArray):=
 cond (aO a0 1) (some (strOf [77])) (cond (aO a0 11) (some (strOf [77])) (cond (aO a0 12) (some (strOf [77])) (cond (aO a0 13) (some (strOf [77])) (cond (aO a0 2) (some (strOf [77,65,83])) (cond (aO a0 3) (some (strOf [65,81])) (cond (aO a0 4) (some (strOf [65,81])) (cond (aO a0 6) (some (strOf [65,81])) (cond (aO a0 5) (some (strOf [77,81])) (cond (aO a0 22) (some (strOf [77,81])) (cond (aO a0 7) (some (strOf [65,73,83,81,80])) (cond (aO a0 8) (some (strOf [65,68])) (cond (aO a0 9) (some (strOf [73,80])) (cond (aO a0 10) (some (strOf [81])) (cond (aO a0 14) (some (strOf [77,65])) (cond (aO a0 17) (some (strOf [65,68,81,80])) (cond (aO a0 19) (some (strOf [77,68,80])) (some (strOf []))))))))))))))))))
def ahN(N:Nat)(a0:Int):Option ((Int)×(Int)):=
 cond (aO a0 6) (some ((0:Int),(1000000000000:Int))) (cond (aO a0 7) (some ((1:Int),(1000000000:Int))) (cond (aO a0 17) (some ((1:Int),(1000000000:Int))) (cond (aO a0 10) (some ((1:Int),(1000000:Int))) (some ((1:Int),(9223372036854775807:Int))))))
def ahO(N:Nat)(a0:Int):Option ((Int)×(Int)):=
 cond (aO a0 19) (some ((-1152921504606846976:Int),(1152921504606846976:Int))) (some ((1:Int),(1000000000000:Int)))
def aao(N:Nat)(a0:Int)(a1:Int):Option ((Int)×(Int)):=
 cond (aO a1 77) (some ((1:Int),(12:Int))) (cond (aO a1 65) (some ((1:Int),(24:Int))) (cond (aO a1 73) (some ((0:Int),(5:Int))) (cond (aO a1 83) (some ((1:Int),(2:Int))) (cond (aO a1 68) (some ((1:Int),(1099511627776:Int))) (cond (aO a1 81) ((ahN N a0).bind λr1=>some (r1.1,r1.2)) ((ahO N a0).bind λr2=>some (r2.1,r2.2)))))))
def aap(N:Nat)(a0:gJ)(a1:Int):Option (Int):=
 cond (aO a1 77) (some a0.2.1) (cond (aO a1 65) (some a0.2.2.1) (cond (aO a1 73) (some a0.2.2.2.1) (cond (aO a1 83) (some a0.2.2.2.2.1) (cond (aO a1 68) (some a0.2.2.2.2.2.1) (cond (aO a1 81) (some a0.2.2.2.2.2.2.1) (some a0.2.2.2.2.2.2.2.1))))))
def aaq(N:Nat)(a0:gJ)(a1:Int)(a2:Int):Option gJ:=
 cond (aO a1 77) (some (a0.1,(a2,a0.2.2))) (cond (aO a1 65) (some (a0.1,(a0.2.1,(a2,a0.2.2.2)))) (cond (aO a1 73) (some (a0.1,(a0.2.1,(a0.2.2.1,(a2,a0.2.2.2.2))))) (cond (aO a1 83) (some (a0.1,(a0.2.1,(a0.2.2.1,(a0.2.2.2.1,(a2,a0.2.2.2.2.2)))))) (cond (aO a1 68) (some (a0.1,(a0.2.1,(a0.2.2.1,(a0.2.2.2.1,(a0.2.2.2.2.1,(a2,a0.2.2.2.2.2.2))))))) (cond (aO a1 81) (some (a0.1,(a0.2.1,(a0.2.2.1,(a0.2.2.2.1,(a0.2.2.2.2.1,(a0.2.2.2.2.2.1,(a2,a0.2.2.2.2.2.2.2)))))))) (some (a0.1,(a0.2.1,(a0.2.2.1,(a0.2.2.2.1,(a0.2.2.2.2.1,(a0.2.2.2.2.2.1,(a0.2.2.2.2.2.2.1,(a2,a0.2.2.2.2.2.2.2.2))))))))))))))
abbrev ra.ju:=gJ→ByteArray→gJ→Int→Option (Bool)
def ra.ud(N:Nat)(ko:ra.ju)(x1:gJ)(x3:ByteArray)(x4:gJ)(x5:Int):Option (Bool):=
 cond (aY x5 (ByteArray.size x3:Int)) (cond (ba x5 (ByteArray.size x3)) ((aao N x1.1 ((x3.data.getD x5.toNat 0).toNat:Int)).bind λr4=>cond (ba x5 (ByteArray.size x3)) ((aap N x1 ((x3.data.getD x5.toNat 0).toNat:Int)).bind λr5=>cond (aY r5 r4.1) (some false) (cond (aY r4.2 r5) (some false) (cond (ba x5 (ByteArray.size x3)) ((aaq N x4 ((x3.data.getD x5.toNat 0).toNat:Int) r5).bind λr6=>ko x1 x3 r6 (W .i64 (x5+1))) (none)))) (none)) (none)) (some (pa (.pair (.int .i64) (.pair (.int .i64) (.pair (.int .i64) (.pair (.int .i64) (.pair (.int .i64) (.pair (.int .i64) (.pair (.int .i64) (.pair (.int .i64) .unit)))))))) x4 x1))
def ra.l6(N:Nat):Nat→ra.ju
 |0,_,_,_,_=>none
 |n+1,x1,x3,x4,x5=>ra.ud N (ra.l6 N n) x1 x3 x4 x5
def ra.b(N:Nat)(w3:ra.ju)(a0:gJ):Option (Bool):=
 (ahP N a0.1).bind λr1=>cond (!r1) (some false) ((aan N a0.1).bind λr2=>w3 a0 r2 (a0.1,K4) (0:Int))
def ra(N:Nat)(a0:gJ):Option (Bool):=ra.b N (ra.l6 N N) a0
abbrev AS.da:=aD→Int→Option (Bool)
def AS.gD(N:Nat)(ew:AS.da)(x0:aD)(x3:Int):Option (Bool):=
 cond (aY x3 (List.length x0:Int)) (cond (ba x3 (List.length x0)) (cond (aY ((List.getD x0 x3.toNat cz).1) (1:Int)) (some false) (cond (ba x3 (List.length x0)) (cond (aY 12 ((List.getD x0 x3.toNat cz).1)) (some false) (cond (ba x3 (List.length x0)) (cond (aY (((List.getD x0 x3.toNat cz).2).1) (1:Int)) (some false) (cond (ba x3 (List.length x0)) (cond (aY 4 (((List.getD x0 x3.toNat cz).2).1)) (some false) (cond (aY 0 x3) (cond (ba x3 (List.length x0)) (let v2:Int:=W .i64 (x3-1);cond (ba v2 (List.length x0)) (cond (dj ((List.getD x0 x3.toNat cz).1) ((List.getD x0 v2.toNat cz).1)) (some false) (ew x0 (W .i64 (x3+1)))) (none)) (none)) (ew x0 (W .i64 (x3+1))))) (none))) (none))) (none))) (none)) (some true)
def AS.l2(N:Nat):Nat→AS.da
 |0,_,_=>none
 |n+1,x0,x3=>AS.gD N (AS.l2 N n) x0 x3
def AS.b(N:Nat)(jf:AS.da)(a0:aD):Option (Bool):=
 jf a0 (0:Int)
def AS(N:Nat)(a0:aD):Option (Bool):=AS.b N (AS.l2 N N) a0
abbrev yZ.da:=aD→Int→Int→Option (Int)
def yZ.gD(N:Nat)(ew:yZ.da)(x0:aD)(x1:Int)(x5:Int):Option (Int):=
 cond (aY x5 (List.length x0:Int)) (cond (ba x5 (List.length x0)) (cond (aO ((List.getD x0 x5.toNat cz).1) x1) (cond (ba x5 (List.length x0)) (some (((List.getD x0 x5.toNat cz).2).1)) (none)) (ew x0 x1 (W .i64 (x5+1)))) (none)) (some (0:Int))
def yZ.l2(N:Nat):Nat→yZ.da
 |0,_,_,_=>none
 |n+1,x0,x1,x5=>yZ.gD N (yZ.l2 N n) x0 x1 x5
def yZ.b(N:Nat)(jf:yZ.da)(a0:aD)(a1:Int):Option (Int):=
 jf a0 a1 (0:Int)
def yZ(N:Nat)(a0:aD)(a1:Int):Option (Int):=yZ.b N (yZ.l2 N N) a0 a1
abbrev hZ.QP:=aD→Int→aD→Int→Option (aD×(Int))
abbrev hZ.eK:=aD→Int→aD→Int→Option (aD×(Int))
def hZ.MP(N:Nat)(x0:aD)(x1:Int)(x6:aD)(x7:Int):Option (aD×(Int)):=
 cond (jS 0 x7 (List.length x0:Int) (List.length x0:Int)) (let v6:List ((Int)×((Int)×(Unit))):=List.drop (0:Int).toNat (List.take x7.toNat x0);cond (small (List.length x6+List.length v6)) (let v7:List ((Int)×((Int)×(Unit))):=x6++v6;cond (small (List.length v7+List.length ([(x1,((1:Int),()))]))) (let v8:List ((Int)×((Int)×(Unit))):=v7++([(x1,((1:Int),()))]);cond (jS x7 (List.length x0:Int) (List.length x0:Int) (List.length x0:Int)) (let v9:List ((Int)×((Int)×(Unit))):=List.drop x7.toNat (List.take (List.length x0:Int).toNat x0);cond (small (List.length v8+List.length v9)) (some ((v8++v9),(0:Int))) (none)) (none)) (none)) (none)) (none)
def hZ.j9(N:Nat)(x0:aD)(x1:Int)(x6:aD)(x7:Int):Option (aD×(Int)):=hZ.MP N x0 x1 x6 x7
def hZ.pj(N:Nat)(Gs:hZ.QP)(eC:hZ.eK)(x0:aD)(x1:Int)(x6:aD)(x7:Int):Option (aD×(Int)):=
 cond (aY x7 (List.length x0:Int)) (cond (ba x7 (List.length x0)) (cond (aY ((List.getD x0 x7.toNat cz).1) x1) (eC x0 x1 x6 (W .i64 (x7+1))) (Gs x0 x1 x6 x7)) (none)) (Gs x0 x1 x6 x7)
def hZ.l7(N:Nat):Nat→hZ.eK
 |0,_,_,_,_=>none
 |n+1,x0,x1,x6,x7=>hZ.pj N (hZ.j9 N) (hZ.l7 N n) x0 x1 x6 x7
def hZ.b(N:Nat)(sN:hZ.eK)(a0:aD)(a1:Int):Option (aD×(Int)):=
 (AS N a0).bind λr1=>cond (!r1) (some ([],(1:Int))) (cond (aY a1 1) (some ([],(1:Int))) (cond (aY 12 a1) (some ([],(1:Int))) ((yZ N a0 a1).bind λr2=>cond (!aO r2 0) (some ([],(4:Int))) (sN a0 a1 ([]) (0:Int)))))
def hZ(N:Nat)(a0:aD)(a1:Int):Option (aD×(Int)):=hZ.b N (hZ.l7 N N) a0 a1
def fm(N:Nat)(a0:Int):Option db:=
 some (a0,cz)
abbrev eu.gK:=aM→Int→bX→Int→Option (Bool)
abbrev eu.XX:=aM→Int→bX→Option (Bool)
abbrev eu.da:=aM→Int→Option (Bool)
def eu.xR(N:Nat)(ew:eu.da)(eX:eu.gK)(x0:aM)(x3:Int)(x4:bX)(x5:Int):Option (Bool):=
 cond (aY x5 x3) (cond (aO x4.2.2.1 1) (cond (ba x5 (List.length x0)) (cond (aO ((((List.getD x0 x5.toNat aV).2).2).1) (1:Int)) (cond (ba x5 (List.length x0)) (cond (aO (((List.getD x0 x5.toNat aV).2).1) x4.2.1) (some false) (eX x0 x3 x4 (W .i64 (x5+1)))) (none)) (eX x0 x3 x4 (W .i64 (x5+1)))) (none)) (eX x0 x3 x4 (W .i64 (x5+1)))) (ew x0 (W .i64 (x3+1)))
def eu.l8(N:Nat)(ew:eu.da):Nat→eu.gK
 |0,_,_,_,_=>none
 |n+1,x0,x3,x4,x5=>eu.xR N ew (eu.l8 N ew n) x0 x3 x4 x5
def eu.UO(N:Nat)(BO:eu.gK)(ew:eu.da)(x0:aM)(x3:Int)(x4:bX):Option (Bool):=
 BO x0 x3 x4 (0:Int)
def eu.j7(N:Nat)(ew:eu.da)(x0:aM)(x3:Int)(x4:bX):Option (Bool):=eu.UO N (eu.l8 N ew N) ew x0 x3 x4
def eu.gD(N:Nat)(HE:eu.XX)(ew:eu.da)(x0:aM)(x3:Int):Option (Bool):=
 cond (aY x3 (List.length x0:Int)) (cond (ba x3 (List.length x0)) (cond (aY ((List.getD x0 x3.toNat aV).1) (1:Int)) (some false) (cond (aY 24 ((List.getD x0 x3.toNat aV).1)) (some false) (cond (aY (((List.getD x0 x3.toNat aV).2).1) (1:Int)) (some false) (cond (aY 12 (((List.getD x0 x3.toNat aV).2).1)) (some false) (cond (!aO ((((List.getD x0 x3.toNat aV).2).2).1) (1:Int)) (cond (!aO ((((List.getD x0 x3.toNat aV).2).2).1) (2:Int)) (some false) (cond (aY (((((List.getD x0 x3.toNat aV).2).2).2).1) (0:Int)) (some false) (cond (aY 1000000000000 (((((List.getD x0 x3.toNat aV).2).2).2).1)) (some false) (cond (aY 0 x3) (let v2:Int:=W .i64 (x3-1);cond (ba v2 (List.length x0)) (cond (dj ((List.getD x0 x3.toNat aV).1) ((List.getD x0 v2.toNat aV).1)) (some false) (HE x0 x3 (List.getD x0 x3.toNat aV))) (none)) (HE x0 x3 (List.getD x0 x3.toNat aV)))))) (cond (aY (((((List.getD x0 x3.toNat aV).2).2).2).1) (0:Int)) (some false) (cond (aY 1000000000000 (((((List.getD x0 x3.toNat aV).2).2).2).1)) (some false) (cond (aY 0 x3) (let v9:Int:=W .i64 (x3-1);cond (ba v9 (List.length x0)) (cond (dj ((List.getD x0 x3.toNat aV).1) ((List.getD x0 v9.toNat aV).1)) (some false) (HE x0 x3 (List.getD x0 x3.toNat aV))) (none)) (HE x0 x3 (List.getD x0 x3.toNat aV)))))))))) (none)) (some true)
def eu.l2(N:Nat):Nat→eu.da
 |0,_,_=>none
 |n+1,x0,x3=>eu.gD N (eu.j7 N (eu.l2 N n)) (eu.l2 N n) x0 x3
def eu.b(N:Nat)(jf:eu.da)(a0:aM):Option (Bool):=
 jf a0 (0:Int)
def eu(N:Nat)(a0:aM):Option (Bool):=eu.b N (eu.l2 N N) a0
abbrev nY.bD:=aD→aM→Int→Option (Bool)
def nY.dv(N:Nat)(cr:nY.bD)(x0:aD)(x1:aM)(x5:Int):Option (Bool):=
 cond (aY x5 (List.length x1:Int)) (cond (ba x5 (List.length x1)) ((yZ N x0 (((List.getD x1 x5.toNat aV).2).1)).bind λr4=>cond (aO r4 0) (some false) (cr x0 x1 (W .i64 (x5+1)))) (none)) (some true)
def nY.l4(N:Nat):Nat→nY.bD
 |0,_,_,_=>none
 |n+1,x0,x1,x5=>nY.dv N (nY.l4 N n) x0 x1 x5
def nY.b(N:Nat)(eB:nY.bD)(a0:aD)(a1:aM):Option (Bool):=
 (AS N a0).bind λr1=>cond (!r1) (some false) ((eu N a1).bind λr2=>cond (!r2) (some false) (eB a0 a1 (0:Int)))
def nY(N:Nat)(a0:aD)(a1:aM):Option (Bool):=nY.b N (nY.l4 N N) a0 a1
abbrev nE.da:=aM→Int→bX→Int→Option (bX×(Bool))
def nE.gD(N:Nat)(ew:nE.da)(x0:aM)(x1:Int)(x4:bX)(x6:Int):Option (bX×(Bool)):=
 cond (aY x6 (List.length x0:Int)) (cond (ba x6 (List.length x0)) (cond (aO ((List.getD x0 x6.toNat aV).1) x1) (cond (ba x6 (List.length x0)) (some (List.getD x0 x6.toNat aV,true)) (none)) (ew x0 x1 x4 (W .i64 (x6+1)))) (none)) (some (aV,false))
def nE.l2(N:Nat):Nat→nE.da
 |0,_,_,_,_=>none
 |n+1,x0,x1,x4,x6=>nE.gD N (nE.l2 N n) x0 x1 x4 x6
def nE.b(N:Nat)(jf:nE.da)(a0:aM)(a1:Int):Option (bX×(Bool)):=
 jf a0 a1 aV (0:Int)
def nE(N:Nat)(a0:aM)(a1:Int):Option (bX×(Bool)):=nE.b N (nE.l2 N N) a0 a1
abbrev lU.bD:=aM→Int→Int→Option (Int)
def lU.dv(N:Nat)(cr:lU.bD)(x0:aM)(x1:Int)(x5:Int):Option (Int):=
 cond (aY x5 (List.length x0:Int)) (cond (ba x5 (List.length x0)) (cond (aO (((List.getD x0 x5.toNat aV).2).1) x1) (cond (ba x5 (List.length x0)) (cond (aO ((((List.getD x0 x5.toNat aV).2).2).1) (1:Int)) (cond (ba x5 (List.length x0)) (some ((List.getD x0 x5.toNat aV).1)) (none)) (cr x0 x1 (W .i64 (x5+1)))) (none)) (cr x0 x1 (W .i64 (x5+1)))) (none)) (some (0:Int))
def lU.l4(N:Nat):Nat→lU.bD
 |0,_,_,_=>none
 |n+1,x0,x1,x5=>lU.dv N (lU.l4 N n) x0 x1 x5
def lU.b(N:Nat)(eB:lU.bD)(a0:aM)(a1:Int):Option (Int):=
 (eu N a0).bind λr1=>cond (!r1) (some (0:Int)) (eB a0 a1 (0:Int))
def lU(N:Nat)(a0:aM)(a1:Int):Option (Int):=lU.b N (lU.l4 N N) a0 a1
abbrev fa.Gt:=aM→bX→aM→Int→Option (aM×(Int))
abbrev fa.fV:=aM→bX→aM→Int→Option (aM×(Int))
abbrev fa.N4:=aM→bX→Option (aM×(Int))
def fa.uI(N:Nat)(x1:aM)(x5:bX)(aZ:aM)(bf:Int):Option (aM×(Int)):=
 cond (jS 0 bf (List.length x1:Int) (List.length x1:Int)) (let v10:List ((Int)×((Int)×((Int)×((Int)×(Unit))))):=List.drop (0:Int).toNat (List.take bf.toNat x1);cond (small (List.length aZ+List.length v10)) (let v11:List ((Int)×((Int)×((Int)×((Int)×(Unit))))):=aZ++v10;cond (small (List.length v11+List.length ([x5]))) (let X9:List ((Int)×((Int)×((Int)×((Int)×(Unit))))):=v11++([x5]);cond (jS bf (List.length x1:Int) (List.length x1:Int) (List.length x1:Int)) (let v13:List ((Int)×((Int)×((Int)×((Int)×(Unit))))):=List.drop bf.toNat (List.take (List.length x1:Int).toNat x1);cond (small (List.length X9+List.length v13)) (some ((X9++v13),(0:Int))) (none)) (none)) (none)) (none)) (none)
def fa.AU(N:Nat)(x1:aM)(x5:bX)(aZ:aM)(bf:Int):Option (aM×(Int)):=fa.uI N x1 x5 aZ bf
def fa.mE(N:Nat)(u9:fa.Gt)(gI:fa.fV)(x1:aM)(x5:bX)(aZ:aM)(bf:Int):Option (aM×(Int)):=
 cond (aY bf (List.length x1:Int)) (cond (ba bf (List.length x1)) (cond (aY ((List.getD x1 bf.toNat aV).1) x5.1) (gI x1 x5 aZ (W .i64 (bf+1))) (u9 x1 x5 aZ bf)) (none)) (u9 x1 x5 aZ bf)
def fa.nG(N:Nat):Nat→fa.fV
 |0,_,_,_,_=>none
 |n+1,x1,x5,aZ,bf=>fa.mE N (fa.AU N) (fa.nG N n) x1 x5 aZ bf
def fa.BB(N:Nat)(tG:fa.fV)(x1:aM)(x5:bX):Option (aM×(Int)):=
 tG x1 x5 ([]) (0:Int)
def fa.IX(N:Nat)(x1:aM)(x5:bX):Option (aM×(Int)):=fa.BB N (fa.nG N N) x1 x5
def fa.b(N:Nat)(CP:fa.N4)(a0:aD)(a1:aM)(a2:bX):Option (aM×(Int)):=
 (nY N a0 a1).bind λr1=>cond (!r1) (some ([],(1:Int))) ((eu N ([a2])).bind λr2=>cond (!r2) (some ([],(1:Int))) ((yZ N a0 a2.2.1).bind λr3=>cond (aO r3 0) (some ([],(3:Int))) (cond (!aO r3 1) (some ([],(7:Int))) ((nE N a1 a2.1).bind λr4=>cond (r4.2) (some ([],(4:Int))) (cond (aO a2.2.2.1 1) ((lU N a1 a2.2.1).bind λr5=>cond (!aO r5 0) (some ([],(4:Int))) (CP a1 a2)) (CP a1 a2))))))
def fa(N:Nat)(a0:aD)(a1:aM)(a2:bX):Option (aM×(Int)):=fa.b N (fa.IX N) a0 a1 a2
def UQ(N:Nat)(a0:aM)(a1:Int):Option (bX×(Bool)):=
 (eu N a0).bind λr1=>cond (!r1) (some (aV,false)) ((nE N a0 a1).bind λr2=>some (r2.1,r2.2))
def Qy(N:Nat)(a0:aQ)(a1:Int):Option (Bool):=
 (UQ N a0.2.2.1.2.1 a1).bind λr1=>some r1.2
abbrev nU.da:=(List (Int))→Int→Option (List (Int))
def nU.gD(N:Nat)(ew:nU.da)(x0:List (Int))(x3:Int):Option (List (Int)):=
 cond (aY 0 x3) (let v2:Int:=W .i64 (x3-1);cond (ba v2 (List.length x0)) (cond (aO (List.getD x0 v2.toNat (0:Int)) (0:Int)) (ew x0 (W .i64 (x3-1))) (cond (jS 0 x3 x3 (List.length x0:Int)) (some (List.drop (0:Int).toNat (List.take x3.toNat x0))) (none))) (none)) (cond (jS 0 x3 x3 (List.length x0:Int)) (some (List.drop (0:Int).toNat (List.take x3.toNat x0))) (none))
def nU.l2(N:Nat):Nat→nU.da
 |0,_,_=>none
 |n+1,x0,x3=>nU.gD N (nU.l2 N n) x0 x3
def nU.b(N:Nat)(jf:nU.da)(a0:List (Int)):Option (List (Int)):=
 jf a0 (List.length a0:Int)
def nU(N:Nat)(a0:List (Int)):Option (List (Int)):=nU.b N (nU.l2 N N) a0
def F83(N:Nat)(a0:Int):Option (List (Int)):=
 cond (aY 32 0) (none) ((nU N ([(qC .and .u64 a0 4294967295),(shr .u64 a0 32)])).bind λr3=>some r3)
def V3(N:Nat)(a0:Bool)(a1:List (Int)):Option aH:=
 (nU N a1).bind λr1=>cond (a0) (some (aY 0 (List.length r1:Int),(r1,()))) (some (false,(r1,())))
def jN(N:Nat)(a0:Int):Option aH:=
 let v1:Int:=W .u64 a0;cond (aY a0 0) ((F83 N (W .u64 (0-v1))).bind λr3=>(V3 N (aY a0 0) r3).bind λr4=>some r4) ((F83 N v1).bind λr5=>(V3 N (aY a0 0) r5).bind λr6=>some r6)
def Tk(N:Nat)(a0:aH):Option aH:=
 (V3 N (!a0.1) a0.2.1).bind λr1=>some r1
def xU(N:Nat)(a0:Int)(a1:Int)(a2:Int)(a3:Int)(a4:aH):Option bE:=
 (Tk N a4).bind λr1=>some ([(a0,(a1,(r1,()))),(a2,(a3,(a4,())))])
def ZB(N:Nat)(a0:List (Int))(a1:Int):Option (Int):=
 cond (aY a1 (List.length a0:Int)) (cond (ba a1 (List.length a0)) (some (List.getD a0 a1.toNat (0:Int))) (none)) (some (0:Int))
abbrev u2.X8:=(List (Int))→(List (Int))→(List (Int))→Int→Int→Option (List (Int))
abbrev u2.bD:=(List (Int))→(List (Int))→(List (Int))→Int→Int→Option (List (Int))
def u2.Tj(N:Nat)(cr:u2.bD)(x0:List (Int))(x1:List (Int))(x5:List (Int))(x6:Int)(x7:Int):Option (List (Int)):=
 (ZB N x0 x7).bind λr3=>(ZB N x1 x7).bind λr4=>let v6:Int:=W .u64 (x6+(W .u64 (r3+r4)));let v7:Int:=qC .and .u64 v6 4294967295;cond (small (List.length x5+List.length ([v7]))) (cond (aY 32 0) (none) (cr x0 x1 (x5++([v7])) (shr .u64 v6 32) (W .i64 (x7+1)))) (none)
def u2.j6(N:Nat)(cr:u2.bD)(x0:List (Int))(x1:List (Int))(x5:List (Int))(x6:Int)(x7:Int):Option (List (Int)):=u2.Tj N cr x0 x1 x5 x6 x7
def u2.dv(N:Nat)(KS:u2.X8)(cr:u2.bD)(x0:List (Int))(x1:List (Int))(x5:List (Int))(x6:Int)(x7:Int):Option (List (Int)):=
 cond (aY x7 (List.length x0:Int)) (KS x0 x1 x5 x6 x7) (cond (aY x7 (List.length x1:Int)) (KS x0 x1 x5 x6 x7) (cond (aY 0 x6) (KS x0 x1 x5 x6 x7) (some x5)))
def u2.l4(N:Nat):Nat→u2.bD
 |0,_,_,_,_,_=>none
 |n+1,x0,x1,x5,x6,x7=>u2.dv N (u2.j6 N (u2.l4 N n)) (u2.l4 N n) x0 x1 x5 x6 x7
def u2.b(N:Nat)(eB:u2.bD)(a0:List (Int))(a1:List (Int)):Option (List (Int)):=
 eB a0 a1 ([]) (0:Int) (0:Int)
def u2(N:Nat)(a0:List (Int))(a1:List (Int)):Option (List (Int)):=u2.b N (u2.l4 N N) a0 a1
abbrev C9.ju:=(List (Int))→(List (Int))→Int→Option (Int)
def C9.ud(N:Nat)(ko:C9.ju)(x0:List (Int))(x1:List (Int))(x5:Int):Option (Int):=
 cond (dj 0 x5) (cond (ba x5 (List.length x0)) (cond (ba x5 (List.length x1)) (cond (aY (List.getD x0 x5.toNat (0:Int)) (List.getD x1 x5.toNat (0:Int))) (some (-1:Int)) (cond (ba x5 (List.length x0)) (cond (ba x5 (List.length x1)) (cond (aY (List.getD x1 x5.toNat (0:Int)) (List.getD x0 x5.toNat (0:Int))) (some (1:Int)) (ko x0 x1 (W .i64 (x5-1)))) (none)) (none))) (none)) (none)) (some (0:Int))
def C9.l6(N:Nat):Nat→C9.ju
 |0,_,_,_=>none
 |n+1,x0,x1,x5=>C9.ud N (C9.l6 N n) x0 x1 x5
def C9.b(N:Nat)(w3:C9.ju)(a0:List (Int))(a1:List (Int)):Option (Int):=
 cond (!aO (List.length a0:Int) (List.length a1:Int)) (cond (aY (List.length a0:Int) (List.length a1:Int)) (some (-1:Int)) (some (1:Int))) (w3 a0 a1 (W .i64 ((List.length a0:Int)-1)))
def C9(N:Nat)(a0:List (Int))(a1:List (Int)):Option (Int):=C9.b N (C9.l6 N N) a0 a1
abbrev DI.bD:=(List (Int))→(List (Int))→(List (Int))→Int→Int→Option (List (Int))
def DI.dv(N:Nat)(cr:DI.bD)(x0:List (Int))(x1:List (Int))(x5:List (Int))(x6:Int)(x7:Int):Option (List (Int)):=
 cond (aY x7 (List.length x0:Int)) (cond (ba x7 (List.length x0)) ((ZB N x1 x7).bind λr2=>let v3:Int:=W .u64 (r2+x6);cond (aY (List.getD x0 x7.toNat (0:Int)) v3) (let v5:Int:=W .u64 ((W .u64 ((List.getD x0 x7.toNat (0:Int))+4294967296))-v3);cond (small (List.length x5+List.length ([v5]))) (cr x0 x1 (x5++([v5])) (1:Int) (W .i64 (x7+1))) (none)) (let v8:Int:=W .u64 ((List.getD x0 x7.toNat (0:Int))-v3);cond (small (List.length x5+List.length ([v8]))) (cr x0 x1 (x5++([v8])) (0:Int) (W .i64 (x7+1))) (none))) (none)) (some x5)
def DI.l4(N:Nat):Nat→DI.bD
 |0,_,_,_,_,_=>none
 |n+1,x0,x1,x5,x6,x7=>DI.dv N (DI.l4 N n) x0 x1 x5 x6 x7
def DI.b(N:Nat)(eB:DI.bD)(a0:List (Int))(a1:List (Int)):Option (List (Int)):=
 eB a0 a1 ([]) (0:Int) (0:Int)
def DI(N:Nat)(a0:List (Int))(a1:List (Int)):Option (List (Int)):=DI.b N (DI.l4 N N) a0 a1
def yX(N:Nat)(a0:aH)(a1:aH):Option aH:=
 cond (pa .bool a0.1 a1.1) ((u2 N a0.2.1 a1.2.1).bind λr1=>(V3 N a0.1 r1).bind λr2=>some r2) ((C9 N a0.2.1 a1.2.1).bind λr3=>cond (dj 0 r3) ((DI N a0.2.1 a1.2.1).bind λr4=>(V3 N a0.1 r4).bind λr5=>some r5) ((DI N a1.2.1 a0.2.1).bind λr6=>(V3 N a1.1 r6).bind λr7=>some r7))
def wo(N:Nat)(a0:aH):Option ((Int)×(Bool)):=
 cond (aY 2 (List.length a0.2.1:Int)) (some ((0:Int),false)) ((ZB N a0.2.1 (0:Int)).bind λr1=>(ZB N a0.2.1 (1:Int)).bind λr2=>cond (aY 32 0) (none) (let v4:Int:=qC .or .u64 r1 (W .u64 (shl .u64 r2 32));cond (a0.1) (cond (aY 9223372036854775808 v4) (some ((0:Int),false)) (some ((W .i64 (W .u64 (0-v4))),true))) (cond (aY 9223372036854775807 v4) (some ((0:Int),false)) (some ((W .i64 v4),true)))))
def Qa(N:Nat)(a0:aH):Option ((Int)×(Bool)):=
 (wo N a0).bind λr1=>cond (!r1.2) (some ((0:Int),false)) (cond (aO r1.1 (-9223372036854775808)) (some ((0:Int),false)) (some (r1.1,true)))
abbrev ct.Gu:=au→au→au→Int→Int→Int→Int→Bool→aH→Int→Option (au×(Bool))
abbrev ct.Ya:=au→au→au→Int→Int→Int→Int→Bool→Option (au×(Bool))
abbrev ct.eK:=au→au→au→Int→Int→Int→Option (au×(Bool))
abbrev ct.bD:=au→au→au→Int→Int→Option (au×(Bool))
def ct.Hp(N:Nat)(cr:ct.bD)(eC:ct.eK)(Jl:ct.Gu)(x0:au)(x1:au)(x6:au)(x7:Int)(x8:Int)(x9:Int)(bu:Int)(aZ:Bool)(bf:aH)(bY:Int):Option (au×(Bool)):=
 cond (aY bY (List.length x1:Int)) (cond (ba bY (List.length x1)) (cond (aO ((List.getD x1 bY.toNat bl).1) x8) (cond (ba bY (List.length x1)) (cond (aO (((List.getD x1 bY.toNat bl).2).1) x9) (cond (ba bY (List.length x1)) ((jN N ((((List.getD x1 bY.toNat bl).2).2).1)).bind λr6=>(yX N bf r6).bind λr7=>Jl x0 x1 x6 x7 x8 x9 bu true r7 (W .i64 (bY+1))) (none)) (Jl x0 x1 x6 x7 x8 x9 bu aZ bf (W .i64 (bY+1)))) (none)) (Jl x0 x1 x6 x7 x8 x9 bu aZ bf (W .i64 (bY+1)))) (none)) (cond (aZ) ((jN N bu).bind λnI=>(yX N bf nI).bind λoE=>(Qa N oE).bind λqm=>cond (!qm.2) (some ([],false)) (cond (!aO qm.1 0) (cond (small (List.length x6+List.length ([(x8,(x9,(qm.1,())))]))) (eC x0 x1 (x6++([(x8,(x9,(qm.1,())))])) x7 x8 (W .i64 (x9+1))) (none)) (eC x0 x1 x6 x7 x8 (W .i64 (x9+1))))) (cond (!aO bu 0) (cond (small (List.length x6+List.length ([(x8,(x9,(bu,())))]))) (eC x0 x1 (x6++([(x8,(x9,(bu,())))])) x7 x8 (W .i64 (x9+1))) (none)) (eC x0 x1 x6 x7 x8 (W .i64 (x9+1)))))
def ct.Ir(N:Nat)(cr:ct.bD)(eC:ct.eK):Nat→ct.Gu
 |0,_,_,_,_,_,_,_,_,_,_=>none
 |n+1,x0,x1,x6,x7,x8,x9,bu,aZ,bf,bY=>ct.Hp N cr eC (ct.Ir N cr eC n) x0 x1 x6 x7 x8 x9 bu aZ bf bY
def ct.Kb(N:Nat)(Yb:ct.Gu)(cr:ct.bD)(eC:ct.eK)(x0:au)(x1:au)(x6:au)(x7:Int)(x8:Int)(x9:Int)(bu:Int)(aZ:Bool):Option (au×(Bool)):=
 Yb x0 x1 x6 x7 x8 x9 bu aZ (false,pb) (0:Int)
def ct.RS(N:Nat)(cr:ct.bD)(eC:ct.eK)(x0:au)(x1:au)(x6:au)(x7:Int)(x8:Int)(x9:Int)(bu:Int)(aZ:Bool):Option (au×(Bool)):=ct.Kb N (ct.Ir N cr eC N) cr eC x0 x1 x6 x7 x8 x9 bu aZ
def ct.pj(N:Nat)(AN:ct.Ya)(cr:ct.bD)(eC:ct.eK)(x0:au)(x1:au)(x6:au)(x7:Int)(x8:Int)(x9:Int):Option (au×(Bool)):=
 cond (aY x9 6) (cond (aY x7 (List.length x0:Int)) (cond (ba x7 (List.length x0)) (cond (aO ((List.getD x0 x7.toNat bl).1) x8) (cond (ba x7 (List.length x0)) (cond (aO (((List.getD x0 x7.toNat bl).2).1) x9) (cond (ba x7 (List.length x0)) (AN x0 x1 x6 (W .i64 (x7+1)) x8 x9 ((((List.getD x0 x7.toNat bl).2).2).1) false) (none)) (AN x0 x1 x6 x7 x8 x9 (0:Int) false)) (none)) (AN x0 x1 x6 x7 x8 x9 (0:Int) false)) (none)) (AN x0 x1 x6 x7 x8 x9 (0:Int) false)) (cr x0 x1 x6 x7 (W .i64 (x8+1)))
def ct.l7(N:Nat)(cr:ct.bD):Nat→ct.eK
 |0,_,_,_,_,_,_=>none
 |n+1,x0,x1,x6,x7,x8,x9=>ct.pj N (ct.RS N cr (ct.l7 N cr n)) cr (ct.l7 N cr n) x0 x1 x6 x7 x8 x9
def ct.dv(N:Nat)(sN:ct.eK)(cr:ct.bD)(x0:au)(x1:au)(x6:au)(x7:Int)(x8:Int):Option (au×(Bool)):=
 cond (dj x8 24) (sN x0 x1 x6 x7 x8 (0:Int)) (some (x6,true))
def ct.l4(N:Nat):Nat→ct.bD
 |0,_,_,_,_,_=>none
 |n+1,x0,x1,x6,x7,x8=>ct.dv N (ct.l7 N (ct.l4 N n) N) (ct.l4 N n) x0 x1 x6 x7 x8
def ct.b(N:Nat)(eB:ct.bD)(a0:au)(a1:au):Option (au×(Bool)):=
 eB a0 a1 ([]) (0:Int) (0:Int)
def ct(N:Nat)(a0:au)(a1:au):Option (au×(Bool)):=ct.b N (ct.l4 N N) a0 a1
abbrev nh.dQ:=Int→Int→Int→bE→aH→Bool→Int→Option ((Int)×(Bool))
def nh.nC(N:Nat)(dn:nh.dQ)(x0:Int)(x1:Int)(x2:Int)(x3:bE)(bu:aH)(aZ:Bool)(bf:Int):Option ((Int)×(Bool)):=
 cond (aY bf (List.length x3:Int)) (cond (ba bf (List.length x3)) (cond (aO ((List.getD x3 bf.toNat ((0:Int),((0:Int),((false,pb),())))).1) x1) (cond (ba bf (List.length x3)) (cond (aO (((List.getD x3 bf.toNat ((0:Int),((0:Int),((false,pb),())))).2).1) x2) (cond (ba bf (List.length x3)) ((yX N bu ((((List.getD x3 bf.toNat ((0:Int),((0:Int),((false,pb),())))).2).2).1)).bind λr2=>dn x0 x1 x2 x3 r2 true (W .i64 (bf+1))) (none)) (dn x0 x1 x2 x3 bu aZ (W .i64 (bf+1)))) (none)) (dn x0 x1 x2 x3 bu aZ (W .i64 (bf+1)))) (none)) (cond (!aZ) (some (x0,true)) ((jN N x0).bind λr6=>(yX N bu r6).bind λr7=>(wo N r7).bind λr8=>some (r8.1,r8.2)))
def nh.l3(N:Nat):Nat→nh.dQ
 |0,_,_,_,_,_,_,_=>none
 |n+1,x0,x1,x2,x3,bu,aZ,bf=>nh.nC N (nh.l3 N n) x0 x1 x2 x3 bu aZ bf
def nh.b(N:Nat)(oj:nh.dQ)(a0:Int)(a1:Int)(a2:Int)(a3:bE):Option ((Int)×(Bool)):=
 oj a0 a1 a2 a3 (false,pb) false (0:Int)
def nh(N:Nat)(a0:Int)(a1:Int)(a2:Int)(a3:bE):Option ((Int)×(Bool)):=nh.b N (nh.l3 N N) a0 a1 a2 a3
abbrev dt.Ya:=au→bE→au→Int→Int→Int→Int→Option (au×(Bool))
abbrev dt.eK:=au→bE→au→Int→Int→Int→Option (au×(Bool))
abbrev dt.bD:=au→bE→au→Int→Int→Option (au×(Bool))
def dt.Kb(N:Nat)(cr:dt.bD)(eC:dt.eK)(x0:au)(x1:bE)(x6:au)(x7:Int)(x8:Int)(x9:Int)(bu:Int):Option (au×(Bool)):=
 (nh N bu x8 x9 x1).bind λr5=>cond (!r5.2) (some ([],false)) (cond (!aO r5.1 0) (cond (small (List.length x6+List.length ([(x8,(x9,(r5.1,())))]))) (eC x0 x1 (x6++([(x8,(x9,(r5.1,())))])) x7 x8 (W .i64 (x9+1))) (none)) (eC x0 x1 x6 x7 x8 (W .i64 (x9+1))))
def dt.RS(N:Nat)(cr:dt.bD)(eC:dt.eK)(x0:au)(x1:bE)(x6:au)(x7:Int)(x8:Int)(x9:Int)(bu:Int):Option (au×(Bool)):=dt.Kb N cr eC x0 x1 x6 x7 x8 x9 bu
def dt.pj(N:Nat)(AN:dt.Ya)(cr:dt.bD)(eC:dt.eK)(x0:au)(x1:bE)(x6:au)(x7:Int)(x8:Int)(x9:Int):Option (au×(Bool)):=
 cond (dj x9 24) (cond (aY x7 (List.length x0:Int)) (cond (ba x7 (List.length x0)) (cond (aO ((List.getD x0 x7.toNat bl).1) x8) (cond (ba x7 (List.length x0)) (cond (aO (((List.getD x0 x7.toNat bl).2).1) x9) (cond (ba x7 (List.length x0)) (AN x0 x1 x6 (W .i64 (x7+1)) x8 x9 ((((List.getD x0 x7.toNat bl).2).2).1)) (none)) (AN x0 x1 x6 x7 x8 x9 (0:Int))) (none)) (AN x0 x1 x6 x7 x8 x9 (0:Int))) (none)) (AN x0 x1 x6 x7 x8 x9 (0:Int))) (cr x0 x1 x6 x7 (W .i64 (x8+1)))
def dt.l7(N:Nat)(cr:dt.bD):Nat→dt.eK
 |0,_,_,_,_,_,_=>none
 |n+1,x0,x1,x6,x7,x8,x9=>dt.pj N (dt.RS N cr (dt.l7 N cr n)) cr (dt.l7 N cr n) x0 x1 x6 x7 x8 x9
def dt.dv(N:Nat)(sN:dt.eK)(cr:dt.bD)(x0:au)(x1:bE)(x6:au)(x7:Int)(x8:Int):Option (au×(Bool)):=
 cond (dj x8 7) (sN x0 x1 x6 x7 x8 (0:Int)) (some (x6,true))
def dt.l4(N:Nat):Nat→dt.bD
 |0,_,_,_,_,_=>none
 |n+1,x0,x1,x6,x7,x8=>dt.dv N (dt.l7 N (dt.l4 N n) N) (dt.l4 N n) x0 x1 x6 x7 x8
def dt.b(N:Nat)(eB:dt.bD)(a0:au)(a1:bE):Option (au×(Bool)):=
 eB a0 a1 ([]) (0:Int) (1:Int)
def dt(N:Nat)(a0:au)(a1:bE):Option (au×(Bool)):=dt.b N (dt.l4 N N) a0 a1
def xT(N:Nat)(a0:aq)(a1:au)(a2:bE):Option (aq×(Int)):=
 (ct N a0.2.2.2.1 a1).bind λr1=>cond (!r1.2) (some ((cm,(c8,(bH,(bH,(dC,(dP,())))))),(2:Int))) ((dt N a0.2.2.1 a2).bind λr2=>cond (!r2.2) (some ((cm,(c8,(bH,(bH,(dC,(dP,())))))),(2:Int))) (some ((a0.1,(a0.2.1,(r2.1,(r1.1,a0.2.2.2.2)))),(0:Int))))
def NG(N:Nat)(a0:aQ)(a1:Int)(a2:Int)(a3:Int)(a4:Int)(a5:Int):Option (aQ×db):=
 (jN N a5).bind λr1=>(xU N a1 a2 a3 a4 r1).bind λr2=>(xT N a0.2.2.1 bH r2).bind λr3=>some ((a0.1,(a0.2.1,(r3.1,a0.2.2.2))),(r3.2,cz))
abbrev oS.bM:=au→Int→aH→aH→Int→Option aH
def oS.dV(N:Nat)(bO:oS.bM)(x0:au)(x1:Int)(x4:aH)(x5:aH)(x6:Int):Option aH:=
 cond (aY x6 (List.length x0:Int)) (cond (ba x6 (List.length x0)) (cond (aO (((List.getD x0 x6.toNat bl).2).1) x1) (cond (ba x6 (List.length x0)) ((jN N ((((List.getD x0 x6.toNat bl).2).2).1)).bind λr3=>(yX N x5 r3).bind λr4=>bO x0 x1 x4 r4 (W .i64 (x6+1))) (none)) (bO x0 x1 x4 x5 (W .i64 (x6+1)))) (none)) (some x5)
def oS.l5(N:Nat):Nat→oS.bM
 |0,_,_,_,_,_=>none
 |n+1,x0,x1,x4,x5,x6=>oS.dV N (oS.l5 N n) x0 x1 x4 x5 x6
def oS.b(N:Nat)(eT:oS.bM)(a0:au)(a1:Int):Option aH:=
 (yY N a0).bind λr1=>cond (!r1) (some (false,pb)) (eT a0 a1 (false,pb) (false,pb) (0:Int))
def oS(N:Nat)(a0:au)(a1:Int):Option aH:=oS.b N (oS.l5 N N) a0 a1
def RA(N:Nat)(a0:aH):Option (Int):=
 cond (aO (List.length a0.2.1:Int) 0) (some (0:Int)) (cond (a0.1) (some (-1:Int)) (some (1:Int)))
abbrev Df.da:=au→Int→Option (Bool)
def Df.gD(N:Nat)(ew:Df.da)(x0:au)(x3:Int):Option (Bool):=
 cond (aY x3 6) ((oS N x0 x3).bind λr2=>(RA N r2).bind λr3=>cond (!aO r3 0) (some false) (ew x0 (W .i64 (x3+1)))) ((yY N x0).bind λr5=>some r5)
def Df.l2(N:Nat):Nat→Df.da
 |0,_,_=>none
 |n+1,x0,x3=>Df.gD N (Df.l2 N n) x0 x3
def Df.b(N:Nat)(jf:Df.da)(a0:au):Option (Bool):=
 jf a0 (0:Int)
def Df(N:Nat)(a0:au):Option (Bool):=Df.b N (Df.l2 N N) a0
def Db(N:Nat)(a0:Int):Option (Bool):=
 cond (dj 1 a0) (some (dj a0 1000000000000)) (some false)
def P4(N:Nat)(a0:gj):Option (Bool):=
 cond (dj 1 a0.1) (cond (dj a0.1 1099511627776) (cond (dj 1 a0.2.1) (cond (dj a0.2.1 24) (cond (dj 0 a0.2.2.1) (cond (aY a0.2.2.1 6) (cond (aO a0.2.2.2.1 1) (cond (dj 1 a0.2.2.2.2.1) (cond (dj a0.2.2.2.2.1 1000000000) ((Db N a0.2.2.2.2.2.1).bind λr1=>some r1) (some false)) (some false)) (cond (aO a0.2.2.2.1 2) (cond (dj 1 a0.2.2.2.2.1) (cond (dj a0.2.2.2.2.1 1000000000) ((Db N a0.2.2.2.2.2.1).bind λr2=>some r2) (some false)) (some false)) (some false))) (some false)) (some false)) (some false)) (some false)) (some false)) (some false)
abbrev mC.bD:=bq→Int→Option (Bool)
def mC.dv(N:Nat)(cr:mC.bD)(x0:bq)(x3:Int):Option (Bool):=
 cond (aY x3 (List.length x0:Int)) (cond (ba x3 (List.length x0)) ((P4 N (List.getD x0 x3.toNat e7)).bind λr2=>cond (!r2) (some false) (cond (aY 0 x3) (cond (ba x3 (List.length x0)) (let v3:Int:=W .i64 (x3-1);cond (ba v3 (List.length x0)) (cond (dj ((List.getD x0 x3.toNat e7).1) ((List.getD x0 v3.toNat e7).1)) (some false) (cr x0 (W .i64 (x3+1)))) (none)) (none)) (cr x0 (W .i64 (x3+1))))) (none)) (some true)
def mC.l4(N:Nat):Nat→mC.bD
 |0,_,_=>none
 |n+1,x0,x3=>mC.dv N (mC.l4 N n) x0 x3
def mC.b(N:Nat)(eB:mC.bD)(a0:bq):Option (Bool):=
 cond (aY 32 (List.length a0:Int)) (some false) (eB a0 (0:Int))
def mC(N:Nat)(a0:bq):Option (Bool):=mC.b N (mC.l4 N N) a0
abbrev Cr.bM:=au→aH→aH→Int→Option aH
def Cr.dV(N:Nat)(bO:Cr.bM)(x0:au)(x2:aH)(x3:aH)(x4:Int):Option aH:=
 cond (aY x4 (List.length x0:Int)) (cond (ba x4 (List.length x0)) ((jN N ((((List.getD x0 x4.toNat bl).2).2).1)).bind λr3=>(yX N x3 r3).bind λr4=>bO x0 x2 r4 (W .i64 (x4+1))) (none)) (some x3)
def Cr.l5(N:Nat):Nat→Cr.bM
 |0,_,_,_,_=>none
 |n+1,x0,x2,x3,x4=>Cr.dV N (Cr.l5 N n) x0 x2 x3 x4
def Cr.b(N:Nat)(eT:Cr.bM)(a0:au):Option aH:=
 (Bh N a0).bind λr1=>cond (!r1) (some (false,pb)) (eT a0 (false,pb) (false,pb) (0:Int))
def Cr(N:Nat)(a0:au):Option aH:=Cr.b N (Cr.l5 N N) a0
def J8(N:Nat)(a0:aq)(a1:Int):Option (Bool):=
 (UQ N a0.2.1 a1).bind λr1=>cond (r1.2) (some true) (some (aO a1 0))
def RH(N:Nat)(a0:aD)(a1:Int):Option (Int):=
 (AS N a0).bind λr1=>cond (!r1) (some (0:Int)) ((yZ N a0 a1).bind λr2=>some r2)
abbrev fW.rB:=ae→aq→Int→Option (Bool)
abbrev fW.w4:=ae→aq→Int→Option (Bool)
abbrev fW.jn:=ae→aq→Int→Option (Bool)
abbrev fW.ju:=ae→aq→Int→Option (Bool)
def fW.vl(N:Nat)(Gl:fW.rB)(x2:ae)(x3:aq)(x9:Int):Option (Bool):=
 cond (aY x9 (List.length x3.2.2.2.2.2.1:Int)) (cond (ba x9 (List.length x3.2.2.2.2.2.1)) ((J8 N x3 (((List.getD x3.2.2.2.2.2.1 x9.toNat e7).2).1)).bind λN2=>cond (!N2) (some false) (cond (ba x9 (List.length x3.2.2.2.2.2.1)) (cond (dj (List.length x2.1:Int) ((((List.getD x3.2.2.2.2.2.1 x9.toNat e7).2).2).1)) (some false) (Gl x2 x3 (W .i64 (x9+1)))) (none))) (none)) (some true)
def fW.wF(N:Nat):Nat→fW.rB
 |0,_,_,_=>none
 |n+1,x2,x3,x9=>fW.vl N (fW.wF N n) x2 x3 x9
def fW.Dh(N:Nat)(Gm:fW.rB)(Jm:fW.w4)(x2:ae)(x3:aq)(x8:Int):Option (Bool):=
 cond (aY x8 (List.length x3.2.2.2.2.1:Int)) (cond (ba x8 (List.length x3.2.2.2.2.1)) ((Db N (List.getD x3.2.2.2.2.1 x8.toNat (0:Int))).bind λLd=>cond (!Ld) (some false) (Jm x2 x3 (W .i64 (x8+1)))) (none)) (Gm x2 x3 (0:Int))
def fW.DN(N:Nat):Nat→fW.w4
 |0,_,_,_=>none
 |n+1,x2,x3,x8=>fW.Dh N (fW.wF N N) (fW.DN N n) x2 x3 x8
def fW.pt(N:Nat)(N5:fW.w4)(ly:fW.jn)(x2:ae)(x3:aq)(x7:Int):Option (Bool):=
 cond (aY x7 (List.length x3.2.2.2.1:Int)) (cond (ba x7 (List.length x3.2.2.2.1)) ((J8 N x3 ((List.getD x3.2.2.2.1 x7.toNat bl).1)).bind λDY=>cond (!DY) (some false) (cond (ba x7 (List.length x3.2.2.2.1)) (cond (dj (List.length x2.1:Int) (((List.getD x3.2.2.2.1 x7.toNat bl).2).1)) (some false) (ly x2 x3 (W .i64 (x7+1)))) (none))) (none)) (N5 x2 x3 (0:Int))
def fW.pX(N:Nat):Nat→fW.jn
 |0,_,_,_=>none
 |n+1,x2,x3,x7=>fW.pt N (fW.DN N N) (fW.pX N n) x2 x3 x7
def fW.ud(N:Nat)(w5:fW.jn)(ko:fW.ju)(x2:ae)(x3:aq)(x5:Int):Option (Bool):=
 cond (aY x5 (List.length x3.2.2.1:Int)) (cond (ba x5 (List.length x3.2.2.1)) (cond (aO ((List.getD x3.2.2.1 x5.toNat bl).1) (5:Int)) ((J8 N x3 (((List.getD x3.2.2.1 x5.toNat bl).2).1)).bind λr9=>cond (!r9) (some false) (cond (aO ((List.getD x3.2.2.1 x5.toNat bl).1) (6:Int)) ((RH N x3.1 (((List.getD x3.2.2.1 x5.toNat bl).2).1)).bind λkK=>cond (aO kK 0) (some false) (ko x2 x3 (W .i64 (x5+1)))) (cond (aO ((List.getD x3.2.2.1 x5.toNat bl).1) (7:Int)) ((RH N x3.1 (((List.getD x3.2.2.1 x5.toNat bl).2).1)).bind λoE=>cond (aO oE 0) (some false) (ko x2 x3 (W .i64 (x5+1)))) (ko x2 x3 (W .i64 (x5+1)))))) (cond (aO ((List.getD x3.2.2.1 x5.toNat bl).1) (6:Int)) ((RH N x3.1 (((List.getD x3.2.2.1 x5.toNat bl).2).1)).bind λwY=>cond (aO wY 0) (some false) (ko x2 x3 (W .i64 (x5+1)))) (cond (aO ((List.getD x3.2.2.1 x5.toNat bl).1) (7:Int)) ((RH N x3.1 (((List.getD x3.2.2.1 x5.toNat bl).2).1)).bind λAV=>cond (aO AV 0) (some false) (ko x2 x3 (W .i64 (x5+1)))) (ko x2 x3 (W .i64 (x5+1)))))) (none)) (w5 x2 x3 (0:Int))
def fW.l6(N:Nat):Nat→fW.ju
 |0,_,_,_=>none
 |n+1,x2,x3,x5=>fW.ud N (fW.pX N N) (fW.l6 N n) x2 x3 x5
def fW.b(N:Nat)(w3:fW.ju)(a0:ae)(a1:aq):Option (Bool):=
 (lR N a0).bind λr1=>cond (!r1) (some false) ((nY N a1.1 a1.2.1).bind λr2=>cond (!r2) (some false) ((Bh N a1.2.2.1).bind λr3=>cond (!r3) (some false) ((Df N a1.2.2.2.1).bind λr4=>cond (!r4) (some false) ((mC N a1.2.2.2.2.2.1).bind λr5=>cond (!r5) (some false) (cond (!aO (List.length a1.2.2.2.2.1:Int) (List.length a0.1:Int)) (some false) ((Cr N a1.2.2.1).bind λr6=>(RA N r6).bind λr7=>cond (!aO r7 0) (some false) (w3 a0 a1 (0:Int))))))))
def fW(N:Nat)(a0:ae)(a1:aq):Option (Bool):=fW.b N (fW.l6 N N) a0 a1
def Rz(N:Nat)(a0:aH)(a1:aH):Option aH:=
 (Tk N a1).bind λr1=>(yX N a0 r1).bind λr2=>some r2
abbrev lj.bM:=au→Int→aD→Int→Option aD
def lj.dV(N:Nat)(bO:lj.bM)(x0:au)(x1:Int)(x5:aD)(x6:Int):Option aD:=
 cond (aY x6 (List.length x0:Int)) (cond (ba x6 (List.length x0)) (cond (aO ((List.getD x0 x6.toNat bl).1) x1) (cond (ba x6 (List.length x0)) (cond (ba x6 (List.length x0)) (cond (small (List.length x5+List.length ([(((List.getD x0 x6.toNat bl).2).1,((((List.getD x0 x6.toNat bl).2).2).1,()))]))) (bO x0 x1 (x5++([(((List.getD x0 x6.toNat bl).2).1,((((List.getD x0 x6.toNat bl).2).2).1,()))])) (W .i64 (x6+1))) (none)) (none)) (none)) (bO x0 x1 x5 (W .i64 (x6+1)))) (none)) (some x5)
def lj.l5(N:Nat):Nat→lj.bM
 |0,_,_,_,_=>none
 |n+1,x0,x1,x5,x6=>lj.dV N (lj.l5 N n) x0 x1 x5 x6
def lj.b(N:Nat)(eT:lj.bM)(a0:au)(a1:Int):Option aD:=
 (yY N a0).bind λr1=>cond (!r1) (some ([])) (eT a0 a1 ([]) (0:Int))
def lj(N:Nat)(a0:au)(a1:Int):Option aD:=lj.b N (lj.l5 N N) a0 a1
abbrev gV.eK:=bq→Int→au→Int→db→Int→Option au
abbrev gV.dQ:=bq→Int→au→Int→Option au
def gV.pj(N:Nat)(dn:gV.dQ)(eC:gV.eK)(x0:bq)(x1:Int)(x5:au)(x6:Int)(x7:db)(x8:Int):Option au:=
 cond (aY x8 (List.length x0:Int)) (cond (ba x8 (List.length x0)) (cond (!aO (((List.getD x0 x8.toNat e7).2).1) x1) (eC x0 x1 x5 x6 x7 (W .i64 (x8+1))) (cond (ba x8 (List.length x0)) (cond (!aO ((((List.getD x0 x8.toNat e7).2).2).1) x6) (eC x0 x1 x5 x6 x7 (W .i64 (x8+1))) (cond (ba x8 (List.length x0)) (cond (aO (((((List.getD x0 x8.toNat e7).2).2).2).1) (1:Int)) (cond (ba x8 (List.length x0)) (eC x0 x1 x5 x6 (x7.1,((W .i64 (x7.2.1+((((((List.getD x0 x8.toNat e7).2).2).2).2).1))),x7.2.2)) (W .i64 (x8+1))) (none)) (cond (ba x8 (List.length x0)) (eC x0 x1 x5 x6 (x7.1,(x7.2.1,((W .i64 (x7.2.2.1+((((((List.getD x0 x8.toNat e7).2).2).2).2).1))),x7.2.2.2))) (W .i64 (x8+1))) (none))) (none))) (none))) (none)) (cond (aY 0 x7.2.1) (cond (small (List.length x5+List.length ([x7]))) (dn x0 x1 (x5++([x7])) (W .i64 (x6+1))) (none)) (cond (aY 0 x7.2.2.1) (cond (small (List.length x5+List.length ([x7]))) (dn x0 x1 (x5++([x7])) (W .i64 (x6+1))) (none)) (dn x0 x1 x5 (W .i64 (x6+1)))))
def gV.l7(N:Nat)(dn:gV.dQ):Nat→gV.eK
 |0,_,_,_,_,_,_=>none
 |n+1,x0,x1,x5,x6,x7,x8=>gV.pj N dn (gV.l7 N dn n) x0 x1 x5 x6 x7 x8
def gV.nC(N:Nat)(sN:gV.eK)(dn:gV.dQ)(x0:bq)(x1:Int)(x5:au)(x6:Int):Option au:=
 cond (aY x6 6) (sN x0 x1 x5 x6 (x6,cz) (0:Int)) (some x5)
def gV.l3(N:Nat):Nat→gV.dQ
 |0,_,_,_,_=>none
 |n+1,x0,x1,x5,x6=>gV.nC N (gV.l7 N (gV.l3 N n) N) (gV.l3 N n) x0 x1 x5 x6
def gV.b(N:Nat)(oj:gV.dQ)(a0:bq)(a1:Int):Option au:=
 oj a0 a1 ([]) (0:Int)
def gV(N:Nat)(a0:bq)(a1:Int):Option au:=gV.b N (gV.l3 N N) a0 a1
abbrev nc.bD:=aD→ae→Int→Option (Bool)
def nc.dv(N:Nat)(cr:nc.bD)(x1:aD)(x2:ae)(x5:Int):Option (Bool):=
 cond (aY x5 (List.length x1:Int)) (cond (ba x5 (List.length x1)) (cond (aY ((List.getD x1 x5.toNat cz).1) (0:Int)) (some false) (cond (ba x5 (List.length x1)) (cond (dj (List.length x2.1:Int) ((List.getD x1 x5.toNat cz).1)) (some false) (cond (ba x5 (List.length x1)) (cond (aO (((List.getD x1 x5.toNat cz).2).1) (0:Int)) (some false) (cond (ba x5 (List.length x1)) (cond (aO (((List.getD x1 x5.toNat cz).2).1) (-9223372036854775808:Int)) (some false) (cond (aY 0 x5) (cond (ba x5 (List.length x1)) (let v3:Int:=W .i64 (x5-1);cond (ba v3 (List.length x1)) (cond (dj ((List.getD x1 x5.toNat cz).1) ((List.getD x1 v3.toNat cz).1)) (some false) (cr x1 x2 (W .i64 (x5+1)))) (none)) (none)) (cr x1 x2 (W .i64 (x5+1))))) (none))) (none))) (none))) (none)) (some true)
def nc.l4(N:Nat):Nat→nc.bD
 |0,_,_,_=>none
 |n+1,x1,x2,x5=>nc.dv N (nc.l4 N n) x1 x2 x5
def nc.b(N:Nat)(eB:nc.bD)(a0:ae)(a1:aD):Option (Bool):=
 (lR N a0).bind λr1=>cond (!r1) (some false) (eB a1 a0 (0:Int))
def nc(N:Nat)(a0:ae)(a1:aD):Option (Bool):=nc.b N (nc.l4 N N) a0 a1
abbrev p3.bM:=au→ae→Int→Int→Option (Bool)
def p3.dV(N:Nat)(bO:p3.bM)(x1:au)(x2:ae)(x5:Int)(x6:Int):Option (Bool):=
 cond (aY x6 (List.length x1:Int)) (cond (ba x6 (List.length x1)) (cond (aY ((List.getD x1 x6.toNat bl).1) (0:Int)) (some false) (cond (dj (List.length x2.1:Int) ((List.getD x1 x6.toNat bl).1)) (some false) (cond (aY (((List.getD x1 x6.toNat bl).2).1) (0:Int)) (some false) (cond (aY x5 (((List.getD x1 x6.toNat bl).2).1)) (some false) (cond (aY ((((List.getD x1 x6.toNat bl).2).2).1) (0:Int)) (some false) (cond (aY x5 ((((List.getD x1 x6.toNat bl).2).2).1)) (some false) (cond (aO (((List.getD x1 x6.toNat bl).2).1) (0:Int)) (cond (aO ((((List.getD x1 x6.toNat bl).2).2).1) (0:Int)) (some false) (cond (aY 0 x6) (let v3:Int:=W .i64 (x6-1);cond (ba v3 (List.length x1)) (cond (dj ((List.getD x1 x6.toNat bl).1) ((List.getD x1 v3.toNat bl).1)) (some false) (bO x1 x2 x5 (W .i64 (x6+1)))) (none)) (bO x1 x2 x5 (W .i64 (x6+1))))) (cond (aY 0 x6) (let v6:Int:=W .i64 (x6-1);cond (ba v6 (List.length x1)) (cond (dj ((List.getD x1 x6.toNat bl).1) ((List.getD x1 v6.toNat bl).1)) (some false) (bO x1 x2 x5 (W .i64 (x6+1)))) (none)) (bO x1 x2 x5 (W .i64 (x6+1))))))))))) (none)) (some true)
def p3.l5(N:Nat):Nat→p3.bM
 |0,_,_,_,_=>none
 |n+1,x1,x2,x5,x6=>p3.dV N (p3.l5 N n) x1 x2 x5 x6
def p3.b(N:Nat)(eT:p3.bM)(a0:ae)(a1:au):Option (Bool):=
 (lR N a0).bind λr1=>cond (!r1) (some false) (eT a1 a0 (33000000000:Int) (0:Int))
def p3(N:Nat)(a0:ae)(a1:au):Option (Bool):=p3.b N (p3.l5 N N) a0 a1
def V4(N:Nat)(a0:aH):Option aH:=
 (V3 N false a0.2.1).bind λr1=>some r1
def Pv(N:Nat)(a0:aH)(a1:aH):Option (Int):=
 (Rz N a0 a1).bind λr1=>(RA N r1).bind λr2=>some r2
abbrev ja.jn:=au→Int→aH→aH→aH→aH→Int→Option (aH×(Int))
abbrev ja.eK:=aD→au→Int→aH→aH→aH→aH→Int→Option (aH×(Int))
def ja.pt(N:Nat)(ly:ja.jn)(x2:au)(x3:Int)(x8:aH)(bu:aH)(aZ:aH)(bf:aH)(cw:Int):Option (aH×(Int)):=
 cond (aY cw (List.length x2:Int)) (cond (ba cw (List.length x2)) (cond (aO ((List.getD x2 cw.toNat bl).1) x3) (cond (ba cw (List.length x2)) ((jN N (((List.getD x2 cw.toNat bl).2).1)).bind λr8=>cond (ba cw (List.length x2)) ((jN N ((((List.getD x2 cw.toNat bl).2).2).1)).bind λr9=>ly x2 x3 x8 bu r8 r9 (W .i64 (cw+1))) (none)) (none)) (ly x2 x3 x8 bu aZ bf (W .i64 (cw+1)))) (none)) ((yX N bu aZ).bind λoE=>(V4 N oE).bind λqm=>(Rz N bu bf).bind λxV=>(V4 N xV).bind λwY=>(Pv N wY qm).bind λxF=>cond (aY 0 xF) (some (wY,(0:Int))) (some (qm,(0:Int))))
def ja.pX(N:Nat):Nat→ja.jn
 |0,_,_,_,_,_,_,_=>none
 |n+1,x2,x3,x8,bu,aZ,bf,cw=>ja.pt N (ja.pX N n) x2 x3 x8 bu aZ bf cw
def ja.pj(N:Nat)(w5:ja.jn)(eC:ja.eK)(x1:aD)(x2:au)(x3:Int)(x8:aH)(bu:aH)(aZ:aH)(bf:aH)(bY:Int):Option (aH×(Int)):=
 cond (aY bY (List.length x1:Int)) (cond (ba bY (List.length x1)) (cond (aO ((List.getD x1 bY.toNat cz).1) x3) (cond (ba bY (List.length x1)) ((jN N (((List.getD x1 bY.toNat cz).2).1)).bind λr4=>eC x1 x2 x3 x8 r4 aZ bf (W .i64 (bY+1))) (none)) (eC x1 x2 x3 x8 bu aZ bf (W .i64 (bY+1)))) (none)) (w5 x2 x3 x8 bu aZ bf (0:Int))
def ja.l7(N:Nat):Nat→ja.eK
 |0,_,_,_,_,_,_,_,_=>none
 |n+1,x1,x2,x3,x8,bu,aZ,bf,bY=>ja.pj N (ja.pX N N) (ja.l7 N n) x1 x2 x3 x8 bu aZ bf bY
def ja.b(N:Nat)(sN:ja.eK)(a0:ae)(a1:aD)(a2:au)(a3:Int):Option (aH×(Int)):=
 (nc N a0 a1).bind λr1=>cond (!r1) (some ((false,pb),(1:Int))) ((p3 N a0 a2).bind λr2=>cond (!r2) (some ((false,pb),(1:Int))) (cond (aY a3 0) (some ((false,pb),(3:Int))) (cond (dj (List.length a0.1:Int) a3) (some ((false,pb),(3:Int))) (sN a1 a2 a3 (false,pb) (false,pb) (false,pb) (false,pb) (0:Int)))))
def ja(N:Nat)(a0:ae)(a1:aD)(a2:au)(a3:Int):Option (aH×(Int)):=ja.b N (ja.l7 N N) a0 a1 a2 a3
abbrev jJ.QP:=aH→aH→aH→(List (Int))→Int→Int→Int→Option aH
abbrev jJ.eK:=aH→aH→aH→(List (Int))→Int→Int→Int→Option aH
abbrev jJ.dQ:=aH→aH→aH→(List (Int))→Int→Option aH
def jJ.MP(N:Nat)(dn:jJ.dQ)(eC:jJ.eK)(x2:aH)(x3:aH)(x4:aH)(x5:List (Int))(x6:Int)(x7:Int)(x8:Int):Option aH:=
 let v7:Int:=W .i64 (x6+x8);cond (ba v7 (List.length x5)) (cond (ba x6 (List.length x2.2.1)) ((ZB N x3.2.1 x8).bind λr8=>let v11:Int:=W .u64 (x7+(W .u64 ((List.getD x5 v7.toNat (0:Int))+(W .u64 ((List.getD x2.2.1 x6.toNat (0:Int))*r8)))));let X9:Int:=W .i64 (x6+x8);cond (ba X9 (List.length x5)) (cond (aY 32 0) (none) (eC x2 x3 x4 (List.set x5 X9.toNat (qC .and .u64 v11 4294967295)) x6 (shr .u64 v11 32) (W .i64 (x8+1)))) (none)) (none)) (none)
def jJ.j9(N:Nat)(dn:jJ.dQ)(eC:jJ.eK)(x2:aH)(x3:aH)(x4:aH)(x5:List (Int))(x6:Int)(x7:Int)(x8:Int):Option aH:=jJ.MP N dn eC x2 x3 x4 x5 x6 x7 x8
def jJ.pj(N:Nat)(Gs:jJ.QP)(dn:jJ.dQ)(eC:jJ.eK)(x2:aH)(x3:aH)(x4:aH)(x5:List (Int))(x6:Int)(x7:Int)(x8:Int):Option aH:=
 cond (aY x8 (List.length x3.2.1:Int)) (Gs x2 x3 x4 x5 x6 x7 x8) (cond (aY 0 x7) (Gs x2 x3 x4 x5 x6 x7 x8) (dn x2 x3 x4 x5 (W .i64 (x6+1))))
def jJ.l7(N:Nat)(dn:jJ.dQ):Nat→jJ.eK
 |0,_,_,_,_,_,_,_=>none
 |n+1,x2,x3,x4,x5,x6,x7,x8=>jJ.pj N (jJ.j9 N dn (jJ.l7 N dn n)) dn (jJ.l7 N dn n) x2 x3 x4 x5 x6 x7 x8
def jJ.nC(N:Nat)(sN:jJ.eK)(dn:jJ.dQ)(x2:aH)(x3:aH)(x4:aH)(x5:List (Int))(x6:Int):Option aH:=
 cond (aY x6 (List.length x2.2.1:Int)) (sN x2 x3 x4 x5 x6 (0:Int) (0:Int)) ((V3 N (!(pa .bool x2.1 x3.1)) x5).bind λu6=>some u6)
def jJ.l3(N:Nat):Nat→jJ.dQ
 |0,_,_,_,_,_=>none
 |n+1,x2,x3,x4,x5,x6=>jJ.nC N (jJ.l7 N (jJ.l3 N n) N) (jJ.l3 N n) x2 x3 x4 x5 x6
def jJ.b(N:Nat)(oj:jJ.dQ)(a0:aH)(a1:aH):Option aH:=
 let v2:Int:=W .i64 ((W .i64 ((List.length a0.2.1:Int)+(List.length a1.2.1:Int)))+1);cond (jR v2 v2) (oj a0 a1 (false,pb) (List.replicate v2.toNat (0:Int)) (0:Int)) (none)
def jJ(N:Nat)(a0:aH)(a1:aH):Option aH:=jJ.b N (jJ.l3 N N) a0 a1
abbrev p4.bM:=aD→au→ae→aH→aH→Int→Option (aH×(Int))
def p4.dV(N:Nat)(bO:p4.bM)(x1:aD)(x2:au)(x3:ae)(x6:aH)(x8:aH)(x9:Int):Option (aH×(Int)):=
 cond (aY x9 (List.length x3.1:Int)) ((ja N x3 x1 x2 x9).bind λr4=>cond (ba x9 (List.length x3.1)) ((jN N ((((List.getD x3.1 x9.toNat aV).2).2).1)).bind λr5=>(jJ N r4.1 r5).bind λr6=>(yX N x8 r6).bind λr7=>bO x1 x2 x3 x6 r7 (W .i64 (x9+1))) (none)) (some (x8,(0:Int)))
def p4.l5(N:Nat):Nat→p4.bM
 |0,_,_,_,_,_,_=>none
 |n+1,x1,x2,x3,x6,x8,x9=>p4.dV N (p4.l5 N n) x1 x2 x3 x6 x8 x9
def p4.b(N:Nat)(eT:p4.bM)(a0:ae)(a1:aD)(a2:au):Option (aH×(Int)):=
 (nc N a0 a1).bind λr1=>cond (!r1) (some ((false,pb),(1:Int))) ((p3 N a0 a2).bind λr2=>cond (!r2) (some ((false,pb),(1:Int))) (eT a1 a2 a0 (false,pb) (false,pb) (0:Int)))
def p4(N:Nat)(a0:ae)(a1:aD)(a2:au):Option (aH×(Int)):=p4.b N (p4.l5 N N) a0 a1 a2
def WY(N:Nat)(a0:ae)(a1:aq)(a2:Int)(a3:bq):Option aH:=
 cond (small (List.length dP+List.length a1.2.2.2.2.2.1)) (let v1:List ((Int)×((Int)×((Int)×((Int)×((Int)×((Int)×(Unit))))))):=dP++a1.2.2.2.2.2.1;cond (small (List.length v1+List.length a3)) ((lj N a1.2.2.2.1 a2).bind λr3=>(gV N (v1++a3) a2).bind λr4=>(p4 N a0 r3 r4).bind λr5=>some r5.1) (none)) (none)
def T1(N:Nat)(a0:ae)(a1:aq)(a2:Int)(a3:Int):Option (aq×(Int)):=
 (fW N a0 a1).bind λr1=>cond (!r1) (some ((cm,(c8,(bH,(bH,(dC,(dP,())))))),(1:Int))) (cond (aY a3 1) (some ((cm,(c8,(bH,(bH,(dC,(dP,())))))),(1:Int))) ((UQ N a1.2.1 a2).bind λr2=>cond (!r2.2) (some ((cm,(c8,(bH,(bH,(dC,(dP,())))))),(3:Int))) ((RH N a1.1 r2.1.2.1).bind λr3=>cond (!aO r3 1) (some ((cm,(c8,(bH,(bH,(dC,(dP,())))))),(7:Int))) ((uy N a1.2.2.1 (5:Int) a2).bind λr4=>(jN N r4).bind λr5=>(jN N a3).bind λr6=>(Rz N r5 r6).bind λr7=>(WY N a0 a1 a2 dP).bind λr8=>(Pv N r7 r8).bind λr9=>cond (aY r9 0) (some ((cm,(c8,(bH,(bH,(dC,(dP,())))))),(10:Int))) ((jN N a3).bind λkK=>(xU N (5:Int) a2 (1:Int) (0:Int) kK).bind λnI=>(xT N a1 bH nI).bind λoE=>some (oE.1,oE.2))))))
def F1(N:Nat)(a0:aQ)(a1:Int):Option (Int):=
 (RH N a0.2.2.1.1 a1).bind λr1=>some r1
abbrev nr.gK:=Int→Int→aM→Int→Option (aM×(Int))
def nr.xR(N:Nat)(eX:nr.gK)(x1:Int)(x2:Int)(bu:aM)(aZ:Int):Option (aM×(Int)):=
 cond (aY aZ (List.length bu:Int)) (cond (ba aZ (List.length bu)) (cond (aO ((List.getD bu aZ.toNat aV).1) x1) (cond (ba aZ (List.length bu)) (eX x1 x2 (List.set bu aZ.toNat ((List.getD bu aZ.toNat aV).1,(((List.getD bu aZ.toNat aV).2).1,((((List.getD bu aZ.toNat aV).2).2).1,(x2,((((List.getD bu aZ.toNat aV).2).2).2).2))))) (W .i64 (aZ+1))) (none)) (eX x1 x2 bu (W .i64 (aZ+1)))) (none)) (some (bu,(0:Int)))
def nr.l8(N:Nat):Nat→nr.gK
 |0,_,_,_,_=>none
 |n+1,x1,x2,bu,aZ=>nr.xR N (nr.l8 N n) x1 x2 bu aZ
def nr.b(N:Nat)(BO:nr.gK)(a0:aM)(a1:Int)(a2:Int):Option (aM×(Int)):=
 (eu N a0).bind λr1=>cond (!r1) (some ([],(1:Int))) (cond (aY a2 0) (some ([],(1:Int))) (cond (aY 1000000000000 a2) (some ([],(1:Int))) ((nE N a0 a1).bind λr2=>cond (!r2.2) (some ([],(3:Int))) (cond (small (List.length c8+List.length a0)) (BO a1 a2 (c8++a0) (0:Int)) (none)))))
def nr(N:Nat)(a0:aM)(a1:Int)(a2:Int):Option (aM×(Int)):=nr.b N (nr.l8 N N) a0 a1 a2
def aam(N:Nat)(a0:gj)(a1:Int):Option (aH×(Int)):=
 (P4 N a0).bind λr1=>cond (!r1) (some ((false,pb),(1:Int))) ((Db N a1).bind λr2=>cond (!r2) (some ((false,pb),(1:Int))) (let v3:Int:=W .i64 (a0.2.2.2.2.2.1-a1);cond (aO a0.2.2.2.1 2) (let v4:Int:=W .i64 (a1-a0.2.2.2.2.2.1);cond (aY v4 0) (some ((false,pb),(0:Int))) ((jN N a0.2.2.2.2.1).bind λr5=>(jN N v4).bind λr6=>(jJ N r5 r6).bind λr7=>some (r7,(0:Int)))) (cond (aY v3 0) (some ((false,pb),(0:Int))) ((jN N a0.2.2.2.2.1).bind λr8=>(jN N v3).bind λr9=>(jJ N r8 r9).bind λkK=>some (kK,(0:Int))))))
def WZ(N:Nat)(a0:ae)(a1:aq)(a2:gj):Option (Int):=
 (fW N a0 a1).bind λr1=>cond (!r1) (some (1:Int)) ((P4 N a2).bind λr2=>cond (!r2) (some (1:Int)) ((UQ N a1.2.1 a2.2.1).bind λr3=>cond (!r3.2) (some (3:Int)) ((RH N a1.1 r3.1.2.1).bind λr4=>cond (!aO r4 1) (some (7:Int)) (cond (dj (List.length a0.1:Int) a2.2.2.1) (some (3:Int)) (cond (small (List.length dP+List.length a1.2.2.2.2.2.1)) (let v5:List ((Int)×((Int)×((Int)×((Int)×((Int)×((Int)×(Unit))))))):=dP++a1.2.2.2.2.2.1;cond (small (List.length v5+List.length ([a2]))) ((lj N a1.2.2.2.1 a2.2.1).bind λr7=>(gV N (v5++([a2])) a2.2.1).bind λr8=>(ja N a0 r7 r8 a2.2.2.1).bind λr9=>(jN N r3.1.2.2.2.1).bind λkK=>(Pv N r9.1 kK).bind λnI=>cond (aY 0 nI) (some (9:Int)) (cond (ba a2.2.2.1 (List.length a1.2.2.2.2.1)) ((aam N a2 (List.getD a1.2.2.2.2.1 a2.2.2.1.toNat (0:Int))).bind λoE=>(uy N a1.2.2.1 (5:Int) a2.2.1).bind λqm=>(jN N qm).bind λxV=>(Rz N xV oE.1).bind λwY=>(WY N a0 a1 a2.2.1 ([a2])).bind λxF=>(Pv N wY xF).bind λAV=>cond (aY AV 0) (some (10:Int)) (some (0:Int))) (none))) (none)) (none))))))
def TZ(N:Nat)(a0:gj)(a1:gj):Option (Bool):=
 cond (!aO a0.2.2.2.2.2.1 a1.2.2.2.2.2.1) (some (pa .bool (aY a1.2.2.2.2.2.1 a0.2.2.2.2.2.1) (aO a0.2.2.2.1 1))) (some (aY a0.1 a1.1))
abbrev dI.N4:=bq→Int→Int→bq→Int→Int→Option bq
abbrev dI.mc:=bq→Int→Int→bq→Int→Int→Option bq
abbrev dI.bM:=bq→Int→Int→bq→Int→Option bq
def dI.BB(N:Nat)(bO:dI.bM)(x0:bq)(x1:Int)(x2:Int)(x7:bq)(x8:Int)(x9:Int):Option bq:=
 cond (jS 0 x9 (List.length x7:Int) (List.length x7:Int)) (let v9:List ((Int)×((Int)×((Int)×((Int)×((Int)×((Int)×(Unit))))))):=List.drop (0:Int).toNat (List.take x9.toNat x7);cond (small (List.length v9)) (cond (ba x8 (List.length x0)) (cond (small (List.length v9+List.length ([List.getD x0 x8.toNat e7]))) (let v10:List ((Int)×((Int)×((Int)×((Int)×((Int)×((Int)×(Unit))))))):=v9++([List.getD x0 x8.toNat e7]);cond (jS x9 (List.length x7:Int) (List.length x7:Int) (List.length x7:Int)) (let v11:List ((Int)×((Int)×((Int)×((Int)×((Int)×((Int)×(Unit))))))):=List.drop x9.toNat (List.take (List.length x7:Int).toNat x7);cond (small (List.length v10+List.length v11)) (bO x0 x1 x2 (v10++v11) (W .i64 (x8+1))) (none)) (none)) (none)) (none)) (none)) (none)
def dI.IX(N:Nat)(bO:dI.bM)(x0:bq)(x1:Int)(x2:Int)(x7:bq)(x8:Int)(x9:Int):Option bq:=dI.BB N bO x0 x1 x2 x7 x8 x9
def dI.xp(N:Nat)(CP:dI.N4)(bO:dI.bM)(rC:dI.mc)(x0:bq)(x1:Int)(x2:Int)(x7:bq)(x8:Int)(x9:Int):Option bq:=
 cond (aY x9 (List.length x7:Int)) (cond (ba x9 (List.length x7)) (cond (ba x8 (List.length x0)) ((TZ N (List.getD x7 x9.toNat e7) (List.getD x0 x8.toNat e7)).bind λr6=>cond (r6) (rC x0 x1 x2 x7 x8 (W .i64 (x9+1))) (CP x0 x1 x2 x7 x8 x9)) (none)) (none)) (CP x0 x1 x2 x7 x8 x9)
def dI.l9(N:Nat)(bO:dI.bM):Nat→dI.mc
 |0,_,_,_,_,_,_=>none
 |n+1,x0,x1,x2,x7,x8,x9=>dI.xp N (dI.IX N bO) bO (dI.l9 N bO n) x0 x1 x2 x7 x8 x9
def dI.dV(N:Nat)(yU:dI.mc)(bO:dI.bM)(x0:bq)(x1:Int)(x2:Int)(x7:bq)(x8:Int):Option bq:=
 cond (aY x8 (List.length x0:Int)) (cond (ba x8 (List.length x0)) (cond (!aO ((((List.getD x0 x8.toNat e7).2).2).1) x1) (bO x0 x1 x2 x7 (W .i64 (x8+1))) (cond (ba x8 (List.length x0)) (cond (!aO (((((List.getD x0 x8.toNat e7).2).2).2).1) x2) (bO x0 x1 x2 x7 (W .i64 (x8+1))) (yU x0 x1 x2 x7 x8 (0:Int))) (none))) (none)) (some x7)
def dI.l5(N:Nat):Nat→dI.bM
 |0,_,_,_,_,_=>none
 |n+1,x0,x1,x2,x7,x8=>dI.dV N (dI.l9 N (dI.l5 N n) N) (dI.l5 N n) x0 x1 x2 x7 x8
def dI.b(N:Nat)(eT:dI.bM)(a0:bq)(a1:Int)(a2:Int):Option bq:=
 (mC N a0).bind λr1=>cond (!r1) (some ([])) (eT a0 a1 a2 ([]) (0:Int))
def dI(N:Nat)(a0:bq)(a1:Int)(a2:Int):Option bq:=dI.b N (dI.l5 N N) a0 a1 a2
abbrev cf.w6:=bq→Int→bK→bq→Int→Option (bq×bK×(Int)×(Int))
abbrev cf.am6:=bq→Int→bK→Option (bq×bK×(Int)×(Int))
abbrev cf.w7:=gj→bq→Int→bK→bq→Int→Int→Int→Option (bq×bK×(Int)×(Int))
abbrev cf.Gt:=gj→bq→Int→bK→bq→Int→Int→sK→Option (bq×bK×(Int)×(Int))
abbrev cf.Jn:=gj→bq→Int→bK→bq→Int→Option (bq×bK×(Int)×(Int))
abbrev cf.eK:=gj→bq→Int→bK→bq→Int→Option (bq×bK×(Int)×(Int))
def cf.Nu(N:Nat)(vb:cf.w6)(x8:bq)(x9:Int)(bu:bK)(eN:bq)(fp:Int):Option (bq×bK×(Int)×(Int)):=
 cond (aY fp (List.length x8:Int)) (cond (ba fp (List.length x8)) (cond (aY 0 ((((((List.getD x8 fp.toNat e7).2).2).2).2).1)) (cond (ba fp (List.length x8)) (cond (small (List.length eN+List.length ([List.getD x8 fp.toNat e7]))) (vb x8 x9 bu (eN++([List.getD x8 fp.toNat e7])) (W .i64 (fp+1))) (none)) (none)) (vb x8 x9 bu eN (W .i64 (fp+1)))) (none)) (some (eN,bu,x9,(0:Int)))
def cf.La(N:Nat):Nat→cf.w6
 |0,_,_,_,_,_=>none
 |n+1,x8,x9,bu,eN,fp=>cf.Nu N (cf.La N n) x8 x9 bu eN fp
def cf.aat(N:Nat)(Yc:cf.w6)(x8:bq)(x9:Int)(bu:bK):Option (bq×bK×(Int)×(Int)):=
 Yc x8 x9 bu ([]) (0:Int)
def cf.j22(N:Nat)(x8:bq)(x9:Int)(bu:bK):Option (bq×bK×(Int)×(Int)):=cf.aat N (cf.La N N) x8 x9 bu
def cf.Dr(N:Nat)(eC:cf.eK)(Gv:cf.w7)(x3:gj)(x8:bq)(x9:Int)(bu:bK)(aZ:bq)(bf:Int)(bY:Int)(dL:Int):Option (bq×bK×(Int)×(Int)):=
 cond (aY dL (List.length x8:Int)) (cond (ba dL (List.length x8)) (cond (ba bf (List.length aZ)) (cond (aO ((List.getD x8 dL.toNat e7).1) ((List.getD aZ bf.toNat e7).1)) (cond (ba dL (List.length x8)) (cond (ba dL (List.length x8)) (Gv x3 (List.set x8 dL.toNat ((List.getD x8 dL.toNat e7).1,(((List.getD x8 dL.toNat e7).2).1,((((List.getD x8 dL.toNat e7).2).2).1,(((((List.getD x8 dL.toNat e7).2).2).2).1,((W .i64 (((((((List.getD x8 dL.toNat e7).2).2).2).2).1)-bY)),(((((List.getD x8 dL.toNat e7).2).2).2).2).2)))))) x9 bu aZ bf bY (W .i64 (dL+1))) (none)) (none)) (Gv x3 x8 x9 bu aZ bf bY (W .i64 (dL+1)))) (none)) (none)) (eC x3 x8 x9 bu aZ (W .i64 (bf+1)))
def cf.GN(N:Nat)(eC:cf.eK):Nat→cf.w7
 |0,_,_,_,_,_,_,_,_=>none
 |n+1,x3,x8,x9,bu,aZ,bf,bY,dL=>cf.Dr N eC (cf.GN N eC n) x3 x8 x9 bu aZ bf bY dL
def cf.uI(N:Nat)(N6:cf.w7)(eC:cf.eK)(x3:gj)(x8:bq)(x9:Int)(bu:bK)(aZ:bq)(bf:Int)(bY:Int)(cw:sK):Option (bq×bK×(Int)×(Int)):=
 cond (small (List.length bu+List.length ([cw]))) (N6 x3 x8 (W .i64 (x9-bY)) (bu++([cw])) aZ bf bY (0:Int)) (none)
def cf.AU(N:Nat)(eC:cf.eK)(x3:gj)(x8:bq)(x9:Int)(bu:bK)(aZ:bq)(bf:Int)(bY:Int)(cw:sK):Option (bq×bK×(Int)×(Int)):=cf.uI N (cf.GN N eC N) eC x3 x8 x9 bu aZ bf bY cw
def cf.BC(N:Nat)(u9:cf.Gt)(eC:cf.eK)(x3:gj)(x8:bq)(x9:Int)(bu:bK)(aZ:bq)(bf:Int):Option (bq×bK×(Int)×(Int)):=
 cond (ba bf (List.length aZ)) (cond (aO (((List.getD aZ bf.toNat e7).2).1) x3.2.1) (eC x3 x8 x9 bu aZ (W .i64 (bf+1))) (cond (ba bf (List.length aZ)) (let v14:Int:=mn x9 ((((((List.getD aZ bf.toNat e7).2).2).2).2).1);cond (ba bf (List.length aZ)) (cond (ba bf (List.length aZ)) (cond (aO x3.2.2.2.1 2) (cond (ba bf (List.length aZ)) (u9 x3 x8 x9 bu aZ bf v14 (((List.getD aZ bf.toNat e7).2).1,(x3.2.1,(x3.2.2.1,(v14,(((((((List.getD aZ bf.toNat e7).2).2).2).2).2).1,())))))) (none)) (u9 x3 x8 x9 bu aZ bf v14 (x3.2.1,(((List.getD aZ bf.toNat e7).2).1,(x3.2.2.1,(v14,(((((((List.getD aZ bf.toNat e7).2).2).2).2).2).1,()))))))) (none)) (none)) (none))) (none)
def cf.Hy(N:Nat)(eC:cf.eK)(x3:gj)(x8:bq)(x9:Int)(bu:bK)(aZ:bq)(bf:Int):Option (bq×bK×(Int)×(Int)):=cf.BC N (cf.AU N eC) eC x3 x8 x9 bu aZ bf
def cf.pj(N:Nat)(N7:cf.am6)(w8:cf.Jn)(eC:cf.eK)(x3:gj)(x8:bq)(x9:Int)(bu:bK)(aZ:bq)(bf:Int):Option (bq×bK×(Int)×(Int)):=
 cond (aY bf (List.length aZ:Int)) (cond (aY 0 x9) (cond (aO x3.2.2.2.1 1) (cond (ba bf (List.length aZ)) (cond (aY x3.2.2.2.2.2.1 (((((((List.getD aZ bf.toNat e7).2).2).2).2).2).1)) (N7 x8 x9 bu) (cond (aO x3.2.2.2.1 2) (cond (ba bf (List.length aZ)) (cond (aY (((((((List.getD aZ bf.toNat e7).2).2).2).2).2).1) x3.2.2.2.2.2.1) (N7 x8 x9 bu) (w8 x3 x8 x9 bu aZ bf)) (none)) (w8 x3 x8 x9 bu aZ bf))) (none)) (cond (aO x3.2.2.2.1 2) (cond (ba bf (List.length aZ)) (cond (aY (((((((List.getD aZ bf.toNat e7).2).2).2).2).2).1) x3.2.2.2.2.2.1) (N7 x8 x9 bu) (w8 x3 x8 x9 bu aZ bf)) (none)) (w8 x3 x8 x9 bu aZ bf))) (N7 x8 x9 bu)) (N7 x8 x9 bu)
def cf.l7(N:Nat):Nat→cf.eK
 |0,_,_,_,_,_,_=>none
 |n+1,x3,x8,x9,bu,aZ,bf=>cf.pj N (cf.j22 N) (cf.Hy N (cf.l7 N n)) (cf.l7 N n) x3 x8 x9 bu aZ bf
def cf.b(N:Nat)(sN:cf.eK)(a0:bq)(a1:gj):Option (bq×bK×(Int)×(Int)):=
 (mC N a0).bind λr1=>cond (!r1) (some ([],[],(0:Int),(1:Int))) ((P4 N a1).bind λr2=>cond (!r2) (some ([],[],(0:Int),(1:Int))) (cond (small (List.length dP+List.length a0)) ((dI N a0 a1.2.2.1 (W .i64 ((3:Int)-a1.2.2.2.1))).bind λr5=>sN a1 (dP++a0) a1.2.2.2.2.1 ([]) r5 (0:Int)) (none)))
def cf(N:Nat)(a0:bq)(a1:gj):Option (bq×bK×(Int)×(Int)):=cf.b N (cf.l7 N N) a0 a1
def WI(N:Nat)(a0:sK):Option (Bool):=
 cond (dj 0 a0.1) (cond (dj a0.1 24) (cond (dj 0 a0.2.1) (cond (dj a0.2.1 24) (cond (!aO a0.1 a0.2.1) (cond (dj 0 a0.2.2.1) (cond (aY a0.2.2.1 6) (cond (dj 1 a0.2.2.2.1) (cond (dj a0.2.2.2.1 1000000000) ((Db N a0.2.2.2.2.1).bind λr1=>some r1) (some false)) (some false)) (some false)) (some false)) (some false)) (some false)) (some false)) (some false)) (some false)
def Ki(N:Nat)(a0:Int):Option ((Int)×(Int)):=
 cond (aO a0 0) (some ((2:Int),(0:Int))) (some ((5:Int),a0))
def Qk(N:Nat)(a0:sK)(a1:Int):Option (bE×(Int)):=
 (WI N a0).bind λr1=>cond (!r1) (some ([],(1:Int))) ((Db N a1).bind λr2=>cond (!r2) (some ([],(1:Int))) ((jN N (W .i64 (a1-a0.2.2.2.2.1))).bind λr4=>(jN N a0.2.2.2.1).bind λr5=>(jJ N r4 r5).bind λr6=>(RA N r6).bind λr7=>cond (aO r7 0) (some ([],(0:Int))) ((Ki N a0.1).bind λr8=>(Ki N a0.2.1).bind λr9=>(Tk N r6).bind λkK=>some ([(r8.1,(r8.2,(r6,()))),(r9.1,(r9.2,(kK,())))],(0:Int)))))
abbrev gv.w9:=bK→ae→aq→aq→au→bE→Int→Option (aq×(Int))
abbrev gv.bD:=bK→ae→aq→aq→Int→Option (aq×(Int))
def gv.yO(N:Nat)(AO:gv.w9)(x2:bK)(x3:ae)(x4:aq)(x6:aq)(x9:au)(bu:bE)(aZ:Int):Option (aq×(Int)):=
 cond (aY aZ (List.length x2:Int)) (cond (ba aZ (List.length x2)) ((J8 N x4 ((List.getD x2 aZ.toNat mz).1)).bind λr6=>cond (!r6) (some ((cm,(c8,(bH,(bH,(dC,(dP,())))))),(3:Int))) ((J8 N x4 (((List.getD x2 aZ.toNat mz).2).1)).bind λr7=>cond (!r7) (some ((cm,(c8,(bH,(bH,(dC,(dP,())))))),(3:Int))) (cond (dj (List.length x3.1:Int) ((((List.getD x2 aZ.toNat mz).2).2).1)) (some ((cm,(c8,(bH,(bH,(dC,(dP,())))))),(3:Int))) (let v8:Int:=W .i64 (0-(((((List.getD x2 aZ.toNat mz).2).2).2).1));cond (small (List.length x9+List.length ([((List.getD x2 aZ.toNat mz).1,((((List.getD x2 aZ.toNat mz).2).2).1,(((((List.getD x2 aZ.toNat mz).2).2).2).1,()))),(((List.getD x2 aZ.toNat mz).2).1,((((List.getD x2 aZ.toNat mz).2).2).1,(v8,())))]))) (cond (ba ((((List.getD x2 aZ.toNat mz).2).2).1) (List.length x4.2.2.2.2.1)) ((Qk N (List.getD x2 aZ.toNat mz) (List.getD x4.2.2.2.2.1 ((((List.getD x2 aZ.toNat mz).2).2).1).toNat (0:Int))).bind λkK=>cond (small (List.length bu+List.length kK.1)) (AO x2 x3 x4 x6 (x9++([((List.getD x2 aZ.toNat mz).1,((((List.getD x2 aZ.toNat mz).2).2).1,(((((List.getD x2 aZ.toNat mz).2).2).2).1,()))),(((List.getD x2 aZ.toNat mz).2).1,((((List.getD x2 aZ.toNat mz).2).2).1,(v8,())))])) (bu++kK.1) (W .i64 (aZ+1))) (none)) (none)) (none))))) (none)) ((xT N x4 x9 bu).bind λqm=>some (qm.1,qm.2))
def gv.BA(N:Nat):Nat→gv.w9
 |0,_,_,_,_,_,_,_=>none
 |n+1,x2,x3,x4,x6,x9,bu,aZ=>gv.yO N (gv.BA N n) x2 x3 x4 x6 x9 bu aZ
def gv.dv(N:Nat)(N8:gv.w9)(cr:gv.bD)(x2:bK)(x3:ae)(x4:aq)(x6:aq)(x8:Int):Option (aq×(Int)):=
 cond (aY x8 (List.length x2:Int)) (cond (ba x8 (List.length x2)) ((WI N (List.getD x2 x8.toNat mz)).bind λr3=>cond (!r3) (some ((cm,(c8,(bH,(bH,(dC,(dP,())))))),(1:Int))) (cr x2 x3 x4 x6 (W .i64 (x8+1)))) (none)) (N8 x2 x3 x4 x6 ([]) ([]) (0:Int))
def gv.l4(N:Nat):Nat→gv.bD
 |0,_,_,_,_,_=>none
 |n+1,x2,x3,x4,x6,x8=>gv.dv N (gv.BA N N) (gv.l4 N n) x2 x3 x4 x6 x8
def gv.b(N:Nat)(eB:gv.bD)(a0:ae)(a1:aq)(a2:bK):Option (aq×(Int)):=
 (fW N a0 a1).bind λr1=>cond (!r1) (some ((cm,(c8,(bH,(bH,(dC,(dP,())))))),(1:Int))) (cond (aY 200 (List.length a2:Int)) (some ((cm,(c8,(bH,(bH,(dC,(dP,())))))),(1:Int))) (eB a2 a0 a1 (cm,(c8,(bH,(bH,(dC,(dP,())))))) (0:Int)))
def gv(N:Nat)(a0:ae)(a1:aq)(a2:bK):Option (aq×(Int)):=gv.b N (gv.l4 N N) a0 a1 a2
abbrev jb.Jn:=ae→aq→gj→aq→bq→bK→Int→Option (aq×bK×(Int)×(Int))
abbrev jb.XX:=ae→aq→gj→aq→Option (aq×bK×(Int)×(Int))
def jb.BC(N:Nat)(x3:ae)(x4:aq)(x5:gj)(x6:aq)(bf:bq)(bY:bK)(cw:Int):Option (aq×bK×(Int)×(Int)):=
 (gv N x3 x4 bY).bind λr6=>cond (!aO r6.2 0) (some ((cm,(c8,(bH,(bH,(dC,(dP,())))))),CT,(0:Int),r6.2)) (cond (aY 0 cw) (cond (small (List.length bf+List.length ([(x5.1,(x5.2.1,(x5.2.2.1,(x5.2.2.2.1,(cw,x5.2.2.2.2.2)))))]))) (some ((r6.1.1,(r6.1.2.1,(r6.1.2.2.1,(r6.1.2.2.2.1,(r6.1.2.2.2.2.1,((bf++([(x5.1,(x5.2.1,(x5.2.2.1,(x5.2.2.2.1,(cw,x5.2.2.2.2.2)))))])),r6.1.2.2.2.2.2.2)))))),bY,cw,(0:Int))) (none)) (some ((r6.1.1,(r6.1.2.1,(r6.1.2.2.1,(r6.1.2.2.2.1,(r6.1.2.2.2.2.1,(bf,r6.1.2.2.2.2.2.2)))))),bY,cw,(0:Int))))
def jb.Hy(N:Nat)(x3:ae)(x4:aq)(x5:gj)(x6:aq)(bf:bq)(bY:bK)(cw:Int):Option (aq×bK×(Int)×(Int)):=jb.BC N x3 x4 x5 x6 bf bY cw
def jb.UO(N:Nat)(w8:jb.Jn)(x3:ae)(x4:aq)(x5:gj)(x6:aq):Option (aq×bK×(Int)×(Int)):=
 (cf N x4.2.2.2.2.2.1 x5).bind λr4=>cond (aY 0 r4.2.2.1) (cond (aO (List.length r4.1:Int) 32) (some ((cm,(c8,(bH,(bH,(dC,(dP,())))))),CT,(0:Int),(5:Int))) (w8 x3 x4 x5 x6 r4.1 r4.2.1 r4.2.2.1)) (w8 x3 x4 x5 x6 r4.1 r4.2.1 r4.2.2.1)
def jb.j7(N:Nat)(x3:ae)(x4:aq)(x5:gj)(x6:aq):Option (aq×bK×(Int)×(Int)):=jb.UO N (jb.Hy N) x3 x4 x5 x6
def jb.b(N:Nat)(HE:jb.XX)(a0:ae)(a1:aq)(a2:gj):Option (aq×bK×(Int)×(Int)):=
 (WZ N a0 a1 a2).bind λr1=>cond (!aO r1 0) (some ((cm,(c8,(bH,(bH,(dC,(dP,())))))),CT,(0:Int),r1)) (cond (aY 0 (List.length a1.2.2.2.2.2.1:Int)) (let v2:Int:=W .i64 ((List.length a1.2.2.2.2.2.1:Int)-1);cond (ba v2 (List.length a1.2.2.2.2.2.1)) (cond (dj a2.1 ((List.getD a1.2.2.2.2.2.1 v2.toNat e7).1)) (some ((cm,(c8,(bH,(bH,(dC,(dP,())))))),CT,(0:Int),(1:Int))) (HE a0 a1 a2 (cm,(c8,(bH,(bH,(dC,(dP,())))))))) (none)) (HE a0 a1 a2 (cm,(c8,(bH,(bH,(dC,(dP,()))))))))
def jb(N:Nat)(a0:ae)(a1:aq)(a2:gj):Option (aq×bK×(Int)×(Int)):=jb.b N (jb.j7 N) a0 a1 a2
abbrev nu.bM:=bq→Int→Int→bq→Int→Option (bq×(Int))
def nu.dV(N:Nat)(bO:nu.bM)(x0:bq)(x1:Int)(x2:Int)(x8:bq)(x9:Int):Option (bq×(Int)):=
 cond (aY x9 (List.length x0:Int)) (cond (ba x9 (List.length x0)) (cond (!aO ((List.getD x0 x9.toNat e7).1) x2) (cond (ba x9 (List.length x0)) (cond (small (List.length x8+List.length ([List.getD x0 x9.toNat e7]))) (bO x0 x1 x2 (x8++([List.getD x0 x9.toNat e7])) (W .i64 (x9+1))) (none)) (none)) (cond (ba x9 (List.length x0)) (cond (!aO (((List.getD x0 x9.toNat e7).2).1) x1) (cond (ba x9 (List.length x0)) (cond (small (List.length x8+List.length ([List.getD x0 x9.toNat e7]))) (bO x0 x1 x2 (x8++([List.getD x0 x9.toNat e7])) (W .i64 (x9+1))) (none)) (none)) (bO x0 x1 x2 x8 (W .i64 (x9+1)))) (none))) (none)) (cond (aO (List.length x8:Int) (List.length x0:Int)) (some ([],(3:Int))) (some (x8,(0:Int))))
def nu.l5(N:Nat):Nat→nu.bM
 |0,_,_,_,_,_=>none
 |n+1,x0,x1,x2,x8,x9=>nu.dV N (nu.l5 N n) x0 x1 x2 x8 x9
def nu.b(N:Nat)(eT:nu.bM)(a0:bq)(a1:Int)(a2:Int):Option (bq×(Int)):=
 (mC N a0).bind λr1=>cond (!r1) (some ([],(1:Int))) (eT a0 a1 a2 ([]) (0:Int))
def nu(N:Nat)(a0:bq)(a1:Int)(a2:Int):Option (bq×(Int)):=nu.b N (nu.l5 N N) a0 a1 a2
abbrev nv.ju:=au→Int→bE→aH→Int→Option (bE×(Int))
def nv.ud(N:Nat)(ko:nv.ju)(x0:au)(x1:Int)(bu:bE)(aZ:aH)(bf:Int):Option (bE×(Int)):=
 cond (aY bf (List.length x0:Int)) (cond (ba bf (List.length x0)) (cond (!aO (((List.getD x0 bf.toNat bl).2).1) x1) (ko x0 x1 bu aZ (W .i64 (bf+1))) ((RA N aZ).bind λr9=>cond (aO r9 0) (ko x0 x1 bu aZ (W .i64 (bf+1))) (cond (ba bf (List.length x0)) ((Ki N ((List.getD x0 bf.toNat bl).1)).bind λnI=>cond (ba bf (List.length x0)) ((jN N ((((List.getD x0 bf.toNat bl).2).2).1)).bind λoE=>(jJ N oE aZ).bind λqm=>cond (small (List.length bu+List.length ([(nI.1,(nI.2,(qm,())))]))) (ko x0 x1 (bu++([(nI.1,(nI.2,(qm,())))])) aZ (W .i64 (bf+1))) (none)) (none)) (none)))) (none)) (some (bu,(0:Int)))
def nv.l6(N:Nat):Nat→nv.ju
 |0,_,_,_,_,_=>none
 |n+1,x0,x1,bu,aZ,bf=>nv.ud N (nv.l6 N n) x0 x1 bu aZ bf
def nv.b(N:Nat)(w3:nv.ju)(a0:au)(a1:Int)(a2:Int)(a3:Int):Option (bE×(Int)):=
 (yY N a0).bind λr1=>cond (!r1) (some ([],(1:Int))) ((Db N a2).bind λr2=>cond (!r2) (some ([],(1:Int))) ((Db N a3).bind λr3=>cond (!r3) (some ([],(1:Int))) ((jN N a3).bind λr4=>(jN N a2).bind λr5=>(Rz N r4 r5).bind λr6=>w3 a0 a1 ([]) r6 (0:Int))))
def nv(N:Nat)(a0:au)(a1:Int)(a2:Int)(a3:Int):Option (bE×(Int)):=nv.b N (nv.l6 N N) a0 a1 a2 a3
def T0(N:Nat)(a0:ae)(a1:aq)(a2:Int)(a3:Int):Option (aq×bE×(Int)):=
 (fW N a0 a1).bind λr1=>cond (!r1) (some ((cm,(c8,(bH,(bH,(dC,(dP,())))))),([]:List ((Int)×((Int)×(((Bool)×((List (Int))×(Unit)))×(Unit))))),(1:Int))) ((Db N a3).bind λr2=>cond (!r2) (some ((cm,(c8,(bH,(bH,(dC,(dP,())))))),([]:List ((Int)×((Int)×(((Bool)×((List (Int))×(Unit)))×(Unit))))),(1:Int))) (cond (aY a2 0) (some ((cm,(c8,(bH,(bH,(dC,(dP,())))))),([]:List ((Int)×((Int)×(((Bool)×((List (Int))×(Unit)))×(Unit))))),(3:Int))) (cond (dj (List.length a0.1:Int) a2) (some ((cm,(c8,(bH,(bH,(dC,(dP,())))))),([]:List ((Int)×((Int)×(((Bool)×((List (Int))×(Unit)))×(Unit))))),(3:Int))) (cond (ba a2 (List.length a1.2.2.2.2.1)) ((nv N a1.2.2.2.1 a2 (List.getD a1.2.2.2.2.1 a2.toNat (0:Int)) a3).bind λr3=>(xT N a1 bH r3.1).bind λr4=>cond (!aO r4.2 0) (some ((cm,(c8,(bH,(bH,(dC,(dP,())))))),([]:List ((Int)×((Int)×(((Bool)×((List (Int))×(Unit)))×(Unit))))),r4.2)) (cond (small (List.length dC+List.length a1.2.2.2.2.1)) (let v5:List (Int):=dC++a1.2.2.2.2.1;cond (ba a2 (List.length v5)) (some ((r4.1.1,(r4.1.2.1,(r4.1.2.2.1,(r4.1.2.2.2.1,((List.set v5 a2.toNat a3),r4.1.2.2.2.2.2))))),r3.1,(0:Int))) (none)) (none))) (none)))))
abbrev p5.da:=aD→Int→Option (Bool)
def p5.gD(N:Nat)(ew:p5.da)(x0:aD)(x3:Int):Option (Bool):=
 cond (aY x3 (List.length x0:Int)) (cond (ba x3 (List.length x0)) (cond (aY ((List.getD x0 x3.toNat cz).1) (1:Int)) (some false) (cond (ba x3 (List.length x0)) (cond (aY 24 ((List.getD x0 x3.toNat cz).1)) (some false) (cond (ba x3 (List.length x0)) (cond (aO (((List.getD x0 x3.toNat cz).2).1) (0:Int)) (some false) (cond (aY 0 x3) (cond (ba x3 (List.length x0)) (let v2:Int:=W .i64 (x3-1);cond (ba v2 (List.length x0)) (cond (dj ((List.getD x0 x3.toNat cz).1) ((List.getD x0 v2.toNat cz).1)) (some false) (ew x0 (W .i64 (x3+1)))) (none)) (none)) (ew x0 (W .i64 (x3+1))))) (none))) (none))) (none)) (some true)
def p5.l2(N:Nat):Nat→p5.da
 |0,_,_=>none
 |n+1,x0,x3=>p5.gD N (p5.l2 N n) x0 x3
def p5.b(N:Nat)(jf:p5.da)(a0:aD):Option (Bool):=
 jf a0 (0:Int)
def p5(N:Nat)(a0:aD):Option (Bool):=p5.b N (p5.l2 N N) a0
abbrev eL.xa:=aD→bE→aD→Int→aH→Int→Option (aD×(Int))
abbrev eL.mc:=aD→bE→aD→Int→aH→Int→Option (aD×(Int))
abbrev eL.bM:=aD→bE→aD→Int→Option (aD×(Int))
def eL.FL(N:Nat)(bO:eL.bM)(CQ:eL.xa)(x0:aD)(x1:bE)(x6:aD)(x7:Int)(x8:aH)(bu:Int):Option (aD×(Int)):=
 cond (aY bu (List.length x1:Int)) (cond (ba bu (List.length x1)) (cond (aO ((List.getD x1 bu.toNat ((0:Int),((0:Int),((false,pb),())))).1) (5:Int)) (cond (ba bu (List.length x1)) (cond (aO (((List.getD x1 bu.toNat ((0:Int),((0:Int),((false,pb),())))).2).1) x7) (cond (ba bu (List.length x1)) ((yX N x8 ((((List.getD x1 bu.toNat ((0:Int),((0:Int),((false,pb),())))).2).2).1)).bind λr8=>CQ x0 x1 x6 x7 r8 (W .i64 (bu+1))) (none)) (CQ x0 x1 x6 x7 x8 (W .i64 (bu+1)))) (none)) (CQ x0 x1 x6 x7 x8 (W .i64 (bu+1)))) (none)) ((wo N x8).bind λoE=>cond (!oE.2) (some ([],(2:Int))) (cond (!aO oE.1 0) (cond (small (List.length x6+List.length ([(x7,(oE.1,()))]))) (bO x0 x1 (x6++([(x7,(oE.1,()))])) (W .i64 (x7+1))) (none)) (bO x0 x1 x6 (W .i64 (x7+1)))))
def eL.IG(N:Nat)(bO:eL.bM):Nat→eL.xa
 |0,_,_,_,_,_,_=>none
 |n+1,x0,x1,x6,x7,x8,bu=>eL.FL N bO (eL.IG N bO n) x0 x1 x6 x7 x8 bu
def eL.xp(N:Nat)(N9:eL.xa)(bO:eL.bM)(rC:eL.mc)(x0:aD)(x1:bE)(x6:aD)(x7:Int)(x8:aH)(x9:Int):Option (aD×(Int)):=
 cond (aY x9 (List.length x0:Int)) (cond (ba x9 (List.length x0)) (cond (aO ((List.getD x0 x9.toNat cz).1) x7) (cond (ba x9 (List.length x0)) ((jN N (((List.getD x0 x9.toNat cz).2).1)).bind λr4=>rC x0 x1 x6 x7 r4 (W .i64 (x9+1))) (none)) (rC x0 x1 x6 x7 x8 (W .i64 (x9+1)))) (none)) (N9 x0 x1 x6 x7 x8 (0:Int))
def eL.l9(N:Nat)(bO:eL.bM):Nat→eL.mc
 |0,_,_,_,_,_,_=>none
 |n+1,x0,x1,x6,x7,x8,x9=>eL.xp N (eL.IG N bO N) bO (eL.l9 N bO n) x0 x1 x6 x7 x8 x9
def eL.dV(N:Nat)(yU:eL.mc)(bO:eL.bM)(x0:aD)(x1:bE)(x6:aD)(x7:Int):Option (aD×(Int)):=
 cond (dj x7 24) (yU x0 x1 x6 x7 (false,pb) (0:Int)) (some (x6,(0:Int)))
def eL.l5(N:Nat):Nat→eL.bM
 |0,_,_,_,_=>none
 |n+1,x0,x1,x6,x7=>eL.dV N (eL.l9 N (eL.l5 N n) N) (eL.l5 N n) x0 x1 x6 x7
def eL.b(N:Nat)(eT:eL.bM)(a0:aD)(a1:bE):Option (aD×(Int)):=
 (p5 N a0).bind λr1=>cond (!r1) (some ([],(1:Int))) (eT a0 a1 ([]) (1:Int))
def eL(N:Nat)(a0:aD)(a1:bE):Option (aD×(Int)):=eL.b N (eL.l5 N N) a0 a1
def Ue(N:Nat)(a0:aQ)(a1:Int):Option ((Int)×(Bool)):=
 (jN N a0.1).bind λr1=>(jN N a1).bind λr2=>(yX N r1 r2).bind λr3=>(wo N r3).bind λr4=>some (r4.1,r4.2)
def TX(N:Nat)(a0:Int)(a1:Int):Option ((Int)×(Bool)):=
 cond (aO a0 0) (cond (aO a1 1) (some ((1:Int),true)) (cond (aO a0 1) (cond (aO a1 11) (some ((2:Int),true)) (cond (aO a0 2) (cond (aO a1 12) (some ((1:Int),true)) (cond (aO a0 2) (cond (aO a1 13) (some ((3:Int),true)) (cond (aO a0 3) (cond (aO a1 21) (some ((4:Int),true)) (some ((0:Int),false))) (some ((0:Int),false)))) (cond (aO a0 3) (cond (aO a1 21) (some ((4:Int),true)) (some ((0:Int),false))) (some ((0:Int),false))))) (cond (aO a0 2) (cond (aO a1 13) (some ((3:Int),true)) (cond (aO a0 3) (cond (aO a1 21) (some ((4:Int),true)) (some ((0:Int),false))) (some ((0:Int),false)))) (cond (aO a0 3) (cond (aO a1 21) (some ((4:Int),true)) (some ((0:Int),false))) (some ((0:Int),false)))))) (cond (aO a0 2) (cond (aO a1 12) (some ((1:Int),true)) (cond (aO a0 2) (cond (aO a1 13) (some ((3:Int),true)) (cond (aO a0 3) (cond (aO a1 21) (some ((4:Int),true)) (some ((0:Int),false))) (some ((0:Int),false)))) (cond (aO a0 3) (cond (aO a1 21) (some ((4:Int),true)) (some ((0:Int),false))) (some ((0:Int),false))))) (cond (aO a0 2) (cond (aO a1 13) (some ((3:Int),true)) (cond (aO a0 3) (cond (aO a1 21) (some ((4:Int),true)) (some ((0:Int),false))) (some ((0:Int),false)))) (cond (aO a0 3) (cond (aO a1 21) (some ((4:Int),true)) (some ((0:Int),false))) (some ((0:Int),false))))))) (cond (aO a0 1) (cond (aO a1 11) (some ((2:Int),true)) (cond (aO a0 2) (cond (aO a1 12) (some ((1:Int),true)) (cond (aO a0 2) (cond (aO a1 13) (some ((3:Int),true)) (cond (aO a0 3) (cond (aO a1 21) (some ((4:Int),true)) (some ((0:Int),false))) (some ((0:Int),false)))) (cond (aO a0 3) (cond (aO a1 21) (some ((4:Int),true)) (some ((0:Int),false))) (some ((0:Int),false))))) (cond (aO a0 2) (cond (aO a1 13) (some ((3:Int),true)) (cond (aO a0 3) (cond (aO a1 21) (some ((4:Int),true)) (some ((0:Int),false))) (some ((0:Int),false)))) (cond (aO a0 3) (cond (aO a1 21) (some ((4:Int),true)) (some ((0:Int),false))) (some ((0:Int),false)))))) (cond (aO a0 2) (cond (aO a1 12) (some ((1:Int),true)) (cond (aO a0 2) (cond (aO a1 13) (some ((3:Int),true)) (cond (aO a0 3) (cond (aO a1 21) (some ((4:Int),true)) (some ((0:Int),false))) (some ((0:Int),false)))) (cond (aO a0 3) (cond (aO a1 21) (some ((4:Int),true)) (some ((0:Int),false))) (some ((0:Int),false))))) (cond (aO a0 2) (cond (aO a1 13) (some ((3:Int),true)) (cond (aO a0 3) (cond (aO a1 21) (some ((4:Int),true)) (some ((0:Int),false))) (some ((0:Int),false)))) (cond (aO a0 3) (cond (aO a1 21) (some ((4:Int),true)) (some ((0:Int),false))) (some ((0:Int),false))))))
abbrev lq.w9:=Int→Int→aD→Int→Option (aD×(Int))
def lq.yO(N:Nat)(AO:lq.w9)(x1:Int)(x9:Int)(aZ:aD)(bf:Int):Option (aD×(Int)):=
 cond (aY bf (List.length aZ:Int)) (cond (ba bf (List.length aZ)) (cond (aO ((List.getD aZ bf.toNat cz).1) x1) (cond (ba bf (List.length aZ)) (AO x1 x9 (List.set aZ bf.toNat ((List.getD aZ bf.toNat cz).1,(x9,((List.getD aZ bf.toNat cz).2).2))) (W .i64 (bf+1))) (none)) (AO x1 x9 aZ (W .i64 (bf+1)))) (none)) (some (aZ,(0:Int)))
def lq.BA(N:Nat):Nat→lq.w9
 |0,_,_,_,_=>none
 |n+1,x1,x9,aZ,bf=>lq.yO N (lq.BA N n) x1 x9 aZ bf
def lq.b(N:Nat)(N8:lq.w9)(a0:aD)(a1:Int)(a2:Int):Option (aD×(Int)):=
 (AS N a0).bind λr1=>cond (!r1) (some ([],(1:Int))) ((yZ N a0 a1).bind λr2=>cond (aO r2 0) (some ([],(3:Int))) ((TX N r2 a2).bind λr3=>cond (!r3.2) (some ([],(8:Int))) (cond (small (List.length cm+List.length a0)) (N8 a1 r3.1 (cm++a0) (0:Int)) (none))))
def lq(N:Nat)(a0:aD)(a1:Int)(a2:Int):Option (aD×(Int)):=lq.b N (lq.BA N N) a0 a1 a2
abbrev rf.bM:=aM→Int→(List (Int))→Int→Option (List (Int))
def rf.dV(N:Nat)(bO:rf.bM)(x0:aM)(x1:Int)(x5:List (Int))(x6:Int):Option (List (Int)):=
 cond (aY x6 (List.length x0:Int)) (cond (ba x6 (List.length x0)) (cond (aO (((List.getD x0 x6.toNat aV).2).1) x1) (cond (ba x6 (List.length x0)) (cond (small (List.length x5+List.length ([(List.getD x0 x6.toNat aV).1]))) (bO x0 x1 (x5++([(List.getD x0 x6.toNat aV).1])) (W .i64 (x6+1))) (none)) (none)) (bO x0 x1 x5 (W .i64 (x6+1)))) (none)) (some x5)
def rf.l5(N:Nat):Nat→rf.bM
 |0,_,_,_,_=>none
 |n+1,x0,x1,x5,x6=>rf.dV N (rf.l5 N n) x0 x1 x5 x6
def rf.b(N:Nat)(eT:rf.bM)(a0:aM)(a1:Int):Option (List (Int)):=
 (eu N a0).bind λr1=>cond (!r1) (some ([])) (eT a0 a1 ([]) (0:Int))
def rf(N:Nat)(a0:aM)(a1:Int):Option (List (Int)):=rf.b N (rf.l5 N N) a0 a1
abbrev fR.mc:=bq→(List (Int))→bq→Int→Bool→Int→Option bq
abbrev fR.bM:=bq→(List (Int))→bq→Int→Option bq
def fR.xp(N:Nat)(bO:fR.bM)(rC:fR.mc)(x0:bq)(x1:List (Int))(x5:bq)(x6:Int)(x7:Bool)(x8:Int):Option bq:=
 cond (aY x8 (List.length x1:Int)) (cond (x7) (rC x0 x1 x5 x6 true (W .i64 (x8+1))) (cond (ba x8 (List.length x1)) (cond (ba x6 (List.length x0)) (rC x0 x1 x5 x6 (aO (List.getD x1 x8.toNat (0:Int)) (((List.getD x0 x6.toNat e7).2).1)) (W .i64 (x8+1))) (none)) (none))) (cond (!x7) (cond (ba x6 (List.length x0)) (cond (small (List.length x5+List.length ([List.getD x0 x6.toNat e7]))) (bO x0 x1 (x5++([List.getD x0 x6.toNat e7])) (W .i64 (x6+1))) (none)) (none)) (bO x0 x1 x5 (W .i64 (x6+1))))
def fR.l9(N:Nat)(bO:fR.bM):Nat→fR.mc
 |0,_,_,_,_,_,_=>none
 |n+1,x0,x1,x5,x6,x7,x8=>fR.xp N bO (fR.l9 N bO n) x0 x1 x5 x6 x7 x8
def fR.dV(N:Nat)(yU:fR.mc)(bO:fR.bM)(x0:bq)(x1:List (Int))(x5:bq)(x6:Int):Option bq:=
 cond (aY x6 (List.length x0:Int)) (yU x0 x1 x5 x6 false (0:Int)) (some x5)
def fR.l5(N:Nat):Nat→fR.bM
 |0,_,_,_,_=>none
 |n+1,x0,x1,x5,x6=>fR.dV N (fR.l9 N (fR.l5 N n) N) (fR.l5 N n) x0 x1 x5 x6
def fR.b(N:Nat)(eT:fR.bM)(a0:bq)(a1:List (Int)):Option bq:=
 (mC N a0).bind λr1=>cond (!r1) (some ([])) (eT a0 a1 ([]) (0:Int))
def fR(N:Nat)(a0:bq)(a1:List (Int)):Option bq:=fR.b N (fR.l5 N N) a0 a1
def Ky(N:Nat)(a0:ae)(a1:aq)(a2:Int):Option (aq×(Int)):=
 (fW N a0 a1).bind λr1=>cond (!r1) (some ((cm,(c8,(bH,(bH,(dC,(dP,())))))),(1:Int))) ((RH N a1.1 a2).bind λr2=>cond (aO r2 0) (some ((cm,(c8,(bH,(bH,(dC,(dP,())))))),(3:Int))) ((rf N a1.2.1 a2).bind λr3=>(fR N a1.2.2.2.2.2.1 r3).bind λr4=>some ((a1.1,(a1.2.1,(a1.2.2.1,(a1.2.2.2.1,(a1.2.2.2.2.1,(r4,a1.2.2.2.2.2.2)))))),(0:Int))))
def We(N:Nat)(a0:bX):Option (Bool):=
 cond (dj 1 a0.1) (cond (dj a0.1 1099511627776) (cond (dj 1 a0.2.1) (cond (dj a0.2.1 1099511627776) (cond (dj 1 a0.2.2.1) (cond (dj a0.2.2.1 12) (cond (dj (-1152921504606846976) a0.2.2.2.1) (some (dj a0.2.2.2.1 1152921504606846976)) (some false)) (some false)) (some false)) (some false)) (some false)) (some false)) (some false)
abbrev eA.mc:=aM→Int→Int→Option (Bool)
abbrev eA.X6:=aM→Int→Option (Bool)
abbrev eA.bD:=aM→Int→Option (Bool)
def eA.xp(N:Nat)(cr:eA.bD)(rC:eA.mc)(x0:aM)(x3:Int)(x4:Int):Option (Bool):=
 cond (aY x4 x3) (cond (ba x4 (List.length x0)) (cond (ba x3 (List.length x0)) (cond (aO ((((List.getD x0 x4.toNat aV).2).2).1) ((((List.getD x0 x3.toNat aV).2).2).1)) (cond (ba x4 (List.length x0)) (cond (ba x3 (List.length x0)) (cond (aO (((List.getD x0 x4.toNat aV).2).1) (((List.getD x0 x3.toNat aV).2).1)) (some false) (rC x0 x3 (W .i64 (x4+1)))) (none)) (none)) (rC x0 x3 (W .i64 (x4+1)))) (none)) (none)) (cr x0 (W .i64 (x3+1)))
def eA.l9(N:Nat)(cr:eA.bD):Nat→eA.mc
 |0,_,_,_=>none
 |n+1,x0,x3,x4=>eA.xp N cr (eA.l9 N cr n) x0 x3 x4
def eA.Wu(N:Nat)(yU:eA.mc)(cr:eA.bD)(x0:aM)(x3:Int):Option (Bool):=
 yU x0 x3 (0:Int)
def eA.j8(N:Nat)(cr:eA.bD)(x0:aM)(x3:Int):Option (Bool):=eA.Wu N (eA.l9 N cr N) cr x0 x3
def eA.dv(N:Nat)(N1:eA.X6)(cr:eA.bD)(x0:aM)(x3:Int):Option (Bool):=
 cond (aY x3 (List.length x0:Int)) (cond (ba x3 (List.length x0)) ((We N (List.getD x0 x3.toNat aV)).bind λr2=>cond (!r2) (some false) (cond (aY 0 x3) (cond (ba x3 (List.length x0)) (let v3:Int:=W .i64 (x3-1);cond (ba v3 (List.length x0)) (cond (dj ((List.getD x0 x3.toNat aV).1) ((List.getD x0 v3.toNat aV).1)) (some false) (N1 x0 x3)) (none)) (none)) (N1 x0 x3))) (none)) (some true)
def eA.l4(N:Nat):Nat→eA.bD
 |0,_,_=>none
 |n+1,x0,x3=>eA.dv N (eA.j8 N (eA.l4 N n)) (eA.l4 N n) x0 x3
def eA.b(N:Nat)(eB:eA.bD)(a0:aM):Option (Bool):=
 cond (aY 40 (List.length a0:Int)) (some false) (eB a0 (0:Int))
def eA(N:Nat)(a0:aM):Option (Bool):=eA.b N (eA.l4 N N) a0
abbrev o4.bM:=aM→Int→aM→Int→Option aM
def o4.dV(N:Nat)(bO:o4.bM)(x0:aM)(x1:Int)(x5:aM)(x6:Int):Option aM:=
 cond (aY x6 (List.length x0:Int)) (cond (ba x6 (List.length x0)) (cond (!aO ((((List.getD x0 x6.toNat aV).2).2).1) x1) (cond (ba x6 (List.length x0)) (cond (small (List.length x5+List.length ([List.getD x0 x6.toNat aV]))) (bO x0 x1 (x5++([List.getD x0 x6.toNat aV])) (W .i64 (x6+1))) (none)) (none)) (bO x0 x1 x5 (W .i64 (x6+1)))) (none)) (some x5)
def o4.l5(N:Nat):Nat→o4.bM
 |0,_,_,_,_=>none
 |n+1,x0,x1,x5,x6=>o4.dV N (o4.l5 N n) x0 x1 x5 x6
def o4.b(N:Nat)(eT:o4.bM)(a0:aM)(a1:Int):Option aM:=
 (eA N a0).bind λr1=>cond (!r1) (some ([])) (eT a0 a1 ([]) (0:Int))
def o4(N:Nat)(a0:aM)(a1:Int):Option aM:=o4.b N (o4.l5 N N) a0 a1
def aaF(N:Nat)(a0:aQ)(a1:Int):Option (Bool):=
 cond (aO a1 14) (cond (aO a0.2.2.2.1.2.1 1) (some (aY a0.1 a0.2.2.2.1.2.2.1)) (some false)) (cond (aO a1 15) (cond (aO a0.2.2.2.1.2.1 1) (some (dj a0.2.2.2.1.2.2.1 a0.1)) (some false)) (cond (aO a1 19) (cond (aO a0.2.2.2.1.2.1 3) (some (aY a0.1 a0.2.2.2.1.2.2.1)) (some false)) (cond (aO a1 20) (cond (aO a0.2.2.2.1.2.1 3) (some (dj a0.2.2.2.1.2.2.1 a0.1)) (some false)) (some (aO a0.2.2.2.1.2.1 2)))))
def Hz(N:Nat)(a0:aq)(a1:Int):Option (Int):=
 (RH N a0.1 a1).bind λr1=>some r1
abbrev ll.bM:=aD→Bool→ae→aH→aH→Int→Option (aH×(Int))
def ll.dV(N:Nat)(bO:ll.bM)(x1:aD)(x2:Bool)(x3:ae)(x6:aH)(x8:aH)(x9:Int):Option (aH×(Int)):=
 cond (aY x9 (List.length x1:Int)) (cond (ba x9 (List.length x1)) (cond (ba ((List.getD x1 x9.toNat cz).1) (List.length x3.1)) (cond (x2) (cond (ba x9 (List.length x1)) (cond (ba ((List.getD x1 x9.toNat cz).1) (List.length x3.1)) (cond (ba x9 (List.length x1)) ((jN N (((List.getD x1 x9.toNat cz).2).1)).bind λr3=>(V4 N r3).bind λr4=>(jN N (((((List.getD x3.1 ((List.getD x1 x9.toNat cz).1).toNat aV).2).2).2).1)).bind λr5=>(jJ N r4 r5).bind λr6=>(yX N x8 r6).bind λr7=>bO x1 x2 x3 x6 r7 (W .i64 (x9+1))) (none)) (none)) (none)) (cond (ba x9 (List.length x1)) ((jN N (((List.getD x1 x9.toNat cz).2).1)).bind λr9=>(V4 N r9).bind λkK=>(jN N ((((List.getD x3.1 ((List.getD x1 x9.toNat cz).1).toNat aV).2).2).1)).bind λnI=>(jJ N kK nI).bind λoE=>(yX N x8 oE).bind λqm=>bO x1 x2 x3 x6 qm (W .i64 (x9+1))) (none))) (none)) (none)) (some (x8,(0:Int)))
def ll.l5(N:Nat):Nat→ll.bM
 |0,_,_,_,_,_,_=>none
 |n+1,x1,x2,x3,x6,x8,x9=>ll.dV N (ll.l5 N n) x1 x2 x3 x6 x8 x9
def ll.b(N:Nat)(eT:ll.bM)(a0:ae)(a1:aD)(a2:Bool):Option (aH×(Int)):=
 (nc N a0 a1).bind λr1=>cond (!r1) (some ((false,pb),(1:Int))) (eT a1 a2 a0 (false,pb) (false,pb) (0:Int))
def ll(N:Nat)(a0:ae)(a1:aD)(a2:Bool):Option (aH×(Int)):=ll.b N (ll.l5 N N) a0 a1 a2
def ahS(N:Nat)(a0:ae)(a1:aD):Option (aH×(Int)):=
 (ll N a0 a1 false).bind λr1=>some (r1.1,r1.2)
def Hr(N:Nat)(a0:aq)(a1:Int):Option (Int):=
 (uy N a0.2.2.1 (5:Int) a1).bind λr1=>some r1
def aau(N:Nat)(a0:ae)(a1:aq)(a2:Int)(a3:Int)(a4:Int):Option (Int):=
 (fW N a0 a1).bind λr1=>cond (!r1) (some (1:Int)) ((UQ N a1.2.1 a4).bind λr2=>cond (!r2.2) (some (3:Int)) ((Hz N a1 a2).bind λr3=>cond (aO r3 0) (some (3:Int)) ((Hz N a1 a3).bind λr4=>cond (aO r4 0) (some (3:Int)) (cond (!aO r2.1.2.1 a2) (some (8:Int)) (cond (!aO r2.1.2.2.1 2) (some (8:Int)) ((Hz N a1 a3).bind λr5=>cond (!aO r5 1) (some (7:Int)) ((lj N a1.2.2.2.1 a4).bind λr6=>(ahS N a0 r6).bind λr7=>(Hr N a1 a4).bind λr8=>(jN N r8).bind λr9=>(Pv N r9 r7.1).bind λkK=>cond (aY kK 0) (some (10:Int)) (some (0:Int)))))))))
abbrev ns.fV:=Int→Int→aM→Int→Option (aM×(Int))
def ns.mE(N:Nat)(gI:ns.fV)(x2:Int)(x3:Int)(bY:aM)(cw:Int):Option (aM×(Int)):=
 cond (aY cw (List.length bY:Int)) (cond (ba cw (List.length bY)) (cond (aO ((List.getD bY cw.toNat aV).1) x2) (cond (ba cw (List.length bY)) (gI x2 x3 (List.set bY cw.toNat ((List.getD bY cw.toNat aV).1,(x3,((List.getD bY cw.toNat aV).2).2))) (W .i64 (cw+1))) (none)) (gI x2 x3 bY (W .i64 (cw+1)))) (none)) (some (bY,(0:Int)))
def ns.nG(N:Nat):Nat→ns.fV
 |0,_,_,_,_=>none
 |n+1,x2,x3,bY,cw=>ns.mE N (ns.nG N n) x2 x3 bY cw
def ns.b(N:Nat)(tG:ns.fV)(a0:aD)(a1:aM)(a2:Int)(a3:Int):Option (aM×(Int)):=
 (nY N a0 a1).bind λr1=>cond (!r1) (some ([],(1:Int))) ((nE N a1 a2).bind λr2=>(yZ N a0 a3).bind λr3=>cond (!r2.2) (some ([],(3:Int))) (cond (aO r3 0) (some ([],(3:Int))) (cond (!aO r2.1.2.2.1 2) (some ([],(8:Int))) (cond (!aO r3 1) (some ([],(7:Int))) (cond (small (List.length c8+List.length a1)) (tG a2 a3 (c8++a1) (0:Int)) (none))))))
def ns(N:Nat)(a0:aD)(a1:aM)(a2:Int)(a3:Int):Option (aM×(Int)):=ns.b N (ns.nG N N) a0 a1 a2 a3
def T2(N:Nat)(a0:ae)(a1:aq)(a2:Int)(a3:Int)(a4:Int):Option (aq×(Int)):=
 (aau N a0 a1 a2 a3 a4).bind λr1=>cond (!aO r1 0) (some ((cm,(c8,(bH,(bH,(dC,(dP,())))))),r1)) ((ns N a1.1 a1.2.1 a4 a3).bind λr2=>cond (!aO r2.2 0) (some ((cm,(c8,(bH,(bH,(dC,(dP,())))))),r2.2)) (some ((a1.1,(r2.1,a1.2.2)),(0:Int))))
def Qi(N:Nat)(a0:ae)(a1:aD):Option (aH×(Int)):=
 (ll N a0 a1 true).bind λr1=>some (r1.1,r1.2)
def F60(N:Nat)(a0:ae)(a1:aq)(a2:Int):Option ((Int)×(Int)):=
 (fW N a0 a1).bind λr1=>cond (!r1) (some ((0:Int),(1:Int))) ((UQ N a1.2.1 a2).bind λr2=>cond (!r2.2) (some ((0:Int),(3:Int))) ((lj N a1.2.2.2.1 a2).bind λr3=>(Qi N a0 r3).bind λr4=>(Hr N a1 a2).bind λr5=>cond (dj r5 0) (some ((0:Int),(0:Int))) ((wo N r4.1).bind λr6=>cond (r6.2) (cond (aY r6.1 r5) (some (r6.1,(0:Int))) (some (r5,(0:Int)))) (some (r5,(0:Int))))))
abbrev iL.bM:=au→Int→Int→au→Int→Option au
def iL.dV(N:Nat)(bO:iL.bM)(x0:au)(x1:Int)(x2:Int)(x7:au)(x8:Int):Option au:=
 cond (aY x8 (List.length x0:Int)) (cond (ba x8 (List.length x0)) (cond (aO ((List.getD x0 x8.toNat bl).1) x1) (cond (ba x8 (List.length x0)) (cond (ba x8 (List.length x0)) (let v3:Int:=W .i64 (0-((((List.getD x0 x8.toNat bl).2).2).1));cond (ba x8 (List.length x0)) (cond (ba x8 (List.length x0)) (cond (small (List.length x7+List.length ([(x1,(((List.getD x0 x8.toNat bl).2).1,(v3,()))),(x2,(((List.getD x0 x8.toNat bl).2).1,((((List.getD x0 x8.toNat bl).2).2).1,())))]))) (bO x0 x1 x2 (x7++([(x1,(((List.getD x0 x8.toNat bl).2).1,(v3,()))),(x2,(((List.getD x0 x8.toNat bl).2).1,((((List.getD x0 x8.toNat bl).2).2).1,())))])) (W .i64 (x8+1))) (none)) (none)) (none)) (none)) (none)) (bO x0 x1 x2 x7 (W .i64 (x8+1)))) (none)) (some x7)
def iL.l5(N:Nat):Nat→iL.bM
 |0,_,_,_,_,_=>none
 |n+1,x0,x1,x2,x7,x8=>iL.dV N (iL.l5 N n) x0 x1 x2 x7 x8
def iL.b(N:Nat)(eT:iL.bM)(a0:au)(a1:Int)(a2:Int):Option au:=
 (yY N a0).bind λr1=>cond (!r1) (some ([])) (cond (aO a1 a2) (some ([])) (cond (aY a1 0) (some ([])) (cond (aY 24 a1) (some ([])) (cond (aY a2 0) (some ([])) (cond (aY 24 a2) (some ([])) (eT a0 a1 a2 ([]) (0:Int)))))))
def iL(N:Nat)(a0:au)(a1:Int)(a2:Int):Option au:=iL.b N (iL.l5 N N) a0 a1 a2
abbrev mF.Gt:=Int→ae→aq→aq→au→bE→Int→bX→Option (aq×(Int))
abbrev mF.gK:=Int→ae→aq→aq→au→bE→Int→Option (aq×(Int))
def mF.uI(N:Nat)(eX:mF.gK)(x2:Int)(x3:ae)(x4:aq)(x6:aq)(x8:au)(x9:bE)(bu:Int)(aZ:bX):Option (aq×(Int)):=
 (Hr N x4 aZ.1).bind λkK=>cond (aY kK 0) ((jN N kK).bind λnI=>(Tk N nI).bind λoE=>(xU N (2:Int) (0:Int) (5:Int) aZ.1 oE).bind λqm=>cond (small (List.length x9+List.length qm)) ((iL N x4.2.2.2.1 aZ.1 (0:Int)).bind λwY=>cond (small (List.length x8+List.length wY)) (eX x2 x3 x4 x6 (x8++wY) (x9++qm) (W .i64 (bu+1))) (none)) (none)) ((iL N x4.2.2.2.1 aZ.1 (0:Int)).bind λu6=>cond (small (List.length x8+List.length u6)) (eX x2 x3 x4 x6 (x8++u6) x9 (W .i64 (bu+1))) (none))
def mF.AU(N:Nat)(eX:mF.gK)(x2:Int)(x3:ae)(x4:aq)(x6:aq)(x8:au)(x9:bE)(bu:Int)(aZ:bX):Option (aq×(Int)):=mF.uI N eX x2 x3 x4 x6 x8 x9 bu aZ
def mF.xR(N:Nat)(u9:mF.Gt)(eX:mF.gK)(x2:Int)(x3:ae)(x4:aq)(x6:aq)(x8:au)(x9:bE)(bu:Int):Option (aq×(Int)):=
 cond (aY bu (List.length x4.2.1:Int)) (cond (ba bu (List.length x4.2.1)) (cond (!aO (((List.getD x4.2.1 bu.toNat aV).2).1) x2) (eX x2 x3 x4 x6 x8 x9 (W .i64 (bu+1))) (cond (aO ((((List.getD x4.2.1 bu.toNat aV).2).2).1) (2:Int)) ((F60 N x3 x4 ((List.getD x4.2.1 bu.toNat aV).1)).bind λr5=>(jN N r5.1).bind λr6=>(xU N (5:Int) ((List.getD x4.2.1 bu.toNat aV).1) (2:Int) (0:Int) r6).bind λr7=>cond (small (List.length x9+List.length r7)) (u9 x2 x3 x4 x6 x8 (x9++r7) bu (List.getD x4.2.1 bu.toNat aV)) (none)) (u9 x2 x3 x4 x6 x8 x9 bu (List.getD x4.2.1 bu.toNat aV)))) (none)) ((xT N x4 x8 x9).bind λDY=>some (DY.1,DY.2))
def mF.l8(N:Nat):Nat→mF.gK
 |0,_,_,_,_,_,_,_=>none
 |n+1,x2,x3,x4,x6,x8,x9,bu=>mF.xR N (mF.AU N (mF.l8 N n)) (mF.l8 N n) x2 x3 x4 x6 x8 x9 bu
def mF.b(N:Nat)(BO:mF.gK)(a0:ae)(a1:aq)(a2:Int):Option (aq×(Int)):=
 (fW N a0 a1).bind λr1=>cond (!r1) (some ((cm,(c8,(bH,(bH,(dC,(dP,())))))),(1:Int))) ((Hz N a1 a2).bind λr2=>cond (aO r2 0) (some ((cm,(c8,(bH,(bH,(dC,(dP,())))))),(3:Int))) (BO a2 a0 a1 (cm,(c8,(bH,(bH,(dC,(dP,())))))) ([]) ([]) (0:Int)))
def mF(N:Nat)(a0:ae)(a1:aq)(a2:Int):Option (aq×(Int)):=mF.b N (mF.l8 N N) a0 a1 a2
abbrev q7.bM:=ae→aq→o0→Int→Option (o0×(Int))
def q7.dV(N:Nat)(bO:q7.bM)(x2:ae)(x3:aq)(x6:o0)(x7:Int):Option (o0×(Int)):=
 cond (aY x7 (List.length x2.1:Int)) (cond (ba x7 (List.length x2.1)) (cond (ba ((List.getD x2.1 x7.toNat aV).1) (List.length x6)) ((Bo N x3.2.2.2.1 (0:Int) x7).bind λr4=>(jN N r4).bind λr5=>cond (ba x7 (List.length x3.2.2.2.2.1)) ((jN N (List.getD x3.2.2.2.2.1 x7.toNat (0:Int))).bind λr6=>(jJ N r5 r6).bind λr7=>(yX N (List.getD x6 ((List.getD x2.1 x7.toNat aV).1).toNat (false,pb)) r7).bind λr8=>cond (ba ((List.getD x2.1 x7.toNat aV).1) (List.length x6)) (bO x2 x3 (List.set x6 ((List.getD x2.1 x7.toNat aV).1).toNat r8) (W .i64 (x7+1))) (none)) (none)) (none)) (none)) (some (x6,(0:Int)))
def q7.l5(N:Nat):Nat→q7.bM
 |0,_,_,_,_=>none
 |n+1,x2,x3,x6,x7=>q7.dV N (q7.l5 N n) x2 x3 x6 x7
def q7.b(N:Nat)(eT:q7.bM)(a0:ae)(a1:aq):Option (o0×(Int)):=
 (fW N a0 a1).bind λr1=>cond (!r1) (some ([],(1:Int))) (cond (jR 4 4) (eT a0 a1 (List.replicate (4:Int).toNat (false,pb)) (0:Int)) (none))
def q7(N:Nat)(a0:ae)(a1:aq):Option (o0×(Int)):=q7.b N (q7.l5 N N) a0 a1
abbrev oV.bM:=Int→ae→(List (Int))→Int→Option (List (Int))
def oV.dV(N:Nat)(bO:oV.bM)(x1:Int)(x2:ae)(x5:List (Int))(x6:Int):Option (List (Int)):=
 cond (aY x6 (List.length x2.1:Int)) (cond (ba x6 (List.length x2.1)) (cond (aO ((List.getD x2.1 x6.toNat aV).1) x1) (cond (small (List.length x5+List.length ([x6]))) (bO x1 x2 (x5++([x6])) (W .i64 (x6+1))) (none)) (bO x1 x2 x5 (W .i64 (x6+1)))) (none)) (some x5)
def oV.l5(N:Nat):Nat→oV.bM
 |0,_,_,_,_=>none
 |n+1,x1,x2,x5,x6=>oV.dV N (oV.l5 N n) x1 x2 x5 x6
def oV.b(N:Nat)(eT:oV.bM)(a0:ae)(a1:Int):Option (List (Int)):=
 (lR N a0).bind λr1=>cond (!r1) (some ([])) (eT a1 a0 ([]) (0:Int))
def oV(N:Nat)(a0:ae)(a1:Int):Option (List (Int)):=oV.b N (oV.l5 N N) a0 a1
abbrev pk.bD:=(List (Int))→(List (Int))→Int→Int→Option ((List (Int))×(Int))
def pk.dv(N:Nat)(cr:pk.bD)(x0:List (Int))(x4:List (Int))(x5:Int)(x6:Int):Option ((List (Int))×(Int)):=
 cond (dj 0 x6) (cond (aY 32 0) (none) (cond (ba x6 (List.length x0)) (let v5:Int:=qC .or .u64 (W .u64 (shl .u64 x5 32)) (List.getD x0 x6.toNat (0:Int));cond (aY 1 0) (none) (cond (ba x6 (List.length x4)) (cr x0 (List.set x4 x6.toNat (shr .u64 v5 1)) (qC .and .u64 v5 1) (W .i64 (x6-1))) (none))) (none))) ((nU N x4).bind λkK=>some (kK,x5))
def pk.l4(N:Nat):Nat→pk.bD
 |0,_,_,_,_=>none
 |n+1,x0,x4,x5,x6=>pk.dv N (pk.l4 N n) x0 x4 x5 x6
def pk.b(N:Nat)(eB:pk.bD)(a0:List (Int)):Option ((List (Int))×(Int)):=
 cond (jR (List.length a0:Int) (List.length a0:Int)) (eB a0 (List.replicate (List.length a0:Int).toNat (0:Int)) (0:Int) (W .i64 ((List.length a0:Int)-1))) (none)
def pk(N:Nat)(a0:List (Int)):Option ((List (Int))×(Int)):=pk.b N (pk.l4 N N) a0
abbrev il.mc:=aH→aH→aH→aH→(List (Int))→aH→aH→Int→Option (aH×aH)
abbrev il.dQ:=aH→aH→aH→aH→(List (Int))→(List (Int))→Option (aH×aH)
def il.xp(N:Nat)(rC:il.mc)(x2:aH)(x3:aH)(x4:aH)(x5:aH)(x6:List (Int))(bu:aH)(aZ:aH)(bf:Int):Option (aH×aH):=
 cond (dj 0 bf) ((yX N bu bu).bind λr6=>(yX N aZ aZ).bind λr7=>cond (ba bf (List.length x6)) (cond (aO (List.getD x6 bf.toNat (0:Int)) (1:Int)) ((jN N (1:Int)).bind λr8=>(yX N r7 r8).bind λr9=>(Pv N r9 x3).bind λkK=>cond (dj 0 kK) ((Rz N r9 x3).bind λnI=>(jN N (1:Int)).bind λoE=>(yX N r6 oE).bind λqm=>rC x2 x3 x4 x5 x6 qm nI (W .i64 (bf-1))) (rC x2 x3 x4 x5 x6 r6 r9 (W .i64 (bf-1)))) ((Pv N r7 x3).bind λxF=>cond (dj 0 xF) ((Rz N r7 x3).bind λAV=>(jN N (1:Int)).bind λu6=>(yX N r6 u6).bind λOa=>rC x2 x3 x4 x5 x6 Oa AV (W .i64 (bf-1))) (rC x2 x3 x4 x5 x6 r6 r7 (W .i64 (bf-1))))) (none)) (cond (!x2.1) (some (bu,aZ)) ((RA N aZ).bind λKR=>cond (aO KR 0) ((Tk N bu).bind λCL=>some (CL,aZ)) ((Tk N bu).bind λLd=>(jN N (1:Int)).bind λGP=>(Rz N Ld GP).bind λCO=>(Rz N x3 aZ).bind λN2=>some (CO,N2))))
def il.l9(N:Nat):Nat→il.mc
 |0,_,_,_,_,_,_,_,_=>none
 |n+1,x2,x3,x4,x5,x6,bu,aZ,bf=>il.xp N (il.l9 N n) x2 x3 x4 x5 x6 bu aZ bf
def il.nC(N:Nat)(yU:il.mc)(dn:il.dQ)(x2:aH)(x3:aH)(x4:aH)(x5:aH)(x6:List (Int))(x7:List (Int)):Option (aH×aH):=
 cond (aY 0 (List.length x7:Int)) ((pk N x7).bind λr2=>cond (small (List.length x6+List.length ([r2.2]))) (dn x2 x3 x4 x5 (x6++([r2.2])) r2.1) (none)) (yU x2 x3 x4 x5 x6 (false,pb) (false,pb) (W .i64 ((List.length x6:Int)-1)))
def il.l3(N:Nat):Nat→il.dQ
 |0,_,_,_,_,_,_=>none
 |n+1,x2,x3,x4,x5,x6,x7=>il.nC N (il.l9 N N) (il.l3 N n) x2 x3 x4 x5 x6 x7
def il.b(N:Nat)(oj:il.dQ)(a0:aH)(a1:aH):Option (aH×aH):=
 oj a0 a1 (false,pb) (false,pb) ([]) a0.2.1
def il(N:Nat)(a0:aH)(a1:aH):Option (aH×aH):=il.b N (il.l3 N N) a0 a1
abbrev iM.Gt:=Int→ae→aq→o0→aM→Int→(List (Int))→Int→Option (aM×(Int))
abbrev iM.ju:=Int→ae→aq→o0→aM→Int→Option (aM×(Int))
def iM.uI(N:Nat)(ko:iM.ju)(x2:Int)(x3:ae)(x4:aq)(x8:o0)(bu:aM)(aZ:Int)(bf:List (Int))(eN:Int):Option (aM×(Int)):=
 cond (aO eN 0) (ko x2 x3 x4 x8 bu (W .i64 (aZ+1))) (cond (ba 0 (List.length bf)) (cond (ba aZ (List.length x8)) ((RA N (List.getD x8 aZ.toNat (false,pb))).bind λxV=>cond (aY 0 xV) (cond (small (List.length bu+List.length ([(x2,(List.getD bf (0:Int).toNat (0:Int),((2:Int),(eN,()))))]))) (ko (W .i64 (x2+1)) x3 x4 x8 (bu++([(x2,(List.getD bf (0:Int).toNat (0:Int),((2:Int),(eN,()))))])) (W .i64 (aZ+1))) (none)) (cond (small (List.length bu+List.length ([(x2,(List.getD bf (0:Int).toNat (0:Int),((1:Int),(eN,()))))]))) (ko (W .i64 (x2+1)) x3 x4 x8 (bu++([(x2,(List.getD bf (0:Int).toNat (0:Int),((1:Int),(eN,()))))])) (W .i64 (aZ+1))) (none))) (none)) (none))
def iM.AU(N:Nat)(ko:iM.ju)(x2:Int)(x3:ae)(x4:aq)(x8:o0)(bu:aM)(aZ:Int)(bf:List (Int))(eN:Int):Option (aM×(Int)):=iM.uI N ko x2 x3 x4 x8 bu aZ bf eN
def iM.ud(N:Nat)(u9:iM.Gt)(ko:iM.ju)(x2:Int)(x3:ae)(x4:aq)(x8:o0)(bu:aM)(aZ:Int):Option (aM×(Int)):=
 cond (aY aZ 4) ((oV N x3 aZ).bind λr3=>cond (ba aZ (List.length x8)) ((V4 N (List.getD x8 aZ.toNat (false,pb))).bind λr4=>cond (aO (List.length r3:Int) 0) (ko x2 x3 x4 x8 bu (W .i64 (aZ+1))) ((jN N x3.2.2.2.2.2.2.1).bind λr6=>(Pv N r4 r6).bind λr7=>cond (dj r7 0) (ko x2 x3 x4 x8 bu (W .i64 (aZ+1))) (cond (ba 0 (List.length r3)) (cond (ba (List.getD r3 (0:Int).toNat (0:Int)) (List.length x4.2.2.2.2.1)) ((jN N (List.getD x4.2.2.2.2.1 (List.getD r3 (0:Int).toNat (0:Int)).toNat (0:Int))).bind λr9=>(il N r4 r9).bind λkK=>(wo N kK.1).bind λnI=>cond (!nI.2) (u9 x2 x3 x4 x8 bu aZ r3 (1000000000:Int)) (cond (aY 1000000000 nI.1) (u9 x2 x3 x4 x8 bu aZ r3 (1000000000:Int)) (u9 x2 x3 x4 x8 bu aZ r3 nI.1))) (none)) (none)))) (none)) (some (bu,(0:Int)))
def iM.l6(N:Nat):Nat→iM.ju
 |0,_,_,_,_,_,_=>none
 |n+1,x2,x3,x4,x8,bu,aZ=>iM.ud N (iM.AU N (iM.l6 N n)) (iM.l6 N n) x2 x3 x4 x8 bu aZ
def iM.b(N:Nat)(w3:iM.ju)(a0:ae)(a1:aq)(a2:Int):Option (aM×(Int)):=
 (q7 N a0 a1).bind λr1=>cond (!aO r1.2 0) (some ([],(1:Int))) (cond (aY a2 1) (some ([],(1:Int))) (cond (aY 1099511627772 a2) (some ([],(1:Int))) (w3 a2 a0 a1 r1.1 ([]) (0:Int))))
def iM(N:Nat)(a0:ae)(a1:aq)(a2:Int):Option (aM×(Int)):=iM.b N (iM.l6 N N) a0 a1 a2
def aaf(N:Nat)(a0:bX):Option (Bool):=
 cond (dj 1 a0.1) (cond (dj a0.1 1099511627776) (cond (dj 0 a0.2.1) (cond (aY a0.2.1 6) (cond (aO a0.2.2.1 1) (cond (dj 1 a0.2.2.2.1) (some (dj a0.2.2.2.1 1000000000)) (some false)) (cond (aO a0.2.2.1 2) (cond (dj 1 a0.2.2.2.1) (some (dj a0.2.2.2.1 1000000000)) (some false)) (some false))) (some false)) (some false)) (some false)) (some false)
abbrev pA.X5:=Int→ae→aq→bX→aq→bX→sK→Option (aq×bX×(Int))
def pA.Nq(N:Nat)(x4:Int)(x6:ae)(x7:aq)(x8:bX)(bf:aq)(bY:bX)(fp:sK):Option (aq×bX×(Int)):=
 (gv N x6 x7 ([fp])).bind λr6=>cond (!aO r6.2 0) (some ((cm,(c8,(bH,(bH,(dC,(dP,())))))),aV,r6.2)) (some (r6.1,(x8.1,(x8.2.1,(x8.2.2.1,((W .i64 (x8.2.2.2.1-x4)),x8.2.2.2.2)))),(0:Int)))
def pA.UR(N:Nat)(x4:Int)(x6:ae)(x7:aq)(x8:bX)(bf:aq)(bY:bX)(fp:sK):Option (aq×bX×(Int)):=pA.Nq N x4 x6 x7 x8 bf bY fp
def pA.b(N:Nat)(N0:pA.X5)(a0:ae)(a1:aq)(a2:bX)(a3:Int)(a4:Int)(a5:Int):Option (aq×bX×(Int)):=
 (fW N a0 a1).bind λr1=>cond (!r1) (some ((cm,(c8,(bH,(bH,(dC,(dP,())))))),aV,(1:Int))) ((aaf N a2).bind λr2=>cond (!r2) (some ((cm,(c8,(bH,(bH,(dC,(dP,())))))),aV,(1:Int))) (cond (aY a4 1) (some ((cm,(c8,(bH,(bH,(dC,(dP,())))))),aV,(1:Int))) (cond (aY 1000000000 a4) (some ((cm,(c8,(bH,(bH,(dC,(dP,())))))),aV,(1:Int))) (cond (aY a5 1) (some ((cm,(c8,(bH,(bH,(dC,(dP,())))))),aV,(1:Int))) (cond (aY 1000000000000 a5) (some ((cm,(c8,(bH,(bH,(dC,(dP,())))))),aV,(1:Int))) (cond (aY a2.2.2.2.1 a4) (some ((cm,(c8,(bH,(bH,(dC,(dP,())))))),aV,(9:Int))) (cond (aY a3 1) (some ((cm,(c8,(bH,(bH,(dC,(dP,())))))),aV,(1:Int))) (cond (aY 24 a3) (some ((cm,(c8,(bH,(bH,(dC,(dP,())))))),aV,(1:Int))) ((WZ N a0 a1 (a2.1,(a3,(a2.2.1,((W .i64 ((3:Int)-a2.2.2.1)),(a4,(a5,()))))))).bind λr4=>cond (!aO r4 0) (some ((cm,(c8,(bH,(bH,(dC,(dP,())))))),aV,r4)) (cond (aO a2.2.2.1 2) (N0 a4 a0 a1 a2 (cm,(c8,(bH,(bH,(dC,(dP,())))))) aV (a3,((0:Int),(a2.2.1,(a4,(a5,())))))) (N0 a4 a0 a1 a2 (cm,(c8,(bH,(bH,(dC,(dP,())))))) aV ((0:Int),(a3,(a2.2.1,(a4,(a5,()))))))))))))))))
def pA(N:Nat)(a0:ae)(a1:aq)(a2:bX)(a3:Int)(a4:Int)(a5:Int):Option (aq×bX×(Int)):=pA.b N (pA.UR N) a0 a1 a2 a3 a4 a5
abbrev ny.bM:=ae→aQ→gJ→aQ→db→aM→Bool→Int→Int→Option (aQ×db)
def ny.dV(N:Nat)(bO:ny.bM)(x3:ae)(x4:aQ)(x5:gJ)(x6:aQ)(x7:db)(x8:aM)(x9:Bool)(bu:Int)(aZ:Int):Option (aQ×db):=
 cond (aY aZ (List.length x4.2.2.2.1.2.2.2.2.1:Int)) (cond (ba aZ (List.length x4.2.2.2.1.2.2.2.2.1)) (cond (aO ((List.getD x4.2.2.2.1.2.2.2.2.1 aZ.toNat aV).1) x5.2.2.2.2.2.1) ((pA N x3 x4.2.2.1 (List.getD x4.2.2.2.1.2.2.2.2.1 aZ.toNat aV) x5.2.2.1 x5.2.2.2.2.2.2.1 x5.2.2.2.2.2.2.2.1).bind λr2=>cond (!aO r2.2.2 0) ((fm N r2.2.2).bind λr3=>some (x4,r3)) (cond (aY 0 r2.2.1.2.2.2.1) (cond (small (List.length x8+List.length ([r2.2.1]))) (bO x3 (x4.1,(x4.2.1,(r2.1,x4.2.2.2))) x5 x6 x7 (x8++([r2.2.1])) true r2.2.1.2.2.2.1 (W .i64 (aZ+1))) (none)) (bO x3 (x4.1,(x4.2.1,(r2.1,x4.2.2.2))) x5 x6 x7 x8 true r2.2.1.2.2.2.1 (W .i64 (aZ+1))))) (cond (aY 0 (((((List.getD x4.2.2.2.1.2.2.2.2.1 aZ.toNat aV).2).2).2).1)) (cond (small (List.length x8+List.length ([List.getD x4.2.2.2.1.2.2.2.2.1 aZ.toNat aV]))) (bO x3 x4 x5 x6 x7 (x8++([List.getD x4.2.2.2.1.2.2.2.2.1 aZ.toNat aV])) x9 bu (W .i64 (aZ+1))) (none)) (bO x3 x4 x5 x6 x7 x8 x9 bu (W .i64 (aZ+1))))) (none)) (cond (!x9) ((fm N (3:Int)).bind λkK=>some (x4,kK)) (some ((x4.1,(x4.2.1,(x4.2.2.1,((x4.2.2.2.1.1,(x4.2.2.2.1.2.1,(x4.2.2.2.1.2.2.1,(x4.2.2.2.1.2.2.2.1,(x8,x4.2.2.2.1.2.2.2.2.2))))),x4.2.2.2.2)))),((0:Int),((0:Int),(bu,()))))))
def ny.l5(N:Nat):Nat→ny.bM
 |0,_,_,_,_,_,_,_,_,_=>none
 |n+1,x3,x4,x5,x6,x7,x8,x9,bu,aZ=>ny.dV N (ny.l5 N n) x3 x4 x5 x6 x7 x8 x9 bu aZ
def ny.b(N:Nat)(eT:ny.bM)(a0:ae)(a1:aQ)(a2:gJ):Option (aQ×db):=
 eT a0 a1 a2 ((0:Int),((0:Int),((cm,(c8,(bH,(bH,(dC,(dP,())))))),(((0:Int),((0:Int),((0:Int),((0:Int),(c8,(([]:List ((Int)×((List ((Int)×((Int)×(Unit))))×((Int)×((Int)×((Int)×((Int)×(Unit)))))))),(c8,(dC,(cm,(cm,())))))))))),(((0:Int),((0:Int),(CT,((0:Int),())))),()))))) bl ([]) false (0:Int) (0:Int)
def ny(N:Nat)(a0:ae)(a1:aQ)(a2:gJ):Option (aQ×db):=ny.b N (ny.l5 N N) a0 a1 a2
abbrev ri.bD:=Int→aH→Int→Option (Int)
def ri.dv(N:Nat)(cr:ri.bD)(x1:Int)(x2:aH)(x5:Int):Option (Int):=
 cond (aY x5 3) ((jN N x5).bind λr3=>(jN N x1).bind λr4=>(jJ N r3 r4).bind λr5=>(Pv N r5 x2).bind λr6=>cond (aY r6 0) (cr x1 x2 (W .i64 (x5+1))) (some x5)) (some x5)
def ri.l4(N:Nat):Nat→ri.bD
 |0,_,_,_=>none
 |n+1,x1,x2,x5=>ri.dv N (ri.l4 N n) x1 x2 x5
def ri.b(N:Nat)(eB:ri.bD)(a0:aH)(a1:Int):Option (Int):=
 (RA N a0).bind λr1=>cond (dj r1 0) (some (0:Int)) (cond (aY a1 1) (some (0:Int)) (eB a1 a0 (1:Int)))
def ri(N:Nat)(a0:aH)(a1:Int):Option (Int):=ri.b N (ri.l4 N N) a0 a1
abbrev py.bD:=(List (Int))→Int→Option (Bool)
def py.dv(N:Nat)(cr:py.bD)(x1:List (Int))(x5:Int):Option (Bool):=
 cond (aY x5 (List.length x1:Int)) (cond (ba x5 (List.length x1)) (cond (aY (List.getD x1 x5.toNat (0:Int)) (0:Int)) (some true) (cr x1 (W .i64 (x5+1)))) (none)) (some false)
def py.l4(N:Nat):Nat→py.bD
 |0,_,_=>none
 |n+1,x1,x5=>py.dv N (py.l4 N n) x1 x5
def py.b(N:Nat)(eB:py.bD)(a0:Int)(a1:List (Int)):Option (Bool):=
 cond (aY a0 0) (some true) (cond (aY 64 (List.length a1:Int)) (some true) (eB a1 (0:Int)))
def py(N:Nat)(a0:Int)(a1:List (Int)):Option (Bool):=py.b N (py.l4 N N) a0 a1
abbrev ph.dQ:=(List (Int))→aH→aH→Int→Option aH
def ph.nC(N:Nat)(dn:ph.dQ)(x0:List (Int))(x2:aH)(x3:aH)(x4:Int):Option aH:=
 cond (aY x4 (List.length x0:Int)) (cond (ba x4 (List.length x0)) ((jN N (List.getD x0 x4.toNat (0:Int))).bind λr2=>(yX N x3 r2).bind λr3=>dn x0 x2 r3 (W .i64 (x4+1))) (none)) (some x3)
def ph.l3(N:Nat):Nat→ph.dQ
 |0,_,_,_,_=>none
 |n+1,x0,x2,x3,x4=>ph.nC N (ph.l3 N n) x0 x2 x3 x4
def ph.b(N:Nat)(oj:ph.dQ)(a0:List (Int)):Option aH:=
 oj a0 (false,pb) (false,pb) (0:Int)
def ph(N:Nat)(a0:List (Int)):Option aH:=ph.b N (ph.l3 N N) a0
abbrev fy.X6:=(List (Int))→(List (Int))→Int→Int→Option (List (Int))
abbrev fy.ju:=(List (Int))→(List (Int))→Int→Int→Option (List (Int))
abbrev fy.dQ:=(List (Int))→(List (Int))→Int→Option (List (Int))
def fy.Wu(N:Nat)(dn:fy.dQ)(x0:List (Int))(x3:List (Int))(x4:Int)(x5:Int):Option (List (Int)):=
 cond (jS 0 x5 (List.length x3:Int) (List.length x3:Int)) (let v5:List (Int):=List.drop (0:Int).toNat (List.take x5.toNat x3);cond (small (List.length v5)) (cond (small (List.length v5+List.length ([x4]))) (let v6:List (Int):=v5++([x4]);cond (jS x5 (List.length x3:Int) (List.length x3:Int) (List.length x3:Int)) (let v7:List (Int):=List.drop x5.toNat (List.take (List.length x3:Int).toNat x3);cond (small (List.length v6+List.length v7)) (dn x0 (v6++v7) (W .i64 (x4+1))) (none)) (none)) (none)) (none)) (none)
def fy.j8(N:Nat)(dn:fy.dQ)(x0:List (Int))(x3:List (Int))(x4:Int)(x5:Int):Option (List (Int)):=fy.Wu N dn x0 x3 x4 x5
def fy.ud(N:Nat)(N1:fy.X6)(dn:fy.dQ)(ko:fy.ju)(x0:List (Int))(x3:List (Int))(x4:Int)(x5:Int):Option (List (Int)):=
 cond (aY x5 (List.length x3:Int)) (cond (ba x5 (List.length x3)) (cond (ba (List.getD x3 x5.toNat (0:Int)) (List.length x0)) (cond (ba x4 (List.length x0)) (cond (dj (List.getD x0 x4.toNat (0:Int)) (List.getD x0 (List.getD x3 x5.toNat (0:Int)).toNat (0:Int))) (ko x0 x3 x4 (W .i64 (x5+1))) (N1 x0 x3 x4 x5)) (none)) (none)) (none)) (N1 x0 x3 x4 x5)
def fy.l6(N:Nat)(dn:fy.dQ):Nat→fy.ju
 |0,_,_,_,_=>none
 |n+1,x0,x3,x4,x5=>fy.ud N (fy.j8 N dn) dn (fy.l6 N dn n) x0 x3 x4 x5
def fy.nC(N:Nat)(w3:fy.ju)(dn:fy.dQ)(x0:List (Int))(x3:List (Int))(x4:Int):Option (List (Int)):=
 cond (aY x4 (List.length x0:Int)) (w3 x0 x3 x4 (0:Int)) (some x3)
def fy.l3(N:Nat):Nat→fy.dQ
 |0,_,_,_=>none
 |n+1,x0,x3,x4=>fy.nC N (fy.l6 N (fy.l3 N n) N) (fy.l3 N n) x0 x3 x4
def fy.b(N:Nat)(oj:fy.dQ)(a0:List (Int)):Option (List (Int)):=
 oj a0 ([]) (0:Int)
def fy(N:Nat)(a0:List (Int)):Option (List (Int)):=fy.b N (fy.l3 N N) a0
abbrev fL.rB:=(List (Int))→Int→(List (Int))→Int→Option ((List (Int))×(Int))
abbrev fL.xa:=Int→(List (Int))→aH→(List (Int))→(List (Int))→Int→Int→Option ((List (Int))×(Int))
abbrev fL.X8:=Int→(List (Int))→aH→Option ((List (Int))×(Int))
def fL.vl(N:Nat)(Gl:fL.rB)(x9:List (Int))(aZ:Int)(dL:List (Int))(eN:Int):Option ((List (Int))×(Int)):=
 cond (aY eN (List.length dL:Int)) (cond (aY 0 aZ) (cond (ba eN (List.length dL)) (cond (ba (List.getD dL eN.toNat (0:Int)) (List.length x9)) (cond (ba (List.getD dL eN.toNat (0:Int)) (List.length x9)) (Gl (List.set x9 (List.getD dL eN.toNat (0:Int)).toNat (W .i64 ((List.getD x9 (List.getD dL eN.toNat (0:Int)).toNat (0:Int))+1))) (W .i64 (aZ-1)) dL (W .i64 (eN+1))) (none)) (none)) (none)) (some (x9,(0:Int)))) (some (x9,(0:Int)))
def fL.wF(N:Nat):Nat→fL.rB
 |0,_,_,_,_=>none
 |n+1,x9,aZ,dL,eN=>fL.vl N (fL.wF N n) x9 aZ dL eN
def fL.FL(N:Nat)(Gm:fL.rB)(CQ:fL.xa)(x0:Int)(x1:List (Int))(x6:aH)(x9:List (Int))(bu:List (Int))(aZ:Int)(bf:Int):Option ((List (Int))×(Int)):=
 cond (aY bf (List.length x1:Int)) ((jN N x0).bind λkK=>cond (ba bf (List.length x1)) ((jN N (List.getD x1 bf.toNat (0:Int))).bind λnI=>(jJ N kK nI).bind λoE=>(il N oE x6).bind λqm=>(wo N qm.1).bind λxV=>cond (ba bf (List.length x9)) (let v15:List (Int):=List.set x9 bf.toNat xV.1;(wo N qm.2).bind λxF=>cond (ba bf (List.length bu)) (cond (ba bf (List.length v15)) (CQ x0 x1 x6 v15 (List.set bu bf.toNat xF.1) (W .i64 (aZ-(List.getD v15 bf.toNat (0:Int)))) (W .i64 (bf+1))) (none)) (none)) (none)) (none)) ((fy N bu).bind λN3=>Gm x9 aZ N3 (0:Int))
def fL.IG(N:Nat):Nat→fL.xa
 |0,_,_,_,_,_,_,_=>none
 |n+1,x0,x1,x6,x9,bu,aZ,bf=>fL.FL N (fL.wF N N) (fL.IG N n) x0 x1 x6 x9 bu aZ bf
def fL.Tj(N:Nat)(N9:fL.xa)(x0:Int)(x1:List (Int))(x6:aH):Option ((List (Int))×(Int)):=
 (wo N x6).bind λr5=>cond (!r5.2) (some ([],(2:Int))) (cond (jR (List.length x1:Int) (List.length x1:Int)) (let v6:List (Int):=List.replicate (List.length x1:Int).toNat (0:Int);cond (jR (List.length x1:Int) (List.length x1:Int)) ((RA N x6).bind λr8=>cond (aO r8 0) (some (v6,(0:Int))) (N9 x0 x1 x6 v6 (List.replicate (List.length x1:Int).toNat (0:Int)) x0 (0:Int))) (none)) (none))
def fL.j6(N:Nat)(x0:Int)(x1:List (Int))(x6:aH):Option ((List (Int))×(Int)):=fL.Tj N (fL.IG N N) x0 x1 x6
def fL.b(N:Nat)(KS:fL.X8)(a0:Int)(a1:List (Int)):Option ((List (Int))×(Int)):=
 (py N a0 a1).bind λr1=>cond (r1) (some ([],(1:Int))) ((ph N a1).bind λr2=>(RA N r2).bind λr3=>cond (aO r3 0) (cond (!aO a0 0) (some ([],(1:Int))) (KS a0 a1 r2)) (KS a0 a1 r2))
def fL(N:Nat)(a0:Int)(a1:List (Int)):Option ((List (Int))×(Int)):=fL.b N (fL.j6 N) a0 a1
abbrev q4.bM:=Int→Int→(List (Int))→Int→Option ((List (Int))×(Int))
def q4.dV(N:Nat)(bO:q4.bM)(x0:Int)(x1:Int)(x6:List (Int))(x7:Int):Option ((List (Int))×(Int)):=
 cond (aY x7 x1) (cond (ba x7 (List.length x6)) (bO x0 x1 (List.set x6 x7.toNat (1:Int)) (W .i64 (x7+1))) (none)) ((fL N x0 x6).bind λr5=>some (r5.1,r5.2))
def q4.l5(N:Nat):Nat→q4.bM
 |0,_,_,_,_=>none
 |n+1,x0,x1,x6,x7=>q4.dV N (q4.l5 N n) x0 x1 x6 x7
def q4.b(N:Nat)(eT:q4.bM)(a0:Int)(a1:Int):Option ((List (Int))×(Int)):=
 cond (aY a0 0) (some ([],(1:Int))) (cond (aY a1 1) (some ([],(1:Int))) (cond (aY 64 a1) (some ([],(1:Int))) (cond (jR a1 a1) (eT a0 a1 (List.replicate a1.toNat (0:Int)) (0:Int)) (none))))
def q4(N:Nat)(a0:Int)(a1:Int):Option ((List (Int))×(Int)):=q4.b N (q4.l5 N N) a0 a1
abbrev bR.am7:=Int→ae→aD→bw→Int→aD→Int→Int→ik→aD→Int→(List (Int))→Option (bw×(Int))
abbrev bR.Yd:=Int→ae→aD→bw→Int→aD→Int→Int→ik→aD→Int→Int→Option (bw×(Int))
abbrev bR.w6:=Int→ae→aD→bw→Int→aD→Int→Int→ik→aD→Int→Option (bw×(Int))
abbrev bR.tH:=Int→ae→aD→bw→Int→aD→Int→Int→Option (bw×(Int))
abbrev bR.fV:=Int→ae→aD→bw→Int→aD→aH→Int→Option (bw×(Int))
abbrev bR.gK:=Int→ae→aD→bw→Int→Option (bw×(Int))
def bR.ahU(N:Nat)(eX:bR.gK)(my:bR.tH)(vb:bR.w6)(x2:Int)(x3:ae)(x8:aD)(x9:bw)(bu:Int)(aZ:aD)(cw:Int)(dL:Int)(eN:ik)(uR:aD)(fp:Int)(nD:List (Int)):Option (bw×(Int)):=
 cond (ba dL (List.length nD)) (cond (!aO (List.getD nD dL.toNat (0:Int)) (0:Int)) (cond (ba fp (List.length aZ)) (cond (ba dL (List.length nD)) (cond (small (List.length uR+List.length ([((List.getD aZ fp.toNat cz).1,(List.getD nD dL.toNat (0:Int),()))]))) (vb x2 x3 x8 x9 bu aZ cw dL (eN.1,(cm,eN.2.2)) (uR++([((List.getD aZ fp.toNat cz).1,(List.getD nD dL.toNat (0:Int),()))])) (W .i64 (fp+1))) (none)) (none)) (none)) (vb x2 x3 x8 x9 bu aZ cw dL eN uR (W .i64 (fp+1)))) (none)
def bR.j32(N:Nat)(eX:bR.gK)(my:bR.tH)(vb:bR.w6)(x2:Int)(x3:ae)(x8:aD)(x9:bw)(bu:Int)(aZ:aD)(cw:Int)(dL:Int)(eN:ik)(uR:aD)(fp:Int)(nD:List (Int)):Option (bw×(Int)):=bR.ahU N eX my vb x2 x3 x8 x9 bu aZ cw dL eN uR fp nD
def bR.Nz(N:Nat)(afZ:bR.am7)(eX:bR.gK)(my:bR.tH)(vb:bR.w6)(x2:Int)(x3:ae)(x8:aD)(x9:bw)(bu:Int)(aZ:aD)(cw:Int)(dL:Int)(eN:ik)(uR:aD)(fp:Int)(mG:Int):Option (bw×(Int)):=
 (q4 N mG cw).bind λxF=>cond (ba fp (List.length aZ)) (cond (aY (((List.getD aZ fp.toNat cz).2).1) (0:Int)) (cond (ba dL (List.length xF.1)) (cond (ba dL (List.length xF.1)) (afZ x2 x3 x8 x9 bu aZ cw dL eN uR fp (List.set xF.1 dL.toNat (W .i64 (0-(List.getD xF.1 dL.toNat (0:Int)))))) (none)) (none)) (afZ x2 x3 x8 x9 bu aZ cw dL eN uR fp xF.1)) (none)
def bR.T7(N:Nat)(eX:bR.gK)(my:bR.tH)(vb:bR.w6)(x2:Int)(x3:ae)(x8:aD)(x9:bw)(bu:Int)(aZ:aD)(cw:Int)(dL:Int)(eN:ik)(uR:aD)(fp:Int)(mG:Int):Option (bw×(Int)):=bR.Nz N (bR.j32 N eX my vb) eX my vb x2 x3 x8 x9 bu aZ cw dL eN uR fp mG
def bR.Nu(N:Nat)(Ob:bR.Yd)(eX:bR.gK)(my:bR.tH)(vb:bR.w6)(x2:Int)(x3:ae)(x8:aD)(x9:bw)(bu:Int)(aZ:aD)(cw:Int)(dL:Int)(eN:ik)(uR:aD)(fp:Int):Option (bw×(Int)):=
 cond (aY fp (List.length aZ:Int)) (cond (ba fp (List.length aZ)) (cond (aY (((List.getD aZ fp.toNat cz).2).1) (0:Int)) (Ob x2 x3 x8 x9 bu aZ cw dL eN uR fp (W .i64 (0-(((List.getD aZ fp.toNat cz).2).1)))) (Ob x2 x3 x8 x9 bu aZ cw dL eN uR fp (((List.getD aZ fp.toNat cz).2).1))) (none)) (cond (aO (List.length uR:Int) 0) (my x2 x3 x8 x9 bu aZ cw (W .i64 (dL+1))) ((Qi N x3 uR).bind λLd=>(Tk N Ld.1).bind λGP=>(wo N GP).bind λCO=>cond (!CO.2) (some ([],(2:Int))) (cond (small (List.length x9+List.length ([(eN.1,(uR,(CO.1,eN.2.2.2)))]))) (my (W .i64 (x2+1)) x3 x8 (x9++([(eN.1,(uR,(CO.1,eN.2.2.2)))])) bu aZ cw (W .i64 (dL+1))) (none))))
def bR.La(N:Nat)(eX:bR.gK)(my:bR.tH):Nat→bR.w6
 |0,_,_,_,_,_,_,_,_,_,_,_=>none
 |n+1,x2,x3,x8,x9,bu,aZ,cw,dL,eN,uR,fp=>bR.Nu N (bR.T7 N eX my (bR.La N eX my n)) eX my (bR.La N eX my n) x2 x3 x8 x9 bu aZ cw dL eN uR fp
def bR.Ny(N:Nat)(Yc:bR.w6)(eX:bR.gK)(my:bR.tH)(x2:Int)(x3:ae)(x8:aD)(x9:bw)(bu:Int)(aZ:aD)(cw:Int)(dL:Int):Option (bw×(Int)):=
 cond (aY dL cw) (Yc x2 x3 x8 x9 bu aZ cw dL (x2,(cm,((0:Int),((1:Int),cz)))) cm (0:Int)) (eX x2 x3 x8 x9 (W .i64 (bu+1)))
def bR.HA(N:Nat)(eX:bR.gK):Nat→bR.tH
 |0,_,_,_,_,_,_,_,_=>none
 |n+1,x2,x3,x8,x9,bu,aZ,cw,dL=>bR.Ny N (bR.La N eX (bR.HA N eX n) N) eX (bR.HA N eX n) x2 x3 x8 x9 bu aZ cw dL
def bR.mE(N:Nat)(Ye:bR.tH)(eX:bR.gK)(gI:bR.fV)(x2:Int)(x3:ae)(x8:aD)(x9:bw)(bu:Int)(aZ:aD)(bf:aH)(bY:Int):Option (bw×(Int)):=
 cond (aY bY (List.length x8:Int)) (cond (ba bY (List.length x8)) (cond (ba ((List.getD x8 bY.toNat cz).1) (List.length x3.1)) (cond (aO ((List.getD x3.1 ((List.getD x8 bY.toNat cz).1).toNat aV).1) bu) (cond (ba bY (List.length x8)) (cond (small (List.length aZ+List.length ([List.getD x8 bY.toNat cz]))) (cond (ba bY (List.length x8)) ((jN N (((List.getD x8 bY.toNat cz).2).1)).bind λr6=>(V4 N r6).bind λr7=>(yX N bf r7).bind λr8=>gI x2 x3 x8 x9 bu (aZ++([List.getD x8 bY.toNat cz])) r8 (W .i64 (bY+1))) (none)) (none)) (none)) (gI x2 x3 x8 x9 bu aZ bf (W .i64 (bY+1)))) (none)) (none)) ((ri N bf x3.2.2.2.2.2.1).bind λnI=>Ye x2 x3 x8 x9 bu aZ nI (0:Int))
def bR.nG(N:Nat)(eX:bR.gK):Nat→bR.fV
 |0,_,_,_,_,_,_,_,_=>none
 |n+1,x2,x3,x8,x9,bu,aZ,bf,bY=>bR.mE N (bR.HA N eX N) eX (bR.nG N eX n) x2 x3 x8 x9 bu aZ bf bY
def bR.xR(N:Nat)(tG:bR.fV)(eX:bR.gK)(x2:Int)(x3:ae)(x8:aD)(x9:bw)(bu:Int):Option (bw×(Int)):=
 cond (aY bu 4) (tG x2 x3 x8 x9 bu ([]) (false,pb) (0:Int)) (some (x9,(0:Int)))
def bR.l8(N:Nat):Nat→bR.gK
 |0,_,_,_,_,_=>none
 |n+1,x2,x3,x8,x9,bu=>bR.xR N (bR.nG N (bR.l8 N n) N) (bR.l8 N n) x2 x3 x8 x9 bu
def bR.b(N:Nat)(BO:bR.gK)(a0:ae)(a1:aq)(a2:Int):Option (bw×(Int)):=
 (fW N a0 a1).bind λr1=>cond (!r1) (some ([],(1:Int))) (cond (aY a2 1) (some ([],(1:Int))) (cond (aY 1099511627764 a2) (some ([],(1:Int))) ((lj N a1.2.2.2.1 (0:Int)).bind λr2=>cond (aO (List.length r2:Int) 0) (some ([],(3:Int))) (BO a2 a0 r2 ([]) (0:Int)))))
def bR(N:Nat)(a0:ae)(a1:aq)(a2:Int):Option (bw×(Int)):=bR.b N (bR.l8 N N) a0 a1 a2
abbrev rj.bM:=aq→(List (Int))→Int→Option ((List (Int))×(Int))
def rj.dV(N:Nat)(bO:rj.bM)(x3:aq)(x6:List (Int))(x7:Int):Option ((List (Int))×(Int)):=
 cond (aY x7 (List.length x3.1:Int)) (cond (ba x7 (List.length x3.1)) (cond (aO (((List.getD x3.1 x7.toNat cz).2).1) (1:Int)) (cond (ba x7 (List.length x3.1)) ((uy N x3.2.2.1 (6:Int) ((List.getD x3.1 x7.toNat cz).1)).bind λr3=>cond (aY 0 r3) (cond (ba x7 (List.length x3.1)) (cond (small (List.length x6+List.length ([(List.getD x3.1 x7.toNat cz).1]))) (bO x3 (x6++([(List.getD x3.1 x7.toNat cz).1])) (W .i64 (x7+1))) (none)) (none)) (bO x3 x6 (W .i64 (x7+1)))) (none)) (bO x3 x6 (W .i64 (x7+1)))) (none)) (some (x6,(0:Int)))
def rj.l5(N:Nat):Nat→rj.bM
 |0,_,_,_=>none
 |n+1,x3,x6,x7=>rj.dV N (rj.l5 N n) x3 x6 x7
def rj.b(N:Nat)(eT:rj.bM)(a0:ae)(a1:aq):Option ((List (Int))×(Int)):=
 (fW N a0 a1).bind λr1=>cond (!r1) (some ([],(1:Int))) (eT a1 ([]) (0:Int))
def rj(N:Nat)(a0:ae)(a1:aq):Option ((List (Int))×(Int)):=rj.b N (rj.l5 N N) a0 a1
abbrev iK.QP:=bw→ae→Int→ik→Option (Bool)
abbrev iK.bD:=bw→ae→Int→Option (Bool)
def iK.MP(N:Nat)(cr:iK.bD)(x1:bw)(x2:ae)(x5:Int)(x6:ik):Option (Bool):=
 cond (aO x6.2.2.2.1 1) (cond (!aO x6.2.2.2.2.1 0) (some false) (cond (!aO x6.2.2.2.2.2.1 0) (some false) (cr x1 x2 (W .i64 (x5+1))))) (cond (aO x6.2.2.2.1 3) (cond (!aO x6.2.2.2.2.1 0) (some false) (cond (!aO x6.2.2.2.2.2.1 0) (some false) (cr x1 x2 (W .i64 (x5+1))))) (cond (aO x6.2.2.2.1 2) (cond (aY x6.2.2.2.2.1 1) (some false) (cond (aY 12 x6.2.2.2.2.1) (some false) (cond (aY x6.2.2.2.2.2.1 (-1152921504606846976)) (some false) (cond (aY 1152921504606846976 x6.2.2.2.2.2.1) (some false) (cr x1 x2 (W .i64 (x5+1))))))) (some false)))
def iK.j9(N:Nat)(cr:iK.bD)(x1:bw)(x2:ae)(x5:Int)(x6:ik):Option (Bool):=iK.MP N cr x1 x2 x5 x6
def iK.dv(N:Nat)(Gs:iK.QP)(cr:iK.bD)(x1:bw)(x2:ae)(x5:Int):Option (Bool):=
 cond (aY x5 (List.length x1:Int)) (cond (ba x5 (List.length x1)) (cond (aY ((List.getD x1 x5.toNat ((0:Int),(cm,aV))).1) (1:Int)) (some false) (cond (aY 1099511627776 ((List.getD x1 x5.toNat ((0:Int),(cm,aV))).1)) (some false) (cond (aY 0 x5) (let v3:Int:=W .i64 (x5-1);cond (ba v3 (List.length x1)) (cond (dj ((List.getD x1 x5.toNat ((0:Int),(cm,aV))).1) ((List.getD x1 v3.toNat ((0:Int),(cm,aV))).1)) (some false) (cond (aO (List.length (((List.getD x1 x5.toNat ((0:Int),(cm,aV))).2).1):Int) (0:Int)) (some false) ((nc N x2 (((List.getD x1 x5.toNat ((0:Int),(cm,aV))).2).1)).bind λr4=>cond (!r4) (some false) (cond (aY 0 ((((List.getD x1 x5.toNat ((0:Int),(cm,aV))).2).2).1)) (some false) (Gs x1 x2 x5 (List.getD x1 x5.toNat ((0:Int),(cm,aV)))))))) (none)) (cond (aO (List.length (((List.getD x1 x5.toNat ((0:Int),(cm,aV))).2).1):Int) (0:Int)) (some false) ((nc N x2 (((List.getD x1 x5.toNat ((0:Int),(cm,aV))).2).1)).bind λr9=>cond (!r9) (some false) (cond (aY 0 ((((List.getD x1 x5.toNat ((0:Int),(cm,aV))).2).2).1)) (some false) (Gs x1 x2 x5 (List.getD x1 x5.toNat ((0:Int),(cm,aV)))))))))) (none)) (some true)
def iK.l4(N:Nat):Nat→iK.bD
 |0,_,_,_=>none
 |n+1,x1,x2,x5=>iK.dv N (iK.j9 N (iK.l4 N n)) (iK.l4 N n) x1 x2 x5
def iK.b(N:Nat)(eB:iK.bD)(a0:ae)(a1:bw):Option (Bool):=
 (lR N a0).bind λr1=>cond (!r1) (some false) (cond (aY 12 (List.length a1:Int)) (some false) (eB a1 a0 (0:Int)))
def iK(N:Nat)(a0:ae)(a1:bw):Option (Bool):=iK.b N (iK.l4 N N) a0 a1
abbrev p6.da:=bw→Int→ik→Int→Option (ik×(Bool))
def p6.gD(N:Nat)(ew:p6.da)(x0:bw)(x1:Int)(x4:ik)(x6:Int):Option (ik×(Bool)):=
 cond (aY x6 (List.length x0:Int)) (cond (ba x6 (List.length x0)) (cond (aO ((List.getD x0 x6.toNat ((0:Int),(cm,aV))).1) x1) (cond (ba x6 (List.length x0)) (some (List.getD x0 x6.toNat ((0:Int),(cm,aV)),true)) (none)) (ew x0 x1 x4 (W .i64 (x6+1)))) (none)) (some (((0:Int),(cm,aV)),false))
def p6.l2(N:Nat):Nat→p6.da
 |0,_,_,_,_=>none
 |n+1,x0,x1,x4,x6=>p6.gD N (p6.l2 N n) x0 x1 x4 x6
def p6.b(N:Nat)(jf:p6.da)(a0:bw)(a1:Int):Option (ik×(Bool)):=
 jf a0 a1 ((0:Int),(cm,aV)) (0:Int)
def p6(N:Nat)(a0:bw)(a1:Int):Option (ik×(Bool)):=p6.b N (p6.l2 N N) a0 a1
abbrev eM.jn:=aD→aD→aD→Int→aH→Int→Option (aD×(Bool))
abbrev eM.eK:=aD→aD→aD→Int→aH→Int→Option (aD×(Bool))
abbrev eM.dQ:=aD→aD→aD→Int→Option (aD×(Bool))
def eM.pt(N:Nat)(dn:eM.dQ)(ly:eM.jn)(x0:aD)(x1:aD)(x6:aD)(x7:Int)(x8:aH)(bu:Int):Option (aD×(Bool)):=
 cond (aY bu (List.length x1:Int)) (cond (ba bu (List.length x1)) (cond (aO ((List.getD x1 bu.toNat cz).1) x7) (cond (ba bu (List.length x1)) ((jN N (((List.getD x1 bu.toNat cz).2).1)).bind λr8=>(yX N x8 r8).bind λr9=>ly x0 x1 x6 x7 r9 (W .i64 (bu+1))) (none)) (ly x0 x1 x6 x7 x8 (W .i64 (bu+1)))) (none)) ((Qa N x8).bind λoE=>cond (!oE.2) (some ([],false)) (cond (!aO oE.1 0) (cond (small (List.length x6+List.length ([(x7,(oE.1,()))]))) (dn x0 x1 (x6++([(x7,(oE.1,()))])) (W .i64 (x7+1))) (none)) (dn x0 x1 x6 (W .i64 (x7+1)))))
def eM.pX(N:Nat)(dn:eM.dQ):Nat→eM.jn
 |0,_,_,_,_,_,_=>none
 |n+1,x0,x1,x6,x7,x8,bu=>eM.pt N dn (eM.pX N dn n) x0 x1 x6 x7 x8 bu
def eM.pj(N:Nat)(w5:eM.jn)(dn:eM.dQ)(eC:eM.eK)(x0:aD)(x1:aD)(x6:aD)(x7:Int)(x8:aH)(x9:Int):Option (aD×(Bool)):=
 cond (aY x9 (List.length x0:Int)) (cond (ba x9 (List.length x0)) (cond (aO ((List.getD x0 x9.toNat cz).1) x7) (cond (ba x9 (List.length x0)) ((jN N (((List.getD x0 x9.toNat cz).2).1)).bind λr3=>(yX N x8 r3).bind λr4=>eC x0 x1 x6 x7 r4 (W .i64 (x9+1))) (none)) (eC x0 x1 x6 x7 x8 (W .i64 (x9+1)))) (none)) (w5 x0 x1 x6 x7 x8 (0:Int))
def eM.l7(N:Nat)(dn:eM.dQ):Nat→eM.eK
 |0,_,_,_,_,_,_=>none
 |n+1,x0,x1,x6,x7,x8,x9=>eM.pj N (eM.pX N dn N) dn (eM.l7 N dn n) x0 x1 x6 x7 x8 x9
def eM.nC(N:Nat)(sN:eM.eK)(dn:eM.dQ)(x0:aD)(x1:aD)(x6:aD)(x7:Int):Option (aD×(Bool)):=
 cond (aY x7 6) (sN x0 x1 x6 x7 (false,pb) (0:Int)) (some (x6,true))
def eM.l3(N:Nat):Nat→eM.dQ
 |0,_,_,_,_=>none
 |n+1,x0,x1,x6,x7=>eM.nC N (eM.l7 N (eM.l3 N n) N) (eM.l3 N n) x0 x1 x6 x7
def eM.b(N:Nat)(oj:eM.dQ)(a0:aD)(a1:aD):Option (aD×(Bool)):=
 oj a0 a1 ([]) (0:Int)
def eM(N:Nat)(a0:aD)(a1:aD):Option (aD×(Bool)):=eM.b N (eM.l3 N N) a0 a1
def ahT(N:Nat)(a0:bq)(a1:Int):Option au:=
 (mC N a0).bind λr1=>cond (!r1) (some ([])) ((gV N a0 a1).bind λr2=>some r2)
abbrev kJ.fV:=aM→ae→aq→bX→ik→Int→Int→Option (Int)
abbrev kJ.asd:=bw→aM→ae→aq→bX→Option (Int)
def kJ.mE(N:Nat)(gI:kJ.fV)(x3:aM)(x5:ae)(x6:aq)(x9:bX)(bf:ik)(cw:Int)(dL:Int):Option (Int):=
 cond (aY dL (List.length x3:Int)) (cond (ba dL (List.length x3)) (cond (aO ((((List.getD x3 dL.toNat aV).2).2).1) x9.2.2.1) (cond (ba dL (List.length x3)) (cond (aO (((List.getD x3 dL.toNat aV).2).1) x9.2.1) (some (4:Int)) (gI x3 x5 x6 x9 bf cw (W .i64 (dL+1)))) (none)) (gI x3 x5 x6 x9 bf cw (W .i64 (dL+1)))) (none)) (cond (aO (List.length x3:Int) 40) (some (5:Int)) ((jN N x9.2.2.2.1).bind λqm=>(jN N (4:Int)).bind λxV=>(jN N bf.2.2.1).bind λwY=>(jJ N xV wY).bind λxF=>(Pv N qm xF).bind λAV=>cond (aY AV 0) (some (11:Int)) ((lj N x6.2.2.2.1 cw).bind λu6=>(eM N u6 bf.2.1).bind λOa=>cond (!Oa.2) (some (2:Int)) ((ahT N x6.2.2.2.2.2.1 cw).bind λN3=>(p4 N x5 Oa.1 N3).bind λDY=>(Hr N x6 cw).bind λKR=>(jN N KR).bind λCL=>(jN N x9.2.2.2.1).bind λLd=>(Rz N CL Ld).bind λGP=>(Pv N GP DY.1).bind λCO=>cond (aY CO 0) (some (10:Int)) (some (0:Int))))))
def kJ.nG(N:Nat):Nat→kJ.fV
 |0,_,_,_,_,_,_,_=>none
 |n+1,x3,x5,x6,x9,bf,cw,dL=>kJ.mE N (kJ.nG N n) x3 x5 x6 x9 bf cw dL
def kJ.j3b(N:Nat)(tG:kJ.fV)(x2:bw)(x3:aM)(x5:ae)(x6:aq)(x9:bX):Option (Int):=
 (Hz N x6 x9.2.2.1).bind λr7=>cond (aO r7 0) (some (3:Int)) (cond (!aO r7 1) (some (7:Int)) ((p6 N x2 x9.2.1).bind λr8=>(lU N x6.2.1 x9.2.2.1).bind λr9=>cond (!r8.2) (some (3:Int)) (cond (!aO r8.1.2.2.2.1 1) (some (3:Int)) (cond (aO r9 0) (some (3:Int)) (tG x3 x5 x6 x9 r8.1 r9 (0:Int))))))
def kJ.j3(N:Nat)(x2:bw)(x3:aM)(x5:ae)(x6:aq)(x9:bX):Option (Int):=kJ.j3b N (kJ.nG N N) x2 x3 x5 x6 x9
def kJ.b(N:Nat)(am8:kJ.asd)(a0:ae)(a1:aq)(a2:bw)(a3:aM)(a4:bX):Option (Int):=
 (fW N a0 a1).bind λr1=>cond (!r1) (some (1:Int)) ((iK N a0 a2).bind λr2=>cond (!r2) (some (1:Int)) ((eA N a3).bind λr3=>cond (!r3) (some (1:Int)) ((We N a4).bind λr4=>cond (!r4) (some (1:Int)) (cond (aY 0 (List.length a3:Int)) (let v5:Int:=W .i64 ((List.length a3:Int)-1);cond (ba v5 (List.length a3)) (cond (dj a4.1 ((List.getD a3 v5.toNat aV).1)) (some (1:Int)) (am8 a2 a3 a0 a1 a4)) (none)) (am8 a2 a3 a0 a1 a4)))))
def kJ(N:Nat)(a0:ae)(a1:aq)(a2:bw)(a3:aM)(a4:bX):Option (Int):=kJ.b N (kJ.j3 N) a0 a1 a2 a3 a4
def aaw(N:Nat)(a0:ae)(a1:aq)(a2:bw)(a3:aM)(a4:bX):Option (aM×(Int)):=
 (kJ N a0 a1 a2 a3 a4).bind λr1=>cond (!aO r1 0) (some ([],r1)) (cond (small (List.length c8+List.length a3)) (let v2:List ((Int)×((Int)×((Int)×((Int)×(Unit))))):=c8++a3;cond (small (List.length v2+List.length ([a4]))) (some ((v2++([a4])),(0:Int))) (none)) (none))
abbrev rq.ju:=aM→Int→bX→bX→Bool→Int→Option (bX×(Bool))
def rq.ud(N:Nat)(ko:rq.ju)(x0:aM)(x1:Int)(x4:bX)(x6:bX)(x7:Bool)(x8:Int):Option (bX×(Bool)):=
 cond (aY x8 (List.length x0:Int)) (cond (ba x8 (List.length x0)) (cond (aO (((List.getD x0 x8.toNat aV).2).1) x1) (cond (!x7) (cond (ba x8 (List.length x0)) (ko x0 x1 x4 (List.getD x0 x8.toNat aV) true (W .i64 (x8+1))) (none)) (cond (ba x8 (List.length x0)) (cond (aY x6.2.2.2.1 (((((List.getD x0 x8.toNat aV).2).2).2).1)) (cond (ba x8 (List.length x0)) (ko x0 x1 x4 (List.getD x0 x8.toNat aV) true (W .i64 (x8+1))) (none)) (ko x0 x1 x4 x6 x7 (W .i64 (x8+1)))) (none))) (ko x0 x1 x4 x6 x7 (W .i64 (x8+1)))) (none)) (some (x6,x7))
def rq.l6(N:Nat):Nat→rq.ju
 |0,_,_,_,_,_,_=>none
 |n+1,x0,x1,x4,x6,x7,x8=>rq.ud N (rq.l6 N n) x0 x1 x4 x6 x7 x8
def rq.b(N:Nat)(w3:rq.ju)(a0:aM)(a1:Int):Option (bX×(Bool)):=
 (eA N a0).bind λr1=>cond (!r1) (some (aV,false)) (w3 a0 a1 aV aV false (0:Int))
def rq(N:Nat)(a0:aM)(a1:Int):Option (bX×(Bool)):=rq.b N (rq.l6 N N) a0 a1
abbrev fG.rB:=bw→aM→aq→aq→au→bE→bw→Int→ik→bX→Int→Int→Option (aq×bw×(Int))
abbrev fG.eK:=bw→aM→aq→aq→au→bE→bw→Int→Option (aq×bw×(Int))
def fG.vl(N:Nat)(eC:fG.eK)(Gl:fG.rB)(x2:bw)(x3:aM)(x5:aq)(x8:aq)(aZ:au)(bf:bE)(bY:bw)(cw:Int)(dL:ik)(eN:bX)(mG:Int)(nD:Int):Option (aq×bw×(Int)):=
 cond (aY nD (List.length dL.2.1:Int)) (cond (ba nD (List.length dL.2.1)) (cond (ba nD (List.length dL.2.1)) (let v14:Int:=W .i64 (0-(((List.getD dL.2.1 nD.toNat cz).2).1));cond (ba nD (List.length dL.2.1)) (cond (ba nD (List.length dL.2.1)) (cond (small (List.length aZ+List.length ([((0:Int),((List.getD dL.2.1 nD.toNat cz).1,(v14,()))),(mG,((List.getD dL.2.1 nD.toNat cz).1,(((List.getD dL.2.1 nD.toNat cz).2).1,())))]))) (Gl x2 x3 x5 x8 (aZ++([((0:Int),((List.getD dL.2.1 nD.toNat cz).1,(v14,()))),(mG,((List.getD dL.2.1 nD.toNat cz).1,(((List.getD dL.2.1 nD.toNat cz).2).1,())))])) bf bY cw dL eN mG (W .i64 (nD+1))) (none)) (none)) (none)) (none)) (none)) ((jN N eN.2.2.2.1).bind λAV=>(xU N (5:Int) mG (2:Int) (0:Int) AV).bind λu6=>cond (small (List.length bf+List.length u6)) (cond (small (List.length bY+List.length ([dL]))) (eC x2 x3 x5 x8 aZ (bf++u6) (bY++([dL])) (W .i64 (cw+1))) (none)) (none))
def fG.wF(N:Nat)(eC:fG.eK):Nat→fG.rB
 |0,_,_,_,_,_,_,_,_,_,_,_,_=>none
 |n+1,x2,x3,x5,x8,aZ,bf,bY,cw,dL,eN,mG,nD=>fG.vl N eC (fG.wF N eC n) x2 x3 x5 x8 aZ bf bY cw dL eN mG nD
def fG.pj(N:Nat)(Gm:fG.rB)(eC:fG.eK)(x2:bw)(x3:aM)(x5:aq)(x8:aq)(aZ:au)(bf:bE)(bY:bw)(cw:Int):Option (aq×bw×(Int)):=
 cond (aY cw (List.length x2:Int)) (cond (ba cw (List.length x2)) (cond (small (List.length cm+List.length (((List.getD x2 cw.toNat ((0:Int),(cm,aV))).2).1))) (let v5:List ((Int)×((Int)×(Unit))):=cm++(((List.getD x2 cw.toNat ((0:Int),(cm,aV))).2).1);cond (!aO (((((List.getD x2 cw.toNat ((0:Int),(cm,aV))).2).2).2).1) (1:Int)) (cond (small (List.length bY+List.length ([((List.getD x2 cw.toNat ((0:Int),(cm,aV))).1,(v5,((List.getD x2 cw.toNat ((0:Int),(cm,aV))).2).2))]))) (eC x2 x3 x5 x8 aZ bf (bY++([((List.getD x2 cw.toNat ((0:Int),(cm,aV))).1,(v5,((List.getD x2 cw.toNat ((0:Int),(cm,aV))).2).2))])) (W .i64 (cw+1))) (none)) ((rq N x3 ((List.getD x2 cw.toNat ((0:Int),(cm,aV))).1)).bind λr8=>cond (!r8.2) (cond (small (List.length bY+List.length ([((List.getD x2 cw.toNat ((0:Int),(cm,aV))).1,(v5,((((List.getD x2 cw.toNat ((0:Int),(cm,aV))).2).2).1,((3:Int),((((List.getD x2 cw.toNat ((0:Int),(cm,aV))).2).2).2).2))))]))) (eC x2 x3 x5 x8 aZ bf (bY++([((List.getD x2 cw.toNat ((0:Int),(cm,aV))).1,(v5,((((List.getD x2 cw.toNat ((0:Int),(cm,aV))).2).2).1,((3:Int),((((List.getD x2 cw.toNat ((0:Int),(cm,aV))).2).2).2).2))))])) (W .i64 (cw+1))) (none)) ((lU N x5.2.1 r8.1.2.2.1).bind λnI=>cond (aO nI 0) (some ((cm,(c8,(bH,(bH,(dC,(dP,())))))),[],(3:Int))) ((Hz N x5 r8.1.2.2.1).bind λoE=>cond (aO oE 0) (some ((cm,(c8,(bH,(bH,(dC,(dP,())))))),[],(3:Int))) (Gm x2 x3 x5 x8 aZ bf bY cw ((List.getD x2 cw.toNat ((0:Int),(cm,aV))).1,(v5,((((List.getD x2 cw.toNat ((0:Int),(cm,aV))).2).2).1,((2:Int),(r8.1.2.2.1,(r8.1.2.2.2.1,((((((List.getD x2 cw.toNat ((0:Int),(cm,aV))).2).2).2).2).2).2)))))) r8.1 nI (0:Int)))))) (none)) (none)) ((xT N x5 aZ bf).bind λKR=>cond (!aO KR.2 0) (some ((cm,(c8,(bH,(bH,(dC,(dP,())))))),[],KR.2)) (some (KR.1,bY,(0:Int))))
def fG.l7(N:Nat):Nat→fG.eK
 |0,_,_,_,_,_,_,_,_=>none
 |n+1,x2,x3,x5,x8,aZ,bf,bY,cw=>fG.pj N (fG.wF N (fG.l7 N n) N) (fG.l7 N n) x2 x3 x5 x8 aZ bf bY cw
def fG.b(N:Nat)(sN:fG.eK)(a0:ae)(a1:aq)(a2:bw)(a3:aM):Option (aq×bw×(Int)):=
 (fW N a0 a1).bind λr1=>cond (!r1) (some ((cm,(c8,(bH,(bH,(dC,(dP,())))))),[],(1:Int))) ((iK N a0 a2).bind λr2=>cond (!r2) (some ((cm,(c8,(bH,(bH,(dC,(dP,())))))),[],(1:Int))) ((eA N a3).bind λr3=>cond (!r3) (some ((cm,(c8,(bH,(bH,(dC,(dP,())))))),[],(1:Int))) (sN a2 a3 a1 (cm,(c8,(bH,(bH,(dC,(dP,())))))) ([]) ([]) ([]) (0:Int))))
def fG(N:Nat)(a0:ae)(a1:aq)(a2:bw)(a3:aM):Option (aq×bw×(Int)):=fG.b N (fG.l7 N N) a0 a1 a2 a3
abbrev o5.da:=aD→Int→Option (Bool)
def o5.gD(N:Nat)(ew:o5.da)(x0:aD)(x3:Int):Option (Bool):=
 cond (aY x3 (List.length x0:Int)) (cond (ba x3 (List.length x0)) (cond (aY ((List.getD x0 x3.toNat cz).1) (1:Int)) (some false) (cond (ba x3 (List.length x0)) (cond (aY 12 ((List.getD x0 x3.toNat cz).1)) (some false) (cond (ba x3 (List.length x0)) (cond (aY (((List.getD x0 x3.toNat cz).2).1) (1:Int)) (some false) (cond (ba x3 (List.length x0)) (cond (aY 4 (((List.getD x0 x3.toNat cz).2).1)) (some false) (cond (aY 0 x3) (cond (ba x3 (List.length x0)) (let v2:Int:=W .i64 (x3-1);cond (ba v2 (List.length x0)) (cond (dj ((List.getD x0 x3.toNat cz).1) ((List.getD x0 v2.toNat cz).1)) (some false) (ew x0 (W .i64 (x3+1)))) (none)) (none)) (ew x0 (W .i64 (x3+1))))) (none))) (none))) (none))) (none)) (some true)
def o5.l2(N:Nat):Nat→o5.da
 |0,_,_=>none
 |n+1,x0,x3=>o5.gD N (o5.l2 N n) x0 x3
def o5.b(N:Nat)(jf:o5.da)(a0:aD):Option (Bool):=
 jf a0 (0:Int)
def o5(N:Nat)(a0:aD):Option (Bool):=o5.b N (o5.l2 N N) a0
abbrev rl.da:=(List (Int))→Int→Option (Bool)
def rl.gD(N:Nat)(ew:rl.da)(x0:List (Int))(x3:Int):Option (Bool):=
 cond (aY x3 (List.length x0:Int)) (cond (ba x3 (List.length x0)) (cond (aY (List.getD x0 x3.toNat (0:Int)) (1:Int)) (some false) (cond (ba x3 (List.length x0)) (cond (aY 12 (List.getD x0 x3.toNat (0:Int))) (some false) (cond (aY 0 x3) (cond (ba x3 (List.length x0)) (let v2:Int:=W .i64 (x3-1);cond (ba v2 (List.length x0)) (cond (dj (List.getD x0 x3.toNat (0:Int)) (List.getD x0 v2.toNat (0:Int))) (some false) (ew x0 (W .i64 (x3+1)))) (none)) (none)) (ew x0 (W .i64 (x3+1))))) (none))) (none)) (some true)
def rl.l2(N:Nat):Nat→rl.da
 |0,_,_=>none
 |n+1,x0,x3=>rl.gD N (rl.l2 N n) x0 x3
def rl.b(N:Nat)(jf:rl.da)(a0:List (Int)):Option (Bool):=
 jf a0 (0:Int)
def rl(N:Nat)(a0:List (Int)):Option (Bool):=rl.b N (rl.l2 N N) a0
abbrev jl.jn:=Int→bw→Int→Int→Option (Int)
abbrev jl.dQ:=Int→bw→aM→Int→Int→Option (Int)
def jl.pt(N:Nat)(ly:jl.jn)(x0:Int)(x1:bw)(x7:Int)(bf:Int):Option (Int):=
 cond (aY bf (List.length x1:Int)) (cond (ba bf (List.length x1)) (cond (aO (((((List.getD x1 bf.toNat ((0:Int),(cm,aV))).2).2).2).1) (2:Int)) (cond (ba bf (List.length x1)) (cond (aO ((((((List.getD x1 bf.toNat ((0:Int),(cm,aV))).2).2).2).2).1) x0) (ly x0 x1 (4:Int) (W .i64 (bf+1))) (ly x0 x1 x7 (W .i64 (bf+1)))) (none)) (ly x0 x1 x7 (W .i64 (bf+1)))) (none)) (some x7)
def jl.pX(N:Nat):Nat→jl.jn
 |0,_,_,_,_=>none
 |n+1,x0,x1,x7,bf=>jl.pt N (jl.pX N n) x0 x1 x7 bf
def jl.nC(N:Nat)(w5:jl.jn)(dn:jl.dQ)(x0:Int)(x1:bw)(x2:aM)(x7:Int)(x8:Int):Option (Int):=
 cond (aY x8 (List.length x2:Int)) (cond (ba x8 (List.length x2)) (cond (!aO ((((List.getD x2 x8.toNat aV).2).2).1) x0) (dn x0 x1 x2 x7 (W .i64 (x8+1))) (cond (ba x8 (List.length x2)) ((p6 N x1 (((List.getD x2 x8.toNat aV).2).1)).bind λr3=>cond (r3.2) (cond (ba x8 (List.length x2)) (cond (dj r3.1.2.2.1 (((((List.getD x2 x8.toNat aV).2).2).2).1)) (dn x0 x1 x2 (mx x7 3) (W .i64 (x8+1))) (dn x0 x1 x2 (mx x7 2) (W .i64 (x8+1)))) (none)) (dn x0 x1 x2 (mx x7 2) (W .i64 (x8+1)))) (none))) (none)) (w5 x0 x1 x7 (0:Int))
def jl.l3(N:Nat):Nat→jl.dQ
 |0,_,_,_,_,_=>none
 |n+1,x0,x1,x2,x7,x8=>jl.nC N (jl.pX N N) (jl.l3 N n) x0 x1 x2 x7 x8
def jl.b(N:Nat)(oj:jl.dQ)(a0:Int)(a1:bw)(a2:aM):Option (Int):=
 oj a0 a1 a2 (1:Int) (0:Int)
def jl(N:Nat)(a0:Int)(a1:bw)(a2:aM):Option (Int):=jl.b N (jl.l3 N N) a0 a1 a2
abbrev du.w7:=aD→(List (Int))→bw→aM→aD→Int→Int→Bool→Int→Option (aD×(Int))
abbrev du.xa:=aD→(List (Int))→bw→aM→aD→Int→Int→Bool→Int→Option (aD×(Int))
abbrev du.mc:=aD→(List (Int))→bw→aM→aD→Int→Int→Bool→Int→Option (aD×(Int))
abbrev du.bM:=aD→(List (Int))→bw→aM→aD→Int→Option (aD×(Int))
def du.Dr(N:Nat)(bO:du.bM)(Gv:du.w7)(x1:aD)(x2:List (Int))(x3:bw)(x4:aM)(bf:aD)(bY:Int)(cw:Int)(dL:Bool)(mG:Int):Option (aD×(Int)):=
 cond (aY mG (List.length x4:Int)) (cond (dL) (Gv x1 x2 x3 x4 bf bY cw true (W .i64 (mG+1))) (cond (ba mG (List.length x4)) (Gv x1 x2 x3 x4 bf bY cw (aO ((((List.getD x4 mG.toNat aV).2).2).1) bY) (W .i64 (mG+1))) (none))) (cond (dL) ((jl N bY x3 x4).bind λwY=>let X7:Int:=mx cw wY;cond (small (List.length bf+List.length ([(bY,(X7,()))]))) (bO x1 x2 x3 x4 (bf++([(bY,(X7,()))])) (W .i64 (bY+1))) (none)) (bO x1 x2 x3 x4 bf (W .i64 (bY+1))))
def du.GN(N:Nat)(bO:du.bM):Nat→du.w7
 |0,_,_,_,_,_,_,_,_,_=>none
 |n+1,x1,x2,x3,x4,bf,bY,cw,dL,mG=>du.Dr N bO (du.GN N bO n) x1 x2 x3 x4 bf bY cw dL mG
def du.FL(N:Nat)(N6:du.w7)(bO:du.bM)(CQ:du.xa)(x1:aD)(x2:List (Int))(x3:bw)(x4:aM)(bf:aD)(bY:Int)(cw:Int)(dL:Bool)(fp:Int):Option (aD×(Int)):=
 cond (aY fp (List.length x2:Int)) (cond (dL) (CQ x1 x2 x3 x4 bf bY cw true (W .i64 (fp+1))) (cond (ba fp (List.length x2)) (CQ x1 x2 x3 x4 bf bY cw (aO (List.getD x2 fp.toNat (0:Int)) bY) (W .i64 (fp+1))) (none))) (N6 x1 x2 x3 x4 bf bY cw dL (0:Int))
def du.IG(N:Nat)(bO:du.bM):Nat→du.xa
 |0,_,_,_,_,_,_,_,_,_=>none
 |n+1,x1,x2,x3,x4,bf,bY,cw,dL,fp=>du.FL N (du.GN N bO N) bO (du.IG N bO n) x1 x2 x3 x4 bf bY cw dL fp
def du.xp(N:Nat)(N9:du.xa)(bO:du.bM)(rC:du.mc)(x1:aD)(x2:List (Int))(x3:bw)(x4:aM)(bf:aD)(bY:Int)(cw:Int)(dL:Bool)(eN:Int):Option (aD×(Int)):=
 cond (aY eN (List.length x1:Int)) (cond (ba eN (List.length x1)) (cond (aO ((List.getD x1 eN.toNat cz).1) bY) (cond (ba eN (List.length x1)) (rC x1 x2 x3 x4 bf bY (((List.getD x1 eN.toNat cz).2).1) true (W .i64 (eN+1))) (none)) (rC x1 x2 x3 x4 bf bY cw dL (W .i64 (eN+1)))) (none)) (N9 x1 x2 x3 x4 bf bY cw dL (0:Int))
def du.l9(N:Nat)(bO:du.bM):Nat→du.mc
 |0,_,_,_,_,_,_,_,_,_=>none
 |n+1,x1,x2,x3,x4,bf,bY,cw,dL,eN=>du.xp N (du.IG N bO N) bO (du.l9 N bO n) x1 x2 x3 x4 bf bY cw dL eN
def du.dV(N:Nat)(yU:du.mc)(bO:du.bM)(x1:aD)(x2:List (Int))(x3:bw)(x4:aM)(bf:aD)(bY:Int):Option (aD×(Int)):=
 cond (dj bY 12) (yU x1 x2 x3 x4 bf bY (0:Int) false (0:Int)) (some (bf,(0:Int)))
def du.l5(N:Nat):Nat→du.bM
 |0,_,_,_,_,_,_=>none
 |n+1,x1,x2,x3,x4,bf,bY=>du.dV N (du.l9 N (du.l5 N n) N) (du.l5 N n) x1 x2 x3 x4 bf bY
def du.b(N:Nat)(eT:du.bM)(a0:ae)(a1:aD)(a2:List (Int))(a3:bw)(a4:aM):Option (aD×(Int)):=
 (o5 N a1).bind λr1=>cond (!r1) (some ([],(1:Int))) ((rl N a2).bind λr2=>cond (!r2) (some ([],(1:Int))) ((iK N a0 a3).bind λr3=>cond (!r3) (some ([],(1:Int))) ((eA N a4).bind λr4=>cond (!r4) (some ([],(1:Int))) (eT a1 a2 a3 a4 ([]) (1:Int)))))
def du(N:Nat)(a0:ae)(a1:aD)(a2:List (Int))(a3:bw)(a4:aM):Option (aD×(Int)):=du.b N (du.l5 N N) a0 a1 a2 a3 a4
def KB(N:Nat)(a0:bK)(a1:aq)(a2:Int)(a3:Int)(a4:Int):Option bK:=
 (uy N a1.2.2.1 a3 a4).bind λr1=>cond (aY 0 r1) (cond (small (List.length a0+List.length ([(a2,(a3,(a4,(r1,((0:Int),())))))]))) (some (a0++([(a2,(a3,(a4,(r1,((0:Int),())))))]))) (none)) (some a0)
def Xi(N:Nat)(a0:Int):Option (Bool):=
 cond (aO a0 1) (some true) (some (aO a0 2))
abbrev rm.bD:=aD→Int→Int→Option (Int)
def rm.dv(N:Nat)(cr:rm.bD)(x0:aD)(x1:Int)(x5:Int):Option (Int):=
 cond (aY x5 (List.length x0:Int)) (cond (ba x5 (List.length x0)) (cond (aO ((List.getD x0 x5.toNat cz).1) x1) (cond (ba x5 (List.length x0)) (some (((List.getD x0 x5.toNat cz).2).1)) (none)) (cr x0 x1 (W .i64 (x5+1)))) (none)) (some (1:Int))
def rm.l4(N:Nat):Nat→rm.bD
 |0,_,_,_=>none
 |n+1,x0,x1,x5=>rm.dv N (rm.l4 N n) x0 x1 x5
def rm.b(N:Nat)(eB:rm.bD)(a0:aD)(a1:Int):Option (Int):=
 (o5 N a0).bind λr1=>cond (!r1) (some (0:Int)) (eB a0 a1 (0:Int))
def rm(N:Nat)(a0:aD)(a1:Int):Option (Int):=rm.b N (rm.l4 N N) a0 a1
abbrev rn.bM:=aD→Int→Int→aq→(List (Int))→Int→Option ((List (Int))×(Int))
def rn.dV(N:Nat)(bO:rn.bM)(x2:aD)(x3:Int)(x4:Int)(x6:aq)(bf:List (Int))(bY:Int):Option ((List (Int))×(Int)):=
 cond (aY bY (List.length x6.1:Int)) (cond (ba bY (List.length x6.1)) ((Xi N (((List.getD x6.1 bY.toNat cz).2).1)).bind λr4=>cond (r4) (cond (!aO ((List.getD x6.1 bY.toNat cz).1) x3) ((uy N x6.2.2.1 (6:Int) ((List.getD x6.1 bY.toNat cz).1)).bind λr5=>cond (aY 0 r5) ((rm N x2 ((List.getD x6.1 bY.toNat cz).1)).bind λr6=>cond (aO r6 x4) (cond (small (List.length bf+List.length ([(List.getD x6.1 bY.toNat cz).1]))) (bO x2 x3 x4 x6 (bf++([(List.getD x6.1 bY.toNat cz).1])) (W .i64 (bY+1))) (none)) (bO x2 x3 x4 x6 bf (W .i64 (bY+1)))) (bO x2 x3 x4 x6 bf (W .i64 (bY+1)))) (bO x2 x3 x4 x6 bf (W .i64 (bY+1)))) (bO x2 x3 x4 x6 bf (W .i64 (bY+1)))) (none)) (some (bf,(0:Int)))
def rn.l5(N:Nat):Nat→rn.bM
 |0,_,_,_,_,_,_=>none
 |n+1,x2,x3,x4,x6,bf,bY=>rn.dV N (rn.l5 N n) x2 x3 x4 x6 bf bY
def rn.b(N:Nat)(eT:rn.bM)(a0:ae)(a1:aq)(a2:aD)(a3:Int)(a4:Int):Option ((List (Int))×(Int)):=
 (fW N a0 a1).bind λr1=>cond (!r1) (some ([],(1:Int))) ((o5 N a2).bind λr2=>cond (!r2) (some ([],(1:Int))) (eT a2 a3 a4 a1 ([]) (0:Int)))
def rn(N:Nat)(a0:ae)(a1:aq)(a2:aD)(a3:Int)(a4:Int):Option ((List (Int))×(Int)):=rn.b N (rn.l5 N N) a0 a1 a2 a3 a4
abbrev cH.mu:=Int→aD→aD→ae→aq→bK→Int→(List (Int))→Int→Option (bK×(Int))
abbrev cH.Gq:=Int→aD→aq→bK→Int→Option (bK×(Int))
abbrev cH.tH:=Int→aD→ae→aq→bK→Int→Option (bK×(Int))
abbrev cH.jn:=Int→aD→aD→ae→aq→bK→Int→Option (bK×(Int))
abbrev cH.QP:=Int→aD→aD→ae→aq→bK→Option (bK×(Int))
def cH.vk(N:Nat)(ly:cH.jn)(nL:cH.mu)(x2:Int)(x3:aD)(x4:aD)(x5:ae)(x6:aq)(bf:bK)(cw:Int)(dL:List (Int))(fp:Int):Option (bK×(Int)):=
 cond (aY fp (List.length dL:Int)) (cond (ba fp (List.length dL)) ((KB N bf x6 (W .i64 ((W .i64 ((4:Int)+cw))-1)) (6:Int) (List.getD dL fp.toNat (0:Int))).bind λwY=>nL x2 x3 x4 x5 x6 wY cw dL (W .i64 (fp+1))) (none)) (ly x2 x3 x4 x5 x6 bf (W .i64 (cw+1)))
def cH.wE(N:Nat)(ly:cH.jn):Nat→cH.mu
 |0,_,_,_,_,_,_,_,_,_=>none
 |n+1,x2,x3,x4,x5,x6,bf,cw,dL,fp=>cH.vk N ly (cH.wE N ly n) x2 x3 x4 x5 x6 bf cw dL fp
def cH.Ke(N:Nat)(CN:cH.Gq)(x2:Int)(x4:aD)(x6:aq)(bf:bK)(UC:Int):Option (bK×(Int)):=
 cond (aY UC (List.length x4:Int)) (cond (ba UC (List.length x4)) ((UQ N x6.2.1 ((List.getD x4 UC.toNat cz).1)).bind λGQ=>cond (ba UC (List.length x4)) (cond (ba UC (List.length x4)) ((uy N x6.2.2.1 (5:Int) ((List.getD x4 UC.toNat cz).1)).bind λr32=>let v33:Int:=mn (((List.getD x4 UC.toNat cz).2).1) r32;cond (GQ.2) (cond (!aO GQ.1.2.1 x2) (cond (aY 0 v33) (cond (small (List.length bf+List.length ([((9:Int),((5:Int),(GQ.1.1,(v33,((0:Int),())))))]))) (CN x2 x4 x6 (bf++([((9:Int),((5:Int),(GQ.1.1,(v33,((0:Int),())))))])) (W .i64 (UC+1))) (none)) (CN x2 x4 x6 bf (W .i64 (UC+1)))) (CN x2 x4 x6 bf (W .i64 (UC+1)))) (CN x2 x4 x6 bf (W .i64 (UC+1)))) (none)) (none)) (none)) (some (bf,(0:Int)))
def cH.MZ(N:Nat):Nat→cH.Gq
 |0,_,_,_,_,_=>none
 |n+1,x2,x4,x6,bf,UC=>cH.Ke N (cH.MZ N n) x2 x4 x6 bf UC
def cH.Ny(N:Nat)(X2:cH.Gq)(my:cH.tH)(x2:Int)(x4:aD)(x5:ae)(x6:aq)(bf:bK)(mG:Int):Option (bK×(Int)):=
 cond (aY mG (List.length x6.1:Int)) (cond (ba mG (List.length x6.1)) ((Xi N (((List.getD x6.1 mG.toNat cz).2).1)).bind λOa=>cond (!Oa) (my x2 x4 x5 x6 bf (W .i64 (mG+1))) (cond (aO ((List.getD x6.1 mG.toNat cz).1) x2) (my x2 x4 x5 x6 bf (W .i64 (mG+1))) ((jN N x5.2.2.1).bind λKR=>(uy N x6.2.2.1 (6:Int) ((List.getD x6.1 mG.toNat cz).1)).bind λCL=>(jN N CL).bind λLd=>(jJ N KR Ld).bind λGP=>(wo N GP).bind λCO=>cond (!CO.2) (some ([],(2:Int))) (cond (aY 0 CO.1) (cond (small (List.length bf+List.length ([((8:Int),((7:Int),((List.getD x6.1 mG.toNat cz).1,(CO.1,((0:Int),())))))]))) (my x2 x4 x5 x6 (bf++([((8:Int),((7:Int),((List.getD x6.1 mG.toNat cz).1,(CO.1,((0:Int),())))))])) (W .i64 (mG+1))) (none)) (my x2 x4 x5 x6 bf (W .i64 (mG+1))))))) (none)) (X2 x2 x4 x6 bf (0:Int))
def cH.HA(N:Nat):Nat→cH.tH
 |0,_,_,_,_,_,_=>none
 |n+1,x2,x4,x5,x6,bf,mG=>cH.Ny N (cH.MZ N N) (cH.HA N n) x2 x4 x5 x6 bf mG
def cH.pt(N:Nat)(Gn:cH.mu)(Ye:cH.tH)(ly:cH.jn)(x2:Int)(x3:aD)(x4:aD)(x5:ae)(x6:aq)(bf:bK)(cw:Int):Option (bK×(Int)):=
 cond (dj cw 4) ((rn N x5 x6 x3 x2 cw).bind λnI=>Gn x2 x3 x4 x5 x6 bf cw nI.1 (0:Int)) (Ye x2 x4 x5 x6 bf (0:Int))
def cH.pX(N:Nat):Nat→cH.jn
 |0,_,_,_,_,_,_,_=>none
 |n+1,x2,x3,x4,x5,x6,bf,cw=>cH.pt N (cH.wE N (cH.pX N n) N) (cH.HA N N) (cH.pX N n) x2 x3 x4 x5 x6 bf cw
def cH.MP(N:Nat)(w5:cH.jn)(x2:Int)(x3:aD)(x4:aD)(x5:ae)(x6:aq)(bf:bK):Option (bK×(Int)):=
 (KB N bf x6 (2:Int) (6:Int) x2).bind λr8=>(KB N r8 x6 (3:Int) (3:Int) (0:Int)).bind λr9=>w5 x2 x3 x4 x5 x6 r9 (1:Int)
def cH.j9(N:Nat)(x2:Int)(x3:aD)(x4:aD)(x5:ae)(x6:aq)(bf:bK):Option (bK×(Int)):=cH.MP N (cH.pX N N) x2 x3 x4 x5 x6 bf
def cH.b(N:Nat)(Gs:cH.QP)(a0:ae)(a1:aq)(a2:Int)(a3:aD)(a4:aD):Option (bK×(Int)):=
 (fW N a0 a1).bind λr1=>cond (!r1) (some ([],(1:Int))) ((o5 N a3).bind λr2=>cond (!r2) (some ([],(1:Int))) ((p5 N a4).bind λr3=>cond (!r3) (some ([],(1:Int))) ((RH N a1.1 a2).bind λr4=>cond (aO r4 0) (some ([],(3:Int))) ((lU N a1.2.1 a2).bind λr5=>cond (!aO r5 0) ((KB N ([]) a1 (1:Int) (5:Int) r5).bind λr6=>Gs a2 a3 a4 a0 a1 r6) (Gs a2 a3 a4 a0 a1 ([]))))))
def cH(N:Nat)(a0:ae)(a1:aq)(a2:Int)(a3:aD)(a4:aD):Option (bK×(Int)):=cH.b N (cH.j9 N) a0 a1 a2 a3 a4
def aay(N:Nat)(a0:ae)(a1:aq):Option ((Int)×(Int)):=
 (fW N a0 a1).bind λr1=>cond (!r1) (some ((0:Int),(1:Int))) ((uy N a1.2.2.1 (2:Int) (0:Int)).bind λr2=>cond (aO r2 (-9223372036854775808)) (some ((0:Int),(2:Int))) (some ((mx (W .i64 (0-r2)) (0:Int)),(0:Int))))
abbrev rp.bD:=bK→Int→Option (Bool)
def rp.dv(N:Nat)(cr:rp.bD)(x0:bK)(x3:Int):Option (Bool):=
 cond (aY x3 (List.length x0:Int)) (cond (ba x3 (List.length x0)) (cond (aY ((List.getD x0 x3.toNat mz).1) (1:Int)) (some false) (cond (aY 9 ((List.getD x0 x3.toNat mz).1)) (some false) ((PZ N (((List.getD x0 x3.toNat mz).2).1) ((((List.getD x0 x3.toNat mz).2).2).1)).bind λr2=>cond (!r2) (some false) (cond (aY (((((List.getD x0 x3.toNat mz).2).2).2).1) (1:Int)) (some false) (cond (aY ((((((List.getD x0 x3.toNat mz).2).2).2).2).1) (0:Int)) (some false) (cond (aY (((((List.getD x0 x3.toNat mz).2).2).2).1) ((((((List.getD x0 x3.toNat mz).2).2).2).2).1)) (some false) (cond (aY 0 x3) (let v3:Int:=W .i64 (x3-1);cond (ba v3 (List.length x0)) (cond (aY ((List.getD x0 x3.toNat mz).1) ((List.getD x0 v3.toNat mz).1)) (some false) (let v4:Int:=W .i64 (x3-1);cond (ba v4 (List.length x0)) (cond (aO ((List.getD x0 x3.toNat mz).1) ((List.getD x0 v4.toNat mz).1)) (let v5:Int:=W .i64 (x3-1);cond (ba v5 (List.length x0)) (cond (!aO (((List.getD x0 x3.toNat mz).2).1) (((List.getD x0 v5.toNat mz).2).1)) (some false) (let v6:Int:=W .i64 (x3-1);cond (ba v6 (List.length x0)) (cond (dj ((((List.getD x0 x3.toNat mz).2).2).1) ((((List.getD x0 v6.toNat mz).2).2).1)) (some false) (cr x0 (W .i64 (x3+1)))) (none))) (none)) (cr x0 (W .i64 (x3+1)))) (none))) (none)) (cr x0 (W .i64 (x3+1)))))))))) (none)) (some true)
def rp.l4(N:Nat):Nat→rp.bD
 |0,_,_=>none
 |n+1,x0,x3=>rp.dv N (rp.l4 N n) x0 x3
def rp.b(N:Nat)(eB:rp.bD)(a0:bK):Option (Bool):=
 cond (aY 64 (List.length a0:Int)) (some false) (eB a0 (0:Int))
def rp(N:Nat)(a0:bK):Option (Bool):=rp.b N (rp.l4 N N) a0
abbrev dB.w7:=bK→Int→Int→Int→(List (Int))→Int→Option (bK×(Int)×(Int))
abbrev dB.N4:=bK→Int→Int→Int→(List (Int))→Option (bK×(Int)×(Int))
abbrev dB.gK:=bK→Int→Int→Int→(List (Int))→Option (bK×(Int)×(Int))
abbrev dB.bM:=bK→Int→Int→Option (bK×(Int)×(Int))
def dB.Dr(N:Nat)(bO:dB.bM)(Gv:dB.w7)(x7:bK)(x8:Int)(x9:Int)(bu:Int)(cw:List (Int))(eN:Int):Option (bK×(Int)×(Int)):=
 cond (aY eN bu) (let v13:Int:=W .i64 (eN-x9);cond (ba v13 (List.length cw)) (cond (ba eN (List.length x7)) (let v15:Int:=W .i64 (eN-x9);cond (ba v15 (List.length cw)) (Gv (List.set x7 eN.toNat ((List.getD x7 eN.toNat mz).1,(((List.getD x7 eN.toNat mz).2).1,((((List.getD x7 eN.toNat mz).2).2).1,(((((List.getD x7 eN.toNat mz).2).2).2).1,(List.getD cw v13.toNat (0:Int),(((((List.getD x7 eN.toNat mz).2).2).2).2).2)))))) (W .i64 (x8-(List.getD cw v15.toNat (0:Int)))) x9 bu cw (W .i64 (eN+1))) (none)) (none)) (none)) (bO x7 x8 bu)
def dB.GN(N:Nat)(bO:dB.bM):Nat→dB.w7
 |0,_,_,_,_,_,_=>none
 |n+1,x7,x8,x9,bu,cw,eN=>dB.Dr N bO (dB.GN N bO n) x7 x8 x9 bu cw eN
def dB.BB(N:Nat)(N6:dB.w7)(bO:dB.bM)(x7:bK)(x8:Int)(x9:Int)(bu:Int)(aZ:List (Int)):Option (bK×(Int)×(Int)):=
 (ph N aZ).bind λr8=>(wo N r8).bind λr9=>cond (!r9.2) (some ([],(0:Int),(2:Int))) ((fL N (mn r9.1 x8) aZ).bind λnI=>cond (!aO nI.2 0) (some ([],(0:Int),nI.2)) (N6 x7 x8 x9 bu nI.1 x9))
def dB.IX(N:Nat)(bO:dB.bM)(x7:bK)(x8:Int)(x9:Int)(bu:Int)(aZ:List (Int)):Option (bK×(Int)×(Int)):=dB.BB N (dB.GN N bO N) bO x7 x8 x9 bu aZ
def dB.xR(N:Nat)(CP:dB.N4)(bO:dB.bM)(eX:dB.gK)(x7:bK)(x8:Int)(x9:Int)(bu:Int)(aZ:List (Int)):Option (bK×(Int)×(Int)):=
 cond (aY bu (List.length x7:Int)) (cond (ba bu (List.length x7)) (cond (ba x9 (List.length x7)) (cond (aO ((List.getD x7 bu.toNat mz).1) ((List.getD x7 x9.toNat mz).1)) (cond (ba bu (List.length x7)) (cond (small (List.length aZ+List.length ([((((List.getD x7 bu.toNat mz).2).2).2).1]))) (eX x7 x8 x9 (W .i64 (bu+1)) (aZ++([((((List.getD x7 bu.toNat mz).2).2).2).1]))) (none)) (none)) (CP x7 x8 x9 bu aZ)) (none)) (none)) (CP x7 x8 x9 bu aZ)
def dB.l8(N:Nat)(bO:dB.bM):Nat→dB.gK
 |0,_,_,_,_,_=>none
 |n+1,x7,x8,x9,bu,aZ=>dB.xR N (dB.IX N bO) bO (dB.l8 N bO n) x7 x8 x9 bu aZ
def dB.dV(N:Nat)(BO:dB.gK)(bO:dB.bM)(x7:bK)(x8:Int)(x9:Int):Option (bK×(Int)×(Int)):=
 cond (aY x9 (List.length x7:Int)) (BO x7 x8 x9 x9 ([])) (some (x7,x8,(0:Int)))
def dB.l5(N:Nat):Nat→dB.bM
 |0,_,_,_=>none
 |n+1,x7,x8,x9=>dB.dV N (dB.l8 N (dB.l5 N n) N) (dB.l5 N n) x7 x8 x9
def dB.b(N:Nat)(eT:dB.bM)(a0:bK)(a1:Int):Option (bK×(Int)×(Int)):=
 (rp N a0).bind λr1=>cond (!r1) (some ([],(0:Int),(1:Int))) (cond (aY a1 0) (some ([],(0:Int),(1:Int))) (cond (small (List.length CT+List.length a0)) (eT (CT++a0) a1 (0:Int)) (none)))
def dB(N:Nat)(a0:bK)(a1:Int):Option (bK×(Int)×(Int)):=dB.b N (dB.l5 N N) a0 a1
def aaz(N:Nat)(a0:ae)(a1:aq):Option ((Int)×(Int)):=
 (fW N a0 a1).bind λr1=>cond (!r1) (some ((0:Int),(1:Int))) ((uy N a1.2.2.1 (2:Int) (0:Int)).bind λr2=>some ((mx r2 0),(0:Int)))
abbrev ib.am9:=aq→aq→dJ→bE→dJ→bK→Int→Int→Int→Option (aq×dJ×(Int))
abbrev ib.Gu:=Int→ae→aq→aq→dJ→bK→Int→bE→dJ→bK→Int→Option (aq×dJ×(Int))
def ib.aaB(N:Nat)(x6:aq)(bu:aq)(aZ:dJ)(mG:bE)(nD:dJ)(Gw:bK)(x21:Int)(x23:Int)(x24:Int):Option (aq×dJ×(Int)):=
 (jN N x21).bind λAV=>(xU N (2:Int) (0:Int) x23 x24 AV).bind λu6=>cond (small (List.length mG+List.length u6)) ((xT N x6 bH (mG++u6)).bind λN3=>cond (!aO N3.2 0) (some ((cm,(c8,(bH,(bH,(dC,(dP,())))))),((0:Int),((0:Int),(CT,((0:Int),())))),N3.2)) (some (N3.1,(nD.1,(nD.2.1,(Gw,nD.2.2.2))),(0:Int)))) (none)
def ib.j26(N:Nat)(x6:aq)(bu:aq)(aZ:dJ)(mG:bE)(nD:dJ)(Gw:bK)(x21:Int)(x23:Int)(x24:Int):Option (aq×dJ×(Int)):=ib.aaB N x6 bu aZ mG nD Gw x21 x23 x24
def ib.Hp(N:Nat)(af0:ib.am9)(Jl:ib.Gu)(x2:Int)(x5:ae)(x6:aq)(bu:aq)(aZ:dJ)(bY:bK)(fp:Int)(mG:bE)(nD:dJ)(Gw:bK)(Du:Int):Option (aq×dJ×(Int)):=
 cond (aY Du (List.length bY:Int)) (cond (ba Du (List.length bY)) (cond (aY 0 ((((((List.getD bY Du.toNat mz).2).2).2).2).1)) (cond (ba Du (List.length bY)) (cond (small (List.length Gw+List.length ([List.getD bY Du.toNat mz]))) (cond (ba Du (List.length bY)) (cond (ba Du (List.length bY)) (cond (ba Du (List.length bY)) ((jN N ((((((List.getD bY Du.toNat mz).2).2).2).2).1)).bind λr6=>(xU N (((List.getD bY Du.toNat mz).2).1) ((((List.getD bY Du.toNat mz).2).2).1) (2:Int) (0:Int) r6).bind λr7=>cond (small (List.length mG+List.length r7)) (Jl x2 x5 x6 bu aZ bY fp (mG++r7) (nD.1,(nD.2.1,(CT,nD.2.2.2))) (Gw++([List.getD bY Du.toNat mz])) (W .i64 (Du+1))) (none)) (none)) (none)) (none)) (none)) (none)) (Jl x2 x5 x6 bu aZ bY fp mG nD Gw (W .i64 (Du+1)))) (none)) ((jN N fp).bind λnI=>(xU N (4:Int) (0:Int) (2:Int) (0:Int) nI).bind λoE=>cond (small (List.length mG+List.length oE)) (let v13:List ((Int)×((Int)×(((Bool)×((List (Int))×(Unit)))×(Unit)))):=mG++oE;(aaz N x5 x6).bind λxV=>(lU N x6.2.1 x2).bind λwY=>cond (!aO wY 0) (af0 x6 bu aZ v13 nD Gw xV.1 (5:Int) wY) (af0 x6 bu aZ v13 nD Gw xV.1 (6:Int) x2)) (none))
def ib.Ir(N:Nat):Nat→ib.Gu
 |0,_,_,_,_,_,_,_,_,_,_,_=>none
 |n+1,x2,x5,x6,bu,aZ,bY,fp,mG,nD,Gw,Du=>ib.Hp N (ib.j26 N) (ib.Ir N n) x2 x5 x6 bu aZ bY fp mG nD Gw Du
def ib.b(N:Nat)(Yb:ib.Gu)(a0:ae)(a1:aq)(a2:Int)(a3:aD)(a4:aD):Option (aq×dJ×(Int)):=
 (cH N a0 a1 a2 a3 a4).bind λr1=>cond (aO r1.2 1) (some ((cm,(c8,(bH,(bH,(dC,(dP,())))))),((0:Int),((0:Int),(CT,((0:Int),())))),r1.2)) (cond (aO r1.2 3) (some ((cm,(c8,(bH,(bH,(dC,(dP,())))))),((0:Int),((0:Int),(CT,((0:Int),())))),r1.2)) ((aay N a0 a1).bind λr2=>cond (!aO r2.2 0) (some ((cm,(c8,(bH,(bH,(dC,(dP,())))))),((0:Int),((0:Int),(CT,((0:Int),())))),r2.2)) (cond (!aO r1.2 0) (some ((cm,(c8,(bH,(bH,(dC,(dP,())))))),((0:Int),((0:Int),(CT,((0:Int),())))),r1.2)) ((dB N r1.1 r2.1).bind λr3=>cond (!aO r3.2.2 0) (some ((cm,(c8,(bH,(bH,(dC,(dP,())))))),((0:Int),((0:Int),(CT,((0:Int),())))),r3.2.2)) (Yb a2 a0 a1 (cm,(c8,(bH,(bH,(dC,(dP,())))))) ((0:Int),((0:Int),(CT,((0:Int),())))) r3.1 r3.2.1 ([]) (a2,(r2.1,(CT,(r3.2.1,())))) CT (0:Int))))))
def ib(N:Nat)(a0:ae)(a1:aq)(a2:Int)(a3:aD)(a4:aD):Option (aq×dJ×(Int)):=ib.b N (ib.Ir N N) a0 a1 a2 a3 a4
abbrev eH.Gp:=(List (Int))→(List (Int))→(List (Int))→Int→Int→(List (Int))→Int→Option ((List (Int))×(Int)×(Int))
abbrev eH.jn:=(List (Int))→(List (Int))→(List (Int))→Int→Int→(List (Int))→Bool→Int→Option ((List (Int))×(Int)×(Int))
abbrev eH.gK:=(List (Int))→(List (Int))→(List (Int))→Int→Int→Option ((List (Int))×(Int)×(Int))
def eH.Qb(N:Nat)(eX:eH.gK)(X1:eH.Gp)(x1:List (Int))(x2:List (Int))(aZ:List (Int))(bf:Int)(bY:Int)(fp:List (Int))(nD:Int):Option ((List (Int))×(Int)×(Int)):=
 cond (aY nD (List.length x1:Int)) (cond (ba nD (List.length fp)) (cond (ba nD (List.length x2)) (cond (ba nD (List.length aZ)) (let X7:Int:=mn (List.getD fp nD.toNat (0:Int)) (W .i64 ((List.getD x2 nD.toNat (0:Int))-(List.getD aZ nD.toNat (0:Int))));cond (ba nD (List.length aZ)) (cond (ba nD (List.length aZ)) (X1 x1 x2 (List.set aZ nD.toNat (W .i64 ((List.getD aZ nD.toNat (0:Int))+X7))) (W .i64 (bf-X7)) bY fp (W .i64 (nD+1))) (none)) (none)) (none)) (none)) (none)) (eX x1 x2 aZ bf (W .i64 (bY+1)))
def eH.TD(N:Nat)(eX:eH.gK):Nat→eH.Gp
 |0,_,_,_,_,_,_,_=>none
 |n+1,x1,x2,aZ,bf,bY,fp,nD=>eH.Qb N eX (eH.TD N eX n) x1 x2 aZ bf bY fp nD
def eH.pt(N:Nat)(X4:eH.Gp)(eX:eH.gK)(ly:eH.jn)(x1:List (Int))(x2:List (Int))(aZ:List (Int))(bf:Int)(bY:Int)(cw:List (Int))(dL:Bool)(eN:Int):Option ((List (Int))×(Int)×(Int)):=
 cond (aY eN (List.length x1:Int)) (cond (ba eN (List.length x1)) (cond (aY 0 (List.getD x1 eN.toNat (0:Int))) (cond (ba eN (List.length aZ)) (cond (ba eN (List.length x2)) (cond (aY (List.getD aZ eN.toNat (0:Int)) (List.getD x2 eN.toNat (0:Int))) (cond (ba eN (List.length x1)) (cond (ba eN (List.length cw)) (ly x1 x2 aZ bf bY (List.set cw eN.toNat (List.getD x1 eN.toNat (0:Int))) true (W .i64 (eN+1))) (none)) (none)) (ly x1 x2 aZ bf bY cw dL (W .i64 (eN+1)))) (none)) (none)) (ly x1 x2 aZ bf bY cw dL (W .i64 (eN+1)))) (none)) (cond (aO bf 0) (some (aZ,bf,(0:Int))) (cond (!dL) (some (aZ,bf,(0:Int))) ((fL N bf cw).bind λqm=>X4 x1 x2 aZ bf bY qm.1 (0:Int))))
def eH.pX(N:Nat)(eX:eH.gK):Nat→eH.jn
 |0,_,_,_,_,_,_,_,_=>none
 |n+1,x1,x2,aZ,bf,bY,cw,dL,eN=>eH.pt N (eH.TD N eX N) eX (eH.pX N eX n) x1 x2 aZ bf bY cw dL eN
def eH.xR(N:Nat)(w5:eH.jn)(eX:eH.gK)(x1:List (Int))(x2:List (Int))(aZ:List (Int))(bf:Int)(bY:Int):Option ((List (Int))×(Int)×(Int)):=
 cond (dj bY (List.length x1:Int)) (cond (jR (List.length x1:Int) (List.length x1:Int)) (w5 x1 x2 aZ bf bY (List.replicate (List.length x1:Int).toNat (0:Int)) false (0:Int)) (none)) (some (aZ,bf,(0:Int)))
def eH.l8(N:Nat):Nat→eH.gK
 |0,_,_,_,_,_=>none
 |n+1,x1,x2,aZ,bf,bY=>eH.xR N (eH.pX N (eH.l8 N n) N) (eH.l8 N n) x1 x2 aZ bf bY
def eH.b(N:Nat)(BO:eH.gK)(a0:Int)(a1:List (Int))(a2:List (Int)):Option ((List (Int))×(Int)×(Int)):=
 (py N a0 a1).bind λr1=>cond (r1) (some ([],(0:Int),(1:Int))) (cond (!aO (List.length a2:Int) (List.length a1:Int)) (some ([],(0:Int),(1:Int))) ((py N (0:Int) a2).bind λr2=>cond (r2) (some ([],(0:Int),(1:Int))) ((ph N a1).bind λr3=>(wo N r3).bind λr4=>cond (!r4.2) (some ([],(0:Int),(2:Int))) (cond (jR (List.length a1:Int) (List.length a1:Int)) (BO a1 a2 (List.replicate (List.length a1:Int).toNat (0:Int)) a0 (0:Int)) (none)))))
def eH(N:Nat)(a0:Int)(a1:List (Int))(a2:List (Int)):Option ((List (Int))×(Int)×(Int)):=eH.b N (eH.l8 N N) a0 a1 a2
abbrev fA.Yf:=Int→Int→(List (Int))→(List (Int))→au→Int→Option (au×(Int))
abbrev fA.w9:=Int→aq→Int→(List (Int))→(List (Int))→Int→Option (au×(Int))
def fA.Xj(N:Nat)(Sp:fA.Yf)(x2:Int)(x8:Int)(x9:List (Int))(bY:List (Int))(eN:au)(fp:Int):Option (au×(Int)):=
 cond (aY fp (List.length bY:Int)) (cond (ba fp (List.length bY)) (cond (aY x8 0) (let v17:Int:=W .i64 (0-(List.getD bY fp.toNat (0:Int)));cond (!aO v17 0) (cond (ba fp (List.length x9)) (cond (small (List.length eN+List.length ([(List.getD x9 fp.toNat (0:Int),(x2,(v17,())))]))) (Sp x2 x8 x9 bY (eN++([(List.getD x9 fp.toNat (0:Int),(x2,(v17,())))])) (W .i64 (fp+1))) (none)) (none)) (Sp x2 x8 x9 bY eN (W .i64 (fp+1)))) (cond (!aO (List.getD bY fp.toNat (0:Int)) (0:Int)) (cond (ba fp (List.length x9)) (cond (small (List.length eN+List.length ([(List.getD x9 fp.toNat (0:Int),(x2,(List.getD bY fp.toNat (0:Int),())))]))) (Sp x2 x8 x9 bY (eN++([(List.getD x9 fp.toNat (0:Int),(x2,(List.getD bY fp.toNat (0:Int),())))])) (W .i64 (fp+1))) (none)) (none)) (Sp x2 x8 x9 bY eN (W .i64 (fp+1))))) (none)) (some (eN,(0:Int)))
def fA.Uc(N:Nat):Nat→fA.Yf
 |0,_,_,_,_,_,_=>none
 |n+1,x2,x8,x9,bY,eN,fp=>fA.Xj N (fA.Uc N n) x2 x8 x9 bY eN fp
def fA.yO(N:Nat)(ana:fA.Yf)(AO:fA.w9)(x2:Int)(x4:aq)(x8:Int)(x9:List (Int))(bu:List (Int))(aZ:Int):Option (au×(Int)):=
 cond (aY aZ (List.length x4.2.2.2.1:Int)) (cond (ba aZ (List.length x4.2.2.2.1)) (cond (!aO ((List.getD x4.2.2.2.1 aZ.toNat bl).1) (0:Int)) (cond (aO (((List.getD x4.2.2.2.1 aZ.toNat bl).2).1) x2) (cond (!(pa .bool (aY 0 ((((List.getD x4.2.2.2.1 aZ.toNat bl).2).2).1)) (aY 0 x8))) (cond (small (List.length x9+List.length ([(List.getD x4.2.2.2.1 aZ.toNat bl).1]))) (let v6:Int:=mx ((((List.getD x4.2.2.2.1 aZ.toNat bl).2).2).1) (W .i64 (0-((((List.getD x4.2.2.2.1 aZ.toNat bl).2).2).1)));cond (small (List.length bu+List.length ([v6]))) (AO x2 x4 x8 (x9++([(List.getD x4.2.2.2.1 aZ.toNat bl).1])) (bu++([v6])) (W .i64 (aZ+1))) (none)) (none)) (AO x2 x4 x8 x9 bu (W .i64 (aZ+1)))) (AO x2 x4 x8 x9 bu (W .i64 (aZ+1)))) (AO x2 x4 x8 x9 bu (W .i64 (aZ+1)))) (none)) ((eH N (mx x8 (W .i64 (0-x8))) bu bu).bind λxV=>cond (!aO xV.2.2 0) (some ([],xV.2.2)) (ana x2 x8 x9 xV.1 ([((0:Int),(x2,((W .i64 (0-x8)),())))]) (0:Int)))
def fA.BA(N:Nat):Nat→fA.w9
 |0,_,_,_,_,_,_=>none
 |n+1,x2,x4,x8,x9,bu,aZ=>fA.yO N (fA.Uc N N) (fA.BA N n) x2 x4 x8 x9 bu aZ
def fA.b(N:Nat)(N8:fA.w9)(a0:ae)(a1:aq)(a2:Int):Option (au×(Int)):=
 (fW N a0 a1).bind λr1=>cond (!r1) (some ([],(1:Int))) (cond (aY a2 0) (some ([],(3:Int))) (cond (dj (List.length a0.1:Int) a2) (some ([],(3:Int))) ((Bo N a1.2.2.2.1 (0:Int) a2).bind λr2=>cond (aO r2 0) (some ([],(0:Int))) (N8 a2 a1 r2 ([]) ([]) (0:Int)))))
def fA(N:Nat)(a0:ae)(a1:aq)(a2:Int):Option (au×(Int)):=fA.b N (fA.BA N N) a0 a1 a2
abbrev nw.bM:=ae→aq→aq→au→Int→Option (aq×(Int))
def nw.dV(N:Nat)(bO:nw.bM)(x2:ae)(x3:aq)(x4:aq)(x6:au)(x7:Int):Option (aq×(Int)):=
 cond (aY x7 (List.length x2.1:Int)) ((fA N x2 x3 x7).bind λr3=>cond (!aO r3.2 0) (some ((cm,(c8,(bH,(bH,(dC,(dP,())))))),r3.2)) (cond (small (List.length x6+List.length r3.1)) (bO x2 x3 x4 (x6++r3.1) (W .i64 (x7+1))) (none))) ((xT N x3 x6 ([]:List ((Int)×((Int)×(((Bool)×((List (Int))×(Unit)))×(Unit)))))).bind λr6=>some (r6.1,r6.2))
def nw.l5(N:Nat):Nat→nw.bM
 |0,_,_,_,_,_=>none
 |n+1,x2,x3,x4,x6,x7=>nw.dV N (nw.l5 N n) x2 x3 x4 x6 x7
def nw.b(N:Nat)(eT:nw.bM)(a0:ae)(a1:aq):Option (aq×(Int)):=
 (fW N a0 a1).bind λr1=>cond (!r1) (some ((cm,(c8,(bH,(bH,(dC,(dP,())))))),(1:Int))) (eT a0 a1 (cm,(c8,(bH,(bH,(dC,(dP,())))))) ([]) (0:Int))
def nw(N:Nat)(a0:ae)(a1:aq):Option (aq×(Int)):=nw.b N (nw.l5 N N) a0 a1
abbrev nz.Yg:=aQ→aQ→db→bw→Int→Int→Option (aQ×db)
def nz.aaE(N:Nat)(af1:nz.Yg)(x4:aQ)(x6:aQ)(x7:db)(cw:bw)(eN:Int)(fp:Int):Option (aQ×db):=
 cond (aY fp (List.length cw:Int)) (cond (ba fp (List.length cw)) (cond (aO (((((List.getD cw fp.toNat ((0:Int),(cm,aV))).2).2).2).1) (2:Int)) (af1 x4 x6 x7 cw (W .i64 (eN+1)) (W .i64 (fp+1))) (af1 x4 x6 x7 cw eN (W .i64 (fp+1)))) (none)) (some (x4,((0:Int),(eN,((0:Int),())))))
def nz.l41(N:Nat):Nat→nz.Yg
 |0,_,_,_,_,_,_=>none
 |n+1,x4,x6,x7,cw,eN,fp=>nz.aaE N (nz.l41 N n) x4 x6 x7 cw eN fp
def nz.b(N:Nat)(anb:nz.Yg)(a0:ae)(a1:aQ)(a2:gJ):Option (aQ×db):=
 cond (aO a2.1 14) ((T2 N a0 a1.2.2.1 a1.2.2.2.1.1 a2.2.1 a2.2.2.1).bind λr1=>(fm N r1.2).bind λr2=>some ((a1.1,(a1.2.1,(r1.1,a1.2.2.2))),r2)) (cond (aO a2.1 15) ((mF N a0 a1.2.2.1 a1.2.2.2.1.1).bind λr3=>(fm N r3.2).bind λr4=>some ((a1.1,(a1.2.1,(r3.1,((a1.2.2.2.1.1,((2:Int),((0:Int),a1.2.2.2.1.2.2.2))),a1.2.2.2.2)))),r4)) (cond (aO a2.1 16) ((iM N a0 a1.2.2.1 a1.2.1).bind λr5=>some ((a1.1,((W .i64 (a1.2.1+(List.length r5.1:Int))),(a1.2.2.1,((a1.2.2.2.1.1,(a1.2.2.2.1.2.1,(a1.2.2.2.1.2.2.1,(a1.2.2.2.1.2.2.2.1,(r5.1,a1.2.2.2.1.2.2.2.2.2))))),a1.2.2.2.2)))),(r5.2,((List.length r5.1:Int),((0:Int),()))))) (cond (aO a2.1 17) ((ny N a0 a1 a2).bind λr7=>some (r7.1,r7.2)) (cond (aO a2.1 18) (cond (aO a1.2.2.2.1.2.2.2.1 3) ((fm N (5:Int)).bind λr8=>some (a1,r8)) ((bR N a0 a1.2.2.1 a1.2.1).bind λr9=>cond (!aO r9.2 0) ((fm N r9.2).bind λkK=>some (a1,kK)) ((Ue N a1 a0.2.2.2.2.1).bind λnI=>cond (!nI.2) ((fm N (2:Int)).bind λoE=>some (a1,oE)) ((rj N a0 a1.2.2.1).bind λxV=>some ((a1.1,((W .i64 (a1.2.1+(List.length r9.1:Int))),(a1.2.2.1,((a1.2.2.2.1.1,((3:Int),(nI.1,((W .i64 (a1.2.2.2.1.2.2.2.1+1)),(c8,(r9.1,(c8,(xV.1,a1.2.2.2.1.2.2.2.2.2.2.2.2)))))))),a1.2.2.2.2)))),((0:Int),((List.length r9.1:Int),((0:Int),())))))))) (cond (aO a2.1 19) ((aaw N a0 a1.2.2.1 a1.2.2.2.1.2.2.2.2.2.1 a1.2.2.2.1.2.2.2.2.2.2.1 (a1.2.1,(a2.2.2.2.2.2.1,(a2.2.1,(a2.2.2.2.2.2.2.2.1,()))))).bind λxF=>let v17:Int:=W .i64 (a1.2.1+1);some ((a1.1,(v17,(a1.2.2.1,((a1.2.2.2.1.1,(a1.2.2.2.1.2.1,(a1.2.2.2.1.2.2.1,(a1.2.2.2.1.2.2.2.1,(a1.2.2.2.1.2.2.2.2.1,(a1.2.2.2.1.2.2.2.2.2.1,(xF.1,a1.2.2.2.1.2.2.2.2.2.2.2))))))),a1.2.2.2.2)))),(xF.2,((W .i64 (v17-1)),((0:Int),()))))) (cond (aO a2.1 20) ((fG N a0 a1.2.2.1 a1.2.2.2.1.2.2.2.2.2.1 a1.2.2.2.1.2.2.2.2.2.2.1).bind λOa=>cond (!aO Oa.2.2 0) ((fm N Oa.2.2).bind λN3=>some (a1,N3)) ((du N a0 a1.2.2.2.1.2.2.2.2.2.2.2.2.1 a1.2.2.2.1.2.2.2.2.2.2.2.1 Oa.2.1 a1.2.2.2.1.2.2.2.2.2.2.1).bind λDY=>anb (a1.1,(a1.2.1,(Oa.1,((a1.2.2.2.1.1,((2:Int),((0:Int),(a1.2.2.2.1.2.2.2.1,(a1.2.2.2.1.2.2.2.2.1,(Oa.2.1,(a1.2.2.2.1.2.2.2.2.2.2.1,(a1.2.2.2.1.2.2.2.2.2.2.2.1,(DY.1,a1.2.2.2.1.2.2.2.2.2.2.2.2.2))))))))),a1.2.2.2.2)))) ((0:Int),((0:Int),((cm,(c8,(bH,(bH,(dC,(dP,())))))),(((0:Int),((0:Int),((0:Int),((0:Int),(c8,(([]:List ((Int)×((List ((Int)×((Int)×(Unit))))×((Int)×((Int)×((Int)×((Int)×(Unit)))))))),(c8,(dC,(cm,(cm,())))))))))),(((0:Int),((0:Int),(CT,((0:Int),())))),()))))) bl Oa.2.1 (0:Int) (0:Int))) (cond (aO a2.1 21) ((ib N a0 a1.2.2.1 a1.2.2.2.1.1 a1.2.2.2.1.2.2.2.2.2.2.2.2.1 a1.2.2.2.1.2.2.2.2.2.2.2.2.2.1).bind λCO=>cond (!aO CO.2.2 0) ((fm N CO.2.2).bind λN2=>some (a1,N2)) ((nw N a0 CO.1).bind λr28=>cond (!aO r28.2 0) ((fm N r28.2).bind λDZ=>some (a1,DZ)) ((lq N r28.1.1 a1.2.2.2.1.1 a2.1).bind λQO=>some ((a1.1,(a1.2.1,((QO.1,r28.1.2),(((0:Int),((0:Int),((0:Int),((0:Int),(c8,(([]:List ((Int)×((List ((Int)×((Int)×(Unit))))×((Int)×((Int)×((Int)×((Int)×(Unit)))))))),(c8,(dC,(cm,(cm,())))))))))),(CO.2.1,a1.2.2.2.2.2))))),(QO.2,((0:Int),(CO.2.1.2.1,()))))))) ((fm N (0:Int)).bind λGQ=>some (a1,GQ)))))))))
def nz(N:Nat)(a0:ae)(a1:aQ)(a2:gJ):Option (aQ×db):=nz.b N (nz.l41 N N) a0 a1 a2
abbrev pE.Yd:=ae→aQ→gJ→aQ→db→Option (aQ×db)
def pE.Nz(N:Nat)(x3:ae)(x4:aQ)(x5:gJ)(x6:aQ)(x7:db):Option (aQ×db):=
 (aaF N x4 x5.1).bind λN2=>cond (!N2) ((fm N (6:Int)).bind λr28=>some (x4,r28)) ((nz N x3 x4 x5).bind λDZ=>some (DZ.1,DZ.2))
def pE.T7(N:Nat)(x3:ae)(x4:aQ)(x5:gJ)(x6:aQ)(x7:db):Option (aQ×db):=pE.Nz N x3 x4 x5 x6 x7
def pE.b(N:Nat)(Ob:pE.Yd)(a0:ae)(a1:aQ)(a2:gJ):Option (aQ×db):=
 cond (aO a2.1 11) ((lq N a1.2.2.1.1 a2.2.1 a2.1).bind λr1=>cond (aO r1.2 0) (cond (aO a2.1 11) ((Ky N a0 (r1.1,a1.2.2.1.2) a2.2.1).bind λr2=>cond (aO a1.2.2.2.1.2.1 3) ((o4 N a1.2.2.2.1.2.2.2.2.2.2.1 a2.2.1).bind λr3=>(fm N r1.2).bind λr4=>some ((a1.1,(a1.2.1,(r2.1,((a1.2.2.2.1.1,(a1.2.2.2.1.2.1,(a1.2.2.2.1.2.2.1,(a1.2.2.2.1.2.2.2.1,(a1.2.2.2.1.2.2.2.2.1,(a1.2.2.2.1.2.2.2.2.2.1,(r3,a1.2.2.2.1.2.2.2.2.2.2.2))))))),a1.2.2.2.2)))),r4)) ((fm N r1.2).bind λr5=>some ((a1.1,(a1.2.1,(r2.1,a1.2.2.2))),r5))) ((fm N r1.2).bind λr6=>some ((a1.1,(a1.2.1,((r1.1,a1.2.2.1.2),a1.2.2.2))),r6))) ((fm N r1.2).bind λr7=>some ((a1.1,(a1.2.1,((r1.1,a1.2.2.1.2),a1.2.2.2))),r7))) (cond (aO a2.1 12) ((lq N a1.2.2.1.1 a2.2.1 a2.1).bind λr8=>cond (aO r8.2 0) (cond (aO a2.1 11) ((Ky N a0 (r8.1,a1.2.2.1.2) a2.2.1).bind λr9=>cond (aO a1.2.2.2.1.2.1 3) ((o4 N a1.2.2.2.1.2.2.2.2.2.2.1 a2.2.1).bind λkK=>(fm N r8.2).bind λnI=>some ((a1.1,(a1.2.1,(r9.1,((a1.2.2.2.1.1,(a1.2.2.2.1.2.1,(a1.2.2.2.1.2.2.1,(a1.2.2.2.1.2.2.2.1,(a1.2.2.2.1.2.2.2.2.1,(a1.2.2.2.1.2.2.2.2.2.1,(kK,a1.2.2.2.1.2.2.2.2.2.2.2))))))),a1.2.2.2.2)))),nI)) ((fm N r8.2).bind λoE=>some ((a1.1,(a1.2.1,(r9.1,a1.2.2.2))),oE))) ((fm N r8.2).bind λqm=>some ((a1.1,(a1.2.1,((r8.1,a1.2.2.1.2),a1.2.2.2))),qm))) ((fm N r8.2).bind λxV=>some ((a1.1,(a1.2.1,((r8.1,a1.2.2.1.2),a1.2.2.2))),xV))) (cond (aO a2.1 13) ((F1 N a1 a2.2.1).bind λwY=>cond (aO wY 0) ((fm N (3:Int)).bind λxF=>some (a1,xF)) (cond (!aO a1.2.2.2.1.2.1 0) ((fm N (6:Int)).bind λAV=>some (a1,AV)) ((lq N a1.2.2.1.1 a2.2.1 a2.1).bind λu6=>cond (!aO u6.2 0) ((fm N u6.2).bind λOa=>some ((a1.1,(a1.2.1,((u6.1,a1.2.2.1.2),a1.2.2.2))),Oa)) ((Ue N (a1.1,(a1.2.1,((u6.1,a1.2.2.1.2),a1.2.2.2))) a0.2.2.2.1).bind λN3=>cond (!N3.2) ((fm N (2:Int)).bind λDY=>some ((a1.1,(a1.2.1,((u6.1,a1.2.2.1.2),a1.2.2.2))),DY)) (some ((a1.1,(a1.2.1,((u6.1,a1.2.2.1.2),((a2.2.1,((1:Int),(N3.1,((0:Int),(c8,(([]:List ((Int)×((List ((Int)×((Int)×(Unit))))×((Int)×((Int)×((Int)×((Int)×(Unit)))))))),(c8,(dC,(cm,(cm,())))))))))),a1.2.2.2.2)))),bl)))))) (cond (aO a2.1 19) ((F1 N a1 a2.2.1).bind λKR=>cond (aO KR 0) ((fm N (3:Int)).bind λCL=>some (a1,CL)) ((F1 N a1 a2.2.1).bind λLd=>cond (!aO Ld 1) ((fm N (7:Int)).bind λGP=>some (a1,GP)) (Ob a0 a1 a2 ((0:Int),((0:Int),((cm,(c8,(bH,(bH,(dC,(dP,())))))),(((0:Int),((0:Int),((0:Int),((0:Int),(c8,(([]:List ((Int)×((List ((Int)×((Int)×(Unit))))×((Int)×((Int)×((Int)×((Int)×(Unit)))))))),(c8,(dC,(cm,(cm,())))))))))),(((0:Int),((0:Int),(CT,((0:Int),())))),()))))) bl))) (Ob a0 a1 a2 ((0:Int),((0:Int),((cm,(c8,(bH,(bH,(dC,(dP,())))))),(((0:Int),((0:Int),((0:Int),((0:Int),(c8,(([]:List ((Int)×((List ((Int)×((Int)×(Unit))))×((Int)×((Int)×((Int)×((Int)×(Unit)))))))),(c8,(dC,(cm,(cm,())))))))))),(((0:Int),((0:Int),(CT,((0:Int),())))),()))))) bl))))
def pE(N:Nat)(a0:ae)(a1:aQ)(a2:gJ):Option (aQ×db):=pE.b N (pE.T7 N) a0 a1 a2
def Ug(N:Nat)(a0:ae)(a1:aQ)(a2:gJ):Option (aQ×db):=
 cond (aO a2.1 1) ((hZ N a1.2.2.1.1 a2.2.1).bind λr1=>(fm N r1.2).bind λr2=>some ((a1.1,(a1.2.1,((r1.1,a1.2.2.1.2),a1.2.2.2))),r2)) (cond (aO a2.1 2) ((fa N a1.2.2.1.1 a1.2.2.1.2.1 (a2.2.2.1,(a2.2.1,(a2.2.2.2.2.1,((0:Int),()))))).bind λr3=>(fm N r3.2).bind λr4=>some ((a1.1,(a1.2.1,((a1.2.2.1.1,(r3.1,a1.2.2.1.2.2)),a1.2.2.2))),r4)) (cond (aO a2.1 3) ((Qy N a1 a2.2.2.1).bind λr5=>cond (!r5) ((fm N (3:Int)).bind λr6=>some (a1,r6)) ((NG N a1 (1:Int) (0:Int) (5:Int) a2.2.2.1 a2.2.2.2.2.2.2.1).bind λr7=>some (r7.1,r7.2))) (cond (aO a2.1 4) ((T1 N a0 a1.2.2.1 a2.2.2.1 a2.2.2.2.2.2.2.1).bind λr8=>(fm N r8.2).bind λr9=>some ((a1.1,(a1.2.1,(r8.1,a1.2.2.2))),r9)) (cond (aO a2.1 5) ((F1 N a1 a2.2.1).bind λkK=>cond (aO kK 0) ((fm N (3:Int)).bind λnI=>some (a1,nI)) ((F1 N a1 a2.2.1).bind λoE=>cond (!aO oE 1) ((fm N (7:Int)).bind λqm=>some (a1,qm)) ((NG N a1 (1:Int) (0:Int) (6:Int) a2.2.1 a2.2.2.2.2.2.2.1).bind λxV=>some (xV.1,xV.2)))) (cond (aO a2.1 22) ((F1 N a1 a2.2.1).bind λwY=>cond (aO wY 0) ((fm N (3:Int)).bind λxF=>some (a1,xF)) ((uy N a1.2.2.1.2.2.1 (7:Int) a2.2.1).bind λAV=>(jN N AV).bind λu6=>(Tk N u6).bind λOa=>(jN N a2.2.2.2.2.2.2.1).bind λN3=>(Pv N N3 Oa).bind λDY=>cond (aY 0 DY) ((fm N (9:Int)).bind λKR=>some (a1,KR)) ((NG N a1 (1:Int) (0:Int) (7:Int) a2.2.1 a2.2.2.2.2.2.2.1).bind λCL=>some (CL.1,CL.2)))) (cond (aO a2.1 6) ((nr N a1.2.2.1.2.1 a2.2.2.1 a2.2.2.2.2.2.2.1).bind λLd=>(fm N Ld.2).bind λGP=>some ((a1.1,(a1.2.1,((a1.2.2.1.1,(Ld.1,a1.2.2.1.2.2)),a1.2.2.2))),GP)) (cond (aO a2.1 7) ((jb N a0 a1.2.2.1 (a1.2.1,(a2.2.2.1,(a2.2.2.2.1,(a2.2.2.2.2.1,(a2.2.2.2.2.2.2.1,(a2.2.2.2.2.2.2.2.1,()))))))).bind λCO=>let v27:Int:=W .i64 (a1.2.1+1);some ((a1.1,(v27,(CO.1,a1.2.2.2))),(CO.2.2.2,((W .i64 (v27-1)),((W .i64 (a2.2.2.2.2.2.2.1-CO.2.2.1)),()))))) (cond (aO a2.1 8) ((Qy N a1 a2.2.2.1).bind λQO=>cond (!QO) ((fm N (3:Int)).bind λGQ=>some (a1,GQ)) ((nu N a1.2.2.1.2.2.2.2.2.1 a2.2.2.1 a2.2.2.2.2.2.1).bind λr32=>(fm N r32.2).bind λr33=>some ((a1.1,(a1.2.1,((a1.2.2.1.1,(a1.2.2.1.2.1,(a1.2.2.1.2.2.1,(a1.2.2.1.2.2.2.1,(a1.2.2.1.2.2.2.2.1,(r32.1,a1.2.2.1.2.2.2.2.2.2)))))),a1.2.2.2))),r33))) (cond (aO a2.1 9) ((T0 N a0 a1.2.2.1 a2.2.2.2.1 a2.2.2.2.2.2.2.2.1).bind λX0=>cond (aO X0.2.2 0) (cond (!aO a1.2.2.2.1.2.1 0) ((eL N a1.2.2.2.1.2.2.2.2.2.2.2.2.2.1 X0.2.1).bind λr35=>(fm N r35.2).bind λr36=>some ((a1.1,(a1.2.1,(X0.1,((a1.2.2.2.1.1,(a1.2.2.2.1.2.1,(a1.2.2.2.1.2.2.1,(a1.2.2.2.1.2.2.2.1,(a1.2.2.2.1.2.2.2.2.1,(a1.2.2.2.1.2.2.2.2.2.1,(a1.2.2.2.1.2.2.2.2.2.2.1,(a1.2.2.2.1.2.2.2.2.2.2.2.1,(a1.2.2.2.1.2.2.2.2.2.2.2.2.1,(r35.1,a1.2.2.2.1.2.2.2.2.2.2.2.2.2.2)))))))))),a1.2.2.2.2)))),r36)) ((fm N X0.2.2).bind λr37=>some ((a1.1,(a1.2.1,(X0.1,a1.2.2.2))),r37))) ((fm N X0.2.2).bind λr38=>some ((a1.1,(a1.2.1,(X0.1,a1.2.2.2))),r38))) (cond (aO a2.1 10) ((Ue N a1 a2.2.2.2.2.2.2.1).bind λr39=>cond (!r39.2) ((fm N (2:Int)).bind λr40=>some (a1,r40)) (some ((r39.1,a1.2),bl))) ((pE N a0 a1 a2).bind λr41=>some (r41.1,r41.2))))))))))))
def Qz(N:Nat)(a0:ae)(a1:aQ)(a2:gJ):Option (aQ×db):=
 (lR N a0).bind λr1=>cond (!r1) (some (a1,((1:Int),cz))) ((ra N a2).bind λr2=>cond (!r2) (some (a1,((1:Int),cz))) ((Ug N a0 a1 a2).bind λr3=>cond (!aO r3.2.1 0) (some (a1,(r3.2.1,cz))) (some (r3.1,r3.2))))
abbrev p8.ah7:=cD→cR→aQ→Option (aQ×cD×cR)
def p8.l1b(N:Nat)(asi:p8.ah7)(x0:cD)(x1:cR)(x4:aQ):Option (aQ×cD×cR):=
 cond (aY x0.2.2.1 (List.length x1:Int)) (cond (ba x0.2.2.1 (List.length x1)) ((Qz N x0.1 x0.2.1 (List.getD x1 x0.2.2.1.toNat zz8)).bind λr2=>asi (x0.1,(r2.1,((W .i64 (x0.2.2.1+1)),x0.2.2.2))) x1 x4) (none)) (some (x0.2.1,x0,x1))
def p8.l1(N:Nat):Nat→p8.ah7
 |0,_,_,_=>none
 |n+1,x0,x1,x4=>p8.l1b N (p8.l1 N n) x0 x1 x4
def p8.b(N:Nat)(asj:p8.ah7)(a0:cD)(a1:cR):Option (aQ×cD×cR):=
 asj a0 a1 ((0:Int),((0:Int),((cm,(c8,(bH,(bH,(dC,(dP,())))))),(((0:Int),((0:Int),((0:Int),((0:Int),(c8,(([]:List ((Int)×((List ((Int)×((Int)×(Unit))))×((Int)×((Int)×((Int)×((Int)×(Unit)))))))),(c8,(dC,(cm,(cm,())))))))))),(((0:Int),((0:Int),(CT,((0:Int),())))),())))))
def p8(N:Nat)(a0:cD)(a1:cR):Option (aQ×cD×cR):=p8.b N (p8.l1 N N) a0 a1
abbrev dR.w4:=aL→cD→cR→aQ→Int→ik→Int→Option (cR×aL×cD)
abbrev dR.fV:=aL→cD→cR→aQ→Int→Option (cR×aL×cD)
abbrev dR.Jn:=aL→cD→cR→Option (cR×aL×cD)
abbrev dR.bM:=aL→cD→cR→aQ→Int→Option (cR×aL×cD)
def dR.Dh(N:Nat)(gI:dR.fV)(Jm:dR.w4)(x0:aL)(x1:cD)(x2:cR)(bu:aQ)(aZ:Int)(bf:ik)(bY:Int):Option (cR×aL×cD):=
 cond (dj bY 4) ((Qr N x0 (3:Int)).bind λDY=>cond (!DY.1) ((pB N DY.2 (41:Int)).bind λKR=>let v26:Int:=mx (mn (W .i64 ((W .i64 (bf.2.2.1+KR.1))-20)) (1152921504606846976:Int)) (-1152921504606846976:Int);cond (small (List.length x2+List.length ([((19:Int),(bY,((0:Int),((0:Int),((0:Int),(bf.1,((0:Int),(v26,()))))))))]))) (Jm KR.2 x1 (x2++([((19:Int),(bY,((0:Int),((0:Int),((0:Int),(bf.1,((0:Int),(v26,()))))))))])) bu aZ bf (W .i64 (bY+1))) (none)) (Jm DY.2 x1 x2 bu aZ bf (W .i64 (bY+1)))) (gI x0 x1 x2 bu (W .i64 (aZ+1)))
def dR.DN(N:Nat)(gI:dR.fV):Nat→dR.w4
 |0,_,_,_,_,_,_,_=>none
 |n+1,x0,x1,x2,bu,aZ,bf,bY=>dR.Dh N gI (dR.DN N gI n) x0 x1 x2 bu aZ bf bY
def dR.mE(N:Nat)(N5:dR.w4)(gI:dR.fV)(x0:aL)(x1:cD)(x2:cR)(bu:aQ)(aZ:Int):Option (cR×aL×cD):=
 cond (aY aZ (List.length bu.2.2.2.1.2.2.2.2.2.1:Int)) (cond (ba aZ (List.length bu.2.2.2.1.2.2.2.2.2.1)) (N5 x0 x1 x2 bu aZ (List.getD bu.2.2.2.1.2.2.2.2.2.1 aZ.toNat ((0:Int),(cm,aV))) (1:Int)) (none)) ((nq N x0 x1.1).bind λGQ=>cond (small (List.length x2+List.length GQ.1)) (let v32:List ((Int)×((Int)×((Int)×((Int)×((Int)×((Int)×((Int)×((Int)×(Unit))))))))):=x2++GQ.1;cond (small (List.length v32+List.length ([((10:Int),((0:Int),((0:Int),((0:Int),((0:Int),((0:Int),((2:Int),((0:Int),())))))))),((20:Int),K4)]))) (some ((v32++([((10:Int),((0:Int),((0:Int),((0:Int),((0:Int),((0:Int),((2:Int),((0:Int),())))))))),((20:Int),K4)])),GQ.2,x1)) (none)) (none))
def dR.nG(N:Nat):Nat→dR.fV
 |0,_,_,_,_,_=>none
 |n+1,x0,x1,x2,bu,aZ=>dR.mE N (dR.DN N (dR.nG N n) N) (dR.nG N n) x0 x1 x2 bu aZ
def dR.BC(N:Nat)(tG:dR.fV)(x0:aL)(x1:cD)(x2:cR):Option (cR×aL×cD):=
 cond (small (List.length x2+List.length ([((18:Int),K4)]))) ((p8 N x1 (x2++([((18:Int),K4)]))).bind λu6=>tG x0 u6.2.1 u6.2.2 u6.1 (0:Int)) (none)
def dR.Hy(N:Nat)(x0:aL)(x1:cD)(x2:cR):Option (cR×aL×cD):=dR.BC N (dR.nG N N) x0 x1 x2
def dR.dV(N:Nat)(w8:dR.Jn)(bO:dR.bM)(x0:aL)(x1:cD)(x2:cR)(x7:aQ)(x8:Int):Option (cR×aL×cD):=
 cond (aY x8 (List.length x7.2.2.2.1.2.2.2.2.1:Int)) (cond (ba x8 (List.length x7.2.2.2.1.2.2.2.2.1)) ((Qr N x0 (2:Int)).bind λr5=>cond (r5.1) ((pB N r5.2 (7:Int)).bind λr6=>let v7:Int:=W .i64 ((1:Int)+r6.1);(F62 N r6.2).bind λr8=>let v9:Int:=W .u64 (((((List.getD x7.2.2.2.1.2.2.2.2.1 x8.toNat aV).2).2).2).1);cond (aO v9 0) (none) (let X9:Int:=W .i64 ((1:Int)+(W .i64 (rem r8.1 v9)));cond (ba (((List.getD x7.2.2.2.1.2.2.2.2.1 x8.toNat aV).2).1) (List.length x7.2.2.1.2.2.2.2.1)) (cond (small (List.length x2+List.length ([((17:Int),((0:Int),(v7,((0:Int),((0:Int),((List.getD x7.2.2.2.1.2.2.2.2.1 x8.toNat aV).1,(X9,(List.getD x7.2.2.1.2.2.2.2.1 (((List.getD x7.2.2.2.1.2.2.2.2.1 x8.toNat aV).2).1).toNat (0:Int),()))))))))]))) (bO r8.2 x1 (x2++([((17:Int),((0:Int),(v7,((0:Int),((0:Int),((List.getD x7.2.2.2.1.2.2.2.2.1 x8.toNat aV).1,(X9,(List.getD x7.2.2.1.2.2.2.2.1 (((List.getD x7.2.2.2.1.2.2.2.2.1 x8.toNat aV).2).1).toNat (0:Int),()))))))))])) x7 (W .i64 (x8+1))) (none)) (none))) (bO r5.2 x1 x2 x7 (W .i64 (x8+1)))) (none)) (w8 x0 x1 x2)
def dR.l5(N:Nat):Nat→dR.bM
 |0,_,_,_,_,_=>none
 |n+1,x0,x1,x2,x7,x8=>dR.dV N (dR.Hy N) (dR.l5 N n) x0 x1 x2 x7 x8
def dR.b(N:Nat)(eT:dR.bM)(w8:dR.Jn)(a0:aL)(a1:cD)(a2:cR):Option (cR×aL×cD):=
 (Qr N a0 (2:Int)).bind λr1=>cond (r1.1) (cond (small (List.length a2+List.length ([((16:Int),K4)]))) ((p8 N a1 (a2++([((16:Int),K4)]))).bind λr3=>eT r1.2 r3.2.1 r3.2.2 r3.1 (0:Int)) (none)) (w8 r1.2 a1 a2)
def dR(N:Nat)(a0:aL)(a1:cD)(a2:cR):Option (cR×aL×cD):=dR.b N (dR.l5 N N) (dR.Hy N) a0 a1 a2
abbrev je.w4:=aL→ae→cD→cR→Int→Option (cR×aL)
abbrev je.mc:=aL→ae→cD→cR→Int→Option (cR×aL)
def je.Dh(N:Nat)(Jm:je.w4)(x0:aL)(x4:ae)(x9:cD)(bu:cR)(bY:Int):Option (cR×aL):=
 cond (aY 0 bY) ((dR N x0 x9 bu).bind λGP=>Jm GP.2.1 x4 GP.2.2 GP.1 (W .i64 (bY-1))) ((Qr N x0 (4:Int)).bind λN2=>cond (!N2.1) (cond (small (List.length bu+List.length ([((21:Int),K4)]))) (let v28:List ((Int)×((Int)×((Int)×((Int)×((Int)×((Int)×((Int)×((Int)×(Unit))))))))):=bu++([((21:Int),K4)]);(nq N N2.2 x4).bind λDZ=>cond (small (List.length v28+List.length DZ.1)) (some ((v28++DZ.1),DZ.2)) (none)) (none)) ((nq N N2.2 x4).bind λGQ=>cond (small (List.length bu+List.length GQ.1)) (some ((bu++GQ.1),GQ.2)) (none)))
def je.DN(N:Nat):Nat→je.w4
 |0,_,_,_,_,_=>none
 |n+1,x0,x4,x9,bu,bY=>je.Dh N (je.DN N n) x0 x4 x9 bu bY
def je.xp(N:Nat)(N5:je.w4)(rC:je.mc)(x0:aL)(x4:ae)(x9:cD)(bu:cR)(bf:Int):Option (cR×aL):=
 cond (dj bf 7) ((Qr N x0 (3:Int)).bind λkK=>cond (kK.1) ((pB N kK.2 (2:Int)).bind λnI=>let X9:Int:=W .i64 ((3:Int)+nI.1);cond (small (List.length bu+List.length ([((14:Int),(X9,(bf,mz)))]))) (rC nI.2 x4 x9 (bu++([((14:Int),(X9,(bf,mz)))])) (W .i64 (bf+1))) (none)) (rC kK.2 x4 x9 bu (W .i64 (bf+1)))) ((nq N x0 x4).bind λxF=>cond (small (List.length bu+List.length xF.1)) (let v17:List ((Int)×((Int)×((Int)×((Int)×((Int)×((Int)×((Int)×((Int)×(Unit))))))))):=bu++xF.1;(pB N xF.2 (2:Int)).bind λu6=>let v19:Int:=W .i64 ((2:Int)+u6.1);cond (small (List.length v17+List.length ([((10:Int),((0:Int),((0:Int),((0:Int),((0:Int),((0:Int),(v19,((0:Int),())))))))),((15:Int),K4)]))) (let v20:List ((Int)×((Int)×((Int)×((Int)×((Int)×((Int)×((Int)×((Int)×(Unit))))))))):=v17++([((10:Int),((0:Int),((0:Int),((0:Int),((0:Int),((0:Int),(v19,((0:Int),())))))))),((15:Int),K4)]);(nq N u6.2 x4).bind λDY=>cond (small (List.length v20+List.length DY.1)) ((pB N DY.2 (3:Int)).bind λCL=>N5 CL.2 x4 x9 (v20++DY.1) CL.1) (none)) (none)) (none))
def je.l9(N:Nat):Nat→je.mc
 |0,_,_,_,_,_=>none
 |n+1,x0,x4,x9,bu,bf=>je.xp N (je.DN N N) (je.l9 N n) x0 x4 x9 bu bf
def je.b(N:Nat)(yU:je.mc)(a0:aL)(a1:ae)(a2:Int):Option (cR×aL):=
 (XP N a1).bind λr1=>(pD N a0 a1 a2).bind λr2=>(pB N r2.2 (2:Int)).bind λr3=>let v4:Int:=W .i64 ((1:Int)+r3.1);cond (small (List.length r2.1+List.length ([((11:Int),(v4,e7))]))) (let v5:List ((Int)×((Int)×((Int)×((Int)×((Int)×((Int)×((Int)×((Int)×(Unit))))))))):=r2.1++([((11:Int),(v4,e7))]);(nq N r3.2 a1).bind λr6=>cond (small (List.length v5+List.length r6.1)) (let v7:List ((Int)×((Int)×((Int)×((Int)×((Int)×((Int)×((Int)×((Int)×(Unit))))))))):=v5++r6.1;cond (small (List.length v7+List.length ([((13:Int),(v4,e7))]))) (yU r6.2 a1 (a1,(r1.1,((0:Int),()))) (v7++([((13:Int),(v4,e7))])) (5:Int)) (none)) (none)) (none)
def je(N:Nat)(a0:aL)(a1:ae)(a2:Int):Option (cR×aL):=je.b N (je.l9 N N) a0 a1 a2
abbrev Gh.bM:=aL→ae→cR→Int→Option (cR×aL)
def Gh.dV(N:Nat)(bO:Gh.bM)(x0:aL)(x4:ae)(x7:cR)(x8:Int):Option (cR×aL):=
 cond (aY 0 x8) ((TU N x0 x4).bind λr5=>cond (small (List.length x7+List.length ([r5.1]))) (bO r5.2 x4 (x7++([r5.1])) (W .i64 (x8-1))) (none)) (some (x7,x0))
def Gh.l5(N:Nat):Nat→Gh.bM
 |0,_,_,_,_=>none
 |n+1,x0,x4,x7,x8=>Gh.dV N (Gh.l5 N n) x0 x4 x7 x8
def Gh.b(N:Nat)(eT:Gh.bM)(a0:aL)(a1:ae)(a2:Int):Option (cR×aL):=
 (pB N a0 (5:Int)).bind λr1=>cond (aO r1.1 0) ((pB N r1.2 (W .i64 (a2+1))).bind λr3=>eT r3.2 a1 ([]) r3.1) (cond (aO r1.1 1) ((pD N r1.2 a1 a2).bind λr8=>some (r8.1,r8.2)) ((je N r1.2 a1 a2).bind λr9=>some (r9.1,r9.2)))
def Gh(N:Nat)(a0:aL)(a1:ae)(a2:Int):Option (cR×aL):=Gh.b N (Gh.l5 N N) a0 a1 a2
abbrev Gg.ju:=cR→ae→aQ→aQ→au→Int→Option (aQ×au)
def Gg.ud(N:Nat)(ko:Gg.ju)(x1:cR)(x2:ae)(x4:aQ)(x6:aQ)(x8:au)(x9:Int):Option (aQ×au):=
 cond (aY x9 (List.length x1:Int)) (cond (ba x9 (List.length x1)) ((Qz N x2 x6 (List.getD x1 x9.toNat zz8)).bind λr3=>cond (small (List.length x8+List.length ([r3.2]))) (ko x1 x2 x4 r3.1 (x8++([r3.2])) (W .i64 (x9+1))) (none)) (none)) (some (x6,x8))
def Gg.l6(N:Nat):Nat→Gg.ju
 |0,_,_,_,_,_,_=>none
 |n+1,x1,x2,x4,x6,x8,x9=>Gg.ud N (Gg.l6 N n) x1 x2 x4 x6 x8 x9
def Gg.b(N:Nat)(w3:Gg.ju)(a0:ae)(a1:cR):Option (aQ×au):=
 (XP N a0).bind λr1=>cond (!aO r1.2 0) (some (((0:Int),((0:Int),((cm,(c8,(bH,(bH,(dC,(dP,())))))),(((0:Int),((0:Int),((0:Int),((0:Int),(c8,(([]:List ((Int)×((List ((Int)×((Int)×(Unit))))×((Int)×((Int)×((Int)×((Int)×(Unit)))))))),(c8,(dC,(cm,(cm,())))))))))),(((0:Int),((0:Int),(CT,((0:Int),())))),()))))),[])) (w3 a1 a0 ((0:Int),((0:Int),((cm,(c8,(bH,(bH,(dC,(dP,())))))),(((0:Int),((0:Int),((0:Int),((0:Int),(c8,(([]:List ((Int)×((List ((Int)×((Int)×(Unit))))×((Int)×((Int)×((Int)×((Int)×(Unit)))))))),(c8,(dC,(cm,(cm,())))))))))),(((0:Int),((0:Int),(CT,((0:Int),())))),()))))) r1.1 ([]) (0:Int))
def Gg(N:Nat)(a0:ae)(a1:cR):Option (aQ×au):=Gg.b N (Gg.l6 N N) a0 a1
def F18(N:Nat)(a0:aL)(a1:ae)(a2:Int):Option (aQ×aL):=
 (Gh N a0 a1 a2).bind λr1=>(Gg N a1 r1.1).bind λr2=>some (r2.1,r1.2)
abbrev Dj.bD:=aD→aD→Int→Option (Bool)
def Dj.dv(N:Nat)(cr:Dj.bD)(x0:aD)(x1:aD)(x5:Int):Option (Bool):=
 cond (aY x5 (List.length x0:Int)) (cond (ba x5 (List.length x0)) (cond (ba x5 (List.length x1)) (cond (!(pa (.pair (.int .i64) (.pair (.int .i64) .unit)) (List.getD x0 x5.toNat cz) (List.getD x1 x5.toNat cz))) (some false) (cr x0 x1 (W .i64 (x5+1)))) (none)) (none)) (some true)
def Dj.l4(N:Nat):Nat→Dj.bD
 |0,_,_,_=>none
 |n+1,x0,x1,x5=>Dj.dv N (Dj.l4 N n) x0 x1 x5
def Dj.b(N:Nat)(eB:Dj.bD)(a0:aD)(a1:aD):Option (Bool):=
 cond (!aO (List.length a0:Int) (List.length a1:Int)) (some false) (eB a0 a1 (0:Int))
def Dj(N:Nat)(a0:aD)(a1:aD):Option (Bool):=Dj.b N (Dj.l4 N N) a0 a1
abbrev Dl.bD:=aM→aM→Int→Option (Bool)
def Dl.dv(N:Nat)(cr:Dl.bD)(x0:aM)(x1:aM)(x5:Int):Option (Bool):=
 cond (aY x5 (List.length x0:Int)) (cond (ba x5 (List.length x0)) (cond (ba x5 (List.length x1)) (cond (!(pa (.pair (.int .i64) (.pair (.int .i64) (.pair (.int .i64) (.pair (.int .i64) .unit)))) (List.getD x0 x5.toNat aV) (List.getD x1 x5.toNat aV))) (some false) (cr x0 x1 (W .i64 (x5+1)))) (none)) (none)) (some true)
def Dl.l4(N:Nat):Nat→Dl.bD
 |0,_,_,_=>none
 |n+1,x0,x1,x5=>Dl.dv N (Dl.l4 N n) x0 x1 x5
def Dl.b(N:Nat)(eB:Dl.bD)(a0:aM)(a1:aM):Option (Bool):=
 cond (!aO (List.length a0:Int) (List.length a1:Int)) (some false) (eB a0 a1 (0:Int))
def Dl(N:Nat)(a0:aM)(a1:aM):Option (Bool):=Dl.b N (Dl.l4 N N) a0 a1
abbrev Dm.bD:=au→au→Int→Option (Bool)
def Dm.dv(N:Nat)(cr:Dm.bD)(x0:au)(x1:au)(x5:Int):Option (Bool):=
 cond (aY x5 (List.length x0:Int)) (cond (ba x5 (List.length x0)) (cond (ba x5 (List.length x1)) (cond (!(pa (.pair (.int .i64) (.pair (.int .i64) (.pair (.int .i64) .unit))) (List.getD x0 x5.toNat bl) (List.getD x1 x5.toNat bl))) (some false) (cr x0 x1 (W .i64 (x5+1)))) (none)) (none)) (some true)
def Dm.l4(N:Nat):Nat→Dm.bD
 |0,_,_,_=>none
 |n+1,x0,x1,x5=>Dm.dv N (Dm.l4 N n) x0 x1 x5
def Dm.b(N:Nat)(eB:Dm.bD)(a0:au)(a1:au):Option (Bool):=
 cond (!aO (List.length a0:Int) (List.length a1:Int)) (some false) (eB a0 a1 (0:Int))
def Dm(N:Nat)(a0:au)(a1:au):Option (Bool):=Dm.b N (Dm.l4 N N) a0 a1
abbrev Dn.bD:=au→au→Int→Option (Bool)
def Dn.dv(N:Nat)(cr:Dn.bD)(x0:au)(x1:au)(x5:Int):Option (Bool):=
 cond (aY x5 (List.length x0:Int)) (cond (ba x5 (List.length x0)) (cond (ba x5 (List.length x1)) (cond (!(pa (.pair (.int .i64) (.pair (.int .i64) (.pair (.int .i64) .unit))) (List.getD x0 x5.toNat bl) (List.getD x1 x5.toNat bl))) (some false) (cr x0 x1 (W .i64 (x5+1)))) (none)) (none)) (some true)
def Dn.l4(N:Nat):Nat→Dn.bD
 |0,_,_,_=>none
 |n+1,x0,x1,x5=>Dn.dv N (Dn.l4 N n) x0 x1 x5
def Dn.b(N:Nat)(eB:Dn.bD)(a0:au)(a1:au):Option (Bool):=
 cond (!aO (List.length a0:Int) (List.length a1:Int)) (some false) (eB a0 a1 (0:Int))
def Dn(N:Nat)(a0:au)(a1:au):Option (Bool):=Dn.b N (Dn.l4 N N) a0 a1
abbrev Dq.bD:=(List (Int))→(List (Int))→Int→Option (Bool)
def Dq.dv(N:Nat)(cr:Dq.bD)(x0:List (Int))(x1:List (Int))(x5:Int):Option (Bool):=
 cond (aY x5 (List.length x0:Int)) (cond (ba x5 (List.length x0)) (cond (ba x5 (List.length x1)) (cond (!aO (List.getD x0 x5.toNat (0:Int)) (List.getD x1 x5.toNat (0:Int))) (some false) (cr x0 x1 (W .i64 (x5+1)))) (none)) (none)) (some true)
def Dq.l4(N:Nat):Nat→Dq.bD
 |0,_,_,_=>none
 |n+1,x0,x1,x5=>Dq.dv N (Dq.l4 N n) x0 x1 x5
def Dq.b(N:Nat)(eB:Dq.bD)(a0:List (Int))(a1:List (Int)):Option (Bool):=
 cond (!aO (List.length a0:Int) (List.length a1:Int)) (some false) (eB a0 a1 (0:Int))
def Dq(N:Nat)(a0:List (Int))(a1:List (Int)):Option (Bool):=Dq.b N (Dq.l4 N N) a0 a1
abbrev Dp.bD:=bq→bq→Int→Option (Bool)
def Dp.dv(N:Nat)(cr:Dp.bD)(x0:bq)(x1:bq)(x5:Int):Option (Bool):=
 cond (aY x5 (List.length x0:Int)) (cond (ba x5 (List.length x0)) (cond (ba x5 (List.length x1)) (cond (!(pa (.pair (.int .i64) (.pair (.int .i64) (.pair (.int .i64) (.pair (.int .i64) (.pair (.int .i64) (.pair (.int .i64) .unit)))))) (List.getD x0 x5.toNat e7) (List.getD x1 x5.toNat e7))) (some false) (cr x0 x1 (W .i64 (x5+1)))) (none)) (none)) (some true)
def Dp.l4(N:Nat):Nat→Dp.bD
 |0,_,_,_=>none
 |n+1,x0,x1,x5=>Dp.dv N (Dp.l4 N n) x0 x1 x5
def Dp.b(N:Nat)(eB:Dp.bD)(a0:bq)(a1:bq):Option (Bool):=
 cond (!aO (List.length a0:Int) (List.length a1:Int)) (some false) (eB a0 a1 (0:Int))
def Dp(N:Nat)(a0:bq)(a1:bq):Option (Bool):=Dp.b N (Dp.l4 N N) a0 a1
def F35(N:Nat)(a0:aq)(a1:aq):Option (Bool):=
 (Dj N a0.1 a1.1).bind λr1=>cond (r1) ((Dl N a0.2.1 a1.2.1).bind λr2=>cond (r2) ((Dm N a0.2.2.1 a1.2.2.1).bind λr3=>cond (r3) ((Dn N a0.2.2.2.1 a1.2.2.2.1).bind λr4=>cond (r4) ((Dq N a0.2.2.2.2.1 a1.2.2.2.2.1).bind λr5=>cond (r5) ((Dp N a0.2.2.2.2.2.1 a1.2.2.2.2.2.1).bind λr6=>some r6) (some false)) (some false)) (some false)) (some false)) (some false)
def F19(N:Nat)(a0:ae)(a1:aq)(a2:Int)(a3:Int):Option (Bool):=
 (F31 N a0 a1 a2).bind λr1=>(F60 N a0 a1 a2).bind λr2=>(sM N a0 a1 a3).bind λr3=>(mF N a0 a1 a3).bind λr4=>cond (aO r1.2 r2.2) (cond (aO r1.1 r2.1) (cond (aO r3.2 r4.2) ((F35 N r3.1 r4.1).bind λr5=>some r5) (some false)) (some false)) (some false)
abbrev F3.eK:=aL→ae→aq→Int→Option (Bool)
def F3.pj(N:Nat)(eC:F3.eK)(x3:aL)(x4:ae)(x5:aq)(x6:Int):Option (Bool):=
 cond (aY x6 6) ((pB N x3 (9:Int)).bind λr6=>(F19 N x4 x5 (W .i64 ((1:Int)+r6.1)) x6).bind λr8=>cond (!r8) (some false) (eC r6.2 x4 x5 (W .i64 (x6+1)))) (some true)
def F3.l7(N:Nat):Nat→F3.eK
 |0,_,_,_,_=>none
 |n+1,x3,x4,x5,x6=>F3.pj N (F3.l7 N n) x3 x4 x5 x6
def F3.b(N:Nat)(sN:F3.eK)(a0:List (Int)):Option (Bool):=
 (F15 N).bind λr1=>cond (!r1) (some false) ((F16 N a0).bind λr2=>(uN N r2).bind λr3=>(F18 N r3.2 r3.1 (30:Int)).bind λr4=>sN r4.2 r3.1 r4.1.2.2.1 (0:Int))
def F3(N:Nat)(a0:List (Int)):Option (Bool):=F3.b N (F3.l7 N N) a0
end
end VM.F
