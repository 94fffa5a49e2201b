/- A part of the proof of WindBears of layer 21: the functions as equations between values, printed by a program. -/
import Derived.Test.YtecmobijochjkaaGreatVm0
set_option linter.all false
namespace VM.F
open Go VM
set_option maxRecDepth 100000
noncomputable section
abbrev lj:Ty:=(.pair .str (.pair (.int .u64) .unit))
abbrev jD:Ty:=(.pair (.int .i64) (.pair (.int .i64) .unit))
abbrev fR:Ty:=(.pair (.int .i64) (.pair (.int .u64) .unit))
abbrev cT:Ty:=(.pair .bool (.pair (.slice (.int .u64)) .unit))
abbrev dM:Ty:=(.pair (.slice (.int .u64)) (.pair (.int .i64) .unit))
abbrev jv:Ty:=(.pair (.int .i64) jD)
abbrev vj:Ty:=(.pair (.int .i64) (.pair (.int .i64) (.pair .bool (.pair (.int .u8) .unit))))
abbrev eA:Ty:=(.pair (.int .i64) jv)
abbrev xk:Ty:=(.pair (.int .i64) (.pair (.int .i64) (.pair fR .unit)))
abbrev tb:Ty:=(.pair (.int .i64) eA)
abbrev rS:Ty:=(.pair (.int .i64) (.pair (.int .i64) (.pair cT .unit)))
abbrev mV:Ty:=(.pair (.int .i64) tb)
abbrev kZ:Ty:=(.pair (.int .i64) (.pair (.int .i64) mV))
abbrev jm:Ty:=(.pair (.int .i64) (.pair (.slice jD) eA))
abbrev gM:Ty:=(.pair (.int .i64) (.pair (.int .i64) (.pair (.slice tb) (.pair (.int .i64) .unit))))
abbrev aA:Ty:=(.pair (.slice eA) mV)
abbrev aK:Ty:=(.pair (.slice jD) (.pair (.slice eA) (.pair (.slice jv) (.pair (.slice jv) (.pair (.slice (.int .i64)) (.pair (.slice mV) .unit))))))
abbrev rN:Ty:=(.pair (.int .i64) (.pair (.int .i64) (.pair (.int .i64) (.pair (.int .i64) (.pair (.slice eA) (.pair (.slice jm) (.pair (.slice eA) (.pair (.slice (.int .i64)) (.pair (.slice jD) (.pair (.slice jD) .unit))))))))))
abbrev dt:Ty:=(.pair (.int .i64) (.pair (.int .i64) (.pair aK (.pair rN (.pair gM .unit)))))
abbrev my:Ty:=(.pair aA (.pair dt (.pair (.int .i64) .unit)))
abbrev On:=Ty.den lj
abbrev Oo:=List (Ty.den lj)
abbrev ym:=Ty.den jD
abbrev aE:=List (Ty.den jD)
abbrev cC:=Ty.den fR
abbrev jE:=List (Ty.den fR)
abbrev aH:=Ty.den cT
abbrev pk:=List (Ty.den cT)
abbrev aM:=Ty.den dM
abbrev aso:=List (Ty.den dM)
abbrev dh:=Ty.den jv
abbrev au:=List (Ty.den jv)
abbrev Za:=Ty.den vj
abbrev Zb:=List (Ty.den vj)
abbrev bM:=Ty.den eA
abbrev aL:=List (Ty.den eA)
abbrev uY:=Ty.den xk
abbrev di:=List (Ty.den xk)
abbrev ta:=Ty.den tb
abbrev bK:=List (Ty.den tb)
abbrev ahS:=Ty.den rS
abbrev bE:=List (Ty.den rS)
abbrev gA:=Ty.den mV
abbrev bB:=List (Ty.den mV)
abbrev gR:=Ty.den kZ
abbrev cV:=List (Ty.den kZ)
abbrev iA:=Ty.den jm
abbrev bA:=List (Ty.den jm)
abbrev dK:=Ty.den gM
abbrev ang:=List (Ty.den gM)
abbrev ae:=Ty.den aA
abbrev anh:=List (Ty.den aA)
abbrev an:=Ty.den aK
abbrev asq:=List (Ty.den aK)
abbrev alh:=Ty.den rN
abbrev ali:=List (Ty.den rN)
abbrev aQ:=Ty.den dt
abbrev aqB:=List (Ty.den dt)
abbrev cE:=Ty.den my
abbrev aqC:=List (Ty.den my)
def F56(N:Nat):Option (ae×an):=
 some (([((0:Int),((100:Int),((2:Int),((3:Int),()))))],((0:Int),((0:Int),((0:Int),((0:Int),((1:Int),((0:Int),()))))))),([((1:Int),((3:Int),())),((2:Int),((1:Int),()))],([((1:Int),((1:Int),((1:Int),((0:Int),())))),((2:Int),((1:Int),((2:Int),((0:Int),())))),((3:Int),((2:Int),((1:Int),((0:Int),()))))],([((1:Int),((0:Int),((-10:Int),()))),((5:Int),((1:Int),((-10:Int),()))),((5:Int),((2:Int),((20:Int),())))],([((1:Int),((0:Int),((1:Int),()))),((2:Int),((0:Int),((5:Int),()))),((3:Int),((0:Int),((-6:Int),())))],([(100:Int)],(dR,())))))))
def DA(N:Nat)(a0:Int)(a1:Int)(a2:Int):Option (Bool):=
 cond (dk a1 a0) (some (dk a0 a2)) (some false)
abbrev CO.ca:=ae→aL→Int→Int→Option (Bool)
def CO.eK(N:Nat)(cJ:CO.ca)(x1:ae)(aW:aL)(a7:Int)(bU:Int):Option (Bool):=
 cond (aZ bU a7) (cond (bb bU (List.length aW)) ((DA N ((List.getD aW bU.toNat aV).1) (0:Int) (3:Int)).bind λr3=>cond (!r3) (some false) ((DA N (((List.getD aW bU.toNat aV).2).1) (1:Int) (1000000000000:Int)).bind λr4=>cond (!r4) (some false) ((DA N ((((List.getD aW bU.toNat aV).2).2).1) (0:Int) (1000000000:Int)).bind λr5=>cond (!r5) (some false) ((DA N (((((List.getD aW bU.toNat aV).2).2).2).1) (0:Int) (1000000000:Int)).bind λr6=>cond (!r6) (some false) (cJ x1 aW a7 (W .i64 (bU+1))))))) (none)) (cond (dk 0 x1.2.1) ((DA N x1.2.2.1 (0:Int) (4:Int)).bind λr8=>cond (r8) ((DA N x1.2.2.2.1 (0:Int) (1000000:Int)).bind λr9=>cond (r9) ((DA N x1.2.2.2.2.1 (0:Int) (1000000:Int)).bind λkD=>cond (kD) ((DA N x1.2.2.2.2.2.1 (1:Int) (4611686018427387904:Int)).bind λnY=>cond (nY) (some (dk 0 x1.2.2.2.2.2.2.1)) (some false)) (some false)) (some false)) (some false)) (some false))
def CO.l4(N:Nat):Nat→CO.ca
 |0,_,_,_,_=>none
 |n+1,x1,aW,a7,bU=>CO.eK N (CO.l4 N n) x1 aW a7 bU
def CO.b(N:Nat)(gd:CO.ca)(a0:ae):Option (Bool):=
 (DA N (List.length a0.1:Int) (1:Int) (6:Int)).bind λr1=>cond (!r1) (some false) (gd a0 a0.1 (List.length a0.1:Int) (0:Int))
def CO(N:Nat)(a0:ae):Option (Bool):=CO.b N (CO.l4 N N) a0
abbrev o7.db:=aE→aE→Int→Int→Option (Bool)
def o7.gJ(N:Nat)(eG:o7.db)(x0:aE)(x5:aE)(x6:Int)(x7:Int):Option (Bool):=
 cond (aZ x7 x6) (cond (bb x7 (List.length x5)) (cond (aZ ((List.getD x5 x7.toNat cA).1) (1:Int)) (some false) (cond (aZ 12 ((List.getD x5 x7.toNat cA).1)) (some false) (cond (aZ (((List.getD x5 x7.toNat cA).2).1) (1:Int)) (some false) (cond (aZ 4 (((List.getD x5 x7.toNat cA).2).1)) (some false) (cond (aZ 0 x7) (let v2:Int:=W .i64 (x7-1);cond (bb v2 (List.length x0)) (cond (dk ((List.getD x5 x7.toNat cA).1) ((List.getD x0 v2.toNat cA).1)) (some false) (eG x0 x5 x6 (W .i64 (x7+1)))) (none)) (eG x0 x5 x6 (W .i64 (x7+1)))))))) (none)) (some true)
def o7.l2(N:Nat):Nat→o7.db
 |0,_,_,_,_=>none
 |n+1,x0,x5,x6,x7=>o7.gJ N (o7.l2 N n) x0 x5 x6 x7
def o7.b(N:Nat)(jq:o7.db)(a0:aE):Option (Bool):=
 jq a0 a0 (List.length a0:Int) (0:Int)
def o7(N:Nat)(a0:aE):Option (Bool):=o7.b N (o7.l2 N N) a0
abbrev mP.dU:=aL→(List (Bool))→aL→Int→Int→Option (Bool)
def mP.nT(N:Nat)(dn:mP.dU)(x0:aL)(x3:List (Bool))(x6:aL)(x7:Int)(x8:Int):Option (Bool):=
 cond (aZ x8 x7) (cond (bb x8 (List.length x6)) (cond (aZ ((List.getD x6 x8.toNat aV).1) (1:Int)) (some false) (cond (aZ 24 ((List.getD x6 x8.toNat aV).1)) (some false) (cond (aZ (((List.getD x6 x8.toNat aV).2).1) (1:Int)) (some false) (cond (aZ 12 (((List.getD x6 x8.toNat aV).2).1)) (some false) (cond (!aO ((((List.getD x6 x8.toNat aV).2).2).1) (1:Int)) (cond (!aO ((((List.getD x6 x8.toNat aV).2).2).1) (2:Int)) (some false) (cond (aZ (((((List.getD x6 x8.toNat aV).2).2).2).1) (0:Int)) (some false) (cond (aZ 1000000000000 (((((List.getD x6 x8.toNat aV).2).2).2).1)) (some false) (cond (aZ 0 x8) (let v2:Int:=W .i64 (x8-1);cond (bb v2 (List.length x0)) (cond (dk ((List.getD x6 x8.toNat aV).1) ((List.getD x0 v2.toNat aV).1)) (some false) (cond (aO ((((List.getD x6 x8.toNat aV).2).2).1) (1:Int)) (cond (bb (((List.getD x6 x8.toNat aV).2).1) 13) (cond (List.getD x3 (((List.getD x6 x8.toNat aV).2).1).toNat false) (some false) (cond (bb (((List.getD x6 x8.toNat aV).2).1) 13) (dn x0 (List.set x3 (((List.getD x6 x8.toNat aV).2).1).toNat true) x6 x7 (W .i64 (x8+1))) (none))) (none)) (dn x0 x3 x6 x7 (W .i64 (x8+1))))) (none)) (cond (aO ((((List.getD x6 x8.toNat aV).2).2).1) (1:Int)) (cond (bb (((List.getD x6 x8.toNat aV).2).1) 13) (cond (List.getD x3 (((List.getD x6 x8.toNat aV).2).1).toNat false) (some false) (cond (bb (((List.getD x6 x8.toNat aV).2).1) 13) (dn x0 (List.set x3 (((List.getD x6 x8.toNat aV).2).1).toNat true) x6 x7 (W .i64 (x8+1))) (none))) (none)) (dn x0 x3 x6 x7 (W .i64 (x8+1)))))))) (cond (aZ (((((List.getD x6 x8.toNat aV).2).2).2).1) (0:Int)) (some false) (cond (aZ 1000000000000 (((((List.getD x6 x8.toNat aV).2).2).2).1)) (some false) (cond (aZ 0 x8) (let v7:Int:=W .i64 (x8-1);cond (bb v7 (List.length x0)) (cond (dk ((List.getD x6 x8.toNat aV).1) ((List.getD x0 v7.toNat aV).1)) (some false) (cond (aO ((((List.getD x6 x8.toNat aV).2).2).1) (1:Int)) (cond (bb (((List.getD x6 x8.toNat aV).2).1) 13) (cond (List.getD x3 (((List.getD x6 x8.toNat aV).2).1).toNat false) (some false) (cond (bb (((List.getD x6 x8.toNat aV).2).1) 13) (dn x0 (List.set x3 (((List.getD x6 x8.toNat aV).2).1).toNat true) x6 x7 (W .i64 (x8+1))) (none))) (none)) (dn x0 x3 x6 x7 (W .i64 (x8+1))))) (none)) (cond (aO ((((List.getD x6 x8.toNat aV).2).2).1) (1:Int)) (cond (bb (((List.getD x6 x8.toNat aV).2).1) 13) (cond (List.getD x3 (((List.getD x6 x8.toNat aV).2).1).toNat false) (some false) (cond (bb (((List.getD x6 x8.toNat aV).2).1) 13) (dn x0 (List.set x3 (((List.getD x6 x8.toNat aV).2).1).toNat true) x6 x7 (W .i64 (x8+1))) (none))) (none)) (dn x0 x3 x6 x7 (W .i64 (x8+1)))))))))))) (none)) (some true)
def mP.l3(N:Nat):Nat→mP.dU
 |0,_,_,_,_,_=>none
 |n+1,x0,x3,x6,x7,x8=>mP.nT N (mP.l3 N n) x0 x3 x6 x7 x8
def mP.b(N:Nat)(oG:mP.dU)(a0:aL):Option (Bool):=
 oG a0 (List.replicate 13 false) a0 (List.length a0:Int) (0:Int)
def mP(N:Nat)(a0:aL):Option (Bool):=mP.b N (mP.l3 N N) a0
abbrev Ax.ca:=Int→aE→Int→Int→Option (Int)
def Ax.eK(N:Nat)(cJ:Ax.ca)(x1:Int)(bx:aE)(aW:Int)(a7:Int):Option (Int):=
 cond (aZ a7 aW) (cond (bb a7 (List.length bx)) (cond (aO ((List.getD bx a7.toNat cA).1) x1) (some (((List.getD bx a7.toNat cA).2).1)) (cJ x1 bx aW (W .i64 (a7+1)))) (none)) (some (0:Int))
def Ax.l4(N:Nat):Nat→Ax.ca
 |0,_,_,_,_=>none
 |n+1,x1,bx,aW,a7=>Ax.eK N (Ax.l4 N n) x1 bx aW a7
def Ax.b(N:Nat)(gd:Ax.ca)(a0:aE)(a1:Int):Option (Int):=
 (o7 N a0).bind λr1=>cond (!r1) (some (0:Int)) (gd a1 a0 (List.length a0:Int) (0:Int))
def Ax(N:Nat)(a0:aE)(a1:Int):Option (Int):=Ax.b N (Ax.l4 N N) a0 a1
abbrev DD.ca:=aE→aL→Int→Int→Option (Bool)
def DD.eK(N:Nat)(cJ:DD.ca)(x0:aE)(dq:aL)(et:Int)(e8:Int):Option (Bool):=
 cond (aZ e8 et) (cond (bb e8 (List.length dq)) ((Ax N x0 (((List.getD dq e8.toNat aV).2).1)).bind λr4=>cond (aO r4 0) (some false) (cJ x0 dq et (W .i64 (e8+1)))) (none)) (some true)
def DD.l4(N:Nat):Nat→DD.ca
 |0,_,_,_,_=>none
 |n+1,x0,dq,et,e8=>DD.eK N (DD.l4 N n) x0 dq et e8
def DD.b(N:Nat)(gd:DD.ca)(a0:aE)(a1:aL):Option (Bool):=
 (o7 N a0).bind λr1=>cond (!r1) (some false) ((mP N a1).bind λr2=>cond (!r2) (some false) (gd a0 a1 (List.length a1:Int) (0:Int)))
def DD(N:Nat)(a0:aE)(a1:aL):Option (Bool):=DD.b N (DD.l4 N N) a0 a1
def Qn(N:Nat)(a0:Int)(a1:Int):Option (Bool):=
 cond (aO a0 1) (some (aO a1 0)) (cond (aO a0 2) (some (aO a1 0)) (cond (aO a0 3) (some (aO a1 0)) (cond (aO a0 4) (some (aO a1 0)) (cond (aO a0 5) (cond (dk 1 a1) (some (dk a1 24)) (some false)) (cond (aO a0 6) (cond (dk 1 a1) (some (dk a1 12)) (some false)) (cond (aO a0 7) (cond (dk 1 a1) (some (dk a1 12)) (some false)) (some false)))))))
def Qp(N:Nat)(a0:Int)(a1:Int)(a2:dh):Option (Int):=
 cond (!aO a0 a2.1) (some (W .i64 (a0-a2.1))) (some (W .i64 (a1-a2.2.1)))
abbrev Bj.db:=au→au→Int→Int→Option (Bool)
def Bj.gJ(N:Nat)(eG:Bj.db)(x0:au)(x5:au)(x6:Int)(x7:Int):Option (Bool):=
 cond (aZ x7 x6) (cond (bb x7 (List.length x5)) ((Qn N ((List.getD x5 x7.toNat bm).1) (((List.getD x5 x7.toNat bm).2).1)).bind λr2=>cond (!r2) (some false) (cond (aO ((((List.getD x5 x7.toNat bm).2).2).1) (0:Int)) (some false) (cond (aZ 0 x7) (let v3:Int:=W .i64 (x7-1);cond (bb v3 (List.length x0)) ((Qp N ((List.getD x5 x7.toNat bm).1) (((List.getD x5 x7.toNat bm).2).1) (List.getD x0 v3.toNat bm)).bind λr4=>cond (dk r4 0) (some false) (eG x0 x5 x6 (W .i64 (x7+1)))) (none)) (eG x0 x5 x6 (W .i64 (x7+1)))))) (none)) (some true)
def Bj.l2(N:Nat):Nat→Bj.db
 |0,_,_,_,_=>none
 |n+1,x0,x5,x6,x7=>Bj.gJ N (Bj.l2 N n) x0 x5 x6 x7
def Bj.b(N:Nat)(jq:Bj.db)(a0:au):Option (Bool):=
 jq a0 a0 (List.length a0:Int) (0:Int)
def Bj(N:Nat)(a0:au):Option (Bool):=Bj.b N (Bj.l2 N N) a0
def Vl(N:Nat)(a0:Int):Option cC:=
 cond (aZ 63 0) (none) (some ((shr .i64 a0 63),((W .u64 a0),())))
abbrev mN.dU:=cC→Int→Int→Int→jE→Int→Int→Option (cC×(Bool))
def mN.nT(N:Nat)(dn:mN.dU)(x2:cC)(x4:Int)(x5:Int)(x6:Int)(bx:jE)(aW:Int)(a7:Int):Option (cC×(Bool)):=
 cond (aZ a7 aW) (cond (bb a7 (List.length bx)) ((yA N x6 (((List.getD bx a7.toNat cA).2).1) (0:Int)).bind λr2=>(yA N x5 (W .u64 ((List.getD bx a7.toNat cA).1)) r2.2).bind λr4=>cond (aZ 63 0) (none) (dn x2 (W .i64 ((W .i64 (x4+(shr .i64 ((List.getD bx a7.toNat cA).1) (63:Int))))+(W .i64 r4.2))) r4.1 r2.1 bx aW (W .i64 (a7+1)))) (none)) (cond (aZ 63 0) (none) (cond (!aO x4 (shr .i64 (W .i64 x5) 63)) (some (cA,false)) (some (((W .i64 x5),(x6,())),true))))
def mN.l3(N:Nat):Nat→mN.dU
 |0,_,_,_,_,_,_,_=>none
 |n+1,x2,x4,x5,x6,bx,aW,a7=>mN.nT N (mN.l3 N n) x2 x4 x5 x6 bx aW a7
def mN.b(N:Nat)(oG:mN.dU)(a0:jE):Option (cC×(Bool)):=
 oG cA (0:Int) (0:Int) (0:Int) a0 (List.length a0:Int) (0:Int)
def mN(N:Nat)(a0:jE):Option (cC×(Bool)):=mN.b N (mN.l3 N N) a0
abbrev CP.bN:=cC→jE→au→Int→Int→Option cC
def CP.eg(N:Nat)(bP:CP.bN)(x2:cC)(x3:jE)(a7:au)(bU:Int)(cj:Int):Option cC:=
 cond (aZ cj bU) (cond (bb cj (List.length a7)) ((Vl N ((((List.getD a7 cj.toNat bm).2).2).1)).bind λr3=>cond (small (List.length x3+List.length ([r3]))) (bP x2 (x3++([r3])) a7 bU (W .i64 (cj+1))) (none)) (none)) ((mN N x3).bind λr6=>some r6.1)
def CP.l5(N:Nat):Nat→CP.bN
 |0,_,_,_,_,_=>none
 |n+1,x2,x3,a7,bU,cj=>CP.eg N (CP.l5 N n) x2 x3 a7 bU cj
def CP.b(N:Nat)(eY:CP.bN)(a0:au):Option cC:=
 (Bj N a0).bind λr1=>cond (!r1) (some cA) (eY cA ([]) a0 (List.length a0:Int) (0:Int))
def CP(N:Nat)(a0:au):Option cC:=CP.b N (CP.l5 N N) a0
def WE(N:Nat)(a0:cC)(a1:cC):Option (Int):=
 cond (aZ a0.1 a1.1) (some (-1:Int)) (cond (aO a0.1 a1.1) (cond (aZ a0.2.1 a1.2.1) (some (-1:Int)) (cond (uw (.pair (.int .i64) (.pair (.int .u64) .unit)) a0 a1) (some (0:Int)) (some (1:Int)))) (cond (uw (.pair (.int .i64) (.pair (.int .u64) .unit)) a0 a1) (some (0:Int)) (some (1:Int))))
def F74(N:Nat)(a0:cC):Option (Int):=
 (WE N a0 cA).bind λr1=>some r1
def Qr(N:Nat)(a0:Int)(a1:Int):Option (Bool):=
 cond (dk 0 a0) (cond (dk a0 24) (cond (dk 0 a1) (some (aZ a1 6)) (some false)) (some false)) (some false)
def Qs(N:Nat)(a0:Int):Option (Bool):=
 some (!aO a0 (-9223372036854775808))
def TS(N:Nat)(a0:Int)(a1:Int)(a2:dh):Option (Int):=
 cond (!aO a0 a2.1) (some (W .i64 (a0-a2.1))) (some (W .i64 (a1-a2.2.1)))
abbrev np.db:=au→au→Int→Int→Option (Bool)
def np.gJ(N:Nat)(eG:np.db)(x0:au)(x5:au)(x6:Int)(x7:Int):Option (Bool):=
 cond (aZ x7 x6) (cond (bb x7 (List.length x5)) ((Qr N ((List.getD x5 x7.toNat bm).1) (((List.getD x5 x7.toNat bm).2).1)).bind λr2=>cond (!r2) (some false) (cond (aO ((((List.getD x5 x7.toNat bm).2).2).1) (0:Int)) (some false) ((Qs N ((((List.getD x5 x7.toNat bm).2).2).1)).bind λr3=>cond (!r3) (some false) (cond (aZ 0 x7) (let v4:Int:=W .i64 (x7-1);cond (bb v4 (List.length x0)) ((TS N ((List.getD x5 x7.toNat bm).1) (((List.getD x5 x7.toNat bm).2).1) (List.getD x0 v4.toNat bm)).bind λr5=>cond (dk r5 0) (some false) (eG x0 x5 x6 (W .i64 (x7+1)))) (none)) (eG x0 x5 x6 (W .i64 (x7+1))))))) (none)) (some true)
def np.l2(N:Nat):Nat→np.db
 |0,_,_,_,_=>none
 |n+1,x0,x5,x6,x7=>np.gJ N (np.l2 N n) x0 x5 x6 x7
def np.b(N:Nat)(jq:np.db)(a0:au):Option (Bool):=
 jq a0 a0 (List.length a0:Int) (0:Int)
def np(N:Nat)(a0:au):Option (Bool):=np.b N (np.l2 N N) a0
abbrev o9.bN:=Int→cC→jE→au→Int→Int→Option cC
def o9.eg(N:Nat)(bP:o9.bN)(x1:Int)(x4:cC)(x5:jE)(cj:au)(dq:Int)(et:Int):Option cC:=
 cond (aZ et dq) (cond (bb et (List.length cj)) (cond (aO (((List.getD cj et.toNat bm).2).1) x1) ((Vl N ((((List.getD cj et.toNat bm).2).2).1)).bind λr3=>cond (small (List.length x5+List.length ([r3]))) (bP x1 x4 (x5++([r3])) cj dq (W .i64 (et+1))) (none)) (bP x1 x4 x5 cj dq (W .i64 (et+1)))) (none)) ((mN N x5).bind λr7=>some r7.1)
def o9.l5(N:Nat):Nat→o9.bN
 |0,_,_,_,_,_,_=>none
 |n+1,x1,x4,x5,cj,dq,et=>o9.eg N (o9.l5 N n) x1 x4 x5 cj dq et
def o9.b(N:Nat)(eY:o9.bN)(a0:au)(a1:Int):Option cC:=
 (np N a0).bind λr1=>cond (!r1) (some cA) (eY a1 cA ([]) a0 (List.length a0:Int) (0:Int))
def o9(N:Nat)(a0:au)(a1:Int):Option cC:=o9.b N (o9.l5 N N) a0 a1
abbrev DE.db:=au→Int→Option (Bool)
def DE.gJ(N:Nat)(eG:DE.db)(x0:au)(x4:Int):Option (Bool):=
 cond (aZ x4 6) ((o9 N x0 x4).bind λr2=>(F74 N r2).bind λr3=>cond (!aO r3 0) (some false) (eG x0 (W .i64 (x4+1)))) ((np N x0).bind λr5=>some r5)
def DE.l2(N:Nat):Nat→DE.db
 |0,_,_=>none
 |n+1,x0,x4=>DE.gJ N (DE.l2 N n) x0 x4
def DE.b(N:Nat)(jq:DE.db)(a0:au):Option (Bool):=
 jq a0 (0:Int)
def DE(N:Nat)(a0:au):Option (Bool):=DE.b N (DE.l2 N N) a0
def aac(N:Nat)(a0:gA):Option (Bool):=
 cond (dk 1 a0.1) (cond (dk a0.1 1099511627776) (cond (dk 1 a0.2.1) (cond (dk a0.2.1 24) (cond (dk 0 a0.2.2.1) (cond (aZ a0.2.2.1 6) (cond (aO a0.2.2.2.1 1) (cond (dk 1 a0.2.2.2.2.1) (cond (dk a0.2.2.2.2.1 1000000000) (cond (dk 1 a0.2.2.2.2.2.1) (some (dk a0.2.2.2.2.2.1 1000000000000)) (some false)) (some false)) (some false)) (cond (aO a0.2.2.2.1 2) (cond (dk 1 a0.2.2.2.2.1) (cond (dk a0.2.2.2.2.1 1000000000) (cond (dk 1 a0.2.2.2.2.2.1) (some (dk a0.2.2.2.2.2.1 1000000000000)) (some false)) (some false)) (some false)) (some false))) (some false)) (some false)) (some false)) (some false)) (some false)) (some false)
abbrev DC.db:=bB→bB→Int→Int→Option (Bool)
def DC.gJ(N:Nat)(eG:DC.db)(x0:bB)(x5:bB)(x6:Int)(x7:Int):Option (Bool):=
 cond (aZ x7 x6) (cond (bb x7 (List.length x5)) ((aac N (List.getD x5 x7.toNat fm)).bind λr2=>cond (!r2) (some false) (cond (aZ 0 x7) (let v3:Int:=W .i64 (x7-1);cond (bb v3 (List.length x0)) (cond (dk ((List.getD x5 x7.toNat fm).1) ((List.getD x0 v3.toNat fm).1)) (some false) (eG x0 x5 x6 (W .i64 (x7+1)))) (none)) (eG x0 x5 x6 (W .i64 (x7+1))))) (none)) (some (dk (List.length x0:Int) 32))
def DC.l2(N:Nat):Nat→DC.db
 |0,_,_,_,_=>none
 |n+1,x0,x5,x6,x7=>DC.gJ N (DC.l2 N n) x0 x5 x6 x7
def DC.b(N:Nat)(jq:DC.db)(a0:bB):Option (Bool):=
 jq a0 a0 (List.length a0:Int) (0:Int)
def DC(N:Nat)(a0:bB):Option (Bool):=DC.b N (DC.l2 N N) a0
abbrev o8.ca:=Int→bM→aL→Int→Int→Option (bM×(Bool))
def o8.eK(N:Nat)(cJ:o8.ca)(x1:Int)(x4:bM)(a7:aL)(bU:Int)(cj:Int):Option (bM×(Bool)):=
 cond (aZ cj bU) (cond (bb cj (List.length a7)) (cond (aO ((List.getD a7 cj.toNat aV).1) x1) (some (List.getD a7 cj.toNat aV,true)) (cJ x1 x4 a7 bU (W .i64 (cj+1)))) (none)) (some (aV,false))
def o8.l4(N:Nat):Nat→o8.ca
 |0,_,_,_,_,_=>none
 |n+1,x1,x4,a7,bU,cj=>o8.eK N (o8.l4 N n) x1 x4 a7 bU cj
def o8.b(N:Nat)(gd:o8.ca)(a0:aL)(a1:Int):Option (bM×(Bool)):=
 (mP N a0).bind λr1=>cond (!r1) (some (aV,false)) (gd a1 aV a0 (List.length a0:Int) (0:Int))
def o8(N:Nat)(a0:aL)(a1:Int):Option (bM×(Bool)):=o8.b N (o8.l4 N N) a0 a1
def F78(N:Nat)(a0:an)(a1:Int):Option (Bool):=
 (o8 N a0.2.1 a1).bind λr1=>some r1.2
def F81(N:Nat)(a0:Int):Option (Bool):=
 cond (dk 1 a0) (some (dk a0 1000000000000)) (some false)
def F80(N:Nat)(a0:Int):Option (Bool):=
 (F81 N a0).bind λr1=>some (!r1)
abbrev sa.db:=(List (Int))→Unit→Int→Int→Option (Int)
def sa.gJ(N:Nat)(eG:sa.db)(x0:List (Int))(x1:Unit)(x7:Int)(x8:Int):Option (Int):=
 cond (aZ x8 x7) (cond (bb x8 (List.length x0)) ((F80 N (List.getD x0 x8.toNat (0:Int))).bind λr2=>cond (r2) (some x8) (eG x0 () x7 (W .i64 (x8+1)))) (none)) (some (-1:Int))
def sa.l2(N:Nat):Nat→sa.db
 |0,_,_,_,_=>none
 |n+1,x0,x1,x7,x8=>sa.gJ N (sa.l2 N n) x0 x1 x7 x8
def sa.b(N:Nat)(jq:sa.db)(a0:List (Int))(a1:Unit):Option (Int):=
 jq a0 () (List.length a0:Int) (0:Int)
def sa(N:Nat)(a0:List (Int))(a1:Unit):Option (Int):=sa.b N (sa.l2 N N) a0 a1
def F79(N:Nat)(a0:List (Int))(a1:Unit):Option (Bool):=
 (sa N a0 ()).bind λr1=>some (dk 0 r1)
abbrev lG.rT:=ae→an→bB→Int→Int→Option (Bool)
abbrev lG.mI:=ae→an→au→Int→Int→Option (Bool)
abbrev lG.ca:=ae→an→au→Int→Int→Option (Bool)
def lG.vI(N:Nat)(GO:lG.rT)(x2:ae)(x3:an)(sf:bB)(abk:Int)(Rf:Int):Option (Bool):=
 cond (aZ Rf abk) (cond (bb Rf (List.length sf)) ((F78 N x3 (((List.getD sf Rf.toNat fm).2).1)).bind λDc=>cond (!Dc) (some false) (cond (dk (List.length x2.1:Int) ((((List.getD sf Rf.toNat fm).2).2).1)) (some false) (GO x2 x3 sf abk (W .i64 (Rf+1))))) (none)) ((F79 N x3.2.2.2.2.1 ()).bind λDd=>some (!Dd))
def lG.w5(N:Nat):Nat→lG.rT
 |0,_,_,_,_,_=>none
 |n+1,x2,x3,sf,abk,Rf=>lG.vI N (lG.w5 N n) x2 x3 sf abk Rf
def lG.vH(N:Nat)(GP:lG.rT)(n7:lG.mI)(x2:ae)(x3:an)(x83:au)(x84:Int)(Zc:Int):Option (Bool):=
 cond (aZ Zc x84) (cond (bb Zc (List.length x83)) (cond (!aO ((List.getD x83 Zc.toNat bm).1) (0:Int)) ((F78 N x3 ((List.getD x83 Zc.toNat bm).1)).bind λzr=>cond (!zr) (some false) (cond (dk (List.length x2.1:Int) (((List.getD x83 Zc.toNat bm).2).1)) (some false) (n7 x2 x3 x83 x84 (W .i64 (Zc+1))))) (cond (dk (List.length x2.1:Int) (((List.getD x83 Zc.toNat bm).2).1)) (some false) (n7 x2 x3 x83 x84 (W .i64 (Zc+1))))) (none)) (GP x2 x3 x3.2.2.2.2.2.1 (List.length x3.2.2.2.2.2.1:Int) (0:Int))
def lG.w4(N:Nat):Nat→lG.mI
 |0,_,_,_,_,_=>none
 |n+1,x2,x3,x83,x84,Zc=>lG.vH N (lG.w5 N N) (lG.w4 N n) x2 x3 x83 x84 Zc
def lG.eK(N:Nat)(GQ:lG.mI)(cJ:lG.ca)(x2:ae)(x3:an)(U3:au)(x58:Int)(SV:Int):Option (Bool):=
 cond (aZ SV x58) (cond (bb SV (List.length U3)) (cond (aO ((List.getD U3 SV.toNat bm).1) (5:Int)) ((F78 N x3 (((List.getD U3 SV.toNat bm).2).1)).bind λr9=>cond (!r9) (some false) (cJ x2 x3 U3 x58 (W .i64 (SV+1)))) (cond (aO ((List.getD U3 SV.toNat bm).1) (6:Int)) ((Ax N x3.1 (((List.getD U3 SV.toNat bm).2).1)).bind λnY=>cond (aO nY 0) (some false) (cJ x2 x3 U3 x58 (W .i64 (SV+1)))) (cond (aO ((List.getD U3 SV.toNat bm).1) (7:Int)) ((Ax N x3.1 (((List.getD U3 SV.toNat bm).2).1)).bind λpV=>cond (aO pV 0) (some false) (cJ x2 x3 U3 x58 (W .i64 (SV+1)))) (cJ x2 x3 U3 x58 (W .i64 (SV+1)))))) (none)) (GQ x2 x3 x3.2.2.2.1 (List.length x3.2.2.2.1:Int) (0:Int))
def lG.l4(N:Nat):Nat→lG.ca
 |0,_,_,_,_,_=>none
 |n+1,x2,x3,U3,x58,SV=>lG.eK N (lG.w4 N N) (lG.l4 N n) x2 x3 U3 x58 SV
def lG.b(N:Nat)(gd:lG.ca)(a0:ae)(a1:an):Option (Bool):=
 (CO N a0).bind λr1=>cond (!r1) (some false) ((DD N a1.1 a1.2.1).bind λr2=>cond (!r2) (some false) ((Bj N a1.2.2.1).bind λr3=>cond (!r3) (some false) ((CP N a1.2.2.1).bind λr4=>(F74 N r4).bind λr5=>cond (!aO r5 0) (some false) ((DE N a1.2.2.2.1).bind λr6=>cond (!r6) (some false) ((DC N a1.2.2.2.2.2.1).bind λr7=>cond (!r7) (some false) (cond (!aO (List.length a1.2.2.2.2.1:Int) (List.length a0.1:Int)) (some false) (gd a0 a1 a1.2.2.1 (List.length a1.2.2.1:Int) (0:Int))))))))
def lG(N:Nat)(a0:ae)(a1:an):Option (Bool):=lG.b N (lG.l4 N N) a0 a1
abbrev BP.ca:=Int→Int→au→Int→Int→Option (Int)
def BP.eK(N:Nat)(cJ:BP.ca)(x1:Int)(x2:Int)(a7:au)(bU:Int)(cj:Int):Option (Int):=
 cond (aZ cj bU) (cond (bb cj (List.length a7)) (cond (aO ((List.getD a7 cj.toNat bm).1) x1) (cond (aO (((List.getD a7 cj.toNat bm).2).1) x2) (some ((((List.getD a7 cj.toNat bm).2).2).1)) (cJ x1 x2 a7 bU (W .i64 (cj+1)))) (cJ x1 x2 a7 bU (W .i64 (cj+1)))) (none)) (some (0:Int))
def BP.l4(N:Nat):Nat→BP.ca
 |0,_,_,_,_,_=>none
 |n+1,x1,x2,a7,bU,cj=>BP.eK N (BP.l4 N n) x1 x2 a7 bU cj
def BP.b(N:Nat)(gd:BP.ca)(a0:au)(a1:Int)(a2:Int):Option (Int):=
 (Bj N a0).bind λr1=>cond (!r1) (some (0:Int)) (gd a1 a2 a0 (List.length a0:Int) (0:Int))
def BP(N:Nat)(a0:au)(a1:Int)(a2:Int):Option (Int):=BP.b N (BP.l4 N N) a0 a1 a2
abbrev BR.bN:=Int→aE→au→Int→Int→Option aE
def BR.eg(N:Nat)(bP:BR.bN)(x1:Int)(x5:aE)(aW:au)(a7:Int)(bU:Int):Option aE:=
 cond (aZ bU a7) (cond (bb bU (List.length aW)) (cond (aO ((List.getD aW bU.toNat bm).1) x1) (cond (small (List.length x5+List.length ([(((List.getD aW bU.toNat bm).2).1,((((List.getD aW bU.toNat bm).2).2).1,()))]))) (bP x1 (x5++([(((List.getD aW bU.toNat bm).2).1,((((List.getD aW bU.toNat bm).2).2).1,()))])) aW a7 (W .i64 (bU+1))) (none)) (bP x1 x5 aW a7 (W .i64 (bU+1)))) (none)) (some x5)
def BR.l5(N:Nat):Nat→BR.bN
 |0,_,_,_,_,_=>none
 |n+1,x1,x5,aW,a7,bU=>BR.eg N (BR.l5 N n) x1 x5 aW a7 bU
def BR.b(N:Nat)(eY:BR.bN)(a0:au)(a1:Int):Option aE:=
 (np N a0).bind λr1=>cond (!r1) (some ([])) (eY a1 ([]) a0 (List.length a0:Int) (0:Int))
def BR(N:Nat)(a0:au)(a1:Int):Option aE:=BR.b N (BR.l5 N N) a0 a1
abbrev pH.db:=aE→ae→aE→Int→Int→Option (Bool)
def pH.gJ(N:Nat)(eG:pH.db)(x1:aE)(x2:ae)(x7:aE)(x8:Int)(x9:Int):Option (Bool):=
 cond (aZ x9 x8) (cond (bb x9 (List.length x7)) (cond (aZ ((List.getD x7 x9.toNat cA).1) (0:Int)) (some false) (cond (dk (List.length x2.1:Int) ((List.getD x7 x9.toNat cA).1)) (some false) (cond (aO (((List.getD x7 x9.toNat cA).2).1) (0:Int)) (some false) ((Qs N (((List.getD x7 x9.toNat cA).2).1)).bind λr2=>cond (!r2) (some false) (cond (aZ 0 x9) (let v3:Int:=W .i64 (x9-1);cond (bb v3 (List.length x1)) (cond (dk ((List.getD x7 x9.toNat cA).1) ((List.getD x1 v3.toNat cA).1)) (some false) (eG x1 x2 x7 x8 (W .i64 (x9+1)))) (none)) (eG x1 x2 x7 x8 (W .i64 (x9+1)))))))) (none)) ((CO N x2).bind λr6=>some r6)
def pH.l2(N:Nat):Nat→pH.db
 |0,_,_,_,_,_=>none
 |n+1,x1,x2,x7,x8,x9=>pH.gJ N (pH.l2 N n) x1 x2 x7 x8 x9
def pH.b(N:Nat)(jq:pH.db)(a0:ae)(a1:aE):Option (Bool):=
 jq a1 a0 a1 (List.length a1:Int) (0:Int)
def pH(N:Nat)(a0:ae)(a1:aE):Option (Bool):=pH.b N (pH.l2 N N) a0 a1
def TM(N:Nat)(a0:Int):Option (Int):=
 cond (aZ a0 0) (some (W .u64 (0-(W .u64 a0)))) (some (W .u64 a0))
def ahV(N:Nat)(a0:bM):Option (Int):=
 some a0.2.2.2.1
def ZZ(N:Nat)(a0:Int)(a1:Int):Option ((Int)×(Int)):=
 let v1:Int:=qS .and .u64 a0 4294967295;cond (aZ 32 0) (none) (let v2:Int:=shr .u64 a0 32;let v3:Int:=qS .and .u64 a1 4294967295;cond (aZ 32 0) (none) (let v4:Int:=shr .u64 a1 32;cond (aZ 32 0) (none) (let v8:Int:=W .u64 ((W .u64 (v2*v3))+(shr .u64 (W .u64 (v1*v3)) (32:Int)));cond (aZ 32 0) (none) (cond (aZ 32 0) (none) (some ((W .u64 ((W .u64 ((W .u64 (v2*v4))+(shr .u64 v8 32)))+(shr .u64 (W .u64 ((qS .and .u64 v8 4294967295)+(W .u64 (v1*v4)))) (32:Int)))),(W .u64 (a0*a1))))))))
abbrev rZ.Yq:=Int→Int→cC→Option (cC×(Bool))
def rZ.Vk(N:Nat)(x1:Int)(x2:Int)(x6:cC):Option (cC×(Bool)):=
 (vn N (0:Int) x2 (0:Int)).bind λr3=>(vn N (0:Int) x1 r3.2).bind λr4=>some (((W .i64 r4.1),(r3.1,())),true)
def rZ.j7(N:Nat)(x1:Int)(x2:Int)(x6:cC):Option (cC×(Bool)):=rZ.Vk N x1 x2 x6
def rZ.b(N:Nat)(H6:rZ.Yq)(a0:Bool)(a1:Int)(a2:Int):Option (cC×(Bool)):=
 cond (!a0) (cond (dk 9223372036854775808 a1) (some (cA,false)) (some (((W .i64 a1),(a2,())),true))) (cond (aZ 9223372036854775808 a1) (some (cA,false)) (cond (aO a1 9223372036854775808) (cond (aZ 0 a2) (some (cA,false)) (H6 a1 a2 cA)) (H6 a1 a2 cA)))
def rZ(N:Nat)(a0:Bool)(a1:Int)(a2:Int):Option (cC×(Bool)):=rZ.b N (rZ.j7 N) a0 a1 a2
def Z8(N:Nat)(a0:Int)(a1:Int):Option cC:=
 (TM N a0).bind λr1=>(TM N a1).bind λr2=>(ZZ N r1 r2).bind λr3=>(rZ N (!(uw .bool (aZ a0 0) (aZ a1 0))) r3.1 r3.2).bind λr4=>some r4.1
abbrev pI.bN:=Unit→ae→cC→jE→aE→Int→Int→Option (cC×(Int))
def pI.eg(N:Nat)(bP:pI.bN)(x2:Unit)(x3:ae)(x6:cC)(x8:jE)(ll:aE)(ln:Int)(DM:Int):Option (cC×(Int)):=
 cond (aZ DM ln) (cond (bb DM (List.length ll)) ((TM N (((List.getD ll DM.toNat cA).2).1)).bind λr3=>cond (bb ((List.getD ll DM.toNat cA).1) (List.length x3.1)) ((ahV N (List.getD x3.1 ((List.getD ll DM.toNat cA).1).toNat aV)).bind λr5=>(Z8 N (W .i64 r3) r5).bind λr6=>cond (small (List.length x8+List.length ([r6]))) (bP () x3 x6 (x8++([r6])) ll ln (W .i64 (DM+1))) (none)) (none)) (none)) ((mN N x8).bind λr9=>some (r9.1,(0:Int)))
def pI.l5(N:Nat):Nat→pI.bN
 |0,_,_,_,_,_,_,_=>none
 |n+1,x2,x3,x6,x8,ll,ln,DM=>pI.eg N (pI.l5 N n) x2 x3 x6 x8 ll ln DM
def pI.b(N:Nat)(eY:pI.bN)(a0:ae)(a1:aE)(a2:Unit):Option (cC×(Int)):=
 (pH N a0 a1).bind λr1=>cond (!r1) (some (cA,(1:Int))) (eY () a0 cA ([]) a1 (List.length a1:Int) (0:Int))
def pI(N:Nat)(a0:ae)(a1:aE)(a2:Unit):Option (cC×(Int)):=pI.b N (pI.l5 N N) a0 a1 a2
def F89(N:Nat)(a0:ae)(a1:aE):Option (cC×(Int)):=
 (pI N a0 a1 ()).bind λr1=>some (r1.1,r1.2)
def F91(N:Nat)(a0:Int)(a1:cC):Option (Bool):=
 (Vl N a0).bind λr1=>(WE N r1 a1).bind λr2=>some (dk 0 r2)
def F92(N:Nat)(a0:cC):Option ((Int)×(Bool)):=
 cond (aZ 63 0) (none) (cond (!aO a0.1 (shr .i64 (W .i64 a0.2.1) 63)) (some ((0:Int),false)) (some ((W .i64 a0.2.1),true)))
def F31(N:Nat)(a0:ae)(a1:an)(a2:Int):Option ((Int)×(Int)):=
 (lG N a0 a1).bind λr1=>cond (!r1) (some ((0:Int),(1:Int))) ((F78 N a1 a2).bind λr2=>cond (!r2) (some ((0:Int),(3:Int))) ((BP N a1.2.2.1 (5:Int) a2).bind λr3=>let v4:Int:=mx r3 0;(BR N a1.2.2.2.1 a2).bind λr5=>(F89 N a0 r5).bind λr6=>(F91 N v4 r6.1).bind λr7=>cond (r7) ((F92 N r6.1).bind λr8=>some (r8.1,(0:Int))) (some (v4,(0:Int)))))
def ahT(N:Nat)(a0:cC)(a1:cC):Option (cC×(Bool)):=
 (vn N a0.2.1 a1.2.1 (0:Int)).bind λr1=>(vn N (W .u64 a0.1) (W .u64 a1.1) r1.2).bind λr4=>let v5:Int:=W .i64 r4.1;cond (!(uw .bool (aZ a0.1 0) (aZ a1.1 0))) (cond (!(uw .bool (aZ v5 0) (aZ a0.1 0))) (some (cA,false)) (some ((v5,(r1.1,())),true))) (some ((v5,(r1.1,())),true))
def F66(N:Nat)(a0:cC):Option (cC×(Bool)):=
 (ahT N cA a0).bind λr1=>some (r1.1,r1.2)
abbrev CU.bN:=Int→Int→au→aE→Int→Int→Option au
def CU.eg(N:Nat)(bP:CU.bN)(x1:Int)(x2:Int)(x7:au)(xl:aE)(JF:Int)(vy:Int):Option au:=
 cond (aZ vy JF) (cond (bb vy (List.length xl)) (let v6:Int:=W .i64 (0-(((List.getD xl vy.toNat cA).2).1));cond (small (List.length x7+List.length ([(x1,((List.getD xl vy.toNat cA).1,(v6,()))),(x2,((List.getD xl vy.toNat cA).1,(((List.getD xl vy.toNat cA).2).1,())))]))) (bP x1 x2 (x7++([(x1,((List.getD xl vy.toNat cA).1,(v6,()))),(x2,((List.getD xl vy.toNat cA).1,(((List.getD xl vy.toNat cA).2).1,())))])) xl JF (W .i64 (vy+1))) (none)) (none)) (some x7)
def CU.l5(N:Nat):Nat→CU.bN
 |0,_,_,_,_,_,_=>none
 |n+1,x1,x2,x7,xl,JF,vy=>CU.eg N (CU.l5 N n) x1 x2 x7 xl JF vy
def CU.b(N:Nat)(eY:CU.bN)(a0:au)(a1:Int)(a2:Int):Option au:=
 (np N a0).bind λr1=>cond (!r1) (some ([])) ((Qr N a1 (0:Int)).bind λr2=>cond (!r2) (some ([])) ((Qr N a2 (0:Int)).bind λr3=>cond (!r3) (some ([])) (cond (aO a1 a2) (some ([])) ((BR N a0 a1).bind λr4=>eY a1 a2 ([]) r4 (List.length r4:Int) (0:Int)))))
def CU(N:Nat)(a0:au)(a1:Int)(a2:Int):Option au:=CU.b N (CU.l5 N N) a0 a1 a2
def aar(N:Nat)(a0:an):Option an:=
 (oc N a0.1).bind λr1=>(oc N a0.2.1).bind λr2=>(oc N a0.2.2.1).bind λr3=>(oc N a0.2.2.2.1).bind λr4=>(oc N a0.2.2.2.2.1).bind λr5=>(oc N a0.2.2.2.2.2.1).bind λr6=>some (r1,(r2,(r3,(r4,(r5,(r6,()))))))
abbrev gB.jF:=au→Int→jE→Int→au→Int→Int→Option (Bool)
abbrev gB.db:=au→Int→Option (Bool)
def gB.uN(N:Nat)(eG:gB.db)(kE:gB.jF)(x0:au)(x3:Int)(x4:jE)(x9:Int)(a7:au)(bU:Int)(cj:Int):Option (Bool):=
 cond (aZ cj bU) (cond (bb cj (List.length a7)) (cond (aO (((List.getD a7 cj.toNat bm).2).1) x3) ((Vl N ((((List.getD a7 cj.toNat bm).2).2).1)).bind λr3=>cond (small (List.length x4+List.length ([r3]))) (kE x0 x3 (x4++([r3])) x9 a7 bU (W .i64 (cj+1))) (none)) (kE x0 x3 x4 x9 a7 bU (W .i64 (cj+1)))) (none)) ((mN N x4).bind λr7=>cond (!r7.2) (some false) ((F74 N r7.1).bind λr8=>cond (!aO r8 0) (some false) (eG x0 (W .i64 (x9+1)))))
def gB.l6(N:Nat)(eG:gB.db):Nat→gB.jF
 |0,_,_,_,_,_,_,_=>none
 |n+1,x0,x3,x4,x9,a7,bU,cj=>gB.uN N eG (gB.l6 N eG n) x0 x3 x4 x9 a7 bU cj
def gB.gJ(N:Nat)(xm:gB.jF)(eG:gB.db)(x0:au)(x9:Int):Option (Bool):=
 cond (aZ x9 6) (xm x0 x9 ([]) x9 x0 (List.length x0:Int) (0:Int)) (some true)
def gB.l2(N:Nat):Nat→gB.db
 |0,_,_=>none
 |n+1,x0,x9=>gB.gJ N (gB.l6 N (gB.l2 N n) N) (gB.l2 N n) x0 x9
def gB.b(N:Nat)(jq:gB.db)(a0:au):Option (Bool):=
 jq a0 (0:Int)
def gB(N:Nat)(a0:au):Option (Bool):=gB.b N (gB.l2 N N) a0
def aai(N:Nat)(a0:au):Option au:=
 cond (ka 0 (List.length a0:Int) (List.length a0:Int) (List.length a0:Int)) (some (List.drop (0:Int).toNat (List.take (List.length a0:Int).toNat a0))) (none)
abbrev cr.anj:=au→au→dh→Int→au→Int→Int→Option (au×(Int))
abbrev cr.mI:=au→au→dh→Int→au→Int→Int→Option (au×(Int))
abbrev cr.Yr:=au→au→dh→jE→au→Int→Int→au→Int→Int→Option (au×(Int))
abbrev cr.IJ:=au→au→au→Int→Int→Option (au×(Int))
abbrev cr.ga:=au→au→au→Int→Int→Option (au×(Int))
abbrev cr.ca:=au→au→au→Int→Int→Option (au×(Int))
def cr.ahO(N:Nat)(gP:cr.ga)(x1:au)(x8:au)(bx:dh)(aW:Int)(Oq:au)(PZ:Int)(LG:Int):Option (au×(Int)):=
 cond (aO aW (List.length x8:Int)) ((p4 N x8 aW ([(bx.1,(bx.2.1,((0:Int),())))])).bind λpV=>gP x1 pV Oq PZ (W .i64 (LG+1))) (cond (bb aW (List.length x8)) ((TS N bx.1 bx.2.1 (List.getD x8 aW.toNat bm)).bind λxj=>cond (!aO xj 0) ((p4 N x8 aW ([(bx.1,(bx.2.1,((0:Int),())))])).bind λvP=>gP x1 vP Oq PZ (W .i64 (LG+1))) (gP x1 x8 Oq PZ (W .i64 (LG+1)))) (none))
def cr.j18(N:Nat)(gP:cr.ga)(x1:au)(x8:au)(bx:dh)(aW:Int)(Oq:au)(PZ:Int)(LG:Int):Option (au×(Int)):=cr.ahO N gP x1 x8 bx aW Oq PZ LG
def cr.vH(N:Nat)(agh:cr.anj)(gP:cr.ga)(n7:cr.mI)(x1:au)(x8:au)(bx:dh)(aW:Int)(Oq:au)(PZ:Int)(LG:Int):Option (au×(Int)):=
 cond (aZ aW (List.length x8:Int)) (cond (bb aW (List.length x8)) ((TS N bx.1 bx.2.1 (List.getD x8 aW.toNat bm)).bind λkD=>cond (aZ 0 kD) (n7 x1 x8 bx (W .i64 (aW+1)) Oq PZ LG) (agh x1 x8 bx aW Oq PZ LG)) (none)) (agh x1 x8 bx aW Oq PZ LG)
def cr.w4(N:Nat)(gP:cr.ga):Nat→cr.mI
 |0,_,_,_,_,_,_,_=>none
 |n+1,x1,x8,bx,aW,Oq,PZ,LG=>cr.vH N (cr.j18 N gP) gP (cr.w4 N gP n) x1 x8 bx aW Oq PZ LG
def cr.aaj(N:Nat)(JG:cr.IJ)(Ys:cr.Yr)(x1:au)(a7:au)(cj:dh)(dq:jE)(Bb:au)(DN:Int)(sf:Int)(Lg:au)(U4:Int)(H7:Int):Option (au×(Int)):=
 cond (aZ H7 U4) (cond (bb H7 (List.length Lg)) (cond (aO ((List.getD Lg H7.toNat bm).1) cj.1) (cond (aO (((List.getD Lg H7.toNat bm).2).1) cj.2.1) ((Vl N ((((List.getD Lg H7.toNat bm).2).2).1)).bind λDd=>cond (small (List.length dq+List.length ([Dd]))) (Ys x1 a7 cj (dq++([Dd])) Bb DN sf Lg U4 (W .i64 (H7+1))) (none)) (Ys x1 a7 cj dq Bb DN sf Lg U4 (W .i64 (H7+1)))) (Ys x1 a7 cj dq Bb DN sf Lg U4 (W .i64 (H7+1)))) (none)) ((mN N dq).bind λr28=>(F92 N r28.1).bind λEg=>cond (!Eg.2) (some (bH,(2:Int))) ((Qs N Eg.1).bind λRg=>cond (!Rg) (some (bH,(2:Int))) (cond (!aO Eg.1 0) (cond (small (List.length a7+List.length ([(cj.1,(cj.2.1,(Eg.1,())))]))) (JG x1 (a7++([(cj.1,(cj.2.1,(Eg.1,())))])) Bb DN (W .i64 (sf+1))) (none)) (JG x1 a7 Bb DN (W .i64 (sf+1))))))
def cr.l27(N:Nat)(JG:cr.IJ):Nat→cr.Yr
 |0,_,_,_,_,_,_,_,_,_,_=>none
 |n+1,x1,a7,cj,dq,Bb,DN,sf,Lg,U4,H7=>cr.aaj N JG (cr.l27 N JG n) x1 a7 cj dq Bb DN sf Lg U4 H7
def cr.aal(N:Nat)(ank:cr.Yr)(JG:cr.IJ)(x1:au)(a7:au)(Bb:au)(DN:Int)(sf:Int):Option (au×(Int)):=
 cond (aZ sf DN) (cond (bb sf (List.length Bb)) ((Vl N ((((List.getD Bb sf.toNat bm).2).2).1)).bind λDc=>ank x1 a7 (List.getD Bb sf.toNat bm) ([Dc]) Bb DN sf x1 (List.length x1:Int) (0:Int)) (none)) ((aai N a7).bind λRe=>some (Re,(0:Int)))
def cr.l23(N:Nat):Nat→cr.IJ
 |0,_,_,_,_,_=>none
 |n+1,x1,a7,Bb,DN,sf=>cr.aal N (cr.l27 N (cr.l23 N n) N) (cr.l23 N n) x1 a7 Bb DN sf
def cr.mR(N:Nat)(GQ:cr.mI)(anl:cr.IJ)(gP:cr.ga)(x1:au)(x8:au)(Oq:au)(PZ:Int)(LG:Int):Option (au×(Int)):=
 cond (aZ LG PZ) (cond (bb LG (List.length Oq)) (GQ x1 x8 (List.getD Oq LG.toNat bm) (0:Int) Oq PZ LG) (none)) (cond (jZ 0 (List.length x8:Int)) (anl x1 (List.replicate (0:Int).toNat bm) x8 (List.length x8:Int) (0:Int)) (none))
def cr.nW(N:Nat):Nat→cr.ga
 |0,_,_,_,_,_=>none
 |n+1,x1,x8,Oq,PZ,LG=>cr.mR N (cr.w4 N (cr.nW N n) N) (cr.l23 N N) (cr.nW N n) x1 x8 Oq PZ LG
def cr.eK(N:Nat)(ue:cr.ga)(cJ:cr.ca)(x0:au)(x1:au)(xl:au)(JF:Int)(vy:Int):Option (au×(Int)):=
 cond (aZ vy JF) (cond (bb vy (List.length xl)) ((Qr N ((List.getD xl vy.toNat bm).1) (((List.getD xl vy.toNat bm).2).1)).bind λr3=>cond (!r3) (some (bH,(1:Int))) ((Qs N ((((List.getD xl vy.toNat bm).2).2).1)).bind λr4=>cond (!r4) (some (bH,(1:Int))) (cJ x0 x1 xl JF (W .i64 (vy+1))))) (none)) ((gB N x1).bind λr6=>cond (!r6) (some (bH,(1:Int))) ((oc N x0).bind λr7=>ue x1 r7 x1 (List.length x1:Int) (0:Int)))
def cr.l4(N:Nat):Nat→cr.ca
 |0,_,_,_,_,_=>none
 |n+1,x0,x1,xl,JF,vy=>cr.eK N (cr.nW N N) (cr.l4 N n) x0 x1 xl JF vy
def cr.b(N:Nat)(gd:cr.ca)(a0:au)(a1:au):Option (au×(Int)):=
 (np N a0).bind λr1=>cond (!r1) (some (bH,(1:Int))) (cond (aZ 400 (List.length a1:Int)) (some (bH,(1:Int))) (gd a0 a1 a1 (List.length a1:Int) (0:Int)))
def cr(N:Nat)(a0:au)(a1:au):Option (au×(Int)):=cr.b N (cr.l4 N N) a0 a1
def ahQ(N:Nat)(a0:au):Option au:=
 cond (ka 0 (List.length a0:Int) (List.length a0:Int) (List.length a0:Int)) (some (List.drop (0:Int).toNat (List.take (List.length a0:Int).toNat a0))) (none)
abbrev ct.anm:=di→au→uY→Int→di→Int→Int→Option (au×(Int))
abbrev ct.xn:=di→au→uY→Int→di→Int→Int→Option (au×(Int))
abbrev ct.GR:=di→au→dh→jE→au→Int→Int→di→Int→Int→Option (au×(Int))
abbrev ct.IU:=di→au→au→Int→Int→Option (au×(Int))
abbrev ct.mI:=di→au→di→Int→Int→Option (au×(Int))
abbrev ct.bN:=au→di→jE→di→Int→Int→Option (au×(Int))
def ct.ahR(N:Nat)(n7:ct.mI)(x1:di)(aW:au)(bU:uY)(cj:Int)(Ot:di)(P0:Int)(LH:Int):Option (au×(Int)):=
 cond (aO cj (List.length aW:Int)) ((p4 N aW cj ([(bU.1,(bU.2.1,((0:Int),())))])).bind λxj=>n7 x1 xj Ot P0 (W .i64 (LH+1))) (cond (bb cj (List.length aW)) ((Qp N bU.1 bU.2.1 (List.getD aW cj.toNat bm)).bind λzr=>cond (!aO zr 0) ((p4 N aW cj ([(bU.1,(bU.2.1,((0:Int),())))])).bind λuj=>n7 x1 uj Ot P0 (W .i64 (LH+1))) (n7 x1 aW Ot P0 (W .i64 (LH+1)))) (none))
def ct.j21(N:Nat)(n7:ct.mI)(x1:di)(aW:au)(bU:uY)(cj:Int)(Ot:di)(P0:Int)(LH:Int):Option (au×(Int)):=ct.ahR N n7 x1 aW bU cj Ot P0 LH
def ct.FO(N:Nat)(agj:ct.anm)(n7:ct.mI)(Ou:ct.xn)(x1:di)(aW:au)(bU:uY)(cj:Int)(Ot:di)(P0:Int)(LH:Int):Option (au×(Int)):=
 cond (aZ cj (List.length aW:Int)) (cond (bb cj (List.length aW)) ((Qp N bU.1 bU.2.1 (List.getD aW cj.toNat bm)).bind λn6=>cond (aZ 0 n6) (Ou x1 aW bU (W .i64 (cj+1)) Ot P0 LH) (agj x1 aW bU cj Ot P0 LH)) (none)) (agj x1 aW bU cj Ot P0 LH)
def ct.IV(N:Nat)(n7:ct.mI):Nat→ct.xn
 |0,_,_,_,_,_,_,_=>none
 |n+1,x1,aW,bU,cj,Ot,P0,LH=>ct.FO N (ct.j21 N n7) n7 (ct.IV N n7 n) x1 aW bU cj Ot P0 LH
def ct.KF(N:Nat)(JH:ct.IU)(De:ct.GR)(x1:di)(dq:au)(e8:dh)(ll:jE)(Bc:au)(DO:Int)(zj:Int)(H8:di)(U5:Int)(GU:Int):Option (au×(Int)):=
 cond (aZ GU U5) (cond (bb GU (List.length H8)) (cond (aO ((List.getD H8 GU.toNat ((0:Int),((0:Int),(cA,())))).1) e8.1) (cond (aO (((List.getD H8 GU.toNat ((0:Int),((0:Int),(cA,())))).2).1) e8.2.1) (cond (small (List.length ll+List.length ([(((List.getD H8 GU.toNat ((0:Int),((0:Int),(cA,())))).2).2).1]))) (De x1 dq e8 (ll++([(((List.getD H8 GU.toNat ((0:Int),((0:Int),(cA,())))).2).2).1])) Bc DO zj H8 U5 (W .i64 (GU+1))) (none)) (De x1 dq e8 ll Bc DO zj H8 U5 (W .i64 (GU+1)))) (De x1 dq e8 ll Bc DO zj H8 U5 (W .i64 (GU+1)))) (none)) ((mN N ll).bind λEg=>(F92 N Eg.1).bind λRg=>cond (!Eg.2) (some (bH,(2:Int))) (cond (!Rg.2) (some (bH,(2:Int))) (cond (!aO Rg.1 0) (cond (small (List.length dq+List.length ([(e8.1,(e8.2.1,(Rg.1,())))]))) (JH x1 (dq++([(e8.1,(e8.2.1,(Rg.1,())))])) Bc DO (W .i64 (zj+1))) (none)) (JH x1 dq Bc DO (W .i64 (zj+1))))))
def ct.Nv(N:Nat)(JH:ct.IU):Nat→ct.GR
 |0,_,_,_,_,_,_,_,_,_,_=>none
 |n+1,x1,dq,e8,ll,Bc,DO,zj,H8,U5,GU=>ct.KF N JH (ct.Nv N JH n) x1 dq e8 ll Bc DO zj H8 U5 GU
def ct.aap(N:Nat)(Yt:ct.GR)(JH:ct.IU)(x1:di)(dq:au)(Bc:au)(DO:Int)(zj:Int):Option (au×(Int)):=
 cond (aZ zj DO) (cond (bb zj (List.length Bc)) ((Vl N ((((List.getD Bc zj.toNat bm).2).2).1)).bind λDd=>Yt x1 dq (List.getD Bc zj.toNat bm) ([Dd]) Bc DO zj x1 (List.length x1:Int) (0:Int)) (none)) ((ahQ N dq).bind λRe=>some (Re,(0:Int)))
def ct.l26(N:Nat):Nat→ct.IU
 |0,_,_,_,_,_=>none
 |n+1,x1,dq,Bc,DO,zj=>ct.aap N (ct.Nv N (ct.l26 N n) N) (ct.l26 N n) x1 dq Bc DO zj
def ct.vH(N:Nat)(Ov:ct.xn)(ann:ct.IU)(n7:ct.mI)(x1:di)(aW:au)(Ot:di)(P0:Int)(LH:Int):Option (au×(Int)):=
 cond (aZ LH P0) (cond (bb LH (List.length Ot)) (Ov x1 aW (List.getD Ot LH.toNat ((0:Int),((0:Int),(cA,())))) (0:Int) Ot P0 LH) (none)) (cond (jZ 0 (List.length aW:Int)) (ann x1 (List.replicate (0:Int).toNat bm) aW (List.length aW:Int) (0:Int)) (none))
def ct.w4(N:Nat):Nat→ct.mI
 |0,_,_,_,_,_=>none
 |n+1,x1,aW,Ot,P0,LH=>ct.vH N (ct.IV N (ct.w4 N n) N) (ct.l26 N N) (ct.w4 N n) x1 aW Ot P0 LH
def ct.eg(N:Nat)(GQ:ct.mI)(bP:ct.bN)(x0:au)(x1:di)(x6:jE)(x36:di)(x37:Int)(x38:Int):Option (au×(Int)):=
 cond (aZ x38 x37) (cond (bb x38 (List.length x36)) ((Qn N ((List.getD x36 x38.toNat ((0:Int),((0:Int),(cA,())))).1) (((List.getD x36 x38.toNat ((0:Int),((0:Int),(cA,())))).2).1)).bind λr4=>cond (!r4) (some (bH,(1:Int))) (cond (small (List.length x6+List.length ([(((List.getD x36 x38.toNat ((0:Int),((0:Int),(cA,())))).2).2).1]))) (bP x0 x1 (x6++([(((List.getD x36 x38.toNat ((0:Int),((0:Int),(cA,())))).2).2).1])) x36 x37 (W .i64 (x38+1))) (none))) (none)) ((mN N x6).bind λr7=>cond (!r7.2) (some (bH,(1:Int))) ((F74 N r7.1).bind λr8=>cond (!aO r8 0) (some (bH,(1:Int))) ((oc N x0).bind λr9=>GQ x1 r9 x1 (List.length x1:Int) (0:Int))))
def ct.l5(N:Nat):Nat→ct.bN
 |0,_,_,_,_,_,_=>none
 |n+1,x0,x1,x6,x36,x37,x38=>ct.eg N (ct.w4 N N) (ct.l5 N n) x0 x1 x6 x36 x37 x38
def ct.b(N:Nat)(eY:ct.bN)(a0:au)(a1:di):Option (au×(Int)):=
 (Bj N a0).bind λr1=>cond (!r1) (some (bH,(1:Int))) (cond (aZ 400 (List.length a1:Int)) (some (bH,(1:Int))) (cond (jZ 0 (List.length a1:Int)) (eY a0 a1 (List.replicate (0:Int).toNat cA) a1 (List.length a1:Int) (0:Int)) (none)))
def ct(N:Nat)(a0:au)(a1:di):Option (au×(Int)):=ct.b N (ct.l5 N N) a0 a1
def F68(N:Nat)(a0:an)(a1:au)(a2:di):Option (an×(Int)):=
 (aar N a0).bind λr1=>(cr N a0.2.2.2.1 a1).bind λr2=>cond (!aO r2.2 0) (some ((cn,(c9,(bH,(bH,(dB,(dR,())))))),r2.2)) ((ct N a0.2.2.1 a2).bind λr3=>cond (!aO r3.2 0) (some ((cn,(c9,(bH,(bH,(dB,(dR,())))))),r3.2)) (some ((r1.1,(r1.2.1,(r3.1,(r2.1,r1.2.2.2.2)))),(0:Int))))
abbrev tc.Yu:=Int→ae→an→an→au→di→bM→Int→aL→Int→Int→Option (an×(Int))
abbrev tc.gT:=Int→ae→an→an→au→di→aL→Int→Int→Option (an×(Int))
def tc.NR(N:Nat)(e9:tc.gT)(x2:Int)(x3:ae)(x4:an)(x6:an)(x8:au)(x9:di)(aW:bM)(a7:Int)(xl:aL)(JF:Int)(vy:Int):Option (an×(Int)):=
 (BP N x4.2.2.1 (5:Int) aW.1).bind λr7=>(Vl N (W .i64 (a7+(mn r7 0)))).bind λkD=>(F66 N kD).bind λnY=>(CU N x4.2.2.2.1 aW.1 (0:Int)).bind λn6=>cond (small (List.length x8+List.length n6)) (cond (small (List.length x9+List.length ([((5:Int),(aW.1,(nY.1,()))),((2:Int),((0:Int),(kD,())))]))) (e9 x2 x3 x4 x6 (x8++n6) (x9++([((5:Int),(aW.1,(nY.1,()))),((2:Int),((0:Int),(kD,())))])) xl JF (W .i64 (vy+1))) (none)) (none)
def tc.Vn(N:Nat)(e9:tc.gT)(x2:Int)(x3:ae)(x4:an)(x6:an)(x8:au)(x9:di)(aW:bM)(a7:Int)(xl:aL)(JF:Int)(vy:Int):Option (an×(Int)):=tc.NR N e9 x2 x3 x4 x6 x8 x9 aW a7 xl JF vy
def tc.yn(N:Nat)(Ow:tc.Yu)(e9:tc.gT)(x2:Int)(x3:ae)(x4:an)(x6:an)(x8:au)(x9:di)(xl:aL)(JF:Int)(vy:Int):Option (an×(Int)):=
 cond (aZ vy JF) (cond (bb vy (List.length xl)) (cond (!aO (((List.getD xl vy.toNat aV).2).1) x2) (e9 x2 x3 x4 x6 x8 x9 xl JF (W .i64 (vy+1))) (cond (aO ((((List.getD xl vy.toNat aV).2).2).1) (2:Int)) ((F31 N x3 x4 ((List.getD xl vy.toNat aV).1)).bind λr5=>Ow x2 x3 x4 x6 x8 x9 (List.getD xl vy.toNat aV) r5.1 xl JF vy) (Ow x2 x3 x4 x6 x8 x9 (List.getD xl vy.toNat aV) (0:Int) xl JF vy))) (none)) ((F68 N x4 x8 x9).bind λvP=>some (vP.1,vP.2))
def tc.l8(N:Nat):Nat→tc.gT
 |0,_,_,_,_,_,_,_,_,_=>none
 |n+1,x2,x3,x4,x6,x8,x9,xl,JF,vy=>tc.yn N (tc.Vn N (tc.l8 N n)) (tc.l8 N n) x2 x3 x4 x6 x8 x9 xl JF vy
def tc.b(N:Nat)(Cc:tc.gT)(a0:ae)(a1:an)(a2:Int):Option (an×(Int)):=
 (lG N a0 a1).bind λr1=>cond (!r1) (some ((cn,(c9,(bH,(bH,(dB,(dR,())))))),(1:Int))) ((Ax N a1.1 a2).bind λr2=>cond (aO r2 0) (some ((cn,(c9,(bH,(bH,(dB,(dR,())))))),(3:Int))) (Cc a2 a0 a1 (cn,(c9,(bH,(bH,(dB,(dR,())))))) ([]) ([]) a1.2.1 (List.length a1.2.1:Int) (0:Int)))
def tc(N:Nat)(a0:ae)(a1:an)(a2:Int):Option (an×(Int)):=tc.b N (tc.l8 N N) a0 a1 a2
abbrev zp.db:=au→Int→Option (Bool)
def zp.gJ(N:Nat)(eG:zp.db)(x0:au)(x3:Int):Option (Bool):=
 cond (aZ x3 (List.length x0:Int)) (cond (bb x3 (List.length x0)) (cond (aZ ((List.getD x0 x3.toNat bm).1) (0:Int)) (some false) (cond (aZ 24 ((List.getD x0 x3.toNat bm).1)) (some false) (cond (aZ (((List.getD x0 x3.toNat bm).2).1) (0:Int)) (some false) (cond (dk 6 (((List.getD x0 x3.toNat bm).2).1)) (some false) (cond (aO ((((List.getD x0 x3.toNat bm).2).2).1) (0:Int)) (some false) (cond (aO ((((List.getD x0 x3.toNat bm).2).2).1) (-9223372036854775808:Int)) (some false) (cond (aZ 0 x3) (let v2:Int:=W .i64 (x3-1);cond (bb v2 (List.length x0)) (cond (aZ ((List.getD x0 x3.toNat bm).1) ((List.getD x0 v2.toNat bm).1)) (some false) (let v3:Int:=W .i64 (x3-1);cond (bb v3 (List.length x0)) (cond (aO ((List.getD x0 x3.toNat bm).1) ((List.getD x0 v3.toNat bm).1)) (let v4:Int:=W .i64 (x3-1);cond (bb v4 (List.length x0)) (cond (dk (((List.getD x0 x3.toNat bm).2).1) (((List.getD x0 v4.toNat bm).2).1)) (some false) (eG x0 (W .i64 (x3+1)))) (none)) (eG x0 (W .i64 (x3+1)))) (none))) (none)) (eG x0 (W .i64 (x3+1)))))))))) (none)) (some true)
def zp.l2(N:Nat):Nat→zp.db
 |0,_,_=>none
 |n+1,x0,x3=>zp.gJ N (zp.l2 N n) x0 x3
def zp.b(N:Nat)(jq:zp.db)(a0:au):Option (Bool):=
 jq a0 (0:Int)
def zp(N:Nat)(a0:au):Option (Bool):=zp.b N (zp.l2 N N) a0
abbrev Bk.ca:=au→Int→Int→Int→Option (Int)
def Bk.eK(N:Nat)(cJ:Bk.ca)(x0:au)(x1:Int)(x2:Int)(x7:Int):Option (Int):=
 cond (aZ x7 (List.length x0:Int)) (cond (bb x7 (List.length x0)) (cond (aO ((List.getD x0 x7.toNat bm).1) x1) (cond (bb x7 (List.length x0)) (cond (aO (((List.getD x0 x7.toNat bm).2).1) x2) (cond (bb x7 (List.length x0)) (some ((((List.getD x0 x7.toNat bm).2).2).1)) (none)) (cJ x0 x1 x2 (W .i64 (x7+1)))) (none)) (cJ x0 x1 x2 (W .i64 (x7+1)))) (none)) (some (0:Int))
def Bk.l4(N:Nat):Nat→Bk.ca
 |0,_,_,_,_=>none
 |n+1,x0,x1,x2,x7=>Bk.eK N (Bk.l4 N n) x0 x1 x2 x7
def Bk.b(N:Nat)(gd:Bk.ca)(a0:au)(a1:Int)(a2:Int):Option (Int):=
 (zp N a0).bind λr1=>cond (!r1) (some (0:Int)) (gd a0 a1 a2 (0:Int))
def Bk(N:Nat)(a0:au)(a1:Int)(a2:Int):Option (Int):=Bk.b N (Bk.l4 N N) a0 a1 a2
def Qo(N:Nat)(a0:Int)(a1:Int):Option (Bool):=
 cond (aO a0 1) (some (aO a1 0)) (cond (aO a0 2) (some (aO a1 0)) (cond (aO a0 3) (some (aO a1 0)) (cond (aO a0 4) (some (aO a1 0)) (cond (aO a0 5) (cond (dk 1 a1) (some (dk a1 24)) (some false)) (cond (aO a0 6) (cond (dk 1 a1) (some (dk a1 12)) (some false)) (cond (aO a0 7) (cond (dk 1 a1) (some (dk a1 12)) (some false)) (some false)))))))
abbrev BI.db:=au→Int→Option (Bool)
def BI.gJ(N:Nat)(eG:BI.db)(x0:au)(x3:Int):Option (Bool):=
 cond (aZ x3 (List.length x0:Int)) (cond (bb x3 (List.length x0)) (cond (bb x3 (List.length x0)) ((Qo N ((List.getD x0 x3.toNat bm).1) (((List.getD x0 x3.toNat bm).2).1)).bind λr2=>cond (!r2) (some false) (cond (bb x3 (List.length x0)) (cond (aO ((((List.getD x0 x3.toNat bm).2).2).1) (0:Int)) (some false) (cond (aZ 0 x3) (cond (bb x3 (List.length x0)) (let v3:Int:=W .i64 (x3-1);cond (bb v3 (List.length x0)) (cond (aZ ((List.getD x0 x3.toNat bm).1) ((List.getD x0 v3.toNat bm).1)) (some false) (cond (bb x3 (List.length x0)) (let v4:Int:=W .i64 (x3-1);cond (bb v4 (List.length x0)) (cond (aO ((List.getD x0 x3.toNat bm).1) ((List.getD x0 v4.toNat bm).1)) (cond (bb x3 (List.length x0)) (let v5:Int:=W .i64 (x3-1);cond (bb v5 (List.length x0)) (cond (dk (((List.getD x0 x3.toNat bm).2).1) (((List.getD x0 v5.toNat bm).2).1)) (some false) (eG x0 (W .i64 (x3+1)))) (none)) (none)) (eG x0 (W .i64 (x3+1)))) (none)) (none))) (none)) (none)) (eG x0 (W .i64 (x3+1))))) (none))) (none)) (none)) (some true)
def BI.l2(N:Nat):Nat→BI.db
 |0,_,_=>none
 |n+1,x0,x3=>BI.gJ N (BI.l2 N n) x0 x3
def BI.b(N:Nat)(jq:BI.db)(a0:au):Option (Bool):=
 jq a0 (0:Int)
def BI(N:Nat)(a0:au):Option (Bool):=BI.b N (BI.l2 N N) a0
abbrev s9.ca:=au→Int→Int→Int→Option (Int)
def s9.eK(N:Nat)(cJ:s9.ca)(x0:au)(x1:Int)(x2:Int)(x7:Int):Option (Int):=
 cond (aZ x7 (List.length x0:Int)) (cond (bb x7 (List.length x0)) (cond (aO ((List.getD x0 x7.toNat bm).1) x1) (cond (bb x7 (List.length x0)) (cond (aO (((List.getD x0 x7.toNat bm).2).1) x2) (cond (bb x7 (List.length x0)) (some ((((List.getD x0 x7.toNat bm).2).2).1)) (none)) (cJ x0 x1 x2 (W .i64 (x7+1)))) (none)) (cJ x0 x1 x2 (W .i64 (x7+1)))) (none)) (some (0:Int))
def s9.l4(N:Nat):Nat→s9.ca
 |0,_,_,_,_=>none
 |n+1,x0,x1,x2,x7=>s9.eK N (s9.l4 N n) x0 x1 x2 x7
def s9.b(N:Nat)(gd:s9.ca)(a0:au)(a1:Int)(a2:Int):Option (Int):=
 (BI N a0).bind λr1=>cond (!r1) (some (0:Int)) (gd a0 a1 a2 (0:Int))
def s9(N:Nat)(a0:au)(a1:Int)(a2:Int):Option (Int):=s9.b N (s9.l4 N N) a0 a1 a2
def F15(N:Nat):Option (Bool):=
 (F56 N).bind λr1=>(F31 N r1.1 r1.2 (2:Int)).bind λr2=>(tc N r1.1 r1.2 (1:Int)).bind λr3=>(tc N r1.1 r1.2 (9:Int)).bind λr4=>cond (aO r2.2 0) (cond (aO r2.1 15) (cond (aO r3.2 0) ((Bk N r3.1.2.2.2.1 (0:Int) (0:Int)).bind λr5=>cond (aO r5 6) ((s9 N r3.1.2.2.1 (5:Int) (1:Int)).bind λr6=>cond (aO r6 0) ((s9 N r3.1.2.2.1 (5:Int) (2:Int)).bind λr7=>cond (aO r7 5) ((s9 N r3.1.2.2.1 (2:Int) (0:Int)).bind λr8=>cond (aO r8 5) (some (aO r4.2 3)) (some false)) (some false)) (some false)) (some false)) (some false)) (some false)) (some false)
def F16(N:Nat)(a0:List (Int)):Option aM:=
 some (a0,((0:Int),()))
def F62(N:Nat)(a0:aM):Option ((Int)×aM):=
 cond (aZ a0.2.1 (List.length a0.1:Int)) (cond (bb a0.2.1 (List.length a0.1)) (some (List.getD a0.1 a0.2.1.toNat (0:Int),(a0.1,((W .i64 (a0.2.1+1)),a0.2.2)))) (none)) (some ((0:Int),(a0.1,((W .i64 (a0.2.1+1)),a0.2.2))))
def pT(N:Nat)(a0:aM)(a1:Int):Option ((Int)×aM):=
 (F62 N a0).bind λr1=>let v2:Int:=W .u64 a1;cond (aO v2 0) (none) (some ((W .i64 (rem r1.1 v2)),r1.2))
def QP(N:Nat)(a0:aM)(a1:Int):Option ((Bool)×aM):=
 (pT N a0 a1).bind λr1=>some (aO r1.1 (W .i64 (a1-1)),r1.2)
def LD(N:Nat)(a0:aM):Option ((Int)×aM):=
 (F62 N a0).bind λr1=>cond (aO 8 0) (none) (let v2:Int:=rem r1.1 8;cond (aO v2 0) (cond (aZ 1 0) (none) (some ((W .i64 (shr .u64 r1.1 1)),r1.2))) (cond (aO v2 1) (cond (aZ 3 0) (none) (cond (aO 1000000000000 0) (none) (some ((W .i64 (rem (shr .u64 r1.1 3) 1000000000000)),r1.2)))) (cond (aO v2 2) (cond (aZ 3 0) (none) (cond (aO 2 0) (none) (some ((W .i64 (rem (shr .u64 r1.1 3) 2)),r1.2)))) (cond (aZ 3 0) (none) (cond (aO 5000 0) (none) (some ((W .i64 (rem (shr .u64 r1.1 3) 5000)),r1.2)))))))
abbrev vg.Yv:=aM→ae→ae→aL→Int→bM→Option (ae×aM)
abbrev vg.dU:=aM→ae→ae→aL→Int→Option (ae×aM)
def vg.W1(N:Nat)(dn:vg.dU)(x0:aM)(x2:ae)(x3:ae)(U6:aL)(x4:Int)(x5:bM):Option (ae×aM):=
 (QP N x0 (12:Int)).bind λvQ=>cond (vQ.1) ((LD N vQ.2).bind λxj=>cond (aO 1000000001 0) (none) (let Yw:Int:=rem xj.1 1000000001;(LD N xj.2).bind λzr=>cond (aO 1000000001 0) (none) (let v18:Int:=rem zr.1 1000000001;cond (small (List.length U6+List.length ([(x5.1,(x5.2.1,(Yw,(v18,x5.2.2.2.2))))]))) (dn zr.2 x2 (c9,x3.2) (U6++([(x5.1,(x5.2.1,(Yw,(v18,x5.2.2.2.2))))])) (W .i64 (x4-1))) (none)))) (cond (small (List.length U6+List.length ([x5]))) (dn vQ.2 x2 (c9,x3.2) (U6++([x5])) (W .i64 (x4-1))) (none))
def vg.j8(N:Nat)(dn:vg.dU)(x0:aM)(x2:ae)(x3:ae)(U6:aL)(x4:Int)(x5:bM):Option (ae×aM):=vg.W1 N dn x0 x2 x3 U6 x4 x5
def vg.nT(N:Nat)(Ox:vg.Yv)(dn:vg.dU)(x0:aM)(x2:ae)(x3:ae)(U6:aL)(x4:Int):Option (ae×aM):=
 cond (aZ 0 x4) ((pT N x0 (3:Int)).bind λr4=>(pT N r4.2 (300:Int)).bind λr5=>(pT N r5.2 (12:Int)).bind λr7=>(pT N r7.2 (6:Int)).bind λr8=>(QP N r8.2 (12:Int)).bind λr9=>cond (r9.1) ((LD N r9.2).bind λkD=>cond (aO 1000000000000 0) (none) (Ox kD.2 x2 x3 U6 x4 (r4.1,((W .i64 ((1:Int)+(rem kD.1 1000000000000))),(r7.1,(r8.1,())))))) (Ox r9.2 x2 x3 U6 x4 (r4.1,((W .i64 ((1:Int)+r5.1)),(r7.1,(r8.1,())))))) ((pT N x0 (300:Int)).bind λDd=>(pT N Dd.2 (5:Int)).bind λJI=>(pT N JI.2 (3:Int)).bind λEh=>(pT N Eh.2 (3:Int)).bind λBm=>(pT N Bm.2 (20:Int)).bind λLh=>let v28:Int:=W .i64 ((1:Int)+Lh.1);(pT N Lh.2 (100:Int)).bind λEg=>(QP N Eg.2 (15:Int)).bind λRg=>cond (Rg.1) ((LD N Rg.2).bind λHj=>some ((U6,(Hj.1,(JI.1,(Eh.1,(Bm.1,(v28,(Eg.1,x3.2.2.2.2.2.2.2))))))),Hj.2)) (some ((U6,(Dd.1,(JI.1,(Eh.1,(Bm.1,(v28,(Eg.1,x3.2.2.2.2.2.2.2))))))),Rg.2)))
def vg.l3(N:Nat):Nat→vg.dU
 |0,_,_,_,_,_=>none
 |n+1,x0,x2,x3,U6,x4=>vg.nT N (vg.j8 N (vg.l3 N n)) (vg.l3 N n) x0 x2 x3 U6 x4
def vg.b(N:Nat)(oG:vg.dU)(a0:aM):Option (ae×aM):=
 (pT N a0 (4:Int)).bind λr1=>oG r1.2 (c9,fm) (c9,fm) c9 (W .i64 ((1:Int)+r1.1))
def vg(N:Nat)(a0:aM):Option (ae×aM):=vg.b N (vg.l3 N N) a0
def Uk(N:Nat)(a0:aM)(a1:ae)(a2:Int):Option (gR×aM):=
 cond (bb a2 (List.length a1.1)) ((pT N a0 (61:Int)).bind λr1=>(QP N r1.2 (20:Int)).bind λr6=>cond (r6.1) ((LD N r6.2).bind λr7=>cond (aO 1000000000000 0) (none) (some (((9:Int),((0:Int),((0:Int),(a2,((0:Int),((0:Int),((0:Int),((W .i64 ((1:Int)+(rem r7.1 1000000000000))),())))))))),r7.2))) (some (((9:Int),((0:Int),((0:Int),(a2,((0:Int),((0:Int),((0:Int),((mx 1 (mn 1000000000000 (W .i64 ((W .i64 ((((List.getD a1.1 a2.toNat aV).2).1)+r1.1))-30)))),())))))))),r6.2))) (none)
def Xs(N:Nat)(a0:aM)(a1:ae):Option (gR×aM):=
 (pT N a0 (List.length a1.1:Int)).bind λr1=>(pT N r1.2 (7:Int)).bind λr2=>let v3:Int:=W .i64 ((1:Int)+r2.1);(pT N r2.2 (2:Int)).bind λr4=>let v5:Int:=W .i64 ((1:Int)+r4.1);(pT N r4.2 (30:Int)).bind λr6=>cond (bb r1.1 (List.length a1.1)) ((pT N r6.2 (21:Int)).bind λr8=>(QP N r8.2 (30:Int)).bind λpV=>cond (pV.1) ((LD N pV.2).bind λvQ=>cond (aO 1000000000 0) (none) ((LD N vQ.2).bind λzr=>cond (aO 1000000000000 0) (none) (some (((7:Int),((0:Int),(v3,(r1.1,(v5,((0:Int),((W .i64 ((1:Int)+(rem vQ.1 1000000000))),((W .i64 ((1:Int)+(rem zr.1 1000000000000))),())))))))),zr.2)))) (some (((7:Int),((0:Int),(v3,(r1.1,(v5,((0:Int),((W .i64 ((1:Int)+r6.1)),((mx 1 (mn 1000000000000 (W .i64 ((W .i64 ((((List.getD a1.1 r1.1.toNat aV).2).1)+r8.1))-10)))),())))))))),pV.2))) (none)
def Ul(N:Nat)(a0:aM)(a1:ae):Option (gR×aM):=
 (pT N a0 (4:Int)).bind λr1=>let v2:Int:=W .i64 ((1:Int)+r1.1);(pT N r1.2 (7:Int)).bind λr3=>let v4:Int:=W .i64 ((1:Int)+r3.1);(pT N r3.2 (List.length a1.1:Int)).bind λr5=>(pT N r5.2 (36:Int)).bind λr6=>let v7:Int:=W .i64 ((1:Int)+r6.1);cond (aO v7 1) (some ((v7,(v2,fm)),r6.2)) (cond (aO v7 11) (some ((v7,(v2,fm)),r6.2)) (cond (aO v7 12) (some ((v7,(v2,fm)),r6.2)) (cond (aO v7 13) (some ((v7,(v2,fm)),r6.2)) (cond (aO v7 2) ((pT N r6.2 (2:Int)).bind λr8=>some ((v7,(v2,(v4,((0:Int),((W .i64 ((1:Int)+r8.1)),bm))))),r8.2)) (cond (aO v7 3) ((LD N r6.2).bind λkD=>some ((v7,((0:Int),(v4,((0:Int),((0:Int),((0:Int),((mx kD.1 1),((0:Int),())))))))),kD.2)) (cond (aO v7 4) ((LD N r6.2).bind λn6=>some ((v7,((0:Int),(v4,((0:Int),((0:Int),((0:Int),((mx n6.1 1),((0:Int),())))))))),n6.2)) (cond (aO v7 5) ((LD N r6.2).bind λvQ=>some ((v7,(v2,((0:Int),((0:Int),((0:Int),((0:Int),((mx vQ.1 1),((0:Int),())))))))),vQ.2)) (cond (aO v7 22) ((LD N r6.2).bind λvP=>some ((v7,(v2,((0:Int),((0:Int),((0:Int),((0:Int),((mx vP.1 1),((0:Int),())))))))),vP.2)) (cond (aO v7 6) ((LD N r6.2).bind λuj=>cond (aO 1000000000001 0) (none) (some ((v7,((0:Int),(v4,((0:Int),((0:Int),((0:Int),((rem uj.1 1000000000001),((0:Int),())))))))),uj.2))) (cond (aO v7 8) ((pT N r6.2 (40:Int)).bind λLi=>some ((v7,((0:Int),(v4,((0:Int),((0:Int),((W .i64 ((1:Int)+Li.1)),cA)))))),Li.2)) (cond (aO v7 9) ((Uk N r6.2 a1 r5.1).bind λLj=>some (Lj.1,Lj.2)) (cond (aO v7 10) ((pT N r6.2 (3:Int)).bind λDd=>some ((v7,((0:Int),((0:Int),((0:Int),((0:Int),((0:Int),((W .i64 ((1:Int)+Dd.1)),((0:Int),())))))))),Dd.2)) (cond (aO v7 14) (some ((v7,(v2,(v4,mL))),r6.2)) (cond (aO v7 15) (some ((v7,Lx),r6.2)) (cond (aO v7 16) (some ((v7,Lx),r6.2)) (cond (aO v7 18) (some ((v7,Lx),r6.2)) (cond (aO v7 20) (some ((v7,Lx),r6.2)) (cond (aO v7 21) (some ((v7,Lx),r6.2)) (cond (aO v7 17) ((pT N r6.2 (60:Int)).bind λEh=>(pT N Eh.2 (20:Int)).bind λLh=>cond (bb r5.1 (List.length a1.1)) (some ((v7,((0:Int),(v4,((0:Int),((0:Int),((W .i64 ((1:Int)+Eh.1)),((W .i64 ((1:Int)+Lh.1)),(((List.getD a1.1 r5.1.toNat aV).2).1,())))))))),Lh.2)) (none)) (cond (aO v7 19) ((pT N r6.2 (60:Int)).bind λEg=>(pT N Eg.2 (80:Int)).bind λHj=>some ((v7,(v2,((0:Int),((0:Int),((0:Int),((W .i64 ((1:Int)+Eg.1)),((0:Int),((W .i64 (Hj.1-60)),())))))))),Hj.2)) ((Xs N r6.2 a1).bind λr33=>some (r33.1,r33.2))))))))))))))))))))))
abbrev fQ.ga:=aM→cV→Int→Option (cV×aM)
abbrev fQ.mz:=aM→cV→Int→Option (cV×aM)
abbrev fQ.dU:=aM→cV→Int→Option (cV×aM)
def fQ.mR(N:Nat)(gP:fQ.ga)(x0:aM)(x5:cV)(x8:Int):Option (cV×aM):=
 cond (dk x8 7) ((pT N x0 (3000:Int)).bind λxj=>let Yw:Int:=W .i64 ((200:Int)+xj.1);(pT N xj.2 (200:Int)).bind λzr=>let v18:Int:=W .i64 ((20:Int)+zr.1);cond (small (List.length x5+List.length ([((3:Int),((0:Int),(x8,((0:Int),((0:Int),((0:Int),(Yw,((0:Int),())))))))),((6:Int),((0:Int),(x8,((0:Int),((0:Int),((0:Int),(v18,((0:Int),()))))))))]))) (gP zr.2 (x5++([((3:Int),((0:Int),(x8,((0:Int),((0:Int),((0:Int),(Yw,((0:Int),())))))))),((6:Int),((0:Int),(x8,((0:Int),((0:Int),((0:Int),(v18,((0:Int),()))))))))])) (W .i64 (x8+1))) (none)) (some (x5,x0))
def fQ.nW(N:Nat):Nat→fQ.ga
 |0,_,_,_=>none
 |n+1,x0,x5,x8=>fQ.mR N (fQ.nW N n) x0 x5 x8
def fQ.xK(N:Nat)(ue:fQ.ga)(rU:fQ.mz)(x0:aM)(x5:cV)(x7:Int):Option (cV×aM):=
 cond (dk x7 7) ((pT N x0 (2:Int)).bind λkD=>let v11:Int:=W .i64 ((1:Int)+kD.1);cond (small (List.length x5+List.length ([((2:Int),(v11,(x7,((0:Int),((2:Int),bm)))))]))) (rU kD.2 (x5++([((2:Int),(v11,(x7,((0:Int),((2:Int),bm)))))])) (W .i64 (x7+1))) (none)) (ue x0 x5 (1:Int))
def fQ.l9(N:Nat):Nat→fQ.mz
 |0,_,_,_=>none
 |n+1,x0,x5,x7=>fQ.xK N (fQ.nW N N) (fQ.l9 N n) x0 x5 x7
def fQ.nT(N:Nat)(zk:fQ.mz)(dn:fQ.dU)(x0:aM)(x5:cV)(x6:Int):Option (cV×aM):=
 cond (dk x6 4) (cond (small (List.length x5+List.length ([((1:Int),(x6,fm)),((2:Int),(x6,(x6,((0:Int),((1:Int),bm)))))]))) (let v2:List ((Int)×((Int)×((Int)×((Int)×((Int)×((Int)×((Int)×((Int)×(Unit))))))))):=x5++([((1:Int),(x6,fm)),((2:Int),(x6,(x6,((0:Int),((1:Int),bm)))))]);(QP N x0 (5:Int)).bind λr3=>cond (!r3.1) ((pT N r3.2 (400:Int)).bind λr4=>let v5:Int:=W .i64 ((1:Int)+r4.1);cond (small (List.length v2+List.length ([((5:Int),(x6,((0:Int),((0:Int),((0:Int),((0:Int),(v5,((0:Int),()))))))))]))) (dn r4.2 (v2++([((5:Int),(x6,((0:Int),((0:Int),((0:Int),((0:Int),(v5,((0:Int),()))))))))])) (W .i64 (x6+1))) (none)) (dn r3.2 v2 (W .i64 (x6+1)))) (none)) (zk x0 x5 (5:Int))
def fQ.l3(N:Nat):Nat→fQ.dU
 |0,_,_,_=>none
 |n+1,x0,x5,x6=>fQ.nT N (fQ.l9 N N) (fQ.l3 N n) x0 x5 x6
def fQ.b(N:Nat)(oG:fQ.dU)(a0:aM)(a1:ae):Option (cV×aM):=
 oG a0 ([]) (1:Int)
def fQ(N:Nat)(a0:aM)(a1:ae):Option (cV×aM):=fQ.b N (fQ.l3 N N) a0 a1
abbrev pN.dU:=aM→ae→cV→Int→Option (cV×aM)
def pN.nT(N:Nat)(dn:pN.dU)(x0:aM)(x4:ae)(x7:cV)(x8:Int):Option (cV×aM):=
 cond (aZ 0 x8) ((pT N x0 (8:Int)).bind λr5=>cond (aO r5.1 0) ((Ul N r5.2 x4).bind λr6=>cond (small (List.length x7+List.length ([r6.1]))) (dn r6.2 x4 (x7++([r6.1])) (W .i64 (x8-1))) (none)) (cond (aO r5.1 1) ((pT N r5.2 (List.length x4.1:Int)).bind λr9=>(Uk N r9.2 x4 r9.1).bind λkD=>cond (small (List.length x7+List.length ([kD.1]))) (dn kD.2 x4 (x7++([kD.1])) (W .i64 (x8-1))) (none)) ((Xs N r5.2 x4).bind λpV=>cond (small (List.length x7+List.length ([pV.1]))) (dn pV.2 x4 (x7++([pV.1])) (W .i64 (x8-1))) (none)))) (some (x7,x0))
def pN.l3(N:Nat):Nat→pN.dU
 |0,_,_,_,_=>none
 |n+1,x0,x4,x7,x8=>pN.nT N (pN.l3 N n) x0 x4 x7 x8
def pN.b(N:Nat)(oG:pN.dU)(a0:aM)(a1:ae)(a2:Int):Option (cV×aM):=
 (fQ N a0 a1).bind λr1=>(pT N r1.2 (W .i64 (a2+1))).bind λr3=>oG r3.2 a1 r1.1 r3.1
def pN(N:Nat)(a0:aM)(a1:ae)(a2:Int):Option (cV×aM):=pN.b N (pN.l3 N N) a0 a1 a2
def HI(N:Nat)(a0:Int)(a1:Int)(a2:Int):Option (Bool):=
 cond (dk a1 a0) (some (dk a0 a2)) (some false)
abbrev mh.ca:=ae→Int→Option (Bool)
def mh.eK(N:Nat)(cJ:mh.ca)(x1:ae)(x3:Int):Option (Bool):=
 cond (aZ x3 (List.length x1.1:Int)) (cond (bb x3 (List.length x1.1)) ((HI N ((List.getD x1.1 x3.toNat aV).1) (0:Int) (3:Int)).bind λr2=>cond (!r2) (some false) ((HI N (((List.getD x1.1 x3.toNat aV).2).1) (1:Int) (1000000000000:Int)).bind λr3=>cond (!r3) (some false) ((HI N ((((List.getD x1.1 x3.toNat aV).2).2).1) (0:Int) (1000000000:Int)).bind λr4=>cond (!r4) (some false) ((HI N (((((List.getD x1.1 x3.toNat aV).2).2).2).1) (0:Int) (1000000000:Int)).bind λr5=>cond (!r5) (some false) (cJ x1 (W .i64 (x3+1))))))) (none)) (cond (dk 0 x1.2.1) ((HI N x1.2.2.1 (0:Int) (4:Int)).bind λr7=>cond (r7) ((HI N x1.2.2.2.1 (0:Int) (1000000:Int)).bind λr8=>cond (r8) ((HI N x1.2.2.2.2.1 (0:Int) (1000000:Int)).bind λr9=>cond (r9) ((HI N x1.2.2.2.2.2.1 (1:Int) (4611686018427387904:Int)).bind λkD=>cond (kD) (some (dk 0 x1.2.2.2.2.2.2.1)) (some false)) (some false)) (some false)) (some false)) (some false))
def mh.l4(N:Nat):Nat→mh.ca
 |0,_,_=>none
 |n+1,x1,x3=>mh.eK N (mh.l4 N n) x1 x3
def mh.b(N:Nat)(gd:mh.ca)(a0:ae):Option (Bool):=
 cond (aZ (List.length a0.1:Int) 1) (some false) (cond (aZ 6 (List.length a0.1:Int)) (some false) (gd a0 (0:Int)))
def mh(N:Nat)(a0:ae):Option (Bool):=mh.b N (mh.l4 N N) a0
abbrev iv.fx:=ae→an→an→(List (Int))→Int→Option (an×(Int))
abbrev iv.Yx:=ae→an→an→(List (Int))→Option (an×(Int))
def iv.rj(N:Nat)(eP:iv.fx)(x1:ae)(x2:an)(x4:an)(x4l:List (Int))(x5:Int):Option (an×(Int)):=
 cond (aZ x5 (List.length x1.1:Int)) (cond (bb x5 (List.length x1.1)) (cond (small (List.length x4l+List.length ([((List.getD x1.1 x5.toNat aV).2).1]))) (eP x1 x2 (x4.1,(x4.2.1,(x4.2.2.1,(x4.2.2.2.1,(dB,x4.2.2.2.2.2))))) (x4l++([((List.getD x1.1 x5.toNat aV).2).1])) (W .i64 (x5+1))) (none)) (none)) (some ((x4.1,(x4.2.1,(x4.2.2.1,(x4.2.2.2.1,(x4l,x4.2.2.2.2.2))))),(0:Int)))
def iv.l7(N:Nat):Nat→iv.fx
 |0,_,_,_,_,_=>none
 |n+1,x1,x2,x4,x4l,x5=>iv.rj N (iv.l7 N n) x1 x2 x4 x4l x5
def iv.TN(N:Nat)(vk:iv.fx)(x1:ae)(x2:an)(x4:an)(x4l:List (Int)):Option (an×(Int)):=
 vk x1 x2 x4 x4l (0:Int)
def iv.j6(N:Nat)(x1:ae)(x2:an)(x4:an)(x4l:List (Int)):Option (an×(Int)):=iv.TN N (iv.l7 N N) x1 x2 x4 x4l
def iv.b(N:Nat)(Lk:iv.Yx)(a0:ae):Option (an×(Int)):=
 (mh N a0).bind λr1=>cond (!r1) (some ((cn,(c9,(bH,(bH,(dB,(dR,())))))),(1:Int))) (cond (!aO a0.2.1 0) (Lk a0 (cn,(c9,(bH,(bH,(dB,(dR,())))))) (cn,(c9,([((1:Int),((0:Int),((W .i64 (0-a0.2.1)),()))),((3:Int),((0:Int),(a0.2.1,())))],(bH,(dB,(dR,())))))) dB) (Lk a0 (cn,(c9,(bH,(bH,(dB,(dR,())))))) (cn,(c9,(bH,(bH,(dB,(dR,())))))) dB))
def iv(N:Nat)(a0:ae):Option (an×(Int)):=iv.b N (iv.j6 N) a0
def Yh(N:Nat)(a0:ae):Option (aQ×(Int)):=
 (iv N a0).bind λr1=>cond (!aO r1.2 0) (some (((0:Int),((0:Int),((cn,(c9,(bH,(bH,(dB,(dR,())))))),(((0:Int),((0:Int),((0:Int),((0:Int),(c9,(([]:List ((Int)×((List ((Int)×((Int)×(Unit))))×((Int)×((Int)×((Int)×((Int)×(Unit)))))))),(c9,(dB,(cn,(cn,())))))))))),(((0:Int),((0:Int),(Dj,((0:Int),())))),()))))),r1.2)) (some (((0:Int),((1:Int),(r1.1,(((0:Int),((0:Int),((0:Int),((0:Int),(c9,(([]:List ((Int)×((List ((Int)×((Int)×(Unit))))×((Int)×((Int)×((Int)×((Int)×(Unit)))))))),(c9,(dB,(cn,(cn,())))))))))),(((0:Int),((0:Int),(Dj,((0:Int),())))),()))))),(0:Int)))
abbrev nH.dU:=aM→ae→cV→Int→Option (cV×aM)
def nH.nT(N:Nat)(dn:nH.dU)(x0:aM)(x3:ae)(x5:cV)(x6:Int):Option (cV×aM):=
 cond (aZ 0 x6) ((QP N x0 (2:Int)).bind λr3=>cond (r3.1) ((pT N r3.2 (List.length x3.1:Int)).bind λr4=>(Uk N r4.2 x3 r4.1).bind λr5=>cond (small (List.length x5+List.length ([r5.1]))) (dn r5.2 x3 (x5++([r5.1])) (W .i64 (x6-1))) (none)) ((Ul N r3.2 x3).bind λr8=>cond (small (List.length x5+List.length ([r8.1]))) (dn r8.2 x3 (x5++([r8.1])) (W .i64 (x6-1))) (none))) (some (x5,x0))
def nH.l3(N:Nat):Nat→nH.dU
 |0,_,_,_,_=>none
 |n+1,x0,x3,x5,x6=>nH.nT N (nH.l3 N n) x0 x3 x5 x6
def nH.b(N:Nat)(oG:nH.dU)(a0:aM)(a1:ae):Option (cV×aM):=
 (pT N a0 (3:Int)).bind λr1=>oG r1.2 a1 ([]) r1.1
def nH(N:Nat)(a0:aM)(a1:ae):Option (cV×aM):=nH.b N (nH.l3 N N) a0 a1
def ah5(N:Nat)(a0:Int):Option (Bool):=
 cond (dk 1 a0) (some (dk a0 22)) (some false)
def aaM(N:Nat)(a0:Int):Option (ByteArray):=
 cond (aO a0 1) (some (strOf [77])) (cond (aO a0 11) (some (strOf [77])) (cond (aO a0 12) (some (strOf [77])) (cond (aO a0 13) (some (strOf [77])) (cond (aO a0 2) (some (strOf [77,65,83])) (cond (aO a0 3) (some (strOf [65,81])) (cond (aO a0 4) (some (strOf [65,81])) (cond (aO a0 6) (some (strOf [65,81])) (cond (aO a0 5) (some (strOf [77,81])) (cond (aO a0 22) (some (strOf [77,81])) (cond (aO a0 7) (some (strOf [65,73,83,81,80])) (cond (aO a0 8) (some (strOf [65,68])) (cond (aO a0 9) (some (strOf [73,80])) (cond (aO a0 10) (some (strOf [81])) (cond (aO a0 14) (some (strOf [77,65])) (cond (aO a0 17) (some (strOf [65,68,81,80])) (cond (aO a0 19) (some (strOf [77,68,80])) (some (strOf []))))))))))))))))))
def ah3(N:Nat)(a0:Int):Option ((Int)×(Int)):=
 cond (aO a0 6) (some ((0:Int),(1000000000000:Int))) (cond (aO a0 7) (some ((1:Int),(1000000000:Int))) (cond (aO a0 17) (some ((1:Int),(1000000000:Int))) (cond (aO a0 10) (some ((1:Int),(1000000:Int))) (some ((1:Int),(9223372036854775807:Int))))))
def ah4(N:Nat)(a0:Int):Option ((Int)×(Int)):=
 cond (aO a0 19) (some ((-1152921504606846976:Int),(1152921504606846976:Int))) (some ((1:Int),(1000000000000:Int)))
def aaN(N:Nat)(a0:Int)(a1:Int):Option ((Int)×(Int)):=
 cond (aO a1 77) (some ((1:Int),(12:Int))) (cond (aO a1 65) (some ((1:Int),(24:Int))) (cond (aO a1 73) (some ((0:Int),(5:Int))) (cond (aO a1 83) (some ((1:Int),(2:Int))) (cond (aO a1 68) (some ((1:Int),(1099511627776:Int))) (cond (aO a1 81) ((ah3 N a0).bind λr1=>some (r1.1,r1.2)) ((ah4 N a0).bind λr2=>some (r2.1,r2.2)))))))
def aaO(N:Nat)(a0:gR)(a1:Int):Option (Int):=
 cond (aO a1 77) (some a0.2.1) (cond (aO a1 65) (some a0.2.2.1) (cond (aO a1 73) (some a0.2.2.2.1) (cond (aO a1 83) (some a0.2.2.2.2.1) (cond (aO a1 68) (some a0.2.2.2.2.2.1) (cond (aO a1 81) (some a0.2.2.2.2.2.2.1) (some a0.2.2.2.2.2.2.2.1))))))
def aaP(N:Nat)(a0:gR)(a1:Int)(a2:Int):Option gR:=
 cond (aO a1 77) (some (a0.1,(a2,a0.2.2))) (cond (aO a1 65) (some (a0.1,(a0.2.1,(a2,a0.2.2.2)))) (cond (aO a1 73) (some (a0.1,(a0.2.1,(a0.2.2.1,(a2,a0.2.2.2.2))))) (cond (aO a1 83) (some (a0.1,(a0.2.1,(a0.2.2.1,(a0.2.2.2.1,(a2,a0.2.2.2.2.2)))))) (cond (aO a1 68) (some (a0.1,(a0.2.1,(a0.2.2.1,(a0.2.2.2.1,(a0.2.2.2.2.1,(a2,a0.2.2.2.2.2.2))))))) (cond (aO a1 81) (some (a0.1,(a0.2.1,(a0.2.2.1,(a0.2.2.2.1,(a0.2.2.2.2.1,(a0.2.2.2.2.2.1,(a2,a0.2.2.2.2.2.2.2)))))))) (some (a0.1,(a0.2.1,(a0.2.2.1,(a0.2.2.2.1,(a0.2.2.2.2.1,(a0.2.2.2.2.2.1,(a0.2.2.2.2.2.2.1,(a2,a0.2.2.2.2.2.2.2.2))))))))))))))
abbrev rE.jF:=gR→ByteArray→gR→Int→Option (Bool)
def rE.uN(N:Nat)(kE:rE.jF)(x1:gR)(x3:ByteArray)(x4:gR)(x5:Int):Option (Bool):=
 cond (aZ x5 (ByteArray.size x3:Int)) (cond (bb x5 (ByteArray.size x3)) ((aaN N x1.1 ((x3.data.getD x5.toNat 0).toNat:Int)).bind λr4=>cond (bb x5 (ByteArray.size x3)) ((aaO N x1 ((x3.data.getD x5.toNat 0).toNat:Int)).bind λr5=>cond (aZ r5 r4.1) (some false) (cond (aZ r4.2 r5) (some false) (cond (bb x5 (ByteArray.size x3)) ((aaP N x4 ((x3.data.getD x5.toNat 0).toNat:Int) r5).bind λr6=>kE x1 x3 r6 (W .i64 (x5+1))) (none)))) (none)) (none)) (some (uw (.pair (.int .i64) (.pair (.int .i64) (.pair (.int .i64) (.pair (.int .i64) (.pair (.int .i64) (.pair (.int .i64) (.pair (.int .i64) (.pair (.int .i64) .unit)))))))) x4 x1))
def rE.l6(N:Nat):Nat→rE.jF
 |0,_,_,_,_=>none
 |n+1,x1,x3,x4,x5=>rE.uN N (rE.l6 N n) x1 x3 x4 x5
def rE.b(N:Nat)(xm:rE.jF)(a0:gR):Option (Bool):=
 (ah5 N a0.1).bind λr1=>cond (!r1) (some false) ((aaM N a0.1).bind λr2=>xm a0 r2 (a0.1,Lx) (0:Int))
def rE(N:Nat)(a0:gR):Option (Bool):=rE.b N (rE.l6 N N) a0
abbrev Bi.db:=aE→Int→Option (Bool)
def Bi.gJ(N:Nat)(eG:Bi.db)(x0:aE)(x3:Int):Option (Bool):=
 cond (aZ x3 (List.length x0:Int)) (cond (bb x3 (List.length x0)) (cond (aZ ((List.getD x0 x3.toNat cA).1) (1:Int)) (some false) (cond (bb x3 (List.length x0)) (cond (aZ 12 ((List.getD x0 x3.toNat cA).1)) (some false) (cond (bb x3 (List.length x0)) (cond (aZ (((List.getD x0 x3.toNat cA).2).1) (1:Int)) (some false) (cond (bb x3 (List.length x0)) (cond (aZ 4 (((List.getD x0 x3.toNat cA).2).1)) (some false) (cond (aZ 0 x3) (cond (bb x3 (List.length x0)) (let v2:Int:=W .i64 (x3-1);cond (bb v2 (List.length x0)) (cond (dk ((List.getD x0 x3.toNat cA).1) ((List.getD x0 v2.toNat cA).1)) (some false) (eG x0 (W .i64 (x3+1)))) (none)) (none)) (eG x0 (W .i64 (x3+1))))) (none))) (none))) (none))) (none)) (some true)
def Bi.l2(N:Nat):Nat→Bi.db
 |0,_,_=>none
 |n+1,x0,x3=>Bi.gJ N (Bi.l2 N n) x0 x3
def Bi.b(N:Nat)(jq:Bi.db)(a0:aE):Option (Bool):=
 jq a0 (0:Int)
def Bi(N:Nat)(a0:aE):Option (Bool):=Bi.b N (Bi.l2 N N) a0
abbrev zq.db:=aE→Int→Int→Option (Int)
def zq.gJ(N:Nat)(eG:zq.db)(x0:aE)(x1:Int)(x5:Int):Option (Int):=
 cond (aZ x5 (List.length x0:Int)) (cond (bb x5 (List.length x0)) (cond (aO ((List.getD x0 x5.toNat cA).1) x1) (cond (bb x5 (List.length x0)) (some (((List.getD x0 x5.toNat cA).2).1)) (none)) (eG x0 x1 (W .i64 (x5+1)))) (none)) (some (0:Int))
def zq.l2(N:Nat):Nat→zq.db
 |0,_,_,_=>none
 |n+1,x0,x1,x5=>zq.gJ N (zq.l2 N n) x0 x1 x5
def zq.b(N:Nat)(jq:zq.db)(a0:aE)(a1:Int):Option (Int):=
 jq a0 a1 (0:Int)
def zq(N:Nat)(a0:aE)(a1:Int):Option (Int):=zq.b N (zq.l2 N N) a0 a1
abbrev iu.Rh:=aE→Int→aE→Int→Option (aE×(Int))
abbrev iu.fx:=aE→Int→aE→Int→Option (aE×(Int))
def iu.Nl(N:Nat)(x0:aE)(x1:Int)(x6:aE)(x7:Int):Option (aE×(Int)):=
 cond (ka 0 x7 (List.length x0:Int) (List.length x0:Int)) (let v6:List ((Int)×((Int)×(Unit))):=List.drop (0:Int).toNat (List.take x7.toNat x0);cond (small (List.length x6+List.length v6)) (let v7:List ((Int)×((Int)×(Unit))):=x6++v6;cond (small (List.length v7+List.length ([(x1,((1:Int),()))]))) (let v8:List ((Int)×((Int)×(Unit))):=v7++([(x1,((1:Int),()))]);cond (ka x7 (List.length x0:Int) (List.length x0:Int) (List.length x0:Int)) (let v9:List ((Int)×((Int)×(Unit))):=List.drop x7.toNat (List.take (List.length x0:Int).toNat x0);cond (small (List.length v8+List.length v9)) (some ((v8++v9),(0:Int))) (none)) (none)) (none)) (none)) (none)
def iu.j9(N:Nat)(x0:aE)(x1:Int)(x6:aE)(x7:Int):Option (aE×(Int)):=iu.Nl N x0 x1 x6 x7
def iu.rj(N:Nat)(GV:iu.Rh)(eP:iu.fx)(x0:aE)(x1:Int)(x6:aE)(x7:Int):Option (aE×(Int)):=
 cond (aZ x7 (List.length x0:Int)) (cond (bb x7 (List.length x0)) (cond (aZ ((List.getD x0 x7.toNat cA).1) x1) (eP x0 x1 x6 (W .i64 (x7+1))) (GV x0 x1 x6 x7)) (none)) (GV x0 x1 x6 x7)
def iu.l7(N:Nat):Nat→iu.fx
 |0,_,_,_,_=>none
 |n+1,x0,x1,x6,x7=>iu.rj N (iu.j9 N) (iu.l7 N n) x0 x1 x6 x7
def iu.b(N:Nat)(vk:iu.fx)(a0:aE)(a1:Int):Option (aE×(Int)):=
 (Bi N a0).bind λr1=>cond (!r1) (some ([],(1:Int))) (cond (aZ a1 1) (some ([],(1:Int))) (cond (aZ 12 a1) (some ([],(1:Int))) ((zq N a0 a1).bind λr2=>cond (!aO r2 0) (some ([],(4:Int))) (vk a0 a1 ([]) (0:Int)))))
def iu(N:Nat)(a0:aE)(a1:Int):Option (aE×(Int)):=iu.b N (iu.l7 N N) a0 a1
def fA(N:Nat)(a0:Int):Option dh:=
 some (a0,cA)
abbrev eE.gT:=aL→Int→bM→Int→Option (Bool)
abbrev eE.Yq:=aL→Int→bM→Option (Bool)
abbrev eE.db:=aL→Int→Option (Bool)
def eE.yn(N:Nat)(eG:eE.db)(e9:eE.gT)(x0:aL)(x3:Int)(x4:bM)(x5:Int):Option (Bool):=
 cond (aZ x5 x3) (cond (aO x4.2.2.1 1) (cond (bb x5 (List.length x0)) (cond (aO ((((List.getD x0 x5.toNat aV).2).2).1) (1:Int)) (cond (bb x5 (List.length x0)) (cond (aO (((List.getD x0 x5.toNat aV).2).1) x4.2.1) (some false) (e9 x0 x3 x4 (W .i64 (x5+1)))) (none)) (e9 x0 x3 x4 (W .i64 (x5+1)))) (none)) (e9 x0 x3 x4 (W .i64 (x5+1)))) (eG x0 (W .i64 (x3+1)))
def eE.l8(N:Nat)(eG:eE.db):Nat→eE.gT
 |0,_,_,_,_=>none
 |n+1,x0,x3,x4,x5=>eE.yn N eG (eE.l8 N eG n) x0 x3 x4 x5
def eE.Vk(N:Nat)(Cc:eE.gT)(eG:eE.db)(x0:aL)(x3:Int)(x4:bM):Option (Bool):=
 Cc x0 x3 x4 (0:Int)
def eE.j7(N:Nat)(eG:eE.db)(x0:aL)(x3:Int)(x4:bM):Option (Bool):=eE.Vk N (eE.l8 N eG N) eG x0 x3 x4
def eE.gJ(N:Nat)(H6:eE.Yq)(eG:eE.db)(x0:aL)(x3:Int):Option (Bool):=
 cond (aZ x3 (List.length x0:Int)) (cond (bb x3 (List.length x0)) (cond (aZ ((List.getD x0 x3.toNat aV).1) (1:Int)) (some false) (cond (aZ 24 ((List.getD x0 x3.toNat aV).1)) (some false) (cond (aZ (((List.getD x0 x3.toNat aV).2).1) (1:Int)) (some false) (cond (aZ 12 (((List.getD x0 x3.toNat aV).2).1)) (some false) (cond (!aO ((((List.getD x0 x3.toNat aV).2).2).1) (1:Int)) (cond (!aO ((((List.getD x0 x3.toNat aV).2).2).1) (2:Int)) (some false) (cond (aZ (((((List.getD x0 x3.toNat aV).2).2).2).1) (0:Int)) (some false) (cond (aZ 1000000000000 (((((List.getD x0 x3.toNat aV).2).2).2).1)) (some false) (cond (aZ 0 x3) (let v2:Int:=W .i64 (x3-1);cond (bb v2 (List.length x0)) (cond (dk ((List.getD x0 x3.toNat aV).1) ((List.getD x0 v2.toNat aV).1)) (some false) (H6 x0 x3 (List.getD x0 x3.toNat aV))) (none)) (H6 x0 x3 (List.getD x0 x3.toNat aV)))))) (cond (aZ (((((List.getD x0 x3.toNat aV).2).2).2).1) (0:Int)) (some false) (cond (aZ 1000000000000 (((((List.getD x0 x3.toNat aV).2).2).2).1)) (some false) (cond (aZ 0 x3) (let v9:Int:=W .i64 (x3-1);cond (bb v9 (List.length x0)) (cond (dk ((List.getD x0 x3.toNat aV).1) ((List.getD x0 v9.toNat aV).1)) (some false) (H6 x0 x3 (List.getD x0 x3.toNat aV))) (none)) (H6 x0 x3 (List.getD x0 x3.toNat aV)))))))))) (none)) (some true)
def eE.l2(N:Nat):Nat→eE.db
 |0,_,_=>none
 |n+1,x0,x3=>eE.gJ N (eE.j7 N (eE.l2 N n)) (eE.l2 N n) x0 x3
def eE.b(N:Nat)(jq:eE.db)(a0:aL):Option (Bool):=
 jq a0 (0:Int)
def eE(N:Nat)(a0:aL):Option (Bool):=eE.b N (eE.l2 N N) a0
abbrev ou.ca:=aE→aL→Int→Option (Bool)
def ou.eK(N:Nat)(cJ:ou.ca)(x0:aE)(x1:aL)(x5:Int):Option (Bool):=
 cond (aZ x5 (List.length x1:Int)) (cond (bb x5 (List.length x1)) ((zq N x0 (((List.getD x1 x5.toNat aV).2).1)).bind λr4=>cond (aO r4 0) (some false) (cJ x0 x1 (W .i64 (x5+1)))) (none)) (some true)
def ou.l4(N:Nat):Nat→ou.ca
 |0,_,_,_=>none
 |n+1,x0,x1,x5=>ou.eK N (ou.l4 N n) x0 x1 x5
def ou.b(N:Nat)(gd:ou.ca)(a0:aE)(a1:aL):Option (Bool):=
 (Bi N a0).bind λr1=>cond (!r1) (some false) ((eE N a1).bind λr2=>cond (!r2) (some false) (gd a0 a1 (0:Int)))
def ou(N:Nat)(a0:aE)(a1:aL):Option (Bool):=ou.b N (ou.l4 N N) a0 a1
abbrev nU.db:=aL→Int→bM→Int→Option (bM×(Bool))
def nU.gJ(N:Nat)(eG:nU.db)(x0:aL)(x1:Int)(x4:bM)(x6:Int):Option (bM×(Bool)):=
 cond (aZ x6 (List.length x0:Int)) (cond (bb x6 (List.length x0)) (cond (aO ((List.getD x0 x6.toNat aV).1) x1) (cond (bb x6 (List.length x0)) (some (List.getD x0 x6.toNat aV,true)) (none)) (eG x0 x1 x4 (W .i64 (x6+1)))) (none)) (some (aV,false))
def nU.l2(N:Nat):Nat→nU.db
 |0,_,_,_,_=>none
 |n+1,x0,x1,x4,x6=>nU.gJ N (nU.l2 N n) x0 x1 x4 x6
def nU.b(N:Nat)(jq:nU.db)(a0:aL)(a1:Int):Option (bM×(Bool)):=
 jq a0 a1 aV (0:Int)
def nU(N:Nat)(a0:aL)(a1:Int):Option (bM×(Bool)):=nU.b N (nU.l2 N N) a0 a1
abbrev mq.ca:=aL→Int→Int→Option (Int)
def mq.eK(N:Nat)(cJ:mq.ca)(x0:aL)(x1:Int)(x5:Int):Option (Int):=
 cond (aZ x5 (List.length x0:Int)) (cond (bb x5 (List.length x0)) (cond (aO (((List.getD x0 x5.toNat aV).2).1) x1) (cond (bb x5 (List.length x0)) (cond (aO ((((List.getD x0 x5.toNat aV).2).2).1) (1:Int)) (cond (bb x5 (List.length x0)) (some ((List.getD x0 x5.toNat aV).1)) (none)) (cJ x0 x1 (W .i64 (x5+1)))) (none)) (cJ x0 x1 (W .i64 (x5+1)))) (none)) (some (0:Int))
def mq.l4(N:Nat):Nat→mq.ca
 |0,_,_,_=>none
 |n+1,x0,x1,x5=>mq.eK N (mq.l4 N n) x0 x1 x5
def mq.b(N:Nat)(gd:mq.ca)(a0:aL)(a1:Int):Option (Int):=
 (eE N a0).bind λr1=>cond (!r1) (some (0:Int)) (gd a0 a1 (0:Int))
def mq(N:Nat)(a0:aL)(a1:Int):Option (Int):=mq.b N (mq.l4 N N) a0 a1
abbrev ff.GW:=aL→bM→aL→Int→Option (aL×(Int))
abbrev ff.ga:=aL→bM→aL→Int→Option (aL×(Int))
abbrev ff.Oy:=aL→bM→Option (aL×(Int))
def ff.vd(N:Nat)(x1:aL)(x5:bM)(aW:aL)(a7:Int):Option (aL×(Int)):=
 cond (ka 0 a7 (List.length x1:Int) (List.length x1:Int)) (let v10:List ((Int)×((Int)×((Int)×((Int)×(Unit))))):=List.drop (0:Int).toNat (List.take a7.toNat x1);cond (small (List.length aW+List.length v10)) (let v11:List ((Int)×((Int)×((Int)×((Int)×(Unit))))):=aW++v10;cond (small (List.length v11+List.length ([x5]))) (let Yy:List ((Int)×((Int)×((Int)×((Int)×(Unit))))):=v11++([x5]);cond (ka a7 (List.length x1:Int) (List.length x1:Int) (List.length x1:Int)) (let v13:List ((Int)×((Int)×((Int)×((Int)×(Unit))))):=List.drop a7.toNat (List.take (List.length x1:Int).toNat x1);cond (small (List.length Yy+List.length v13)) (some ((Yy++v13),(0:Int))) (none)) (none)) (none)) (none)) (none)
def ff.Bl(N:Nat)(x1:aL)(x5:bM)(aW:aL)(a7:Int):Option (aL×(Int)):=ff.vd N x1 x5 aW a7
def ff.mR(N:Nat)(vz:ff.GW)(gP:ff.ga)(x1:aL)(x5:bM)(aW:aL)(a7:Int):Option (aL×(Int)):=
 cond (aZ a7 (List.length x1:Int)) (cond (bb a7 (List.length x1)) (cond (aZ ((List.getD x1 a7.toNat aV).1) x5.1) (gP x1 x5 aW (W .i64 (a7+1))) (vz x1 x5 aW a7)) (none)) (vz x1 x5 aW a7)
def ff.nW(N:Nat):Nat→ff.ga
 |0,_,_,_,_=>none
 |n+1,x1,x5,aW,a7=>ff.mR N (ff.Bl N) (ff.nW N n) x1 x5 aW a7
def ff.BZ(N:Nat)(ue:ff.ga)(x1:aL)(x5:bM):Option (aL×(Int)):=
 ue x1 x5 ([]) (0:Int)
def ff.Jj(N:Nat)(x1:aL)(x5:bM):Option (aL×(Int)):=ff.BZ N (ff.nW N N) x1 x5
def ff.b(N:Nat)(Df:ff.Oy)(a0:aE)(a1:aL)(a2:bM):Option (aL×(Int)):=
 (ou N a0 a1).bind λr1=>cond (!r1) (some ([],(1:Int))) ((eE N ([a2])).bind λr2=>cond (!r2) (some ([],(1:Int))) ((zq N a0 a2.2.1).bind λr3=>cond (aO r3 0) (some ([],(3:Int))) (cond (!aO r3 1) (some ([],(7:Int))) ((nU N a1 a2.1).bind λr4=>cond (r4.2) (some ([],(4:Int))) (cond (aO a2.2.2.1 1) ((mq N a1 a2.2.1).bind λr5=>cond (!aO r5 0) (some ([],(4:Int))) (Df a1 a2)) (Df a1 a2))))))
def ff(N:Nat)(a0:aE)(a1:aL)(a2:bM):Option (aL×(Int)):=ff.b N (ff.Jj N) a0 a1 a2
def Vm(N:Nat)(a0:aL)(a1:Int):Option (bM×(Bool)):=
 (eE N a0).bind λr1=>cond (!r1) (some (aV,false)) ((nU N a0 a1).bind λr2=>some (r2.1,r2.2))
def QW(N:Nat)(a0:aQ)(a1:Int):Option (Bool):=
 (Vm N a0.2.2.1.2.1 a1).bind λr1=>some r1.2
abbrev oj.db:=(List (Int))→Int→Option (List (Int))
def oj.gJ(N:Nat)(eG:oj.db)(x0:List (Int))(x3:Int):Option (List (Int)):=
 cond (aZ 0 x3) (let v2:Int:=W .i64 (x3-1);cond (bb v2 (List.length x0)) (cond (aO (List.getD x0 v2.toNat (0:Int)) (0:Int)) (eG x0 (W .i64 (x3-1))) (cond (ka 0 x3 x3 (List.length x0:Int)) (some (List.drop (0:Int).toNat (List.take x3.toNat x0))) (none))) (none)) (cond (ka 0 x3 x3 (List.length x0:Int)) (some (List.drop (0:Int).toNat (List.take x3.toNat x0))) (none))
def oj.l2(N:Nat):Nat→oj.db
 |0,_,_=>none
 |n+1,x0,x3=>oj.gJ N (oj.l2 N n) x0 x3
def oj.b(N:Nat)(jq:oj.db)(a0:List (Int)):Option (List (Int)):=
 jq a0 (List.length a0:Int)
def oj(N:Nat)(a0:List (Int)):Option (List (Int)):=oj.b N (oj.l2 N N) a0
def F83(N:Nat)(a0:Int):Option (List (Int)):=
 cond (aZ 32 0) (none) ((oj N ([(qS .and .u64 a0 4294967295),(shr .u64 a0 32)])).bind λr3=>some r3)
def Wz(N:Nat)(a0:Bool)(a1:List (Int)):Option aH:=
 (oj N a1).bind λr1=>cond (a0) (some (aZ 0 (List.length r1:Int),(r1,()))) (some (false,(r1,())))
def iG(N:Nat)(a0:Int):Option aH:=
 let v1:Int:=W .u64 a0;cond (aZ a0 0) ((F83 N (W .u64 (0-v1))).bind λr3=>(Wz N (aZ a0 0) r3).bind λr4=>some r4) ((F83 N v1).bind λr5=>(Wz N (aZ a0 0) r5).bind λr6=>some r6)
def TO(N:Nat)(a0:aH):Option aH:=
 (Wz N (!a0.1) a0.2.1).bind λr1=>some r1
def yr(N:Nat)(a0:Int)(a1:Int)(a2:Int)(a3:Int)(a4:aH):Option bE:=
 (TO N a4).bind λr1=>some ([(a0,(a1,(r1,()))),(a2,(a3,(a4,())))])
def Z0(N:Nat)(a0:List (Int))(a1:Int):Option (Int):=
 cond (aZ a1 (List.length a0:Int)) (cond (bb a1 (List.length a0)) (some (List.getD a0 a1.toNat (0:Int))) (none)) (some (0:Int))
abbrev vv.Yx:=(List (Int))→(List (Int))→(List (Int))→Int→Int→Option (List (Int))
abbrev vv.ca:=(List (Int))→(List (Int))→(List (Int))→Int→Int→Option (List (Int))
def vv.TN(N:Nat)(cJ:vv.ca)(x0:List (Int))(x1:List (Int))(x5:List (Int))(x6:Int)(x7:Int):Option (List (Int)):=
 (Z0 N x0 x7).bind λr3=>(Z0 N x1 x7).bind λr4=>let v6:Int:=W .u64 (x6+(W .u64 (r3+r4)));let v7:Int:=qS .and .u64 v6 4294967295;cond (small (List.length x5+List.length ([v7]))) (cond (aZ 32 0) (none) (cJ x0 x1 (x5++([v7])) (shr .u64 v6 32) (W .i64 (x7+1)))) (none)
def vv.j6(N:Nat)(cJ:vv.ca)(x0:List (Int))(x1:List (Int))(x5:List (Int))(x6:Int)(x7:Int):Option (List (Int)):=vv.TN N cJ x0 x1 x5 x6 x7
def vv.eK(N:Nat)(Lk:vv.Yx)(cJ:vv.ca)(x0:List (Int))(x1:List (Int))(x5:List (Int))(x6:Int)(x7:Int):Option (List (Int)):=
 cond (aZ x7 (List.length x0:Int)) (Lk x0 x1 x5 x6 x7) (cond (aZ x7 (List.length x1:Int)) (Lk x0 x1 x5 x6 x7) (cond (aZ 0 x6) (Lk x0 x1 x5 x6 x7) (some x5)))
def vv.l4(N:Nat):Nat→vv.ca
 |0,_,_,_,_,_=>none
 |n+1,x0,x1,x5,x6,x7=>vv.eK N (vv.j6 N (vv.l4 N n)) (vv.l4 N n) x0 x1 x5 x6 x7
def vv.b(N:Nat)(gd:vv.ca)(a0:List (Int))(a1:List (Int)):Option (List (Int)):=
 gd a0 a1 ([]) (0:Int) (0:Int)
def vv(N:Nat)(a0:List (Int))(a1:List (Int)):Option (List (Int)):=vv.b N (vv.l4 N N) a0 a1
abbrev Dz.jF:=(List (Int))→(List (Int))→Int→Option (Int)
def Dz.uN(N:Nat)(kE:Dz.jF)(x0:List (Int))(x1:List (Int))(x5:Int):Option (Int):=
 cond (dk 0 x5) (cond (bb x5 (List.length x0)) (cond (bb x5 (List.length x1)) (cond (aZ (List.getD x0 x5.toNat (0:Int)) (List.getD x1 x5.toNat (0:Int))) (some (-1:Int)) (cond (bb x5 (List.length x0)) (cond (bb x5 (List.length x1)) (cond (aZ (List.getD x1 x5.toNat (0:Int)) (List.getD x0 x5.toNat (0:Int))) (some (1:Int)) (kE x0 x1 (W .i64 (x5-1)))) (none)) (none))) (none)) (none)) (some (0:Int))
def Dz.l6(N:Nat):Nat→Dz.jF
 |0,_,_,_=>none
 |n+1,x0,x1,x5=>Dz.uN N (Dz.l6 N n) x0 x1 x5
def Dz.b(N:Nat)(xm:Dz.jF)(a0:List (Int))(a1:List (Int)):Option (Int):=
 cond (!aO (List.length a0:Int) (List.length a1:Int)) (cond (aZ (List.length a0:Int) (List.length a1:Int)) (some (-1:Int)) (some (1:Int))) (xm a0 a1 (W .i64 ((List.length a0:Int)-1)))
def Dz(N:Nat)(a0:List (Int))(a1:List (Int)):Option (Int):=Dz.b N (Dz.l6 N N) a0 a1
abbrev D0.ca:=(List (Int))→(List (Int))→(List (Int))→Int→Int→Option (List (Int))
def D0.eK(N:Nat)(cJ:D0.ca)(x0:List (Int))(x1:List (Int))(x5:List (Int))(x6:Int)(x7:Int):Option (List (Int)):=
 cond (aZ x7 (List.length x0:Int)) (cond (bb x7 (List.length x0)) ((Z0 N x1 x7).bind λr2=>let v3:Int:=W .u64 (r2+x6);cond (aZ (List.getD x0 x7.toNat (0:Int)) v3) (let v5:Int:=W .u64 ((W .u64 ((List.getD x0 x7.toNat (0:Int))+4294967296))-v3);cond (small (List.length x5+List.length ([v5]))) (cJ x0 x1 (x5++([v5])) (1:Int) (W .i64 (x7+1))) (none)) (let v8:Int:=W .u64 ((List.getD x0 x7.toNat (0:Int))-v3);cond (small (List.length x5+List.length ([v8]))) (cJ x0 x1 (x5++([v8])) (0:Int) (W .i64 (x7+1))) (none))) (none)) (some x5)
def D0.l4(N:Nat):Nat→D0.ca
 |0,_,_,_,_,_=>none
 |n+1,x0,x1,x5,x6,x7=>D0.eK N (D0.l4 N n) x0 x1 x5 x6 x7
def D0.b(N:Nat)(gd:D0.ca)(a0:List (Int))(a1:List (Int)):Option (List (Int)):=
 gd a0 a1 ([]) (0:Int) (0:Int)
def D0(N:Nat)(a0:List (Int))(a1:List (Int)):Option (List (Int)):=D0.b N (D0.l4 N N) a0 a1
def xJ(N:Nat)(a0:aH)(a1:aH):Option aH:=
 cond (uw .bool a0.1 a1.1) ((vv N a0.2.1 a1.2.1).bind λr1=>(Wz N a0.1 r1).bind λr2=>some r2) ((Dz N a0.2.1 a1.2.1).bind λr3=>cond (dk 0 r3) ((D0 N a0.2.1 a1.2.1).bind λr4=>(Wz N a0.1 r4).bind λr5=>some r5) ((D0 N a1.2.1 a0.2.1).bind λr6=>(Wz N a1.1 r6).bind λr7=>some r7))
def wT(N:Nat)(a0:aH):Option ((Int)×(Bool)):=
 cond (aZ 2 (List.length a0.2.1:Int)) (some ((0:Int),false)) ((Z0 N a0.2.1 (0:Int)).bind λr1=>(Z0 N a0.2.1 (1:Int)).bind λr2=>cond (aZ 32 0) (none) (let v4:Int:=qS .or .u64 r1 (W .u64 (shl .u64 r2 32));cond (a0.1) (cond (aZ 9223372036854775808 v4) (some ((0:Int),false)) (some ((W .i64 (W .u64 (0-v4))),true))) (cond (aZ 9223372036854775807 v4) (some ((0:Int),false)) (some ((W .i64 v4),true)))))
def Qz(N:Nat)(a0:aH):Option ((Int)×(Bool)):=
 (wT N a0).bind λr1=>cond (!r1.2) (some ((0:Int),false)) (cond (aO r1.1 (-9223372036854775808)) (some ((0:Int),false)) (some (r1.1,true)))
abbrev cw.GX:=au→au→au→Int→Int→Int→Int→Bool→aH→Int→Option (au×(Bool))
abbrev cw.Yz:=au→au→au→Int→Int→Int→Int→Bool→Option (au×(Bool))
abbrev cw.fx:=au→au→au→Int→Int→Int→Option (au×(Bool))
abbrev cw.ca:=au→au→au→Int→Int→Option (au×(Bool))
def cw.HO(N:Nat)(cJ:cw.ca)(eP:cw.fx)(JJ:cw.GX)(x0:au)(x1:au)(x6:au)(x7:Int)(x8:Int)(x9:Int)(bx:Int)(aW:Bool)(a7:aH)(bU:Int):Option (au×(Bool)):=
 cond (aZ bU (List.length x1:Int)) (cond (bb bU (List.length x1)) (cond (aO ((List.getD x1 bU.toNat bm).1) x8) (cond (bb bU (List.length x1)) (cond (aO (((List.getD x1 bU.toNat bm).2).1) x9) (cond (bb bU (List.length x1)) ((iG N ((((List.getD x1 bU.toNat bm).2).2).1)).bind λr6=>(xJ N a7 r6).bind λr7=>JJ x0 x1 x6 x7 x8 x9 bx true r7 (W .i64 (bU+1))) (none)) (JJ x0 x1 x6 x7 x8 x9 bx aW a7 (W .i64 (bU+1)))) (none)) (JJ x0 x1 x6 x7 x8 x9 bx aW a7 (W .i64 (bU+1)))) (none)) (cond (aW) ((iG N bx).bind λnY=>(xJ N a7 nY).bind λn6=>(Qz N n6).bind λpV=>cond (!pV.2) (some ([],false)) (cond (!aO pV.1 0) (cond (small (List.length x6+List.length ([(x8,(x9,(pV.1,())))]))) (eP x0 x1 (x6++([(x8,(x9,(pV.1,())))])) x7 x8 (W .i64 (x9+1))) (none)) (eP x0 x1 x6 x7 x8 (W .i64 (x9+1))))) (cond (!aO bx 0) (cond (small (List.length x6+List.length ([(x8,(x9,(bx,())))]))) (eP x0 x1 (x6++([(x8,(x9,(bx,())))])) x7 x8 (W .i64 (x9+1))) (none)) (eP x0 x1 x6 x7 x8 (W .i64 (x9+1)))))
def cw.IP(N:Nat)(cJ:cw.ca)(eP:cw.fx):Nat→cw.GX
 |0,_,_,_,_,_,_,_,_,_,_=>none
 |n+1,x0,x1,x6,x7,x8,x9,bx,aW,a7,bU=>cw.HO N cJ eP (cw.IP N cJ eP n) x0 x1 x6 x7 x8 x9 bx aW a7 bU
def cw.KC(N:Nat)(YA:cw.GX)(cJ:cw.ca)(eP:cw.fx)(x0:au)(x1:au)(x6:au)(x7:Int)(x8:Int)(x9:Int)(bx:Int)(aW:Bool):Option (au×(Bool)):=
 YA x0 x1 x6 x7 x8 x9 bx aW (false,py) (0:Int)
def cw.Sj(N:Nat)(cJ:cw.ca)(eP:cw.fx)(x0:au)(x1:au)(x6:au)(x7:Int)(x8:Int)(x9:Int)(bx:Int)(aW:Bool):Option (au×(Bool)):=cw.KC N (cw.IP N cJ eP N) cJ eP x0 x1 x6 x7 x8 x9 bx aW
def cw.rj(N:Nat)(Bd:cw.Yz)(cJ:cw.ca)(eP:cw.fx)(x0:au)(x1:au)(x6:au)(x7:Int)(x8:Int)(x9:Int):Option (au×(Bool)):=
 cond (aZ x9 6) (cond (aZ x7 (List.length x0:Int)) (cond (bb x7 (List.length x0)) (cond (aO ((List.getD x0 x7.toNat bm).1) x8) (cond (bb x7 (List.length x0)) (cond (aO (((List.getD x0 x7.toNat bm).2).1) x9) (cond (bb x7 (List.length x0)) (Bd x0 x1 x6 (W .i64 (x7+1)) x8 x9 ((((List.getD x0 x7.toNat bm).2).2).1) false) (none)) (Bd x0 x1 x6 x7 x8 x9 (0:Int) false)) (none)) (Bd x0 x1 x6 x7 x8 x9 (0:Int) false)) (none)) (Bd x0 x1 x6 x7 x8 x9 (0:Int) false)) (cJ x0 x1 x6 x7 (W .i64 (x8+1)))
def cw.l7(N:Nat)(cJ:cw.ca):Nat→cw.fx
 |0,_,_,_,_,_,_=>none
 |n+1,x0,x1,x6,x7,x8,x9=>cw.rj N (cw.Sj N cJ (cw.l7 N cJ n)) cJ (cw.l7 N cJ n) x0 x1 x6 x7 x8 x9
def cw.eK(N:Nat)(vk:cw.fx)(cJ:cw.ca)(x0:au)(x1:au)(x6:au)(x7:Int)(x8:Int):Option (au×(Bool)):=
 cond (dk x8 24) (vk x0 x1 x6 x7 x8 (0:Int)) (some (x6,true))
def cw.l4(N:Nat):Nat→cw.ca
 |0,_,_,_,_,_=>none
 |n+1,x0,x1,x6,x7,x8=>cw.eK N (cw.l7 N (cw.l4 N n) N) (cw.l4 N n) x0 x1 x6 x7 x8
def cw.b(N:Nat)(gd:cw.ca)(a0:au)(a1:au):Option (au×(Bool)):=
 gd a0 a1 ([]) (0:Int) (0:Int)
def cw(N:Nat)(a0:au)(a1:au):Option (au×(Bool)):=cw.b N (cw.l4 N N) a0 a1
abbrev nB.dU:=Int→Int→Int→bE→aH→Bool→Int→Option ((Int)×(Bool))
def nB.nT(N:Nat)(dn:nB.dU)(x0:Int)(x1:Int)(x2:Int)(x3:bE)(bx:aH)(aW:Bool)(a7:Int):Option ((Int)×(Bool)):=
 cond (aZ a7 (List.length x3:Int)) (cond (bb a7 (List.length x3)) (cond (aO ((List.getD x3 a7.toNat ((0:Int),((0:Int),((false,py),())))).1) x1) (cond (bb a7 (List.length x3)) (cond (aO (((List.getD x3 a7.toNat ((0:Int),((0:Int),((false,py),())))).2).1) x2) (cond (bb a7 (List.length x3)) ((xJ N bx ((((List.getD x3 a7.toNat ((0:Int),((0:Int),((false,py),())))).2).2).1)).bind λr2=>dn x0 x1 x2 x3 r2 true (W .i64 (a7+1))) (none)) (dn x0 x1 x2 x3 bx aW (W .i64 (a7+1)))) (none)) (dn x0 x1 x2 x3 bx aW (W .i64 (a7+1)))) (none)) (cond (!aW) (some (x0,true)) ((iG N x0).bind λr6=>(xJ N bx r6).bind λr7=>(wT N r7).bind λr8=>some (r8.1,r8.2)))
def nB.l3(N:Nat):Nat→nB.dU
 |0,_,_,_,_,_,_,_=>none
 |n+1,x0,x1,x2,x3,bx,aW,a7=>nB.nT N (nB.l3 N n) x0 x1 x2 x3 bx aW a7
def nB.b(N:Nat)(oG:nB.dU)(a0:Int)(a1:Int)(a2:Int)(a3:bE):Option ((Int)×(Bool)):=
 oG a0 a1 a2 a3 (false,py) false (0:Int)
def nB(N:Nat)(a0:Int)(a1:Int)(a2:Int)(a3:bE):Option ((Int)×(Bool)):=nB.b N (nB.l3 N N) a0 a1 a2 a3
abbrev du.Yz:=au→bE→au→Int→Int→Int→Int→Option (au×(Bool))
abbrev du.fx:=au→bE→au→Int→Int→Int→Option (au×(Bool))
abbrev du.ca:=au→bE→au→Int→Int→Option (au×(Bool))
def du.KC(N:Nat)(cJ:du.ca)(eP:du.fx)(x0:au)(x1:bE)(x6:au)(x7:Int)(x8:Int)(x9:Int)(bx:Int):Option (au×(Bool)):=
 (nB N bx x8 x9 x1).bind λr5=>cond (!r5.2) (some ([],false)) (cond (!aO r5.1 0) (cond (small (List.length x6+List.length ([(x8,(x9,(r5.1,())))]))) (eP x0 x1 (x6++([(x8,(x9,(r5.1,())))])) x7 x8 (W .i64 (x9+1))) (none)) (eP x0 x1 x6 x7 x8 (W .i64 (x9+1))))
def du.Sj(N:Nat)(cJ:du.ca)(eP:du.fx)(x0:au)(x1:bE)(x6:au)(x7:Int)(x8:Int)(x9:Int)(bx:Int):Option (au×(Bool)):=du.KC N cJ eP x0 x1 x6 x7 x8 x9 bx
def du.rj(N:Nat)(Bd:du.Yz)(cJ:du.ca)(eP:du.fx)(x0:au)(x1:bE)(x6:au)(x7:Int)(x8:Int)(x9:Int):Option (au×(Bool)):=
 cond (dk x9 24) (cond (aZ x7 (List.length x0:Int)) (cond (bb x7 (List.length x0)) (cond (aO ((List.getD x0 x7.toNat bm).1) x8) (cond (bb x7 (List.length x0)) (cond (aO (((List.getD x0 x7.toNat bm).2).1) x9) (cond (bb x7 (List.length x0)) (Bd x0 x1 x6 (W .i64 (x7+1)) x8 x9 ((((List.getD x0 x7.toNat bm).2).2).1)) (none)) (Bd x0 x1 x6 x7 x8 x9 (0:Int))) (none)) (Bd x0 x1 x6 x7 x8 x9 (0:Int))) (none)) (Bd x0 x1 x6 x7 x8 x9 (0:Int))) (cJ x0 x1 x6 x7 (W .i64 (x8+1)))
def du.l7(N:Nat)(cJ:du.ca):Nat→du.fx
 |0,_,_,_,_,_,_=>none
 |n+1,x0,x1,x6,x7,x8,x9=>du.rj N (du.Sj N cJ (du.l7 N cJ n)) cJ (du.l7 N cJ n) x0 x1 x6 x7 x8 x9
def du.eK(N:Nat)(vk:du.fx)(cJ:du.ca)(x0:au)(x1:bE)(x6:au)(x7:Int)(x8:Int):Option (au×(Bool)):=
 cond (dk x8 7) (vk x0 x1 x6 x7 x8 (0:Int)) (some (x6,true))
def du.l4(N:Nat):Nat→du.ca
 |0,_,_,_,_,_=>none
 |n+1,x0,x1,x6,x7,x8=>du.eK N (du.l7 N (du.l4 N n) N) (du.l4 N n) x0 x1 x6 x7 x8
def du.b(N:Nat)(gd:du.ca)(a0:au)(a1:bE):Option (au×(Bool)):=
 gd a0 a1 ([]) (0:Int) (1:Int)
def du(N:Nat)(a0:au)(a1:bE):Option (au×(Bool)):=du.b N (du.l4 N N) a0 a1
def yq(N:Nat)(a0:an)(a1:au)(a2:bE):Option (an×(Int)):=
 (cw N a0.2.2.2.1 a1).bind λr1=>cond (!r1.2) (some ((cn,(c9,(bH,(bH,(dB,(dR,())))))),(2:Int))) ((du N a0.2.2.1 a2).bind λr2=>cond (!r2.2) (some ((cn,(c9,(bH,(bH,(dB,(dR,())))))),(2:Int))) (some ((a0.1,(a0.2.1,(r2.1,(r1.1,a0.2.2.2.2)))),(0:Int))))
def N6(N:Nat)(a0:aQ)(a1:Int)(a2:Int)(a3:Int)(a4:Int)(a5:Int):Option (aQ×dh):=
 (iG N a5).bind λr1=>(yr N a1 a2 a3 a4 r1).bind λr2=>(yq N a0.2.2.1 bH r2).bind λr3=>some ((a0.1,(a0.2.1,(r3.1,a0.2.2.2))),(r3.2,cA))
abbrev pa.bN:=au→Int→aH→aH→Int→Option aH
def pa.eg(N:Nat)(bP:pa.bN)(x0:au)(x1:Int)(x4:aH)(x5:aH)(x6:Int):Option aH:=
 cond (aZ x6 (List.length x0:Int)) (cond (bb x6 (List.length x0)) (cond (aO (((List.getD x0 x6.toNat bm).2).1) x1) (cond (bb x6 (List.length x0)) ((iG N ((((List.getD x0 x6.toNat bm).2).2).1)).bind λr3=>(xJ N x5 r3).bind λr4=>bP x0 x1 x4 r4 (W .i64 (x6+1))) (none)) (bP x0 x1 x4 x5 (W .i64 (x6+1)))) (none)) (some x5)
def pa.l5(N:Nat):Nat→pa.bN
 |0,_,_,_,_,_=>none
 |n+1,x0,x1,x4,x5,x6=>pa.eg N (pa.l5 N n) x0 x1 x4 x5 x6
def pa.b(N:Nat)(eY:pa.bN)(a0:au)(a1:Int):Option aH:=
 (zp N a0).bind λr1=>cond (!r1) (some (false,py)) (eY a0 a1 (false,py) (false,py) (0:Int))
def pa(N:Nat)(a0:au)(a1:Int):Option aH:=pa.b N (pa.l5 N N) a0 a1
def R3(N:Nat)(a0:aH):Option (Int):=
 cond (aO (List.length a0.2.1:Int) 0) (some (0:Int)) (cond (a0.1) (some (-1:Int)) (some (1:Int)))
abbrev DF.db:=au→Int→Option (Bool)
def DF.gJ(N:Nat)(eG:DF.db)(x0:au)(x3:Int):Option (Bool):=
 cond (aZ x3 6) ((pa N x0 x3).bind λr2=>(R3 N r2).bind λr3=>cond (!aO r3 0) (some false) (eG x0 (W .i64 (x3+1)))) ((zp N x0).bind λr5=>some r5)
def DF.l2(N:Nat):Nat→DF.db
 |0,_,_=>none
 |n+1,x0,x3=>DF.gJ N (DF.l2 N n) x0 x3
def DF.b(N:Nat)(jq:DF.db)(a0:au):Option (Bool):=
 jq a0 (0:Int)
def DF(N:Nat)(a0:au):Option (Bool):=DF.b N (DF.l2 N N) a0
def DB(N:Nat)(a0:Int):Option (Bool):=
 cond (dk 1 a0) (some (dk a0 1000000000000)) (some false)
def Qt(N:Nat)(a0:gA):Option (Bool):=
 cond (dk 1 a0.1) (cond (dk a0.1 1099511627776) (cond (dk 1 a0.2.1) (cond (dk a0.2.1 24) (cond (dk 0 a0.2.2.1) (cond (aZ a0.2.2.1 6) (cond (aO a0.2.2.2.1 1) (cond (dk 1 a0.2.2.2.2.1) (cond (dk a0.2.2.2.2.1 1000000000) ((DB N a0.2.2.2.2.2.1).bind λr1=>some r1) (some false)) (some false)) (cond (aO a0.2.2.2.1 2) (cond (dk 1 a0.2.2.2.2.1) (cond (dk a0.2.2.2.2.1 1000000000) ((DB N a0.2.2.2.2.2.1).bind λr2=>some r2) (some false)) (some false)) (some false))) (some false)) (some false)) (some false)) (some false)) (some false)) (some false)
abbrev mO.ca:=bB→Int→Option (Bool)
def mO.eK(N:Nat)(cJ:mO.ca)(x0:bB)(x3:Int):Option (Bool):=
 cond (aZ x3 (List.length x0:Int)) (cond (bb x3 (List.length x0)) ((Qt N (List.getD x0 x3.toNat fm)).bind λr2=>cond (!r2) (some false) (cond (aZ 0 x3) (cond (bb x3 (List.length x0)) (let v3:Int:=W .i64 (x3-1);cond (bb v3 (List.length x0)) (cond (dk ((List.getD x0 x3.toNat fm).1) ((List.getD x0 v3.toNat fm).1)) (some false) (cJ x0 (W .i64 (x3+1)))) (none)) (none)) (cJ x0 (W .i64 (x3+1))))) (none)) (some true)
def mO.l4(N:Nat):Nat→mO.ca
 |0,_,_=>none
 |n+1,x0,x3=>mO.eK N (mO.l4 N n) x0 x3
def mO.b(N:Nat)(gd:mO.ca)(a0:bB):Option (Bool):=
 cond (aZ 32 (List.length a0:Int)) (some false) (gd a0 (0:Int))
def mO(N:Nat)(a0:bB):Option (Bool):=mO.b N (mO.l4 N N) a0
abbrev CQ.bN:=au→aH→aH→Int→Option aH
def CQ.eg(N:Nat)(bP:CQ.bN)(x0:au)(x2:aH)(x3:aH)(x4:Int):Option aH:=
 cond (aZ x4 (List.length x0:Int)) (cond (bb x4 (List.length x0)) ((iG N ((((List.getD x0 x4.toNat bm).2).2).1)).bind λr3=>(xJ N x3 r3).bind λr4=>bP x0 x2 r4 (W .i64 (x4+1))) (none)) (some x3)
def CQ.l5(N:Nat):Nat→CQ.bN
 |0,_,_,_,_=>none
 |n+1,x0,x2,x3,x4=>CQ.eg N (CQ.l5 N n) x0 x2 x3 x4
def CQ.b(N:Nat)(eY:CQ.bN)(a0:au):Option aH:=
 (BI N a0).bind λr1=>cond (!r1) (some (false,py)) (eY a0 (false,py) (false,py) (0:Int))
def CQ(N:Nat)(a0:au):Option aH:=CQ.b N (CQ.l5 N N) a0
def Kz(N:Nat)(a0:an)(a1:Int):Option (Bool):=
 (Vm N a0.2.1 a1).bind λr1=>cond (r1.2) (some true) (some (aO a1 0))
def R9(N:Nat)(a0:aE)(a1:Int):Option (Int):=
 (Bi N a0).bind λr1=>cond (!r1) (some (0:Int)) ((zq N a0 a1).bind λr2=>some r2)
abbrev gb.rT:=ae→an→Int→Option (Bool)
abbrev gb.xp:=ae→an→Int→Option (Bool)
abbrev gb.gi:=ae→an→Int→Option (Bool)
abbrev gb.jF:=ae→an→Int→Option (Bool)
def gb.vI(N:Nat)(GO:gb.rT)(x2:ae)(x3:an)(x9:Int):Option (Bool):=
 cond (aZ x9 (List.length x3.2.2.2.2.2.1:Int)) (cond (bb x9 (List.length x3.2.2.2.2.2.1)) ((Kz N x3 (((List.getD x3.2.2.2.2.2.1 x9.toNat fm).2).1)).bind λLh=>cond (!Lh) (some false) (cond (bb x9 (List.length x3.2.2.2.2.2.1)) (cond (dk (List.length x2.1:Int) ((((List.getD x3.2.2.2.2.2.1 x9.toNat fm).2).2).1)) (some false) (GO x2 x3 (W .i64 (x9+1)))) (none))) (none)) (some true)
def gb.w5(N:Nat):Nat→gb.rT
 |0,_,_,_=>none
 |n+1,x2,x3,x9=>gb.vI N (gb.w5 N n) x2 x3 x9
def gb.DH(N:Nat)(GP:gb.rT)(JK:gb.xp)(x2:ae)(x3:an)(x8:Int):Option (Bool):=
 cond (aZ x8 (List.length x3.2.2.2.2.1:Int)) (cond (bb x8 (List.length x3.2.2.2.2.1)) ((DB N (List.getD x3.2.2.2.2.1 x8.toNat (0:Int))).bind λJI=>cond (!JI) (some false) (JK x2 x3 (W .i64 (x8+1)))) (none)) (GP x2 x3 (0:Int))
def gb.D5(N:Nat):Nat→gb.xp
 |0,_,_,_=>none
 |n+1,x2,x3,x8=>gb.DH N (gb.w5 N N) (gb.D5 N n) x2 x3 x8
def gb.ns(N:Nat)(Oz:gb.xp)(gj:gb.gi)(x2:ae)(x3:an)(x7:Int):Option (Bool):=
 cond (aZ x7 (List.length x3.2.2.2.1:Int)) (cond (bb x7 (List.length x3.2.2.2.1)) ((Kz N x3 ((List.getD x3.2.2.2.1 x7.toNat bm).1)).bind λDc=>cond (!Dc) (some false) (cond (bb x7 (List.length x3.2.2.2.1)) (cond (dk (List.length x2.1:Int) (((List.getD x3.2.2.2.1 x7.toNat bm).2).1)) (some false) (gj x2 x3 (W .i64 (x7+1)))) (none))) (none)) (Oz x2 x3 (0:Int))
def gb.mU(N:Nat):Nat→gb.gi
 |0,_,_,_=>none
 |n+1,x2,x3,x7=>gb.ns N (gb.D5 N N) (gb.mU N n) x2 x3 x7
def gb.uN(N:Nat)(ug:gb.gi)(kE:gb.jF)(x2:ae)(x3:an)(x5:Int):Option (Bool):=
 cond (aZ x5 (List.length x3.2.2.1:Int)) (cond (bb x5 (List.length x3.2.2.1)) (cond (aO ((List.getD x3.2.2.1 x5.toNat bm).1) (5:Int)) ((Kz N x3 (((List.getD x3.2.2.1 x5.toNat bm).2).1)).bind λr9=>cond (!r9) (some false) (cond (aO ((List.getD x3.2.2.1 x5.toNat bm).1) (6:Int)) ((R9 N x3.1 (((List.getD x3.2.2.1 x5.toNat bm).2).1)).bind λkD=>cond (aO kD 0) (some false) (kE x2 x3 (W .i64 (x5+1)))) (cond (aO ((List.getD x3.2.2.1 x5.toNat bm).1) (7:Int)) ((R9 N x3.1 (((List.getD x3.2.2.1 x5.toNat bm).2).1)).bind λn6=>cond (aO n6 0) (some false) (kE x2 x3 (W .i64 (x5+1)))) (kE x2 x3 (W .i64 (x5+1)))))) (cond (aO ((List.getD x3.2.2.1 x5.toNat bm).1) (6:Int)) ((R9 N x3.1 (((List.getD x3.2.2.1 x5.toNat bm).2).1)).bind λxj=>cond (aO xj 0) (some false) (kE x2 x3 (W .i64 (x5+1)))) (cond (aO ((List.getD x3.2.2.1 x5.toNat bm).1) (7:Int)) ((R9 N x3.1 (((List.getD x3.2.2.1 x5.toNat bm).2).1)).bind λzr=>cond (aO zr 0) (some false) (kE x2 x3 (W .i64 (x5+1)))) (kE x2 x3 (W .i64 (x5+1)))))) (none)) (ug x2 x3 (0:Int))
def gb.l6(N:Nat):Nat→gb.jF
 |0,_,_,_=>none
 |n+1,x2,x3,x5=>gb.uN N (gb.mU N N) (gb.l6 N n) x2 x3 x5
def gb.b(N:Nat)(xm:gb.jF)(a0:ae)(a1:an):Option (Bool):=
 (mh N a0).bind λr1=>cond (!r1) (some false) ((ou N a1.1 a1.2.1).bind λr2=>cond (!r2) (some false) ((BI N a1.2.2.1).bind λr3=>cond (!r3) (some false) ((DF N a1.2.2.2.1).bind λr4=>cond (!r4) (some false) ((mO N a1.2.2.2.2.2.1).bind λr5=>cond (!r5) (some false) (cond (!aO (List.length a1.2.2.2.2.1:Int) (List.length a0.1:Int)) (some false) ((CQ N a1.2.2.1).bind λr6=>(R3 N r6).bind λr7=>cond (!aO r7 0) (some false) (xm a0 a1 (0:Int))))))))
def gb(N:Nat)(a0:ae)(a1:an):Option (Bool):=gb.b N (gb.l6 N N) a0 a1
def Nj(N:Nat)(a0:aH)(a1:aH):Option aH:=
 (TO N a1).bind λr1=>(xJ N a0 r1).bind λr2=>some r2
abbrev lH.bN:=au→Int→aE→Int→Option aE
def lH.eg(N:Nat)(bP:lH.bN)(x0:au)(x1:Int)(x5:aE)(x6:Int):Option aE:=
 cond (aZ x6 (List.length x0:Int)) (cond (bb x6 (List.length x0)) (cond (aO ((List.getD x0 x6.toNat bm).1) x1) (cond (bb x6 (List.length x0)) (cond (bb x6 (List.length x0)) (cond (small (List.length x5+List.length ([(((List.getD x0 x6.toNat bm).2).1,((((List.getD x0 x6.toNat bm).2).2).1,()))]))) (bP x0 x1 (x5++([(((List.getD x0 x6.toNat bm).2).1,((((List.getD x0 x6.toNat bm).2).2).1,()))])) (W .i64 (x6+1))) (none)) (none)) (none)) (bP x0 x1 x5 (W .i64 (x6+1)))) (none)) (some x5)
def lH.l5(N:Nat):Nat→lH.bN
 |0,_,_,_,_=>none
 |n+1,x0,x1,x5,x6=>lH.eg N (lH.l5 N n) x0 x1 x5 x6
def lH.b(N:Nat)(eY:lH.bN)(a0:au)(a1:Int):Option aE:=
 (zp N a0).bind λr1=>cond (!r1) (some ([])) (eY a0 a1 ([]) (0:Int))
def lH(N:Nat)(a0:au)(a1:Int):Option aE:=lH.b N (lH.l5 N N) a0 a1
abbrev hZ.fx:=bB→Int→au→Int→dh→Int→Option au
abbrev hZ.dU:=bB→Int→au→Int→Option au
def hZ.rj(N:Nat)(dn:hZ.dU)(eP:hZ.fx)(x0:bB)(x1:Int)(x5:au)(x6:Int)(x7:dh)(x8:Int):Option au:=
 cond (aZ x8 (List.length x0:Int)) (cond (bb x8 (List.length x0)) (cond (!aO (((List.getD x0 x8.toNat fm).2).1) x1) (eP x0 x1 x5 x6 x7 (W .i64 (x8+1))) (cond (bb x8 (List.length x0)) (cond (!aO ((((List.getD x0 x8.toNat fm).2).2).1) x6) (eP x0 x1 x5 x6 x7 (W .i64 (x8+1))) (cond (bb x8 (List.length x0)) (cond (aO (((((List.getD x0 x8.toNat fm).2).2).2).1) (1:Int)) (cond (bb x8 (List.length x0)) (eP x0 x1 x5 x6 (x7.1,((W .i64 (x7.2.1+((((((List.getD x0 x8.toNat fm).2).2).2).2).1))),x7.2.2)) (W .i64 (x8+1))) (none)) (cond (bb x8 (List.length x0)) (eP x0 x1 x5 x6 (x7.1,(x7.2.1,((W .i64 (x7.2.2.1+((((((List.getD x0 x8.toNat fm).2).2).2).2).1))),x7.2.2.2))) (W .i64 (x8+1))) (none))) (none))) (none))) (none)) (cond (aZ 0 x7.2.1) (cond (small (List.length x5+List.length ([x7]))) (dn x0 x1 (x5++([x7])) (W .i64 (x6+1))) (none)) (cond (aZ 0 x7.2.2.1) (cond (small (List.length x5+List.length ([x7]))) (dn x0 x1 (x5++([x7])) (W .i64 (x6+1))) (none)) (dn x0 x1 x5 (W .i64 (x6+1)))))
def hZ.l7(N:Nat)(dn:hZ.dU):Nat→hZ.fx
 |0,_,_,_,_,_,_=>none
 |n+1,x0,x1,x5,x6,x7,x8=>hZ.rj N dn (hZ.l7 N dn n) x0 x1 x5 x6 x7 x8
def hZ.nT(N:Nat)(vk:hZ.fx)(dn:hZ.dU)(x0:bB)(x1:Int)(x5:au)(x6:Int):Option au:=
 cond (aZ x6 6) (vk x0 x1 x5 x6 (x6,cA) (0:Int)) (some x5)
def hZ.l3(N:Nat):Nat→hZ.dU
 |0,_,_,_,_=>none
 |n+1,x0,x1,x5,x6=>hZ.nT N (hZ.l7 N (hZ.l3 N n) N) (hZ.l3 N n) x0 x1 x5 x6
def hZ.b(N:Nat)(oG:hZ.dU)(a0:bB)(a1:Int):Option au:=
 oG a0 a1 ([]) (0:Int)
def hZ(N:Nat)(a0:bB)(a1:Int):Option au:=hZ.b N (hZ.l3 N N) a0 a1
abbrev nv.ca:=aE→ae→Int→Option (Bool)
def nv.eK(N:Nat)(cJ:nv.ca)(x1:aE)(x2:ae)(x5:Int):Option (Bool):=
 cond (aZ x5 (List.length x1:Int)) (cond (bb x5 (List.length x1)) (cond (aZ ((List.getD x1 x5.toNat cA).1) (0:Int)) (some false) (cond (bb x5 (List.length x1)) (cond (dk (List.length x2.1:Int) ((List.getD x1 x5.toNat cA).1)) (some false) (cond (bb x5 (List.length x1)) (cond (aO (((List.getD x1 x5.toNat cA).2).1) (0:Int)) (some false) (cond (bb x5 (List.length x1)) (cond (aO (((List.getD x1 x5.toNat cA).2).1) (-9223372036854775808:Int)) (some false) (cond (aZ 0 x5) (cond (bb x5 (List.length x1)) (let v3:Int:=W .i64 (x5-1);cond (bb v3 (List.length x1)) (cond (dk ((List.getD x1 x5.toNat cA).1) ((List.getD x1 v3.toNat cA).1)) (some false) (cJ x1 x2 (W .i64 (x5+1)))) (none)) (none)) (cJ x1 x2 (W .i64 (x5+1))))) (none))) (none))) (none))) (none)) (some true)
def nv.l4(N:Nat):Nat→nv.ca
 |0,_,_,_=>none
 |n+1,x1,x2,x5=>nv.eK N (nv.l4 N n) x1 x2 x5
def nv.b(N:Nat)(gd:nv.ca)(a0:ae)(a1:aE):Option (Bool):=
 (mh N a0).bind λr1=>cond (!r1) (some false) (gd a1 a0 (0:Int))
def nv(N:Nat)(a0:ae)(a1:aE):Option (Bool):=nv.b N (nv.l4 N N) a0 a1
abbrev qd.bN:=au→ae→Int→Int→Option (Bool)
def qd.eg(N:Nat)(bP:qd.bN)(x1:au)(x2:ae)(x5:Int)(x6:Int):Option (Bool):=
 cond (aZ x6 (List.length x1:Int)) (cond (bb x6 (List.length x1)) (cond (aZ ((List.getD x1 x6.toNat bm).1) (0:Int)) (some false) (cond (dk (List.length x2.1:Int) ((List.getD x1 x6.toNat bm).1)) (some false) (cond (aZ (((List.getD x1 x6.toNat bm).2).1) (0:Int)) (some false) (cond (aZ x5 (((List.getD x1 x6.toNat bm).2).1)) (some false) (cond (aZ ((((List.getD x1 x6.toNat bm).2).2).1) (0:Int)) (some false) (cond (aZ x5 ((((List.getD x1 x6.toNat bm).2).2).1)) (some false) (cond (aO (((List.getD x1 x6.toNat bm).2).1) (0:Int)) (cond (aO ((((List.getD x1 x6.toNat bm).2).2).1) (0:Int)) (some false) (cond (aZ 0 x6) (let v3:Int:=W .i64 (x6-1);cond (bb v3 (List.length x1)) (cond (dk ((List.getD x1 x6.toNat bm).1) ((List.getD x1 v3.toNat bm).1)) (some false) (bP x1 x2 x5 (W .i64 (x6+1)))) (none)) (bP x1 x2 x5 (W .i64 (x6+1))))) (cond (aZ 0 x6) (let v6:Int:=W .i64 (x6-1);cond (bb v6 (List.length x1)) (cond (dk ((List.getD x1 x6.toNat bm).1) ((List.getD x1 v6.toNat bm).1)) (some false) (bP x1 x2 x5 (W .i64 (x6+1)))) (none)) (bP x1 x2 x5 (W .i64 (x6+1))))))))))) (none)) (some true)
def qd.l5(N:Nat):Nat→qd.bN
 |0,_,_,_,_=>none
 |n+1,x1,x2,x5,x6=>qd.eg N (qd.l5 N n) x1 x2 x5 x6
def qd.b(N:Nat)(eY:qd.bN)(a0:ae)(a1:au):Option (Bool):=
 (mh N a0).bind λr1=>cond (!r1) (some false) (eY a1 a0 (33000000000:Int) (0:Int))
def qd(N:Nat)(a0:ae)(a1:au):Option (Bool):=qd.b N (qd.l5 N N) a0 a1
def Vj(N:Nat)(a0:aH):Option aH:=
 (Wz N false a0.2.1).bind λr1=>some r1
def Kt(N:Nat)(a0:aH)(a1:aH):Option (Int):=
 (Nj N a0 a1).bind λr1=>(R3 N r1).bind λr2=>some r2
abbrev jk.gi:=au→Int→aH→aH→aH→aH→Int→Option (aH×(Int))
abbrev jk.fx:=aE→au→Int→aH→aH→aH→aH→Int→Option (aH×(Int))
def jk.ns(N:Nat)(gj:jk.gi)(x2:au)(x3:Int)(x8:aH)(bx:aH)(aW:aH)(a7:aH)(cj:Int):Option (aH×(Int)):=
 cond (aZ cj (List.length x2:Int)) (cond (bb cj (List.length x2)) (cond (aO ((List.getD x2 cj.toNat bm).1) x3) (cond (bb cj (List.length x2)) ((iG N (((List.getD x2 cj.toNat bm).2).1)).bind λr8=>cond (bb cj (List.length x2)) ((iG N ((((List.getD x2 cj.toNat bm).2).2).1)).bind λr9=>gj x2 x3 x8 bx r8 r9 (W .i64 (cj+1))) (none)) (none)) (gj x2 x3 x8 bx aW a7 (W .i64 (cj+1)))) (none)) ((xJ N bx aW).bind λn6=>(Vj N n6).bind λpV=>(Nj N bx a7).bind λvQ=>(Vj N vQ).bind λxj=>(Kt N xj pV).bind λvP=>cond (aZ 0 vP) (some (xj,(0:Int))) (some (pV,(0:Int))))
def jk.mU(N:Nat):Nat→jk.gi
 |0,_,_,_,_,_,_,_=>none
 |n+1,x2,x3,x8,bx,aW,a7,cj=>jk.ns N (jk.mU N n) x2 x3 x8 bx aW a7 cj
def jk.rj(N:Nat)(ug:jk.gi)(eP:jk.fx)(x1:aE)(x2:au)(x3:Int)(x8:aH)(bx:aH)(aW:aH)(a7:aH)(bU:Int):Option (aH×(Int)):=
 cond (aZ bU (List.length x1:Int)) (cond (bb bU (List.length x1)) (cond (aO ((List.getD x1 bU.toNat cA).1) x3) (cond (bb bU (List.length x1)) ((iG N (((List.getD x1 bU.toNat cA).2).1)).bind λr4=>eP x1 x2 x3 x8 r4 aW a7 (W .i64 (bU+1))) (none)) (eP x1 x2 x3 x8 bx aW a7 (W .i64 (bU+1)))) (none)) (ug x2 x3 x8 bx aW a7 (0:Int))
def jk.l7(N:Nat):Nat→jk.fx
 |0,_,_,_,_,_,_,_,_=>none
 |n+1,x1,x2,x3,x8,bx,aW,a7,bU=>jk.rj N (jk.mU N N) (jk.l7 N n) x1 x2 x3 x8 bx aW a7 bU
def jk.b(N:Nat)(vk:jk.fx)(a0:ae)(a1:aE)(a2:au)(a3:Int):Option (aH×(Int)):=
 (nv N a0 a1).bind λr1=>cond (!r1) (some ((false,py),(1:Int))) ((qd N a0 a2).bind λr2=>cond (!r2) (some ((false,py),(1:Int))) (cond (aZ a3 0) (some ((false,py),(3:Int))) (cond (dk (List.length a0.1:Int) a3) (some ((false,py),(3:Int))) (vk a1 a2 a3 (false,py) (false,py) (false,py) (false,py) (0:Int)))))
def jk(N:Nat)(a0:ae)(a1:aE)(a2:au)(a3:Int):Option (aH×(Int)):=jk.b N (jk.l7 N N) a0 a1 a2 a3
abbrev jL.Rh:=aH→aH→aH→(List (Int))→Int→Int→Int→Option aH
abbrev jL.fx:=aH→aH→aH→(List (Int))→Int→Int→Int→Option aH
abbrev jL.dU:=aH→aH→aH→(List (Int))→Int→Option aH
def jL.Nl(N:Nat)(dn:jL.dU)(eP:jL.fx)(x2:aH)(x3:aH)(x4:aH)(x5:List (Int))(x6:Int)(x7:Int)(x8:Int):Option aH:=
 let v7:Int:=W .i64 (x6+x8);cond (bb v7 (List.length x5)) (cond (bb x6 (List.length x2.2.1)) ((Z0 N x3.2.1 x8).bind λr8=>let v11:Int:=W .u64 (x7+(W .u64 ((List.getD x5 v7.toNat (0:Int))+(W .u64 ((List.getD x2.2.1 x6.toNat (0:Int))*r8)))));let Yy:Int:=W .i64 (x6+x8);cond (bb Yy (List.length x5)) (cond (aZ 32 0) (none) (eP x2 x3 x4 (List.set x5 Yy.toNat (qS .and .u64 v11 4294967295)) x6 (shr .u64 v11 32) (W .i64 (x8+1)))) (none)) (none)) (none)
def jL.j9(N:Nat)(dn:jL.dU)(eP:jL.fx)(x2:aH)(x3:aH)(x4:aH)(x5:List (Int))(x6:Int)(x7:Int)(x8:Int):Option aH:=jL.Nl N dn eP x2 x3 x4 x5 x6 x7 x8
def jL.rj(N:Nat)(GV:jL.Rh)(dn:jL.dU)(eP:jL.fx)(x2:aH)(x3:aH)(x4:aH)(x5:List (Int))(x6:Int)(x7:Int)(x8:Int):Option aH:=
 cond (aZ x8 (List.length x3.2.1:Int)) (GV x2 x3 x4 x5 x6 x7 x8) (cond (aZ 0 x7) (GV x2 x3 x4 x5 x6 x7 x8) (dn x2 x3 x4 x5 (W .i64 (x6+1))))
def jL.l7(N:Nat)(dn:jL.dU):Nat→jL.fx
 |0,_,_,_,_,_,_,_=>none
 |n+1,x2,x3,x4,x5,x6,x7,x8=>jL.rj N (jL.j9 N dn (jL.l7 N dn n)) dn (jL.l7 N dn n) x2 x3 x4 x5 x6 x7 x8
def jL.nT(N:Nat)(vk:jL.fx)(dn:jL.dU)(x2:aH)(x3:aH)(x4:aH)(x5:List (Int))(x6:Int):Option aH:=
 cond (aZ x6 (List.length x2.2.1:Int)) (vk x2 x3 x4 x5 x6 (0:Int) (0:Int)) ((Wz N (!(uw .bool x2.1 x3.1)) x5).bind λuj=>some uj)
def jL.l3(N:Nat):Nat→jL.dU
 |0,_,_,_,_,_=>none
 |n+1,x2,x3,x4,x5,x6=>jL.nT N (jL.l7 N (jL.l3 N n) N) (jL.l3 N n) x2 x3 x4 x5 x6
def jL.b(N:Nat)(oG:jL.dU)(a0:aH)(a1:aH):Option aH:=
 let v2:Int:=W .i64 ((W .i64 ((List.length a0.2.1:Int)+(List.length a1.2.1:Int)))+1);cond (jZ v2 v2) (oG a0 a1 (false,py) (List.replicate v2.toNat (0:Int)) (0:Int)) (none)
def jL(N:Nat)(a0:aH)(a1:aH):Option aH:=jL.b N (jL.l3 N N) a0 a1
abbrev qg.bN:=aE→au→ae→aH→aH→Int→Option (aH×(Int))
def qg.eg(N:Nat)(bP:qg.bN)(x1:aE)(x2:au)(x3:ae)(x6:aH)(x8:aH)(x9:Int):Option (aH×(Int)):=
 cond (aZ x9 (List.length x3.1:Int)) ((jk N x3 x1 x2 x9).bind λr4=>cond (bb x9 (List.length x3.1)) ((iG N ((((List.getD x3.1 x9.toNat aV).2).2).1)).bind λr5=>(jL N r4.1 r5).bind λr6=>(xJ N x8 r6).bind λr7=>bP x1 x2 x3 x6 r7 (W .i64 (x9+1))) (none)) (some (x8,(0:Int)))
def qg.l5(N:Nat):Nat→qg.bN
 |0,_,_,_,_,_,_=>none
 |n+1,x1,x2,x3,x6,x8,x9=>qg.eg N (qg.l5 N n) x1 x2 x3 x6 x8 x9
def qg.b(N:Nat)(eY:qg.bN)(a0:ae)(a1:aE)(a2:au):Option (aH×(Int)):=
 (nv N a0 a1).bind λr1=>cond (!r1) (some ((false,py),(1:Int))) ((qd N a0 a2).bind λr2=>cond (!r2) (some ((false,py),(1:Int))) (eY a1 a2 a0 (false,py) (false,py) (0:Int)))
def qg(N:Nat)(a0:ae)(a1:aE)(a2:au):Option (aH×(Int)):=qg.b N (qg.l5 N N) a0 a1 a2
def Xo(N:Nat)(a0:ae)(a1:an)(a2:Int)(a3:bB):Option aH:=
 cond (small (List.length dR+List.length a1.2.2.2.2.2.1)) (let v1:List ((Int)×((Int)×((Int)×((Int)×((Int)×((Int)×(Unit))))))):=dR++a1.2.2.2.2.2.1;cond (small (List.length v1+List.length a3)) ((lH N a1.2.2.2.1 a2).bind λr3=>(hZ N (v1++a3) a2).bind λr4=>(qg N a0 r3 r4).bind λr5=>some r5.1) (none)) (none)
def Us(N:Nat)(a0:ae)(a1:an)(a2:Int)(a3:Int):Option (an×(Int)):=
 (gb N a0 a1).bind λr1=>cond (!r1) (some ((cn,(c9,(bH,(bH,(dB,(dR,())))))),(1:Int))) (cond (aZ a3 1) (some ((cn,(c9,(bH,(bH,(dB,(dR,())))))),(1:Int))) ((Vm N a1.2.1 a2).bind λr2=>cond (!r2.2) (some ((cn,(c9,(bH,(bH,(dB,(dR,())))))),(3:Int))) ((R9 N a1.1 r2.1.2.1).bind λr3=>cond (!aO r3 1) (some ((cn,(c9,(bH,(bH,(dB,(dR,())))))),(7:Int))) ((s9 N a1.2.2.1 (5:Int) a2).bind λr4=>(iG N r4).bind λr5=>(iG N a3).bind λr6=>(Nj N r5 r6).bind λr7=>(Xo N a0 a1 a2 dR).bind λr8=>(Kt N r7 r8).bind λr9=>cond (aZ r9 0) (some ((cn,(c9,(bH,(bH,(dB,(dR,())))))),(10:Int))) ((iG N a3).bind λkD=>(yr N (5:Int) a2 (1:Int) (0:Int) kD).bind λnY=>(yq N a1 bH nY).bind λn6=>some (n6.1,n6.2))))))
def Gl(N:Nat)(a0:aQ)(a1:Int):Option (Int):=
 (R9 N a0.2.2.1.1 a1).bind λr1=>some r1
abbrev nI.gT:=Int→Int→aL→Int→Option (aL×(Int))
def nI.yn(N:Nat)(e9:nI.gT)(x1:Int)(x2:Int)(bx:aL)(aW:Int):Option (aL×(Int)):=
 cond (aZ aW (List.length bx:Int)) (cond (bb aW (List.length bx)) (cond (aO ((List.getD bx aW.toNat aV).1) x1) (cond (bb aW (List.length bx)) (e9 x1 x2 (List.set bx aW.toNat ((List.getD bx aW.toNat aV).1,(((List.getD bx aW.toNat aV).2).1,((((List.getD bx aW.toNat aV).2).2).1,(x2,((((List.getD bx aW.toNat aV).2).2).2).2))))) (W .i64 (aW+1))) (none)) (e9 x1 x2 bx (W .i64 (aW+1)))) (none)) (some (bx,(0:Int)))
def nI.l8(N:Nat):Nat→nI.gT
 |0,_,_,_,_=>none
 |n+1,x1,x2,bx,aW=>nI.yn N (nI.l8 N n) x1 x2 bx aW
def nI.b(N:Nat)(Cc:nI.gT)(a0:aL)(a1:Int)(a2:Int):Option (aL×(Int)):=
 (eE N a0).bind λr1=>cond (!r1) (some ([],(1:Int))) (cond (aZ a2 0) (some ([],(1:Int))) (cond (aZ 1000000000000 a2) (some ([],(1:Int))) ((nU N a0 a1).bind λr2=>cond (!r2.2) (some ([],(3:Int))) (cond (small (List.length c9+List.length a0)) (Cc a1 a2 (c9++a0) (0:Int)) (none)))))
def nI(N:Nat)(a0:aL)(a1:Int)(a2:Int):Option (aL×(Int)):=nI.b N (nI.l8 N N) a0 a1 a2
def aaL(N:Nat)(a0:gA)(a1:Int):Option (aH×(Int)):=
 (Qt N a0).bind λr1=>cond (!r1) (some ((false,py),(1:Int))) ((DB N a1).bind λr2=>cond (!r2) (some ((false,py),(1:Int))) (let v3:Int:=W .i64 (a0.2.2.2.2.2.1-a1);cond (aO a0.2.2.2.1 2) (let v4:Int:=W .i64 (a1-a0.2.2.2.2.2.1);cond (aZ v4 0) (some ((false,py),(0:Int))) ((iG N a0.2.2.2.2.1).bind λr5=>(iG N v4).bind λr6=>(jL N r5 r6).bind λr7=>some (r7,(0:Int)))) (cond (aZ v3 0) (some ((false,py),(0:Int))) ((iG N a0.2.2.2.2.1).bind λr8=>(iG N v3).bind λr9=>(jL N r8 r9).bind λkD=>some (kD,(0:Int))))))
def Xp(N:Nat)(a0:ae)(a1:an)(a2:gA):Option (Int):=
 (gb N a0 a1).bind λr1=>cond (!r1) (some (1:Int)) ((Qt N a2).bind λr2=>cond (!r2) (some (1:Int)) ((Vm N a1.2.1 a2.2.1).bind λr3=>cond (!r3.2) (some (3:Int)) ((R9 N a1.1 r3.1.2.1).bind λr4=>cond (!aO r4 1) (some (7:Int)) (cond (dk (List.length a0.1:Int) a2.2.2.1) (some (3:Int)) (cond (small (List.length dR+List.length a1.2.2.2.2.2.1)) (let v5:List ((Int)×((Int)×((Int)×((Int)×((Int)×((Int)×(Unit))))))):=dR++a1.2.2.2.2.2.1;cond (small (List.length v5+List.length ([a2]))) ((lH N a1.2.2.2.1 a2.2.1).bind λr7=>(hZ N (v5++([a2])) a2.2.1).bind λr8=>(jk N a0 r7 r8 a2.2.2.1).bind λr9=>(iG N r3.1.2.2.2.1).bind λkD=>(Kt N r9.1 kD).bind λnY=>cond (aZ 0 nY) (some (9:Int)) (cond (bb a2.2.2.1 (List.length a1.2.2.2.2.1)) ((aaL N a2 (List.getD a1.2.2.2.2.1 a2.2.2.1.toNat (0:Int))).bind λn6=>(s9 N a1.2.2.1 (5:Int) a2.2.1).bind λpV=>(iG N pV).bind λvQ=>(Nj N vQ n6.1).bind λxj=>(Xo N a0 a1 a2.2.1 ([a2])).bind λvP=>(Kt N xj vP).bind λzr=>cond (aZ zr 0) (some (10:Int)) (some (0:Int))) (none))) (none)) (none))))))
def Uq(N:Nat)(a0:gA)(a1:gA):Option (Bool):=
 cond (!aO a0.2.2.2.2.2.1 a1.2.2.2.2.2.1) (some (uw .bool (aZ a1.2.2.2.2.2.1 a0.2.2.2.2.2.1) (aO a0.2.2.2.1 1))) (some (aZ a0.1 a1.1))
abbrev dJ.Oy:=bB→Int→Int→bB→Int→Int→Option bB
abbrev dJ.mz:=bB→Int→Int→bB→Int→Int→Option bB
abbrev dJ.bN:=bB→Int→Int→bB→Int→Option bB
def dJ.BZ(N:Nat)(bP:dJ.bN)(x0:bB)(x1:Int)(x2:Int)(x7:bB)(x8:Int)(x9:Int):Option bB:=
 cond (ka 0 x9 (List.length x7:Int) (List.length x7:Int)) (let v9:List ((Int)×((Int)×((Int)×((Int)×((Int)×((Int)×(Unit))))))):=List.drop (0:Int).toNat (List.take x9.toNat x7);cond (small (List.length v9)) (cond (bb x8 (List.length x0)) (cond (small (List.length v9+List.length ([List.getD x0 x8.toNat fm]))) (let v10:List ((Int)×((Int)×((Int)×((Int)×((Int)×((Int)×(Unit))))))):=v9++([List.getD x0 x8.toNat fm]);cond (ka x9 (List.length x7:Int) (List.length x7:Int) (List.length x7:Int)) (let v11:List ((Int)×((Int)×((Int)×((Int)×((Int)×((Int)×(Unit))))))):=List.drop x9.toNat (List.take (List.length x7:Int).toNat x7);cond (small (List.length v10+List.length v11)) (bP x0 x1 x2 (v10++v11) (W .i64 (x8+1))) (none)) (none)) (none)) (none)) (none)) (none)
def dJ.Jj(N:Nat)(bP:dJ.bN)(x0:bB)(x1:Int)(x2:Int)(x7:bB)(x8:Int)(x9:Int):Option bB:=dJ.BZ N bP x0 x1 x2 x7 x8 x9
def dJ.xK(N:Nat)(Df:dJ.Oy)(bP:dJ.bN)(rU:dJ.mz)(x0:bB)(x1:Int)(x2:Int)(x7:bB)(x8:Int)(x9:Int):Option bB:=
 cond (aZ x9 (List.length x7:Int)) (cond (bb x9 (List.length x7)) (cond (bb x8 (List.length x0)) ((Uq N (List.getD x7 x9.toNat fm) (List.getD x0 x8.toNat fm)).bind λr6=>cond (r6) (rU x0 x1 x2 x7 x8 (W .i64 (x9+1))) (Df x0 x1 x2 x7 x8 x9)) (none)) (none)) (Df x0 x1 x2 x7 x8 x9)
def dJ.l9(N:Nat)(bP:dJ.bN):Nat→dJ.mz
 |0,_,_,_,_,_,_=>none
 |n+1,x0,x1,x2,x7,x8,x9=>dJ.xK N (dJ.Jj N bP) bP (dJ.l9 N bP n) x0 x1 x2 x7 x8 x9
def dJ.eg(N:Nat)(zk:dJ.mz)(bP:dJ.bN)(x0:bB)(x1:Int)(x2:Int)(x7:bB)(x8:Int):Option bB:=
 cond (aZ x8 (List.length x0:Int)) (cond (bb x8 (List.length x0)) (cond (!aO ((((List.getD x0 x8.toNat fm).2).2).1) x1) (bP x0 x1 x2 x7 (W .i64 (x8+1))) (cond (bb x8 (List.length x0)) (cond (!aO (((((List.getD x0 x8.toNat fm).2).2).2).1) x2) (bP x0 x1 x2 x7 (W .i64 (x8+1))) (zk x0 x1 x2 x7 x8 (0:Int))) (none))) (none)) (some x7)
def dJ.l5(N:Nat):Nat→dJ.bN
 |0,_,_,_,_,_=>none
 |n+1,x0,x1,x2,x7,x8=>dJ.eg N (dJ.l9 N (dJ.l5 N n) N) (dJ.l5 N n) x0 x1 x2 x7 x8
def dJ.b(N:Nat)(eY:dJ.bN)(a0:bB)(a1:Int)(a2:Int):Option bB:=
 (mO N a0).bind λr1=>cond (!r1) (some ([])) (eY a0 a1 a2 ([]) (0:Int))
def dJ(N:Nat)(a0:bB)(a1:Int)(a2:Int):Option bB:=dJ.b N (dJ.l5 N N) a0 a1 a2
abbrev ch.xq:=bB→Int→bK→bB→Int→Option (bB×bK×(Int)×(Int))
abbrev ch.anq:=bB→Int→bK→Option (bB×bK×(Int)×(Int))
abbrev ch.xr:=gA→bB→Int→bK→bB→Int→Int→Int→Option (bB×bK×(Int)×(Int))
abbrev ch.GW:=gA→bB→Int→bK→bB→Int→Int→ta→Option (bB×bK×(Int)×(Int))
abbrev ch.JL:=gA→bB→Int→bK→bB→Int→Option (bB×bK×(Int)×(Int))
abbrev ch.fx:=gA→bB→Int→bK→bB→Int→Option (bB×bK×(Int)×(Int))
def ch.NV(N:Nat)(vA:ch.xq)(x8:bB)(x9:Int)(bx:bK)(et:bB)(e8:Int):Option (bB×bK×(Int)×(Int)):=
 cond (aZ e8 (List.length x8:Int)) (cond (bb e8 (List.length x8)) (cond (aZ 0 ((((((List.getD x8 e8.toNat fm).2).2).2).2).1)) (cond (bb e8 (List.length x8)) (cond (small (List.length et+List.length ([List.getD x8 e8.toNat fm]))) (vA x8 x9 bx (et++([List.getD x8 e8.toNat fm])) (W .i64 (e8+1))) (none)) (none)) (vA x8 x9 bx et (W .i64 (e8+1)))) (none)) (some (et,bx,x9,(0:Int)))
def ch.LF(N:Nat):Nat→ch.xq
 |0,_,_,_,_,_=>none
 |n+1,x8,x9,bx,et,e8=>ch.NV N (ch.LF N n) x8 x9 bx et e8
def ch.aaS(N:Nat)(YB:ch.xq)(x8:bB)(x9:Int)(bx:bK):Option (bB×bK×(Int)×(Int)):=
 YB x8 x9 bx ([]) (0:Int)
def ch.j22(N:Nat)(x8:bB)(x9:Int)(bx:bK):Option (bB×bK×(Int)×(Int)):=ch.aaS N (ch.LF N N) x8 x9 bx
def ch.DJ(N:Nat)(eP:ch.fx)(GY:ch.xr)(x3:gA)(x8:bB)(x9:Int)(bx:bK)(aW:bB)(a7:Int)(bU:Int)(dq:Int):Option (bB×bK×(Int)×(Int)):=
 cond (aZ dq (List.length x8:Int)) (cond (bb dq (List.length x8)) (cond (bb a7 (List.length aW)) (cond (aO ((List.getD x8 dq.toNat fm).1) ((List.getD aW a7.toNat fm).1)) (cond (bb dq (List.length x8)) (cond (bb dq (List.length x8)) (GY x3 (List.set x8 dq.toNat ((List.getD x8 dq.toNat fm).1,(((List.getD x8 dq.toNat fm).2).1,((((List.getD x8 dq.toNat fm).2).2).1,(((((List.getD x8 dq.toNat fm).2).2).2).1,((W .i64 (((((((List.getD x8 dq.toNat fm).2).2).2).2).1)-bU)),(((((List.getD x8 dq.toNat fm).2).2).2).2).2)))))) x9 bx aW a7 bU (W .i64 (dq+1))) (none)) (none)) (GY x3 x8 x9 bx aW a7 bU (W .i64 (dq+1)))) (none)) (none)) (eP x3 x8 x9 bx aW (W .i64 (a7+1)))
def ch.Hh(N:Nat)(eP:ch.fx):Nat→ch.xr
 |0,_,_,_,_,_,_,_,_=>none
 |n+1,x3,x8,x9,bx,aW,a7,bU,dq=>ch.DJ N eP (ch.Hh N eP n) x3 x8 x9 bx aW a7 bU dq
def ch.vd(N:Nat)(OA:ch.xr)(eP:ch.fx)(x3:gA)(x8:bB)(x9:Int)(bx:bK)(aW:bB)(a7:Int)(bU:Int)(cj:ta):Option (bB×bK×(Int)×(Int)):=
 cond (small (List.length bx+List.length ([cj]))) (OA x3 x8 (W .i64 (x9-bU)) (bx++([cj])) aW a7 bU (0:Int)) (none)
def ch.Bl(N:Nat)(eP:ch.fx)(x3:gA)(x8:bB)(x9:Int)(bx:bK)(aW:bB)(a7:Int)(bU:Int)(cj:ta):Option (bB×bK×(Int)×(Int)):=ch.vd N (ch.Hh N eP N) eP x3 x8 x9 bx aW a7 bU cj
def ch.B0(N:Nat)(vz:ch.GW)(eP:ch.fx)(x3:gA)(x8:bB)(x9:Int)(bx:bK)(aW:bB)(a7:Int):Option (bB×bK×(Int)×(Int)):=
 cond (bb a7 (List.length aW)) (cond (aO (((List.getD aW a7.toNat fm).2).1) x3.2.1) (eP x3 x8 x9 bx aW (W .i64 (a7+1))) (cond (bb a7 (List.length aW)) (let v14:Int:=mn x9 ((((((List.getD aW a7.toNat fm).2).2).2).2).1);cond (bb a7 (List.length aW)) (cond (bb a7 (List.length aW)) (cond (aO x3.2.2.2.1 2) (cond (bb a7 (List.length aW)) (vz x3 x8 x9 bx aW a7 v14 (((List.getD aW a7.toNat fm).2).1,(x3.2.1,(x3.2.2.1,(v14,(((((((List.getD aW a7.toNat fm).2).2).2).2).2).1,())))))) (none)) (vz x3 x8 x9 bx aW a7 v14 (x3.2.1,(((List.getD aW a7.toNat fm).2).1,(x3.2.2.1,(v14,(((((((List.getD aW a7.toNat fm).2).2).2).2).2).1,()))))))) (none)) (none)) (none))) (none)
def ch.HW(N:Nat)(eP:ch.fx)(x3:gA)(x8:bB)(x9:Int)(bx:bK)(aW:bB)(a7:Int):Option (bB×bK×(Int)×(Int)):=ch.B0 N (ch.Bl N eP) eP x3 x8 x9 bx aW a7
def ch.rj(N:Nat)(OB:ch.anq)(xt:ch.JL)(eP:ch.fx)(x3:gA)(x8:bB)(x9:Int)(bx:bK)(aW:bB)(a7:Int):Option (bB×bK×(Int)×(Int)):=
 cond (aZ a7 (List.length aW:Int)) (cond (aZ 0 x9) (cond (aO x3.2.2.2.1 1) (cond (bb a7 (List.length aW)) (cond (aZ x3.2.2.2.2.2.1 (((((((List.getD aW a7.toNat fm).2).2).2).2).2).1)) (OB x8 x9 bx) (cond (aO x3.2.2.2.1 2) (cond (bb a7 (List.length aW)) (cond (aZ (((((((List.getD aW a7.toNat fm).2).2).2).2).2).1) x3.2.2.2.2.2.1) (OB x8 x9 bx) (xt x3 x8 x9 bx aW a7)) (none)) (xt x3 x8 x9 bx aW a7))) (none)) (cond (aO x3.2.2.2.1 2) (cond (bb a7 (List.length aW)) (cond (aZ (((((((List.getD aW a7.toNat fm).2).2).2).2).2).1) x3.2.2.2.2.2.1) (OB x8 x9 bx) (xt x3 x8 x9 bx aW a7)) (none)) (xt x3 x8 x9 bx aW a7))) (OB x8 x9 bx)) (OB x8 x9 bx)
def ch.l7(N:Nat):Nat→ch.fx
 |0,_,_,_,_,_,_=>none
 |n+1,x3,x8,x9,bx,aW,a7=>ch.rj N (ch.j22 N) (ch.HW N (ch.l7 N n)) (ch.l7 N n) x3 x8 x9 bx aW a7
def ch.b(N:Nat)(vk:ch.fx)(a0:bB)(a1:gA):Option (bB×bK×(Int)×(Int)):=
 (mO N a0).bind λr1=>cond (!r1) (some ([],[],(0:Int),(1:Int))) ((Qt N a1).bind λr2=>cond (!r2) (some ([],[],(0:Int),(1:Int))) (cond (small (List.length dR+List.length a0)) ((dJ N a0 a1.2.2.1 (W .i64 ((3:Int)-a1.2.2.2.1))).bind λr5=>vk a1 (dR++a0) a1.2.2.2.2.1 ([]) r5 (0:Int)) (none)))
def ch(N:Nat)(a0:bB)(a1:gA):Option (bB×bK×(Int)×(Int)):=ch.b N (ch.l7 N N) a0 a1
def W9(N:Nat)(a0:ta):Option (Bool):=
 cond (dk 0 a0.1) (cond (dk a0.1 24) (cond (dk 0 a0.2.1) (cond (dk a0.2.1 24) (cond (!aO a0.1 a0.2.1) (cond (dk 0 a0.2.2.1) (cond (aZ a0.2.2.1 6) (cond (dk 1 a0.2.2.2.1) (cond (dk a0.2.2.2.1 1000000000) ((DB N a0.2.2.2.2.1).bind λr1=>some r1) (some false)) (some false)) (some false)) (some false)) (some false)) (some false)) (some false)) (some false)) (some false)
def KJ(N:Nat)(a0:Int):Option ((Int)×(Int)):=
 cond (aO a0 0) (some ((2:Int),(0:Int))) (some ((5:Int),a0))
def QH(N:Nat)(a0:ta)(a1:Int):Option (bE×(Int)):=
 (W9 N a0).bind λr1=>cond (!r1) (some ([],(1:Int))) ((DB N a1).bind λr2=>cond (!r2) (some ([],(1:Int))) ((iG N (W .i64 (a1-a0.2.2.2.2.1))).bind λr4=>(iG N a0.2.2.2.1).bind λr5=>(jL N r4 r5).bind λr6=>(R3 N r6).bind λr7=>cond (aO r7 0) (some ([],(0:Int))) ((KJ N a0.1).bind λr8=>(KJ N a0.2.1).bind λr9=>(TO N r6).bind λkD=>some ([(r8.1,(r8.2,(r6,()))),(r9.1,(r9.2,(kD,())))],(0:Int)))))
abbrev gC.xu:=bK→ae→an→an→au→bE→Int→Option (an×(Int))
abbrev gC.ca:=bK→ae→an→an→Int→Option (an×(Int))
def gC.zg(N:Nat)(Be:gC.xu)(x2:bK)(x3:ae)(x4:an)(x6:an)(x9:au)(bx:bE)(aW:Int):Option (an×(Int)):=
 cond (aZ aW (List.length x2:Int)) (cond (bb aW (List.length x2)) ((Kz N x4 ((List.getD x2 aW.toNat mL).1)).bind λr6=>cond (!r6) (some ((cn,(c9,(bH,(bH,(dB,(dR,())))))),(3:Int))) ((Kz N x4 (((List.getD x2 aW.toNat mL).2).1)).bind λr7=>cond (!r7) (some ((cn,(c9,(bH,(bH,(dB,(dR,())))))),(3:Int))) (cond (dk (List.length x3.1:Int) ((((List.getD x2 aW.toNat mL).2).2).1)) (some ((cn,(c9,(bH,(bH,(dB,(dR,())))))),(3:Int))) (let v8:Int:=W .i64 (0-(((((List.getD x2 aW.toNat mL).2).2).2).1));cond (small (List.length x9+List.length ([((List.getD x2 aW.toNat mL).1,((((List.getD x2 aW.toNat mL).2).2).1,(((((List.getD x2 aW.toNat mL).2).2).2).1,()))),(((List.getD x2 aW.toNat mL).2).1,((((List.getD x2 aW.toNat mL).2).2).1,(v8,())))]))) (cond (bb ((((List.getD x2 aW.toNat mL).2).2).1) (List.length x4.2.2.2.2.1)) ((QH N (List.getD x2 aW.toNat mL) (List.getD x4.2.2.2.2.1 ((((List.getD x2 aW.toNat mL).2).2).1).toNat (0:Int))).bind λkD=>cond (small (List.length bx+List.length kD.1)) (Be x2 x3 x4 x6 (x9++([((List.getD x2 aW.toNat mL).1,((((List.getD x2 aW.toNat mL).2).2).1,(((((List.getD x2 aW.toNat mL).2).2).2).1,()))),(((List.getD x2 aW.toNat mL).2).1,((((List.getD x2 aW.toNat mL).2).2).1,(v8,())))])) (bx++kD.1) (W .i64 (aW+1))) (none)) (none)) (none))))) (none)) ((yq N x4 x9 bx).bind λpV=>some (pV.1,pV.2))
def gC.BY(N:Nat):Nat→gC.xu
 |0,_,_,_,_,_,_,_=>none
 |n+1,x2,x3,x4,x6,x9,bx,aW=>gC.zg N (gC.BY N n) x2 x3 x4 x6 x9 bx aW
def gC.eK(N:Nat)(OC:gC.xu)(cJ:gC.ca)(x2:bK)(x3:ae)(x4:an)(x6:an)(x8:Int):Option (an×(Int)):=
 cond (aZ x8 (List.length x2:Int)) (cond (bb x8 (List.length x2)) ((W9 N (List.getD x2 x8.toNat mL)).bind λr3=>cond (!r3) (some ((cn,(c9,(bH,(bH,(dB,(dR,())))))),(1:Int))) (cJ x2 x3 x4 x6 (W .i64 (x8+1)))) (none)) (OC x2 x3 x4 x6 ([]) ([]) (0:Int))
def gC.l4(N:Nat):Nat→gC.ca
 |0,_,_,_,_,_=>none
 |n+1,x2,x3,x4,x6,x8=>gC.eK N (gC.BY N N) (gC.l4 N n) x2 x3 x4 x6 x8
def gC.b(N:Nat)(gd:gC.ca)(a0:ae)(a1:an)(a2:bK):Option (an×(Int)):=
 (gb N a0 a1).bind λr1=>cond (!r1) (some ((cn,(c9,(bH,(bH,(dB,(dR,())))))),(1:Int))) (cond (aZ 200 (List.length a2:Int)) (some ((cn,(c9,(bH,(bH,(dB,(dR,())))))),(1:Int))) (gd a2 a0 a1 (cn,(c9,(bH,(bH,(dB,(dR,())))))) (0:Int)))
def gC(N:Nat)(a0:ae)(a1:an)(a2:bK):Option (an×(Int)):=gC.b N (gC.l4 N N) a0 a1 a2
abbrev jl.JL:=ae→an→gA→an→bB→bK→Int→Option (an×bK×(Int)×(Int))
abbrev jl.Yq:=ae→an→gA→an→Option (an×bK×(Int)×(Int))
def jl.B0(N:Nat)(x3:ae)(x4:an)(x5:gA)(x6:an)(a7:bB)(bU:bK)(cj:Int):Option (an×bK×(Int)×(Int)):=
 (gC N x3 x4 bU).bind λr6=>cond (!aO r6.2 0) (some ((cn,(c9,(bH,(bH,(dB,(dR,())))))),Dj,(0:Int),r6.2)) (cond (aZ 0 cj) (cond (small (List.length a7+List.length ([(x5.1,(x5.2.1,(x5.2.2.1,(x5.2.2.2.1,(cj,x5.2.2.2.2.2)))))]))) (some ((r6.1.1,(r6.1.2.1,(r6.1.2.2.1,(r6.1.2.2.2.1,(r6.1.2.2.2.2.1,((a7++([(x5.1,(x5.2.1,(x5.2.2.1,(x5.2.2.2.1,(cj,x5.2.2.2.2.2)))))])),r6.1.2.2.2.2.2.2)))))),bU,cj,(0:Int))) (none)) (some ((r6.1.1,(r6.1.2.1,(r6.1.2.2.1,(r6.1.2.2.2.1,(r6.1.2.2.2.2.1,(a7,r6.1.2.2.2.2.2.2)))))),bU,cj,(0:Int))))
def jl.HW(N:Nat)(x3:ae)(x4:an)(x5:gA)(x6:an)(a7:bB)(bU:bK)(cj:Int):Option (an×bK×(Int)×(Int)):=jl.B0 N x3 x4 x5 x6 a7 bU cj
def jl.Vk(N:Nat)(xt:jl.JL)(x3:ae)(x4:an)(x5:gA)(x6:an):Option (an×bK×(Int)×(Int)):=
 (ch N x4.2.2.2.2.2.1 x5).bind λr4=>cond (aZ 0 r4.2.2.1) (cond (aO (List.length r4.1:Int) 32) (some ((cn,(c9,(bH,(bH,(dB,(dR,())))))),Dj,(0:Int),(5:Int))) (xt x3 x4 x5 x6 r4.1 r4.2.1 r4.2.2.1)) (xt x3 x4 x5 x6 r4.1 r4.2.1 r4.2.2.1)
def jl.j7(N:Nat)(x3:ae)(x4:an)(x5:gA)(x6:an):Option (an×bK×(Int)×(Int)):=jl.Vk N (jl.HW N) x3 x4 x5 x6
def jl.b(N:Nat)(H6:jl.Yq)(a0:ae)(a1:an)(a2:gA):Option (an×bK×(Int)×(Int)):=
 (Xp N a0 a1 a2).bind λr1=>cond (!aO r1 0) (some ((cn,(c9,(bH,(bH,(dB,(dR,())))))),Dj,(0:Int),r1)) (cond (aZ 0 (List.length a1.2.2.2.2.2.1:Int)) (let v2:Int:=W .i64 ((List.length a1.2.2.2.2.2.1:Int)-1);cond (bb v2 (List.length a1.2.2.2.2.2.1)) (cond (dk a2.1 ((List.getD a1.2.2.2.2.2.1 v2.toNat fm).1)) (some ((cn,(c9,(bH,(bH,(dB,(dR,())))))),Dj,(0:Int),(1:Int))) (H6 a0 a1 a2 (cn,(c9,(bH,(bH,(dB,(dR,())))))))) (none)) (H6 a0 a1 a2 (cn,(c9,(bH,(bH,(dB,(dR,()))))))))
def jl(N:Nat)(a0:ae)(a1:an)(a2:gA):Option (an×bK×(Int)×(Int)):=jl.b N (jl.j7 N) a0 a1 a2
abbrev nK.bN:=bB→Int→Int→bB→Int→Option (bB×(Int))
def nK.eg(N:Nat)(bP:nK.bN)(x0:bB)(x1:Int)(x2:Int)(x8:bB)(x9:Int):Option (bB×(Int)):=
 cond (aZ x9 (List.length x0:Int)) (cond (bb x9 (List.length x0)) (cond (!aO ((List.getD x0 x9.toNat fm).1) x2) (cond (bb x9 (List.length x0)) (cond (small (List.length x8+List.length ([List.getD x0 x9.toNat fm]))) (bP x0 x1 x2 (x8++([List.getD x0 x9.toNat fm])) (W .i64 (x9+1))) (none)) (none)) (cond (bb x9 (List.length x0)) (cond (!aO (((List.getD x0 x9.toNat fm).2).1) x1) (cond (bb x9 (List.length x0)) (cond (small (List.length x8+List.length ([List.getD x0 x9.toNat fm]))) (bP x0 x1 x2 (x8++([List.getD x0 x9.toNat fm])) (W .i64 (x9+1))) (none)) (none)) (bP x0 x1 x2 x8 (W .i64 (x9+1)))) (none))) (none)) (cond (aO (List.length x8:Int) (List.length x0:Int)) (some ([],(3:Int))) (some (x8,(0:Int))))
def nK.l5(N:Nat):Nat→nK.bN
 |0,_,_,_,_,_=>none
 |n+1,x0,x1,x2,x8,x9=>nK.eg N (nK.l5 N n) x0 x1 x2 x8 x9
def nK.b(N:Nat)(eY:nK.bN)(a0:bB)(a1:Int)(a2:Int):Option (bB×(Int)):=
 (mO N a0).bind λr1=>cond (!r1) (some ([],(1:Int))) (eY a0 a1 a2 ([]) (0:Int))
def nK(N:Nat)(a0:bB)(a1:Int)(a2:Int):Option (bB×(Int)):=nK.b N (nK.l5 N N) a0 a1 a2
abbrev nL.jF:=au→Int→bE→aH→Int→Option (bE×(Int))
def nL.uN(N:Nat)(kE:nL.jF)(x0:au)(x1:Int)(bx:bE)(aW:aH)(a7:Int):Option (bE×(Int)):=
 cond (aZ a7 (List.length x0:Int)) (cond (bb a7 (List.length x0)) (cond (!aO (((List.getD x0 a7.toNat bm).2).1) x1) (kE x0 x1 bx aW (W .i64 (a7+1))) ((R3 N aW).bind λr9=>cond (aO r9 0) (kE x0 x1 bx aW (W .i64 (a7+1))) (cond (bb a7 (List.length x0)) ((KJ N ((List.getD x0 a7.toNat bm).1)).bind λnY=>cond (bb a7 (List.length x0)) ((iG N ((((List.getD x0 a7.toNat bm).2).2).1)).bind λn6=>(jL N n6 aW).bind λpV=>cond (small (List.length bx+List.length ([(nY.1,(nY.2,(pV,())))]))) (kE x0 x1 (bx++([(nY.1,(nY.2,(pV,())))])) aW (W .i64 (a7+1))) (none)) (none)) (none)))) (none)) (some (bx,(0:Int)))
def nL.l6(N:Nat):Nat→nL.jF
 |0,_,_,_,_,_=>none
 |n+1,x0,x1,bx,aW,a7=>nL.uN N (nL.l6 N n) x0 x1 bx aW a7
def nL.b(N:Nat)(xm:nL.jF)(a0:au)(a1:Int)(a2:Int)(a3:Int):Option (bE×(Int)):=
 (zp N a0).bind λr1=>cond (!r1) (some ([],(1:Int))) ((DB N a2).bind λr2=>cond (!r2) (some ([],(1:Int))) ((DB N a3).bind λr3=>cond (!r3) (some ([],(1:Int))) ((iG N a3).bind λr4=>(iG N a2).bind λr5=>(Nj N r4 r5).bind λr6=>xm a0 a1 ([]) r6 (0:Int))))
def nL(N:Nat)(a0:au)(a1:Int)(a2:Int)(a3:Int):Option (bE×(Int)):=nL.b N (nL.l6 N N) a0 a1 a2 a3
def Ur(N:Nat)(a0:ae)(a1:an)(a2:Int)(a3:Int):Option (an×bE×(Int)):=
 (gb N a0 a1).bind λr1=>cond (!r1) (some ((cn,(c9,(bH,(bH,(dB,(dR,())))))),([]:List ((Int)×((Int)×(((Bool)×((List (Int))×(Unit)))×(Unit))))),(1:Int))) ((DB N a3).bind λr2=>cond (!r2) (some ((cn,(c9,(bH,(bH,(dB,(dR,())))))),([]:List ((Int)×((Int)×(((Bool)×((List (Int))×(Unit)))×(Unit))))),(1:Int))) (cond (aZ a2 0) (some ((cn,(c9,(bH,(bH,(dB,(dR,())))))),([]:List ((Int)×((Int)×(((Bool)×((List (Int))×(Unit)))×(Unit))))),(3:Int))) (cond (dk (List.length a0.1:Int) a2) (some ((cn,(c9,(bH,(bH,(dB,(dR,())))))),([]:List ((Int)×((Int)×(((Bool)×((List (Int))×(Unit)))×(Unit))))),(3:Int))) (cond (bb a2 (List.length a1.2.2.2.2.1)) ((nL N a1.2.2.2.1 a2 (List.getD a1.2.2.2.2.1 a2.toNat (0:Int)) a3).bind λr3=>(yq N a1 bH r3.1).bind λr4=>cond (!aO r4.2 0) (some ((cn,(c9,(bH,(bH,(dB,(dR,())))))),([]:List ((Int)×((Int)×(((Bool)×((List (Int))×(Unit)))×(Unit))))),r4.2)) (cond (small (List.length dB+List.length a1.2.2.2.2.1)) (let v5:List (Int):=dB++a1.2.2.2.2.1;cond (bb a2 (List.length v5)) (some ((r4.1.1,(r4.1.2.1,(r4.1.2.2.1,(r4.1.2.2.2.1,((List.set v5 a2.toNat a3),r4.1.2.2.2.2.2))))),r3.1,(0:Int))) (none)) (none))) (none)))))
abbrev qh.db:=aE→Int→Option (Bool)
def qh.gJ(N:Nat)(eG:qh.db)(x0:aE)(x3:Int):Option (Bool):=
 cond (aZ x3 (List.length x0:Int)) (cond (bb x3 (List.length x0)) (cond (aZ ((List.getD x0 x3.toNat cA).1) (1:Int)) (some false) (cond (bb x3 (List.length x0)) (cond (aZ 24 ((List.getD x0 x3.toNat cA).1)) (some false) (cond (bb x3 (List.length x0)) (cond (aO (((List.getD x0 x3.toNat cA).2).1) (0:Int)) (some false) (cond (aZ 0 x3) (cond (bb x3 (List.length x0)) (let v2:Int:=W .i64 (x3-1);cond (bb v2 (List.length x0)) (cond (dk ((List.getD x0 x3.toNat cA).1) ((List.getD x0 v2.toNat cA).1)) (some false) (eG x0 (W .i64 (x3+1)))) (none)) (none)) (eG x0 (W .i64 (x3+1))))) (none))) (none))) (none)) (some true)
def qh.l2(N:Nat):Nat→qh.db
 |0,_,_=>none
 |n+1,x0,x3=>qh.gJ N (qh.l2 N n) x0 x3
def qh.b(N:Nat)(jq:qh.db)(a0:aE):Option (Bool):=
 jq a0 (0:Int)
def qh(N:Nat)(a0:aE):Option (Bool):=qh.b N (qh.l2 N N) a0
abbrev eQ.xv:=aE→bE→aE→Int→aH→Int→Option (aE×(Int))
abbrev eQ.mz:=aE→bE→aE→Int→aH→Int→Option (aE×(Int))
abbrev eQ.bN:=aE→bE→aE→Int→Option (aE×(Int))
def eQ.F6(N:Nat)(bP:eQ.bN)(Dg:eQ.xv)(x0:aE)(x1:bE)(x6:aE)(x7:Int)(x8:aH)(bx:Int):Option (aE×(Int)):=
 cond (aZ bx (List.length x1:Int)) (cond (bb bx (List.length x1)) (cond (aO ((List.getD x1 bx.toNat ((0:Int),((0:Int),((false,py),())))).1) (5:Int)) (cond (bb bx (List.length x1)) (cond (aO (((List.getD x1 bx.toNat ((0:Int),((0:Int),((false,py),())))).2).1) x7) (cond (bb bx (List.length x1)) ((xJ N x8 ((((List.getD x1 bx.toNat ((0:Int),((0:Int),((false,py),())))).2).2).1)).bind λr8=>Dg x0 x1 x6 x7 r8 (W .i64 (bx+1))) (none)) (Dg x0 x1 x6 x7 x8 (W .i64 (bx+1)))) (none)) (Dg x0 x1 x6 x7 x8 (W .i64 (bx+1)))) (none)) ((wT N x8).bind λn6=>cond (!n6.2) (some ([],(2:Int))) (cond (!aO n6.1 0) (cond (small (List.length x6+List.length ([(x7,(n6.1,()))]))) (bP x0 x1 (x6++([(x7,(n6.1,()))])) (W .i64 (x7+1))) (none)) (bP x0 x1 x6 (W .i64 (x7+1)))))
def eQ.I5(N:Nat)(bP:eQ.bN):Nat→eQ.xv
 |0,_,_,_,_,_,_=>none
 |n+1,x0,x1,x6,x7,x8,bx=>eQ.F6 N bP (eQ.I5 N bP n) x0 x1 x6 x7 x8 bx
def eQ.xK(N:Nat)(OD:eQ.xv)(bP:eQ.bN)(rU:eQ.mz)(x0:aE)(x1:bE)(x6:aE)(x7:Int)(x8:aH)(x9:Int):Option (aE×(Int)):=
 cond (aZ x9 (List.length x0:Int)) (cond (bb x9 (List.length x0)) (cond (aO ((List.getD x0 x9.toNat cA).1) x7) (cond (bb x9 (List.length x0)) ((iG N (((List.getD x0 x9.toNat cA).2).1)).bind λr4=>rU x0 x1 x6 x7 r4 (W .i64 (x9+1))) (none)) (rU x0 x1 x6 x7 x8 (W .i64 (x9+1)))) (none)) (OD x0 x1 x6 x7 x8 (0:Int))
def eQ.l9(N:Nat)(bP:eQ.bN):Nat→eQ.mz
 |0,_,_,_,_,_,_=>none
 |n+1,x0,x1,x6,x7,x8,x9=>eQ.xK N (eQ.I5 N bP N) bP (eQ.l9 N bP n) x0 x1 x6 x7 x8 x9
def eQ.eg(N:Nat)(zk:eQ.mz)(bP:eQ.bN)(x0:aE)(x1:bE)(x6:aE)(x7:Int):Option (aE×(Int)):=
 cond (dk x7 24) (zk x0 x1 x6 x7 (false,py) (0:Int)) (some (x6,(0:Int)))
def eQ.l5(N:Nat):Nat→eQ.bN
 |0,_,_,_,_=>none
 |n+1,x0,x1,x6,x7=>eQ.eg N (eQ.l9 N (eQ.l5 N n) N) (eQ.l5 N n) x0 x1 x6 x7
def eQ.b(N:Nat)(eY:eQ.bN)(a0:aE)(a1:bE):Option (aE×(Int)):=
 (qh N a0).bind λr1=>cond (!r1) (some ([],(1:Int))) (eY a0 a1 ([]) (1:Int))
def eQ(N:Nat)(a0:aE)(a1:bE):Option (aE×(Int)):=eQ.b N (eQ.l5 N N) a0 a1
def UE(N:Nat)(a0:aQ)(a1:Int):Option ((Int)×(Bool)):=
 (iG N a0.1).bind λr1=>(iG N a1).bind λr2=>(xJ N r1 r2).bind λr3=>(wT N r3).bind λr4=>some (r4.1,r4.2)
def Uo(N:Nat)(a0:Int)(a1:Int):Option ((Int)×(Bool)):=
 cond (aO a0 0) (cond (aO a1 1) (some ((1:Int),true)) (cond (aO a0 1) (cond (aO a1 11) (some ((2:Int),true)) (cond (aO a0 2) (cond (aO a1 12) (some ((1:Int),true)) (cond (aO a0 2) (cond (aO a1 13) (some ((3:Int),true)) (cond (aO a0 3) (cond (aO a1 21) (some ((4:Int),true)) (some ((0:Int),false))) (some ((0:Int),false)))) (cond (aO a0 3) (cond (aO a1 21) (some ((4:Int),true)) (some ((0:Int),false))) (some ((0:Int),false))))) (cond (aO a0 2) (cond (aO a1 13) (some ((3:Int),true)) (cond (aO a0 3) (cond (aO a1 21) (some ((4:Int),true)) (some ((0:Int),false))) (some ((0:Int),false)))) (cond (aO a0 3) (cond (aO a1 21) (some ((4:Int),true)) (some ((0:Int),false))) (some ((0:Int),false)))))) (cond (aO a0 2) (cond (aO a1 12) (some ((1:Int),true)) (cond (aO a0 2) (cond (aO a1 13) (some ((3:Int),true)) (cond (aO a0 3) (cond (aO a1 21) (some ((4:Int),true)) (some ((0:Int),false))) (some ((0:Int),false)))) (cond (aO a0 3) (cond (aO a1 21) (some ((4:Int),true)) (some ((0:Int),false))) (some ((0:Int),false))))) (cond (aO a0 2) (cond (aO a1 13) (some ((3:Int),true)) (cond (aO a0 3) (cond (aO a1 21) (some ((4:Int),true)) (some ((0:Int),false))) (some ((0:Int),false)))) (cond (aO a0 3) (cond (aO a1 21) (some ((4:Int),true)) (some ((0:Int),false))) (some ((0:Int),false))))))) (cond (aO a0 1) (cond (aO a1 11) (some ((2:Int),true)) (cond (aO a0 2) (cond (aO a1 12) (some ((1:Int),true)) (cond (aO a0 2) (cond (aO a1 13) (some ((3:Int),true)) (cond (aO a0 3) (cond (aO a1 21) (some ((4:Int),true)) (some ((0:Int),false))) (some ((0:Int),false)))) (cond (aO a0 3) (cond (aO a1 21) (some ((4:Int),true)) (some ((0:Int),false))) (some ((0:Int),false))))) (cond (aO a0 2) (cond (aO a1 13) (some ((3:Int),true)) (cond (aO a0 3) (cond (aO a1 21) (some ((4:Int),true)) (some ((0:Int),false))) (some ((0:Int),false)))) (cond (aO a0 3) (cond (aO a1 21) (some ((4:Int),true)) (some ((0:Int),false))) (some ((0:Int),false)))))) (cond (aO a0 2) (cond (aO a1 12) (some ((1:Int),true)) (cond (aO a0 2) (cond (aO a1 13) (some ((3:Int),true)) (cond (aO a0 3) (cond (aO a1 21) (some ((4:Int),true)) (some ((0:Int),false))) (some ((0:Int),false)))) (cond (aO a0 3) (cond (aO a1 21) (some ((4:Int),true)) (some ((0:Int),false))) (some ((0:Int),false))))) (cond (aO a0 2) (cond (aO a1 13) (some ((3:Int),true)) (cond (aO a0 3) (cond (aO a1 21) (some ((4:Int),true)) (some ((0:Int),false))) (some ((0:Int),false)))) (cond (aO a0 3) (cond (aO a1 21) (some ((4:Int),true)) (some ((0:Int),false))) (some ((0:Int),false))))))
abbrev lL.xu:=Int→Int→aE→Int→Option (aE×(Int))
def lL.zg(N:Nat)(Be:lL.xu)(x1:Int)(x9:Int)(aW:aE)(a7:Int):Option (aE×(Int)):=
 cond (aZ a7 (List.length aW:Int)) (cond (bb a7 (List.length aW)) (cond (aO ((List.getD aW a7.toNat cA).1) x1) (cond (bb a7 (List.length aW)) (Be x1 x9 (List.set aW a7.toNat ((List.getD aW a7.toNat cA).1,(x9,((List.getD aW a7.toNat cA).2).2))) (W .i64 (a7+1))) (none)) (Be x1 x9 aW (W .i64 (a7+1)))) (none)) (some (aW,(0:Int)))
def lL.BY(N:Nat):Nat→lL.xu
 |0,_,_,_,_=>none
 |n+1,x1,x9,aW,a7=>lL.zg N (lL.BY N n) x1 x9 aW a7
def lL.b(N:Nat)(OC:lL.xu)(a0:aE)(a1:Int)(a2:Int):Option (aE×(Int)):=
 (Bi N a0).bind λr1=>cond (!r1) (some ([],(1:Int))) ((zq N a0 a1).bind λr2=>cond (aO r2 0) (some ([],(3:Int))) ((Uo N r2 a2).bind λr3=>cond (!r3.2) (some ([],(8:Int))) (cond (small (List.length cn+List.length a0)) (OC a1 r3.1 (cn++a0) (0:Int)) (none))))
def lL(N:Nat)(a0:aE)(a1:Int)(a2:Int):Option (aE×(Int)):=lL.b N (lL.BY N N) a0 a1 a2
abbrev rF.bN:=aL→Int→(List (Int))→Int→Option (List (Int))
def rF.eg(N:Nat)(bP:rF.bN)(x0:aL)(x1:Int)(x5:List (Int))(x6:Int):Option (List (Int)):=
 cond (aZ x6 (List.length x0:Int)) (cond (bb x6 (List.length x0)) (cond (aO (((List.getD x0 x6.toNat aV).2).1) x1) (cond (bb x6 (List.length x0)) (cond (small (List.length x5+List.length ([(List.getD x0 x6.toNat aV).1]))) (bP x0 x1 (x5++([(List.getD x0 x6.toNat aV).1])) (W .i64 (x6+1))) (none)) (none)) (bP x0 x1 x5 (W .i64 (x6+1)))) (none)) (some x5)
def rF.l5(N:Nat):Nat→rF.bN
 |0,_,_,_,_=>none
 |n+1,x0,x1,x5,x6=>rF.eg N (rF.l5 N n) x0 x1 x5 x6
def rF.b(N:Nat)(eY:rF.bN)(a0:aL)(a1:Int):Option (List (Int)):=
 (eE N a0).bind λr1=>cond (!r1) (some ([])) (eY a0 a1 ([]) (0:Int))
def rF(N:Nat)(a0:aL)(a1:Int):Option (List (Int)):=rF.b N (rF.l5 N N) a0 a1
abbrev fV.mz:=bB→(List (Int))→bB→Int→Bool→Int→Option bB
abbrev fV.bN:=bB→(List (Int))→bB→Int→Option bB
def fV.xK(N:Nat)(bP:fV.bN)(rU:fV.mz)(x0:bB)(x1:List (Int))(x5:bB)(x6:Int)(x7:Bool)(x8:Int):Option bB:=
 cond (aZ x8 (List.length x1:Int)) (cond (x7) (rU x0 x1 x5 x6 true (W .i64 (x8+1))) (cond (bb x8 (List.length x1)) (cond (bb x6 (List.length x0)) (rU x0 x1 x5 x6 (aO (List.getD x1 x8.toNat (0:Int)) (((List.getD x0 x6.toNat fm).2).1)) (W .i64 (x8+1))) (none)) (none))) (cond (!x7) (cond (bb x6 (List.length x0)) (cond (small (List.length x5+List.length ([List.getD x0 x6.toNat fm]))) (bP x0 x1 (x5++([List.getD x0 x6.toNat fm])) (W .i64 (x6+1))) (none)) (none)) (bP x0 x1 x5 (W .i64 (x6+1))))
def fV.l9(N:Nat)(bP:fV.bN):Nat→fV.mz
 |0,_,_,_,_,_,_=>none
 |n+1,x0,x1,x5,x6,x7,x8=>fV.xK N bP (fV.l9 N bP n) x0 x1 x5 x6 x7 x8
def fV.eg(N:Nat)(zk:fV.mz)(bP:fV.bN)(x0:bB)(x1:List (Int))(x5:bB)(x6:Int):Option bB:=
 cond (aZ x6 (List.length x0:Int)) (zk x0 x1 x5 x6 false (0:Int)) (some x5)
def fV.l5(N:Nat):Nat→fV.bN
 |0,_,_,_,_=>none
 |n+1,x0,x1,x5,x6=>fV.eg N (fV.l9 N (fV.l5 N n) N) (fV.l5 N n) x0 x1 x5 x6
def fV.b(N:Nat)(eY:fV.bN)(a0:bB)(a1:List (Int)):Option bB:=
 (mO N a0).bind λr1=>cond (!r1) (some ([])) (eY a0 a1 ([]) (0:Int))
def fV(N:Nat)(a0:bB)(a1:List (Int)):Option bB:=fV.b N (fV.l5 N N) a0 a1
def KY(N:Nat)(a0:ae)(a1:an)(a2:Int):Option (an×(Int)):=
 (gb N a0 a1).bind λr1=>cond (!r1) (some ((cn,(c9,(bH,(bH,(dB,(dR,())))))),(1:Int))) ((R9 N a1.1 a2).bind λr2=>cond (aO r2 0) (some ((cn,(c9,(bH,(bH,(dB,(dR,())))))),(3:Int))) ((rF N a1.2.1 a2).bind λr3=>(fV N a1.2.2.2.2.2.1 r3).bind λr4=>some ((a1.1,(a1.2.1,(a1.2.2.1,(a1.2.2.2.1,(a1.2.2.2.2.1,(r4,a1.2.2.2.2.2.2)))))),(0:Int))))
def WK(N:Nat)(a0:bM):Option (Bool):=
 cond (dk 1 a0.1) (cond (dk a0.1 1099511627776) (cond (dk 1 a0.2.1) (cond (dk a0.2.1 1099511627776) (cond (dk 1 a0.2.2.1) (cond (dk a0.2.2.1 12) (cond (dk (-1152921504606846976) a0.2.2.2.1) (some (dk a0.2.2.2.1 1152921504606846976)) (some false)) (some false)) (some false)) (some false)) (some false)) (some false)) (some false)
abbrev eH.mz:=aL→Int→Int→Option (Bool)
abbrev eH.Yv:=aL→Int→Option (Bool)
abbrev eH.ca:=aL→Int→Option (Bool)
def eH.xK(N:Nat)(cJ:eH.ca)(rU:eH.mz)(x0:aL)(x3:Int)(x4:Int):Option (Bool):=
 cond (aZ x4 x3) (cond (bb x4 (List.length x0)) (cond (bb x3 (List.length x0)) (cond (aO ((((List.getD x0 x4.toNat aV).2).2).1) ((((List.getD x0 x3.toNat aV).2).2).1)) (cond (bb x4 (List.length x0)) (cond (bb x3 (List.length x0)) (cond (aO (((List.getD x0 x4.toNat aV).2).1) (((List.getD x0 x3.toNat aV).2).1)) (some false) (rU x0 x3 (W .i64 (x4+1)))) (none)) (none)) (rU x0 x3 (W .i64 (x4+1)))) (none)) (none)) (cJ x0 (W .i64 (x3+1)))
def eH.l9(N:Nat)(cJ:eH.ca):Nat→eH.mz
 |0,_,_,_=>none
 |n+1,x0,x3,x4=>eH.xK N cJ (eH.l9 N cJ n) x0 x3 x4
def eH.W1(N:Nat)(zk:eH.mz)(cJ:eH.ca)(x0:aL)(x3:Int):Option (Bool):=
 zk x0 x3 (0:Int)
def eH.j8(N:Nat)(cJ:eH.ca)(x0:aL)(x3:Int):Option (Bool):=eH.W1 N (eH.l9 N cJ N) cJ x0 x3
def eH.eK(N:Nat)(Ox:eH.Yv)(cJ:eH.ca)(x0:aL)(x3:Int):Option (Bool):=
 cond (aZ x3 (List.length x0:Int)) (cond (bb x3 (List.length x0)) ((WK N (List.getD x0 x3.toNat aV)).bind λr2=>cond (!r2) (some false) (cond (aZ 0 x3) (cond (bb x3 (List.length x0)) (let v3:Int:=W .i64 (x3-1);cond (bb v3 (List.length x0)) (cond (dk ((List.getD x0 x3.toNat aV).1) ((List.getD x0 v3.toNat aV).1)) (some false) (Ox x0 x3)) (none)) (none)) (Ox x0 x3))) (none)) (some true)
def eH.l4(N:Nat):Nat→eH.ca
 |0,_,_=>none
 |n+1,x0,x3=>eH.eK N (eH.j8 N (eH.l4 N n)) (eH.l4 N n) x0 x3
def eH.b(N:Nat)(gd:eH.ca)(a0:aL):Option (Bool):=
 cond (aZ 40 (List.length a0:Int)) (some false) (gd a0 (0:Int))
def eH(N:Nat)(a0:aL):Option (Bool):=eH.b N (eH.l4 N N) a0
abbrev pn.bN:=aL→Int→aL→Int→Option aL
def pn.eg(N:Nat)(bP:pn.bN)(x0:aL)(x1:Int)(x5:aL)(x6:Int):Option aL:=
 cond (aZ x6 (List.length x0:Int)) (cond (bb x6 (List.length x0)) (cond (!aO ((((List.getD x0 x6.toNat aV).2).2).1) x1) (cond (bb x6 (List.length x0)) (cond (small (List.length x5+List.length ([List.getD x0 x6.toNat aV]))) (bP x0 x1 (x5++([List.getD x0 x6.toNat aV])) (W .i64 (x6+1))) (none)) (none)) (bP x0 x1 x5 (W .i64 (x6+1)))) (none)) (some x5)
def pn.l5(N:Nat):Nat→pn.bN
 |0,_,_,_,_=>none
 |n+1,x0,x1,x5,x6=>pn.eg N (pn.l5 N n) x0 x1 x5 x6
def pn.b(N:Nat)(eY:pn.bN)(a0:aL)(a1:Int):Option aL:=
 (eH N a0).bind λr1=>cond (!r1) (some ([])) (eY a0 a1 ([]) (0:Int))
def pn(N:Nat)(a0:aL)(a1:Int):Option aL:=pn.b N (pn.l5 N N) a0 a1
def aa3(N:Nat)(a0:aQ)(a1:Int):Option (Bool):=
 cond (aO a1 14) (cond (aO a0.2.2.2.1.2.1 1) (some (aZ a0.1 a0.2.2.2.1.2.2.1)) (some false)) (cond (aO a1 15) (cond (aO a0.2.2.2.1.2.1 1) (some (dk a0.2.2.2.1.2.2.1 a0.1)) (some false)) (cond (aO a1 19) (cond (aO a0.2.2.2.1.2.1 3) (some (aZ a0.1 a0.2.2.2.1.2.2.1)) (some false)) (cond (aO a1 20) (cond (aO a0.2.2.2.1.2.1 3) (some (dk a0.2.2.2.1.2.2.1 a0.1)) (some false)) (some (aO a0.2.2.2.1.2.1 2)))))
def HX(N:Nat)(a0:an)(a1:Int):Option (Int):=
 (R9 N a0.1 a1).bind λr1=>some r1
abbrev lI.bN:=aE→Bool→ae→aH→aH→Int→Option (aH×(Int))
def lI.eg(N:Nat)(bP:lI.bN)(x1:aE)(x2:Bool)(x3:ae)(x6:aH)(x8:aH)(x9:Int):Option (aH×(Int)):=
 cond (aZ x9 (List.length x1:Int)) (cond (bb x9 (List.length x1)) (cond (bb ((List.getD x1 x9.toNat cA).1) (List.length x3.1)) (cond (x2) (cond (bb x9 (List.length x1)) (cond (bb ((List.getD x1 x9.toNat cA).1) (List.length x3.1)) (cond (bb x9 (List.length x1)) ((iG N (((List.getD x1 x9.toNat cA).2).1)).bind λr3=>(Vj N r3).bind λr4=>(iG N (((((List.getD x3.1 ((List.getD x1 x9.toNat cA).1).toNat aV).2).2).2).1)).bind λr5=>(jL N r4 r5).bind λr6=>(xJ N x8 r6).bind λr7=>bP x1 x2 x3 x6 r7 (W .i64 (x9+1))) (none)) (none)) (none)) (cond (bb x9 (List.length x1)) ((iG N (((List.getD x1 x9.toNat cA).2).1)).bind λr9=>(Vj N r9).bind λkD=>(iG N ((((List.getD x3.1 ((List.getD x1 x9.toNat cA).1).toNat aV).2).2).1)).bind λnY=>(jL N kD nY).bind λn6=>(xJ N x8 n6).bind λpV=>bP x1 x2 x3 x6 pV (W .i64 (x9+1))) (none))) (none)) (none)) (some (x8,(0:Int)))
def lI.l5(N:Nat):Nat→lI.bN
 |0,_,_,_,_,_,_=>none
 |n+1,x1,x2,x3,x6,x8,x9=>lI.eg N (lI.l5 N n) x1 x2 x3 x6 x8 x9
def lI.b(N:Nat)(eY:lI.bN)(a0:ae)(a1:aE)(a2:Bool):Option (aH×(Int)):=
 (nv N a0 a1).bind λr1=>cond (!r1) (some ((false,py),(1:Int))) (eY a1 a2 a0 (false,py) (false,py) (0:Int))
def lI(N:Nat)(a0:ae)(a1:aE)(a2:Bool):Option (aH×(Int)):=lI.b N (lI.l5 N N) a0 a1 a2
def ah8(N:Nat)(a0:ae)(a1:aE):Option (aH×(Int)):=
 (lI N a0 a1 false).bind λr1=>some (r1.1,r1.2)
def HQ(N:Nat)(a0:an)(a1:Int):Option (Int):=
 (s9 N a0.2.2.1 (5:Int) a1).bind λr1=>some r1
def aaT(N:Nat)(a0:ae)(a1:an)(a2:Int)(a3:Int)(a4:Int):Option (Int):=
 (gb N a0 a1).bind λr1=>cond (!r1) (some (1:Int)) ((Vm N a1.2.1 a4).bind λr2=>cond (!r2.2) (some (3:Int)) ((HX N a1 a2).bind λr3=>cond (aO r3 0) (some (3:Int)) ((HX N a1 a3).bind λr4=>cond (aO r4 0) (some (3:Int)) (cond (!aO r2.1.2.1 a2) (some (8:Int)) (cond (!aO r2.1.2.2.1 2) (some (8:Int)) ((HX N a1 a3).bind λr5=>cond (!aO r5 1) (some (7:Int)) ((lH N a1.2.2.2.1 a4).bind λr6=>(ah8 N a0 r6).bind λr7=>(HQ N a1 a4).bind λr8=>(iG N r8).bind λr9=>(Kt N r9 r7.1).bind λkD=>cond (aZ kD 0) (some (10:Int)) (some (0:Int)))))))))
abbrev nJ.ga:=Int→Int→aL→Int→Option (aL×(Int))
def nJ.mR(N:Nat)(gP:nJ.ga)(x2:Int)(x3:Int)(bU:aL)(cj:Int):Option (aL×(Int)):=
 cond (aZ cj (List.length bU:Int)) (cond (bb cj (List.length bU)) (cond (aO ((List.getD bU cj.toNat aV).1) x2) (cond (bb cj (List.length bU)) (gP x2 x3 (List.set bU cj.toNat ((List.getD bU cj.toNat aV).1,(x3,((List.getD bU cj.toNat aV).2).2))) (W .i64 (cj+1))) (none)) (gP x2 x3 bU (W .i64 (cj+1)))) (none)) (some (bU,(0:Int)))
def nJ.nW(N:Nat):Nat→nJ.ga
 |0,_,_,_,_=>none
 |n+1,x2,x3,bU,cj=>nJ.mR N (nJ.nW N n) x2 x3 bU cj
def nJ.b(N:Nat)(ue:nJ.ga)(a0:aE)(a1:aL)(a2:Int)(a3:Int):Option (aL×(Int)):=
 (ou N a0 a1).bind λr1=>cond (!r1) (some ([],(1:Int))) ((nU N a1 a2).bind λr2=>(zq N a0 a3).bind λr3=>cond (!r2.2) (some ([],(3:Int))) (cond (aO r3 0) (some ([],(3:Int))) (cond (!aO r2.1.2.2.1 2) (some ([],(8:Int))) (cond (!aO r3 1) (some ([],(7:Int))) (cond (small (List.length c9+List.length a1)) (ue a2 a3 (c9++a1) (0:Int)) (none))))))
def nJ(N:Nat)(a0:aE)(a1:aL)(a2:Int)(a3:Int):Option (aL×(Int)):=nJ.b N (nJ.nW N N) a0 a1 a2 a3
def Ut(N:Nat)(a0:ae)(a1:an)(a2:Int)(a3:Int)(a4:Int):Option (an×(Int)):=
 (aaT N a0 a1 a2 a3 a4).bind λr1=>cond (!aO r1 0) (some ((cn,(c9,(bH,(bH,(dB,(dR,())))))),r1)) ((nJ N a1.1 a1.2.1 a4 a3).bind λr2=>cond (!aO r2.2 0) (some ((cn,(c9,(bH,(bH,(dB,(dR,())))))),r2.2)) (some ((a1.1,(r2.1,a1.2.2)),(0:Int))))
def QE(N:Nat)(a0:ae)(a1:aE):Option (aH×(Int)):=
 (lI N a0 a1 true).bind λr1=>some (r1.1,r1.2)
def F60(N:Nat)(a0:ae)(a1:an)(a2:Int):Option ((Int)×(Int)):=
 (gb N a0 a1).bind λr1=>cond (!r1) (some ((0:Int),(1:Int))) ((Vm N a1.2.1 a2).bind λr2=>cond (!r2.2) (some ((0:Int),(3:Int))) ((lH N a1.2.2.2.1 a2).bind λr3=>(QE N a0 r3).bind λr4=>(HQ N a1 a2).bind λr5=>cond (dk r5 0) (some ((0:Int),(0:Int))) ((wT N r4.1).bind λr6=>cond (r6.2) (cond (aZ r6.1 r5) (some (r6.1,(0:Int))) (some (r5,(0:Int)))) (some (r5,(0:Int))))))
abbrev iX.bN:=au→Int→Int→au→Int→Option au
def iX.eg(N:Nat)(bP:iX.bN)(x0:au)(x1:Int)(x2:Int)(x7:au)(x8:Int):Option au:=
 cond (aZ x8 (List.length x0:Int)) (cond (bb x8 (List.length x0)) (cond (aO ((List.getD x0 x8.toNat bm).1) x1) (cond (bb x8 (List.length x0)) (cond (bb x8 (List.length x0)) (let v3:Int:=W .i64 (0-((((List.getD x0 x8.toNat bm).2).2).1));cond (bb x8 (List.length x0)) (cond (bb x8 (List.length x0)) (cond (small (List.length x7+List.length ([(x1,(((List.getD x0 x8.toNat bm).2).1,(v3,()))),(x2,(((List.getD x0 x8.toNat bm).2).1,((((List.getD x0 x8.toNat bm).2).2).1,())))]))) (bP x0 x1 x2 (x7++([(x1,(((List.getD x0 x8.toNat bm).2).1,(v3,()))),(x2,(((List.getD x0 x8.toNat bm).2).1,((((List.getD x0 x8.toNat bm).2).2).1,())))])) (W .i64 (x8+1))) (none)) (none)) (none)) (none)) (none)) (bP x0 x1 x2 x7 (W .i64 (x8+1)))) (none)) (some x7)
def iX.l5(N:Nat):Nat→iX.bN
 |0,_,_,_,_,_=>none
 |n+1,x0,x1,x2,x7,x8=>iX.eg N (iX.l5 N n) x0 x1 x2 x7 x8
def iX.b(N:Nat)(eY:iX.bN)(a0:au)(a1:Int)(a2:Int):Option au:=
 (zp N a0).bind λr1=>cond (!r1) (some ([])) (cond (aO a1 a2) (some ([])) (cond (aZ a1 0) (some ([])) (cond (aZ 24 a1) (some ([])) (cond (aZ a2 0) (some ([])) (cond (aZ 24 a2) (some ([])) (eY a0 a1 a2 ([]) (0:Int)))))))
def iX(N:Nat)(a0:au)(a1:Int)(a2:Int):Option au:=iX.b N (iX.l5 N N) a0 a1 a2
abbrev mW.GW:=Int→ae→an→an→au→bE→Int→bM→Option (an×(Int))
abbrev mW.gT:=Int→ae→an→an→au→bE→Int→Option (an×(Int))
def mW.vd(N:Nat)(e9:mW.gT)(x2:Int)(x3:ae)(x4:an)(x6:an)(x8:au)(x9:bE)(bx:Int)(aW:bM):Option (an×(Int)):=
 (HQ N x4 aW.1).bind λkD=>cond (aZ kD 0) ((iG N kD).bind λnY=>(TO N nY).bind λn6=>(yr N (2:Int) (0:Int) (5:Int) aW.1 n6).bind λpV=>cond (small (List.length x9+List.length pV)) ((iX N x4.2.2.2.1 aW.1 (0:Int)).bind λxj=>cond (small (List.length x8+List.length xj)) (e9 x2 x3 x4 x6 (x8++xj) (x9++pV) (W .i64 (bx+1))) (none)) (none)) ((iX N x4.2.2.2.1 aW.1 (0:Int)).bind λuj=>cond (small (List.length x8+List.length uj)) (e9 x2 x3 x4 x6 (x8++uj) x9 (W .i64 (bx+1))) (none))
def mW.Bl(N:Nat)(e9:mW.gT)(x2:Int)(x3:ae)(x4:an)(x6:an)(x8:au)(x9:bE)(bx:Int)(aW:bM):Option (an×(Int)):=mW.vd N e9 x2 x3 x4 x6 x8 x9 bx aW
def mW.yn(N:Nat)(vz:mW.GW)(e9:mW.gT)(x2:Int)(x3:ae)(x4:an)(x6:an)(x8:au)(x9:bE)(bx:Int):Option (an×(Int)):=
 cond (aZ bx (List.length x4.2.1:Int)) (cond (bb bx (List.length x4.2.1)) (cond (!aO (((List.getD x4.2.1 bx.toNat aV).2).1) x2) (e9 x2 x3 x4 x6 x8 x9 (W .i64 (bx+1))) (cond (aO ((((List.getD x4.2.1 bx.toNat aV).2).2).1) (2:Int)) ((F60 N x3 x4 ((List.getD x4.2.1 bx.toNat aV).1)).bind λr5=>(iG N r5.1).bind λr6=>(yr N (5:Int) ((List.getD x4.2.1 bx.toNat aV).1) (2:Int) (0:Int) r6).bind λr7=>cond (small (List.length x9+List.length r7)) (vz x2 x3 x4 x6 x8 (x9++r7) bx (List.getD x4.2.1 bx.toNat aV)) (none)) (vz x2 x3 x4 x6 x8 x9 bx (List.getD x4.2.1 bx.toNat aV)))) (none)) ((yq N x4 x8 x9).bind λDc=>some (Dc.1,Dc.2))
def mW.l8(N:Nat):Nat→mW.gT
 |0,_,_,_,_,_,_,_=>none
 |n+1,x2,x3,x4,x6,x8,x9,bx=>mW.yn N (mW.Bl N (mW.l8 N n)) (mW.l8 N n) x2 x3 x4 x6 x8 x9 bx
def mW.b(N:Nat)(Cc:mW.gT)(a0:ae)(a1:an)(a2:Int):Option (an×(Int)):=
 (gb N a0 a1).bind λr1=>cond (!r1) (some ((cn,(c9,(bH,(bH,(dB,(dR,())))))),(1:Int))) ((HX N a1 a2).bind λr2=>cond (aO r2 0) (some ((cn,(c9,(bH,(bH,(dB,(dR,())))))),(3:Int))) (Cc a2 a0 a1 (cn,(c9,(bH,(bH,(dB,(dR,())))))) ([]) ([]) (0:Int)))
def mW(N:Nat)(a0:ae)(a1:an)(a2:Int):Option (an×(Int)):=mW.b N (mW.l8 N N) a0 a1 a2
abbrev rD.bN:=ae→an→pk→Int→Option (pk×(Int))
def rD.eg(N:Nat)(bP:rD.bN)(x2:ae)(x3:an)(x6:pk)(x7:Int):Option (pk×(Int)):=
 cond (aZ x7 (List.length x2.1:Int)) (cond (bb x7 (List.length x2.1)) (cond (bb ((List.getD x2.1 x7.toNat aV).1) (List.length x6)) ((Bk N x3.2.2.2.1 (0:Int) x7).bind λr4=>(iG N r4).bind λr5=>cond (bb x7 (List.length x3.2.2.2.2.1)) ((iG N (List.getD x3.2.2.2.2.1 x7.toNat (0:Int))).bind λr6=>(jL N r5 r6).bind λr7=>(xJ N (List.getD x6 ((List.getD x2.1 x7.toNat aV).1).toNat (false,py)) r7).bind λr8=>cond (bb ((List.getD x2.1 x7.toNat aV).1) (List.length x6)) (bP x2 x3 (List.set x6 ((List.getD x2.1 x7.toNat aV).1).toNat r8) (W .i64 (x7+1))) (none)) (none)) (none)) (none)) (some (x6,(0:Int)))
def rD.l5(N:Nat):Nat→rD.bN
 |0,_,_,_,_=>none
 |n+1,x2,x3,x6,x7=>rD.eg N (rD.l5 N n) x2 x3 x6 x7
def rD.b(N:Nat)(eY:rD.bN)(a0:ae)(a1:an):Option (pk×(Int)):=
 (gb N a0 a1).bind λr1=>cond (!r1) (some ([],(1:Int))) (cond (jZ 4 4) (eY a0 a1 (List.replicate (4:Int).toNat (false,py)) (0:Int)) (none))
def rD(N:Nat)(a0:ae)(a1:an):Option (pk×(Int)):=rD.b N (rD.l5 N N) a0 a1
abbrev pe.bN:=Int→ae→(List (Int))→Int→Option (List (Int))
def pe.eg(N:Nat)(bP:pe.bN)(x1:Int)(x2:ae)(x5:List (Int))(x6:Int):Option (List (Int)):=
 cond (aZ x6 (List.length x2.1:Int)) (cond (bb x6 (List.length x2.1)) (cond (aO ((List.getD x2.1 x6.toNat aV).1) x1) (cond (small (List.length x5+List.length ([x6]))) (bP x1 x2 (x5++([x6])) (W .i64 (x6+1))) (none)) (bP x1 x2 x5 (W .i64 (x6+1)))) (none)) (some x5)
def pe.l5(N:Nat):Nat→pe.bN
 |0,_,_,_,_=>none
 |n+1,x1,x2,x5,x6=>pe.eg N (pe.l5 N n) x1 x2 x5 x6
def pe.b(N:Nat)(eY:pe.bN)(a0:ae)(a1:Int):Option (List (Int)):=
 (mh N a0).bind λr1=>cond (!r1) (some ([])) (eY a1 a0 ([]) (0:Int))
def pe(N:Nat)(a0:ae)(a1:Int):Option (List (Int)):=pe.b N (pe.l5 N N) a0 a1
abbrev pE.ca:=(List (Int))→(List (Int))→Int→Int→Option ((List (Int))×(Int))
def pE.eK(N:Nat)(cJ:pE.ca)(x0:List (Int))(x4:List (Int))(x5:Int)(x6:Int):Option ((List (Int))×(Int)):=
 cond (dk 0 x6) (cond (aZ 32 0) (none) (cond (bb x6 (List.length x0)) (let v5:Int:=qS .or .u64 (W .u64 (shl .u64 x5 32)) (List.getD x0 x6.toNat (0:Int));cond (aZ 1 0) (none) (cond (bb x6 (List.length x4)) (cJ x0 (List.set x4 x6.toNat (shr .u64 v5 1)) (qS .and .u64 v5 1) (W .i64 (x6-1))) (none))) (none))) ((oj N x4).bind λkD=>some (kD,x5))
def pE.l4(N:Nat):Nat→pE.ca
 |0,_,_,_,_=>none
 |n+1,x0,x4,x5,x6=>pE.eK N (pE.l4 N n) x0 x4 x5 x6
def pE.b(N:Nat)(gd:pE.ca)(a0:List (Int)):Option ((List (Int))×(Int)):=
 cond (jZ (List.length a0:Int) (List.length a0:Int)) (gd a0 (List.replicate (List.length a0:Int).toNat (0:Int)) (0:Int) (W .i64 ((List.length a0:Int)-1))) (none)
def pE(N:Nat)(a0:List (Int)):Option ((List (Int))×(Int)):=pE.b N (pE.l4 N N) a0
abbrev iB.mz:=aH→aH→aH→aH→(List (Int))→aH→aH→Int→Option (aH×aH)
abbrev iB.dU:=aH→aH→aH→aH→(List (Int))→(List (Int))→Option (aH×aH)
def iB.xK(N:Nat)(rU:iB.mz)(x2:aH)(x3:aH)(x4:aH)(x5:aH)(x6:List (Int))(bx:aH)(aW:aH)(a7:Int):Option (aH×aH):=
 cond (dk 0 a7) ((xJ N bx bx).bind λr6=>(xJ N aW aW).bind λr7=>cond (bb a7 (List.length x6)) (cond (aO (List.getD x6 a7.toNat (0:Int)) (1:Int)) ((iG N (1:Int)).bind λr8=>(xJ N r7 r8).bind λr9=>(Kt N r9 x3).bind λkD=>cond (dk 0 kD) ((Nj N r9 x3).bind λnY=>(iG N (1:Int)).bind λn6=>(xJ N r6 n6).bind λpV=>rU x2 x3 x4 x5 x6 pV nY (W .i64 (a7-1))) (rU x2 x3 x4 x5 x6 r6 r9 (W .i64 (a7-1)))) ((Kt N r7 x3).bind λvP=>cond (dk 0 vP) ((Nj N r7 x3).bind λzr=>(iG N (1:Int)).bind λuj=>(xJ N r6 uj).bind λLl=>rU x2 x3 x4 x5 x6 Ll zr (W .i64 (a7-1))) (rU x2 x3 x4 x5 x6 r6 r7 (W .i64 (a7-1))))) (none)) (cond (!x2.1) (some (bx,aW)) ((R3 N aW).bind λLj=>cond (aO Lj 0) ((TO N bx).bind λDd=>some (Dd,aW)) ((TO N bx).bind λJI=>(iG N (1:Int)).bind λEh=>(Nj N JI Eh).bind λBm=>(Nj N x3 aW).bind λLh=>some (Bm,Lh))))
def iB.l9(N:Nat):Nat→iB.mz
 |0,_,_,_,_,_,_,_,_=>none
 |n+1,x2,x3,x4,x5,x6,bx,aW,a7=>iB.xK N (iB.l9 N n) x2 x3 x4 x5 x6 bx aW a7
def iB.nT(N:Nat)(zk:iB.mz)(dn:iB.dU)(x2:aH)(x3:aH)(x4:aH)(x5:aH)(x6:List (Int))(x7:List (Int)):Option (aH×aH):=
 cond (aZ 0 (List.length x7:Int)) ((pE N x7).bind λr2=>cond (small (List.length x6+List.length ([r2.2]))) (dn x2 x3 x4 x5 (x6++([r2.2])) r2.1) (none)) (zk x2 x3 x4 x5 x6 (false,py) (false,py) (W .i64 ((List.length x6:Int)-1)))
def iB.l3(N:Nat):Nat→iB.dU
 |0,_,_,_,_,_,_=>none
 |n+1,x2,x3,x4,x5,x6,x7=>iB.nT N (iB.l9 N N) (iB.l3 N n) x2 x3 x4 x5 x6 x7
def iB.b(N:Nat)(oG:iB.dU)(a0:aH)(a1:aH):Option (aH×aH):=
 oG a0 a1 (false,py) (false,py) ([]) a0.2.1
def iB(N:Nat)(a0:aH)(a1:aH):Option (aH×aH):=iB.b N (iB.l3 N N) a0 a1
abbrev iY.GW:=Int→ae→an→pk→aL→Int→(List (Int))→Int→Option (aL×(Int))
abbrev iY.jF:=Int→ae→an→pk→aL→Int→Option (aL×(Int))
def iY.vd(N:Nat)(kE:iY.jF)(x2:Int)(x3:ae)(x4:an)(x8:pk)(bx:aL)(aW:Int)(a7:List (Int))(et:Int):Option (aL×(Int)):=
 cond (aO et 0) (kE x2 x3 x4 x8 bx (W .i64 (aW+1))) (cond (bb 0 (List.length a7)) (cond (bb aW (List.length x8)) ((R3 N (List.getD x8 aW.toNat (false,py))).bind λvQ=>cond (aZ 0 vQ) (cond (small (List.length bx+List.length ([(x2,(List.getD a7 (0:Int).toNat (0:Int),((2:Int),(et,()))))]))) (kE (W .i64 (x2+1)) x3 x4 x8 (bx++([(x2,(List.getD a7 (0:Int).toNat (0:Int),((2:Int),(et,()))))])) (W .i64 (aW+1))) (none)) (cond (small (List.length bx+List.length ([(x2,(List.getD a7 (0:Int).toNat (0:Int),((1:Int),(et,()))))]))) (kE (W .i64 (x2+1)) x3 x4 x8 (bx++([(x2,(List.getD a7 (0:Int).toNat (0:Int),((1:Int),(et,()))))])) (W .i64 (aW+1))) (none))) (none)) (none))
def iY.Bl(N:Nat)(kE:iY.jF)(x2:Int)(x3:ae)(x4:an)(x8:pk)(bx:aL)(aW:Int)(a7:List (Int))(et:Int):Option (aL×(Int)):=iY.vd N kE x2 x3 x4 x8 bx aW a7 et
def iY.uN(N:Nat)(vz:iY.GW)(kE:iY.jF)(x2:Int)(x3:ae)(x4:an)(x8:pk)(bx:aL)(aW:Int):Option (aL×(Int)):=
 cond (aZ aW 4) ((pe N x3 aW).bind λr3=>cond (bb aW (List.length x8)) ((Vj N (List.getD x8 aW.toNat (false,py))).bind λr4=>cond (aO (List.length r3:Int) 0) (kE x2 x3 x4 x8 bx (W .i64 (aW+1))) ((iG N x3.2.2.2.2.2.2.1).bind λr6=>(Kt N r4 r6).bind λr7=>cond (dk r7 0) (kE x2 x3 x4 x8 bx (W .i64 (aW+1))) (cond (bb 0 (List.length r3)) (cond (bb (List.getD r3 (0:Int).toNat (0:Int)) (List.length x4.2.2.2.2.1)) ((iG N (List.getD x4.2.2.2.2.1 (List.getD r3 (0:Int).toNat (0:Int)).toNat (0:Int))).bind λr9=>(iB N r4 r9).bind λkD=>(wT N kD.1).bind λnY=>cond (!nY.2) (vz x2 x3 x4 x8 bx aW r3 (1000000000:Int)) (cond (aZ 1000000000 nY.1) (vz x2 x3 x4 x8 bx aW r3 (1000000000:Int)) (vz x2 x3 x4 x8 bx aW r3 nY.1))) (none)) (none)))) (none)) (some (bx,(0:Int)))
def iY.l6(N:Nat):Nat→iY.jF
 |0,_,_,_,_,_,_=>none
 |n+1,x2,x3,x4,x8,bx,aW=>iY.uN N (iY.Bl N (iY.l6 N n)) (iY.l6 N n) x2 x3 x4 x8 bx aW
def iY.b(N:Nat)(xm:iY.jF)(a0:ae)(a1:an)(a2:Int):Option (aL×(Int)):=
 (rD N a0 a1).bind λr1=>cond (!aO r1.2 0) (some ([],(1:Int))) (cond (aZ a2 1) (some ([],(1:Int))) (cond (aZ 1099511627772 a2) (some ([],(1:Int))) (xm a2 a0 a1 r1.1 ([]) (0:Int))))
def iY(N:Nat)(a0:ae)(a1:an)(a2:Int):Option (aL×(Int)):=iY.b N (iY.l6 N N) a0 a1 a2
def aaE(N:Nat)(a0:bM):Option (Bool):=
 cond (dk 1 a0.1) (cond (dk a0.1 1099511627776) (cond (dk 0 a0.2.1) (cond (aZ a0.2.1 6) (cond (aO a0.2.2.1 1) (cond (dk 1 a0.2.2.2.1) (some (dk a0.2.2.2.1 1000000000)) (some false)) (cond (aO a0.2.2.1 2) (cond (dk 1 a0.2.2.2.1) (some (dk a0.2.2.2.1 1000000000)) (some false)) (some false))) (some false)) (some false)) (some false)) (some false)
abbrev pL.Yu:=Int→ae→an→bM→an→bM→ta→Option (an×bM×(Int))
def pL.NR(N:Nat)(x4:Int)(x6:ae)(x7:an)(x8:bM)(a7:an)(bU:bM)(e8:ta):Option (an×bM×(Int)):=
 (gC N x6 x7 ([e8])).bind λr6=>cond (!aO r6.2 0) (some ((cn,(c9,(bH,(bH,(dB,(dR,())))))),aV,r6.2)) (some (r6.1,(x8.1,(x8.2.1,(x8.2.2.1,((W .i64 (x8.2.2.2.1-x4)),x8.2.2.2.2)))),(0:Int)))
def pL.Vn(N:Nat)(x4:Int)(x6:ae)(x7:an)(x8:bM)(a7:an)(bU:bM)(e8:ta):Option (an×bM×(Int)):=pL.NR N x4 x6 x7 x8 a7 bU e8
def pL.b(N:Nat)(Ow:pL.Yu)(a0:ae)(a1:an)(a2:bM)(a3:Int)(a4:Int)(a5:Int):Option (an×bM×(Int)):=
 (gb N a0 a1).bind λr1=>cond (!r1) (some ((cn,(c9,(bH,(bH,(dB,(dR,())))))),aV,(1:Int))) ((aaE N a2).bind λr2=>cond (!r2) (some ((cn,(c9,(bH,(bH,(dB,(dR,())))))),aV,(1:Int))) (cond (aZ a4 1) (some ((cn,(c9,(bH,(bH,(dB,(dR,())))))),aV,(1:Int))) (cond (aZ 1000000000 a4) (some ((cn,(c9,(bH,(bH,(dB,(dR,())))))),aV,(1:Int))) (cond (aZ a5 1) (some ((cn,(c9,(bH,(bH,(dB,(dR,())))))),aV,(1:Int))) (cond (aZ 1000000000000 a5) (some ((cn,(c9,(bH,(bH,(dB,(dR,())))))),aV,(1:Int))) (cond (aZ a2.2.2.2.1 a4) (some ((cn,(c9,(bH,(bH,(dB,(dR,())))))),aV,(9:Int))) (cond (aZ a3 1) (some ((cn,(c9,(bH,(bH,(dB,(dR,())))))),aV,(1:Int))) (cond (aZ 24 a3) (some ((cn,(c9,(bH,(bH,(dB,(dR,())))))),aV,(1:Int))) ((Xp N a0 a1 (a2.1,(a3,(a2.2.1,((W .i64 ((3:Int)-a2.2.2.1)),(a4,(a5,()))))))).bind λr4=>cond (!aO r4 0) (some ((cn,(c9,(bH,(bH,(dB,(dR,())))))),aV,r4)) (cond (aO a2.2.2.1 2) (Ow a4 a0 a1 a2 (cn,(c9,(bH,(bH,(dB,(dR,())))))) aV (a3,((0:Int),(a2.2.1,(a4,(a5,())))))) (Ow a4 a0 a1 a2 (cn,(c9,(bH,(bH,(dB,(dR,())))))) aV ((0:Int),(a3,(a2.2.1,(a4,(a5,()))))))))))))))))
def pL(N:Nat)(a0:ae)(a1:an)(a2:bM)(a3:Int)(a4:Int)(a5:Int):Option (an×bM×(Int)):=pL.b N (pL.Vn N) a0 a1 a2 a3 a4 a5
abbrev nN.bN:=ae→aQ→gR→aQ→dh→aL→Bool→Int→Int→Option (aQ×dh)
def nN.eg(N:Nat)(bP:nN.bN)(x3:ae)(x4:aQ)(x5:gR)(x6:aQ)(x7:dh)(x8:aL)(x9:Bool)(bx:Int)(aW:Int):Option (aQ×dh):=
 cond (aZ aW (List.length x4.2.2.2.1.2.2.2.2.1:Int)) (cond (bb aW (List.length x4.2.2.2.1.2.2.2.2.1)) (cond (aO ((List.getD x4.2.2.2.1.2.2.2.2.1 aW.toNat aV).1) x5.2.2.2.2.2.1) ((pL N x3 x4.2.2.1 (List.getD x4.2.2.2.1.2.2.2.2.1 aW.toNat aV) x5.2.2.1 x5.2.2.2.2.2.2.1 x5.2.2.2.2.2.2.2.1).bind λr2=>cond (!aO r2.2.2 0) ((fA N r2.2.2).bind λr3=>some (x4,r3)) (cond (aZ 0 r2.2.1.2.2.2.1) (cond (small (List.length x8+List.length ([r2.2.1]))) (bP x3 (x4.1,(x4.2.1,(r2.1,x4.2.2.2))) x5 x6 x7 (x8++([r2.2.1])) true r2.2.1.2.2.2.1 (W .i64 (aW+1))) (none)) (bP x3 (x4.1,(x4.2.1,(r2.1,x4.2.2.2))) x5 x6 x7 x8 true r2.2.1.2.2.2.1 (W .i64 (aW+1))))) (cond (aZ 0 (((((List.getD x4.2.2.2.1.2.2.2.2.1 aW.toNat aV).2).2).2).1)) (cond (small (List.length x8+List.length ([List.getD x4.2.2.2.1.2.2.2.2.1 aW.toNat aV]))) (bP x3 x4 x5 x6 x7 (x8++([List.getD x4.2.2.2.1.2.2.2.2.1 aW.toNat aV])) x9 bx (W .i64 (aW+1))) (none)) (bP x3 x4 x5 x6 x7 x8 x9 bx (W .i64 (aW+1))))) (none)) (cond (!x9) ((fA N (3:Int)).bind λkD=>some (x4,kD)) (some ((x4.1,(x4.2.1,(x4.2.2.1,((x4.2.2.2.1.1,(x4.2.2.2.1.2.1,(x4.2.2.2.1.2.2.1,(x4.2.2.2.1.2.2.2.1,(x8,x4.2.2.2.1.2.2.2.2.2))))),x4.2.2.2.2)))),((0:Int),((0:Int),(bx,()))))))
def nN.l5(N:Nat):Nat→nN.bN
 |0,_,_,_,_,_,_,_,_,_=>none
 |n+1,x3,x4,x5,x6,x7,x8,x9,bx,aW=>nN.eg N (nN.l5 N n) x3 x4 x5 x6 x7 x8 x9 bx aW
def nN.b(N:Nat)(eY:nN.bN)(a0:ae)(a1:aQ)(a2:gR):Option (aQ×dh):=
 eY a0 a1 a2 ((0:Int),((0:Int),((cn,(c9,(bH,(bH,(dB,(dR,())))))),(((0:Int),((0:Int),((0:Int),((0:Int),(c9,(([]:List ((Int)×((List ((Int)×((Int)×(Unit))))×((Int)×((Int)×((Int)×((Int)×(Unit)))))))),(c9,(dB,(cn,(cn,())))))))))),(((0:Int),((0:Int),(Dj,((0:Int),())))),()))))) bm ([]) false (0:Int) (0:Int)
def nN(N:Nat)(a0:ae)(a1:aQ)(a2:gR):Option (aQ×dh):=nN.b N (nN.l5 N N) a0 a1 a2
abbrev rG.ca:=Int→aH→Int→Option (Int)
def rG.eK(N:Nat)(cJ:rG.ca)(x1:Int)(x2:aH)(x5:Int):Option (Int):=
 cond (aZ x5 3) ((iG N x5).bind λr3=>(iG N x1).bind λr4=>(jL N r3 r4).bind λr5=>(Kt N r5 x2).bind λr6=>cond (aZ r6 0) (cJ x1 x2 (W .i64 (x5+1))) (some x5)) (some x5)
def rG.l4(N:Nat):Nat→rG.ca
 |0,_,_,_=>none
 |n+1,x1,x2,x5=>rG.eK N (rG.l4 N n) x1 x2 x5
def rG.b(N:Nat)(gd:rG.ca)(a0:aH)(a1:Int):Option (Int):=
 (R3 N a0).bind λr1=>cond (dk r1 0) (some (0:Int)) (cond (aZ a1 1) (some (0:Int)) (gd a1 a0 (1:Int)))
def rG(N:Nat)(a0:aH)(a1:Int):Option (Int):=rG.b N (rG.l4 N N) a0 a1
abbrev pJ.ca:=(List (Int))→Int→Option (Bool)
def pJ.eK(N:Nat)(cJ:pJ.ca)(x1:List (Int))(x5:Int):Option (Bool):=
 cond (aZ x5 (List.length x1:Int)) (cond (bb x5 (List.length x1)) (cond (aZ (List.getD x1 x5.toNat (0:Int)) (0:Int)) (some true) (cJ x1 (W .i64 (x5+1)))) (none)) (some false)
def pJ.l4(N:Nat):Nat→pJ.ca
 |0,_,_=>none
 |n+1,x1,x5=>pJ.eK N (pJ.l4 N n) x1 x5
def pJ.b(N:Nat)(gd:pJ.ca)(a0:Int)(a1:List (Int)):Option (Bool):=
 cond (aZ a0 0) (some true) (cond (aZ 64 (List.length a1:Int)) (some true) (gd a1 (0:Int)))
def pJ(N:Nat)(a0:Int)(a1:List (Int)):Option (Bool):=pJ.b N (pJ.l4 N N) a0 a1
abbrev pD.dU:=(List (Int))→aH→aH→Int→Option aH
def pD.nT(N:Nat)(dn:pD.dU)(x0:List (Int))(x2:aH)(x3:aH)(x4:Int):Option aH:=
 cond (aZ x4 (List.length x0:Int)) (cond (bb x4 (List.length x0)) ((iG N (List.getD x0 x4.toNat (0:Int))).bind λr2=>(xJ N x3 r2).bind λr3=>dn x0 x2 r3 (W .i64 (x4+1))) (none)) (some x3)
def pD.l3(N:Nat):Nat→pD.dU
 |0,_,_,_,_=>none
 |n+1,x0,x2,x3,x4=>pD.nT N (pD.l3 N n) x0 x2 x3 x4
def pD.b(N:Nat)(oG:pD.dU)(a0:List (Int)):Option aH:=
 oG a0 (false,py) (false,py) (0:Int)
def pD(N:Nat)(a0:List (Int)):Option aH:=pD.b N (pD.l3 N N) a0
abbrev fD.Yv:=(List (Int))→(List (Int))→Int→Int→Option (List (Int))
abbrev fD.jF:=(List (Int))→(List (Int))→Int→Int→Option (List (Int))
abbrev fD.dU:=(List (Int))→(List (Int))→Int→Option (List (Int))
def fD.W1(N:Nat)(dn:fD.dU)(x0:List (Int))(x3:List (Int))(x4:Int)(x5:Int):Option (List (Int)):=
 cond (ka 0 x5 (List.length x3:Int) (List.length x3:Int)) (let v5:List (Int):=List.drop (0:Int).toNat (List.take x5.toNat x3);cond (small (List.length v5)) (cond (small (List.length v5+List.length ([x4]))) (let v6:List (Int):=v5++([x4]);cond (ka x5 (List.length x3:Int) (List.length x3:Int) (List.length x3:Int)) (let v7:List (Int):=List.drop x5.toNat (List.take (List.length x3:Int).toNat x3);cond (small (List.length v6+List.length v7)) (dn x0 (v6++v7) (W .i64 (x4+1))) (none)) (none)) (none)) (none)) (none)
def fD.j8(N:Nat)(dn:fD.dU)(x0:List (Int))(x3:List (Int))(x4:Int)(x5:Int):Option (List (Int)):=fD.W1 N dn x0 x3 x4 x5
def fD.uN(N:Nat)(Ox:fD.Yv)(dn:fD.dU)(kE:fD.jF)(x0:List (Int))(x3:List (Int))(x4:Int)(x5:Int):Option (List (Int)):=
 cond (aZ x5 (List.length x3:Int)) (cond (bb x5 (List.length x3)) (cond (bb (List.getD x3 x5.toNat (0:Int)) (List.length x0)) (cond (bb x4 (List.length x0)) (cond (dk (List.getD x0 x4.toNat (0:Int)) (List.getD x0 (List.getD x3 x5.toNat (0:Int)).toNat (0:Int))) (kE x0 x3 x4 (W .i64 (x5+1))) (Ox x0 x3 x4 x5)) (none)) (none)) (none)) (Ox x0 x3 x4 x5)
def fD.l6(N:Nat)(dn:fD.dU):Nat→fD.jF
 |0,_,_,_,_=>none
 |n+1,x0,x3,x4,x5=>fD.uN N (fD.j8 N dn) dn (fD.l6 N dn n) x0 x3 x4 x5
def fD.nT(N:Nat)(xm:fD.jF)(dn:fD.dU)(x0:List (Int))(x3:List (Int))(x4:Int):Option (List (Int)):=
 cond (aZ x4 (List.length x0:Int)) (xm x0 x3 x4 (0:Int)) (some x3)
def fD.l3(N:Nat):Nat→fD.dU
 |0,_,_,_=>none
 |n+1,x0,x3,x4=>fD.nT N (fD.l6 N (fD.l3 N n) N) (fD.l3 N n) x0 x3 x4
def fD.b(N:Nat)(oG:fD.dU)(a0:List (Int)):Option (List (Int)):=
 oG a0 ([]) (0:Int)
def fD(N:Nat)(a0:List (Int)):Option (List (Int)):=fD.b N (fD.l3 N N) a0
abbrev fO.rT:=(List (Int))→Int→(List (Int))→Int→Option ((List (Int))×(Int))
abbrev fO.xv:=Int→(List (Int))→aH→(List (Int))→(List (Int))→Int→Int→Option ((List (Int))×(Int))
abbrev fO.Yx:=Int→(List (Int))→aH→Option ((List (Int))×(Int))
def fO.vI(N:Nat)(GO:fO.rT)(x9:List (Int))(aW:Int)(dq:List (Int))(et:Int):Option ((List (Int))×(Int)):=
 cond (aZ et (List.length dq:Int)) (cond (aZ 0 aW) (cond (bb et (List.length dq)) (cond (bb (List.getD dq et.toNat (0:Int)) (List.length x9)) (cond (bb (List.getD dq et.toNat (0:Int)) (List.length x9)) (GO (List.set x9 (List.getD dq et.toNat (0:Int)).toNat (W .i64 ((List.getD x9 (List.getD dq et.toNat (0:Int)).toNat (0:Int))+1))) (W .i64 (aW-1)) dq (W .i64 (et+1))) (none)) (none)) (none)) (some (x9,(0:Int)))) (some (x9,(0:Int)))
def fO.w5(N:Nat):Nat→fO.rT
 |0,_,_,_,_=>none
 |n+1,x9,aW,dq,et=>fO.vI N (fO.w5 N n) x9 aW dq et
def fO.F6(N:Nat)(GP:fO.rT)(Dg:fO.xv)(x0:Int)(x1:List (Int))(x6:aH)(x9:List (Int))(bx:List (Int))(aW:Int)(a7:Int):Option ((List (Int))×(Int)):=
 cond (aZ a7 (List.length x1:Int)) ((iG N x0).bind λkD=>cond (bb a7 (List.length x1)) ((iG N (List.getD x1 a7.toNat (0:Int))).bind λnY=>(jL N kD nY).bind λn6=>(iB N n6 x6).bind λpV=>(wT N pV.1).bind λvQ=>cond (bb a7 (List.length x9)) (let v15:List (Int):=List.set x9 a7.toNat vQ.1;(wT N pV.2).bind λvP=>cond (bb a7 (List.length bx)) (cond (bb a7 (List.length v15)) (Dg x0 x1 x6 v15 (List.set bx a7.toNat vP.1) (W .i64 (aW-(List.getD v15 a7.toNat (0:Int)))) (W .i64 (a7+1))) (none)) (none)) (none)) (none)) ((fD N bx).bind λLi=>GP x9 aW Li (0:Int))
def fO.I5(N:Nat):Nat→fO.xv
 |0,_,_,_,_,_,_,_=>none
 |n+1,x0,x1,x6,x9,bx,aW,a7=>fO.F6 N (fO.w5 N N) (fO.I5 N n) x0 x1 x6 x9 bx aW a7
def fO.TN(N:Nat)(OD:fO.xv)(x0:Int)(x1:List (Int))(x6:aH):Option ((List (Int))×(Int)):=
 (wT N x6).bind λr5=>cond (!r5.2) (some ([],(2:Int))) (cond (jZ (List.length x1:Int) (List.length x1:Int)) (let v6:List (Int):=List.replicate (List.length x1:Int).toNat (0:Int);cond (jZ (List.length x1:Int) (List.length x1:Int)) ((R3 N x6).bind λr8=>cond (aO r8 0) (some (v6,(0:Int))) (OD x0 x1 x6 v6 (List.replicate (List.length x1:Int).toNat (0:Int)) x0 (0:Int))) (none)) (none))
def fO.j6(N:Nat)(x0:Int)(x1:List (Int))(x6:aH):Option ((List (Int))×(Int)):=fO.TN N (fO.I5 N N) x0 x1 x6
def fO.b(N:Nat)(Lk:fO.Yx)(a0:Int)(a1:List (Int)):Option ((List (Int))×(Int)):=
 (pJ N a0 a1).bind λr1=>cond (r1) (some ([],(1:Int))) ((pD N a1).bind λr2=>(R3 N r2).bind λr3=>cond (aO r3 0) (cond (!aO a0 0) (some ([],(1:Int))) (Lk a0 a1 r2)) (Lk a0 a1 r2))
def fO(N:Nat)(a0:Int)(a1:List (Int)):Option ((List (Int))×(Int)):=fO.b N (fO.j6 N) a0 a1
abbrev rA.bN:=Int→Int→(List (Int))→Int→Option ((List (Int))×(Int))
def rA.eg(N:Nat)(bP:rA.bN)(x0:Int)(x1:Int)(x6:List (Int))(x7:Int):Option ((List (Int))×(Int)):=
 cond (aZ x7 x1) (cond (bb x7 (List.length x6)) (bP x0 x1 (List.set x6 x7.toNat (1:Int)) (W .i64 (x7+1))) (none)) ((fO N x0 x6).bind λr5=>some (r5.1,r5.2))
def rA.l5(N:Nat):Nat→rA.bN
 |0,_,_,_,_=>none
 |n+1,x0,x1,x6,x7=>rA.eg N (rA.l5 N n) x0 x1 x6 x7
def rA.b(N:Nat)(eY:rA.bN)(a0:Int)(a1:Int):Option ((List (Int))×(Int)):=
 cond (aZ a0 0) (some ([],(1:Int))) (cond (aZ a1 1) (some ([],(1:Int))) (cond (aZ 64 a1) (some ([],(1:Int))) (cond (jZ a1 a1) (eY a0 a1 (List.replicate a1.toNat (0:Int)) (0:Int)) (none))))
def rA(N:Nat)(a0:Int)(a1:Int):Option ((List (Int))×(Int)):=rA.b N (rA.l5 N N) a0 a1
abbrev bS.anr:=Int→ae→aE→bA→Int→aE→Int→Int→iA→aE→Int→(List (Int))→Option (bA×(Int))
abbrev bS.YC:=Int→ae→aE→bA→Int→aE→Int→Int→iA→aE→Int→Int→Option (bA×(Int))
abbrev bS.xq:=Int→ae→aE→bA→Int→aE→Int→Int→iA→aE→Int→Option (bA×(Int))
abbrev bS.uh:=Int→ae→aE→bA→Int→aE→Int→Int→Option (bA×(Int))
abbrev bS.ga:=Int→ae→aE→bA→Int→aE→aH→Int→Option (bA×(Int))
abbrev bS.gT:=Int→ae→aE→bA→Int→Option (bA×(Int))
def bS.aia(N:Nat)(e9:bS.gT)(mK:bS.uh)(vA:bS.xq)(x2:Int)(x3:ae)(x8:aE)(x9:bA)(bx:Int)(aW:aE)(cj:Int)(dq:Int)(et:iA)(vl:aE)(e8:Int)(ln:List (Int)):Option (bA×(Int)):=
 cond (bb dq (List.length ln)) (cond (!aO (List.getD ln dq.toNat (0:Int)) (0:Int)) (cond (bb e8 (List.length aW)) (cond (bb dq (List.length ln)) (cond (small (List.length vl+List.length ([((List.getD aW e8.toNat cA).1,(List.getD ln dq.toNat (0:Int),()))]))) (vA x2 x3 x8 x9 bx aW cj dq (et.1,(cn,et.2.2)) (vl++([((List.getD aW e8.toNat cA).1,(List.getD ln dq.toNat (0:Int),()))])) (W .i64 (e8+1))) (none)) (none)) (none)) (vA x2 x3 x8 x9 bx aW cj dq et vl (W .i64 (e8+1)))) (none)
def bS.j32(N:Nat)(e9:bS.gT)(mK:bS.uh)(vA:bS.xq)(x2:Int)(x3:ae)(x8:aE)(x9:bA)(bx:Int)(aW:aE)(cj:Int)(dq:Int)(et:iA)(vl:aE)(e8:Int)(ln:List (Int)):Option (bA×(Int)):=bS.aia N e9 mK vA x2 x3 x8 x9 bx aW cj dq et vl e8 ln
def bS.N0(N:Nat)(agm:bS.anr)(e9:bS.gT)(mK:bS.uh)(vA:bS.xq)(x2:Int)(x3:ae)(x8:aE)(x9:bA)(bx:Int)(aW:aE)(cj:Int)(dq:Int)(et:iA)(vl:aE)(e8:Int)(ll:Int):Option (bA×(Int)):=
 (rA N ll cj).bind λvP=>cond (bb e8 (List.length aW)) (cond (aZ (((List.getD aW e8.toNat cA).2).1) (0:Int)) (cond (bb dq (List.length vP.1)) (cond (bb dq (List.length vP.1)) (agm x2 x3 x8 x9 bx aW cj dq et vl e8 (List.set vP.1 dq.toNat (W .i64 (0-(List.getD vP.1 dq.toNat (0:Int)))))) (none)) (none)) (agm x2 x3 x8 x9 bx aW cj dq et vl e8 vP.1)) (none)
def bS.Ux(N:Nat)(e9:bS.gT)(mK:bS.uh)(vA:bS.xq)(x2:Int)(x3:ae)(x8:aE)(x9:bA)(bx:Int)(aW:aE)(cj:Int)(dq:Int)(et:iA)(vl:aE)(e8:Int)(ll:Int):Option (bA×(Int)):=bS.N0 N (bS.j32 N e9 mK vA) e9 mK vA x2 x3 x8 x9 bx aW cj dq et vl e8 ll
def bS.NV(N:Nat)(OE:bS.YC)(e9:bS.gT)(mK:bS.uh)(vA:bS.xq)(x2:Int)(x3:ae)(x8:aE)(x9:bA)(bx:Int)(aW:aE)(cj:Int)(dq:Int)(et:iA)(vl:aE)(e8:Int):Option (bA×(Int)):=
 cond (aZ e8 (List.length aW:Int)) (cond (bb e8 (List.length aW)) (cond (aZ (((List.getD aW e8.toNat cA).2).1) (0:Int)) (OE x2 x3 x8 x9 bx aW cj dq et vl e8 (W .i64 (0-(((List.getD aW e8.toNat cA).2).1)))) (OE x2 x3 x8 x9 bx aW cj dq et vl e8 (((List.getD aW e8.toNat cA).2).1))) (none)) (cond (aO (List.length vl:Int) 0) (mK x2 x3 x8 x9 bx aW cj (W .i64 (dq+1))) ((QE N x3 vl).bind λJI=>(TO N JI.1).bind λEh=>(wT N Eh).bind λBm=>cond (!Bm.2) (some ([],(2:Int))) (cond (small (List.length x9+List.length ([(et.1,(vl,(Bm.1,et.2.2.2)))]))) (mK (W .i64 (x2+1)) x3 x8 (x9++([(et.1,(vl,(Bm.1,et.2.2.2)))])) bx aW cj (W .i64 (dq+1))) (none))))
def bS.LF(N:Nat)(e9:bS.gT)(mK:bS.uh):Nat→bS.xq
 |0,_,_,_,_,_,_,_,_,_,_,_=>none
 |n+1,x2,x3,x8,x9,bx,aW,cj,dq,et,vl,e8=>bS.NV N (bS.Ux N e9 mK (bS.LF N e9 mK n)) e9 mK (bS.LF N e9 mK n) x2 x3 x8 x9 bx aW cj dq et vl e8
def bS.NZ(N:Nat)(YB:bS.xq)(e9:bS.gT)(mK:bS.uh)(x2:Int)(x3:ae)(x8:aE)(x9:bA)(bx:Int)(aW:aE)(cj:Int)(dq:Int):Option (bA×(Int)):=
 cond (aZ dq cj) (YB x2 x3 x8 x9 bx aW cj dq (x2,(cn,((0:Int),((1:Int),cA)))) cn (0:Int)) (e9 x2 x3 x8 x9 (W .i64 (bx+1)))
def bS.HY(N:Nat)(e9:bS.gT):Nat→bS.uh
 |0,_,_,_,_,_,_,_,_=>none
 |n+1,x2,x3,x8,x9,bx,aW,cj,dq=>bS.NZ N (bS.LF N e9 (bS.HY N e9 n) N) e9 (bS.HY N e9 n) x2 x3 x8 x9 bx aW cj dq
def bS.mR(N:Nat)(YD:bS.uh)(e9:bS.gT)(gP:bS.ga)(x2:Int)(x3:ae)(x8:aE)(x9:bA)(bx:Int)(aW:aE)(a7:aH)(bU:Int):Option (bA×(Int)):=
 cond (aZ bU (List.length x8:Int)) (cond (bb bU (List.length x8)) (cond (bb ((List.getD x8 bU.toNat cA).1) (List.length x3.1)) (cond (aO ((List.getD x3.1 ((List.getD x8 bU.toNat cA).1).toNat aV).1) bx) (cond (bb bU (List.length x8)) (cond (small (List.length aW+List.length ([List.getD x8 bU.toNat cA]))) (cond (bb bU (List.length x8)) ((iG N (((List.getD x8 bU.toNat cA).2).1)).bind λr6=>(Vj N r6).bind λr7=>(xJ N a7 r7).bind λr8=>gP x2 x3 x8 x9 bx (aW++([List.getD x8 bU.toNat cA])) r8 (W .i64 (bU+1))) (none)) (none)) (none)) (gP x2 x3 x8 x9 bx aW a7 (W .i64 (bU+1)))) (none)) (none)) ((rG N a7 x3.2.2.2.2.2.1).bind λnY=>YD x2 x3 x8 x9 bx aW nY (0:Int))
def bS.nW(N:Nat)(e9:bS.gT):Nat→bS.ga
 |0,_,_,_,_,_,_,_,_=>none
 |n+1,x2,x3,x8,x9,bx,aW,a7,bU=>bS.mR N (bS.HY N e9 N) e9 (bS.nW N e9 n) x2 x3 x8 x9 bx aW a7 bU
def bS.yn(N:Nat)(ue:bS.ga)(e9:bS.gT)(x2:Int)(x3:ae)(x8:aE)(x9:bA)(bx:Int):Option (bA×(Int)):=
 cond (aZ bx 4) (ue x2 x3 x8 x9 bx ([]) (false,py) (0:Int)) (some (x9,(0:Int)))
def bS.l8(N:Nat):Nat→bS.gT
 |0,_,_,_,_,_=>none
 |n+1,x2,x3,x8,x9,bx=>bS.yn N (bS.nW N (bS.l8 N n) N) (bS.l8 N n) x2 x3 x8 x9 bx
def bS.b(N:Nat)(Cc:bS.gT)(a0:ae)(a1:an)(a2:Int):Option (bA×(Int)):=
 (gb N a0 a1).bind λr1=>cond (!r1) (some ([],(1:Int))) (cond (aZ a2 1) (some ([],(1:Int))) (cond (aZ 1099511627764 a2) (some ([],(1:Int))) ((lH N a1.2.2.2.1 (0:Int)).bind λr2=>cond (aO (List.length r2:Int) 0) (some ([],(3:Int))) (Cc a2 a0 r2 ([]) (0:Int)))))
def bS(N:Nat)(a0:ae)(a1:an)(a2:Int):Option (bA×(Int)):=bS.b N (bS.l8 N N) a0 a1 a2
abbrev rH.bN:=an→(List (Int))→Int→Option ((List (Int))×(Int))
def rH.eg(N:Nat)(bP:rH.bN)(x3:an)(x6:List (Int))(x7:Int):Option ((List (Int))×(Int)):=
 cond (aZ x7 (List.length x3.1:Int)) (cond (bb x7 (List.length x3.1)) (cond (aO (((List.getD x3.1 x7.toNat cA).2).1) (1:Int)) (cond (bb x7 (List.length x3.1)) ((s9 N x3.2.2.1 (6:Int) ((List.getD x3.1 x7.toNat cA).1)).bind λr3=>cond (aZ 0 r3) (cond (bb x7 (List.length x3.1)) (cond (small (List.length x6+List.length ([(List.getD x3.1 x7.toNat cA).1]))) (bP x3 (x6++([(List.getD x3.1 x7.toNat cA).1])) (W .i64 (x7+1))) (none)) (none)) (bP x3 x6 (W .i64 (x7+1)))) (none)) (bP x3 x6 (W .i64 (x7+1)))) (none)) (some (x6,(0:Int)))
def rH.l5(N:Nat):Nat→rH.bN
 |0,_,_,_=>none
 |n+1,x3,x6,x7=>rH.eg N (rH.l5 N n) x3 x6 x7
def rH.b(N:Nat)(eY:rH.bN)(a0:ae)(a1:an):Option ((List (Int))×(Int)):=
 (gb N a0 a1).bind λr1=>cond (!r1) (some ([],(1:Int))) (eY a1 ([]) (0:Int))
def rH(N:Nat)(a0:ae)(a1:an):Option ((List (Int))×(Int)):=rH.b N (rH.l5 N N) a0 a1
abbrev iW.Rh:=bA→ae→Int→iA→Option (Bool)
abbrev iW.ca:=bA→ae→Int→Option (Bool)
def iW.Nl(N:Nat)(cJ:iW.ca)(x1:bA)(x2:ae)(x5:Int)(x6:iA):Option (Bool):=
 cond (aO x6.2.2.2.1 1) (cond (!aO x6.2.2.2.2.1 0) (some false) (cond (!aO x6.2.2.2.2.2.1 0) (some false) (cJ x1 x2 (W .i64 (x5+1))))) (cond (aO x6.2.2.2.1 3) (cond (!aO x6.2.2.2.2.1 0) (some false) (cond (!aO x6.2.2.2.2.2.1 0) (some false) (cJ x1 x2 (W .i64 (x5+1))))) (cond (aO x6.2.2.2.1 2) (cond (aZ x6.2.2.2.2.1 1) (some false) (cond (aZ 12 x6.2.2.2.2.1) (some false) (cond (aZ x6.2.2.2.2.2.1 (-1152921504606846976)) (some false) (cond (aZ 1152921504606846976 x6.2.2.2.2.2.1) (some false) (cJ x1 x2 (W .i64 (x5+1))))))) (some false)))
def iW.j9(N:Nat)(cJ:iW.ca)(x1:bA)(x2:ae)(x5:Int)(x6:iA):Option (Bool):=iW.Nl N cJ x1 x2 x5 x6
def iW.eK(N:Nat)(GV:iW.Rh)(cJ:iW.ca)(x1:bA)(x2:ae)(x5:Int):Option (Bool):=
 cond (aZ x5 (List.length x1:Int)) (cond (bb x5 (List.length x1)) (cond (aZ ((List.getD x1 x5.toNat ((0:Int),(cn,aV))).1) (1:Int)) (some false) (cond (aZ 1099511627776 ((List.getD x1 x5.toNat ((0:Int),(cn,aV))).1)) (some false) (cond (aZ 0 x5) (let v3:Int:=W .i64 (x5-1);cond (bb v3 (List.length x1)) (cond (dk ((List.getD x1 x5.toNat ((0:Int),(cn,aV))).1) ((List.getD x1 v3.toNat ((0:Int),(cn,aV))).1)) (some false) (cond (aO (List.length (((List.getD x1 x5.toNat ((0:Int),(cn,aV))).2).1):Int) (0:Int)) (some false) ((nv N x2 (((List.getD x1 x5.toNat ((0:Int),(cn,aV))).2).1)).bind λr4=>cond (!r4) (some false) (cond (aZ 0 ((((List.getD x1 x5.toNat ((0:Int),(cn,aV))).2).2).1)) (some false) (GV x1 x2 x5 (List.getD x1 x5.toNat ((0:Int),(cn,aV)))))))) (none)) (cond (aO (List.length (((List.getD x1 x5.toNat ((0:Int),(cn,aV))).2).1):Int) (0:Int)) (some false) ((nv N x2 (((List.getD x1 x5.toNat ((0:Int),(cn,aV))).2).1)).bind λr9=>cond (!r9) (some false) (cond (aZ 0 ((((List.getD x1 x5.toNat ((0:Int),(cn,aV))).2).2).1)) (some false) (GV x1 x2 x5 (List.getD x1 x5.toNat ((0:Int),(cn,aV)))))))))) (none)) (some true)
def iW.l4(N:Nat):Nat→iW.ca
 |0,_,_,_=>none
 |n+1,x1,x2,x5=>iW.eK N (iW.j9 N (iW.l4 N n)) (iW.l4 N n) x1 x2 x5
def iW.b(N:Nat)(gd:iW.ca)(a0:ae)(a1:bA):Option (Bool):=
 (mh N a0).bind λr1=>cond (!r1) (some false) (cond (aZ 12 (List.length a1:Int)) (some false) (gd a1 a0 (0:Int)))
def iW(N:Nat)(a0:ae)(a1:bA):Option (Bool):=iW.b N (iW.l4 N N) a0 a1
abbrev qk.db:=bA→Int→iA→Int→Option (iA×(Bool))
def qk.gJ(N:Nat)(eG:qk.db)(x0:bA)(x1:Int)(x4:iA)(x6:Int):Option (iA×(Bool)):=
 cond (aZ x6 (List.length x0:Int)) (cond (bb x6 (List.length x0)) (cond (aO ((List.getD x0 x6.toNat ((0:Int),(cn,aV))).1) x1) (cond (bb x6 (List.length x0)) (some (List.getD x0 x6.toNat ((0:Int),(cn,aV)),true)) (none)) (eG x0 x1 x4 (W .i64 (x6+1)))) (none)) (some (((0:Int),(cn,aV)),false))
def qk.l2(N:Nat):Nat→qk.db
 |0,_,_,_,_=>none
 |n+1,x0,x1,x4,x6=>qk.gJ N (qk.l2 N n) x0 x1 x4 x6
def qk.b(N:Nat)(jq:qk.db)(a0:bA)(a1:Int):Option (iA×(Bool)):=
 jq a0 a1 ((0:Int),(cn,aV)) (0:Int)
def qk(N:Nat)(a0:bA)(a1:Int):Option (iA×(Bool)):=qk.b N (qk.l2 N N) a0 a1
abbrev eR.gi:=aE→aE→aE→Int→aH→Int→Option (aE×(Bool))
abbrev eR.fx:=aE→aE→aE→Int→aH→Int→Option (aE×(Bool))
abbrev eR.dU:=aE→aE→aE→Int→Option (aE×(Bool))
def eR.ns(N:Nat)(dn:eR.dU)(gj:eR.gi)(x0:aE)(x1:aE)(x6:aE)(x7:Int)(x8:aH)(bx:Int):Option (aE×(Bool)):=
 cond (aZ bx (List.length x1:Int)) (cond (bb bx (List.length x1)) (cond (aO ((List.getD x1 bx.toNat cA).1) x7) (cond (bb bx (List.length x1)) ((iG N (((List.getD x1 bx.toNat cA).2).1)).bind λr8=>(xJ N x8 r8).bind λr9=>gj x0 x1 x6 x7 r9 (W .i64 (bx+1))) (none)) (gj x0 x1 x6 x7 x8 (W .i64 (bx+1)))) (none)) ((Qz N x8).bind λn6=>cond (!n6.2) (some ([],false)) (cond (!aO n6.1 0) (cond (small (List.length x6+List.length ([(x7,(n6.1,()))]))) (dn x0 x1 (x6++([(x7,(n6.1,()))])) (W .i64 (x7+1))) (none)) (dn x0 x1 x6 (W .i64 (x7+1)))))
def eR.mU(N:Nat)(dn:eR.dU):Nat→eR.gi
 |0,_,_,_,_,_,_=>none
 |n+1,x0,x1,x6,x7,x8,bx=>eR.ns N dn (eR.mU N dn n) x0 x1 x6 x7 x8 bx
def eR.rj(N:Nat)(ug:eR.gi)(dn:eR.dU)(eP:eR.fx)(x0:aE)(x1:aE)(x6:aE)(x7:Int)(x8:aH)(x9:Int):Option (aE×(Bool)):=
 cond (aZ x9 (List.length x0:Int)) (cond (bb x9 (List.length x0)) (cond (aO ((List.getD x0 x9.toNat cA).1) x7) (cond (bb x9 (List.length x0)) ((iG N (((List.getD x0 x9.toNat cA).2).1)).bind λr3=>(xJ N x8 r3).bind λr4=>eP x0 x1 x6 x7 r4 (W .i64 (x9+1))) (none)) (eP x0 x1 x6 x7 x8 (W .i64 (x9+1)))) (none)) (ug x0 x1 x6 x7 x8 (0:Int))
def eR.l7(N:Nat)(dn:eR.dU):Nat→eR.fx
 |0,_,_,_,_,_,_=>none
 |n+1,x0,x1,x6,x7,x8,x9=>eR.rj N (eR.mU N dn N) dn (eR.l7 N dn n) x0 x1 x6 x7 x8 x9
def eR.nT(N:Nat)(vk:eR.fx)(dn:eR.dU)(x0:aE)(x1:aE)(x6:aE)(x7:Int):Option (aE×(Bool)):=
 cond (aZ x7 6) (vk x0 x1 x6 x7 (false,py) (0:Int)) (some (x6,true))
def eR.l3(N:Nat):Nat→eR.dU
 |0,_,_,_,_=>none
 |n+1,x0,x1,x6,x7=>eR.nT N (eR.l7 N (eR.l3 N n) N) (eR.l3 N n) x0 x1 x6 x7
def eR.b(N:Nat)(oG:eR.dU)(a0:aE)(a1:aE):Option (aE×(Bool)):=
 oG a0 a1 ([]) (0:Int)
def eR(N:Nat)(a0:aE)(a1:aE):Option (aE×(Bool)):=eR.b N (eR.l3 N N) a0 a1
def ah9(N:Nat)(a0:bB)(a1:Int):Option au:=
 (mO N a0).bind λr1=>cond (!r1) (some ([])) ((hZ N a0 a1).bind λr2=>some r2)
abbrev kU.ga:=aL→ae→an→bM→iA→Int→Int→Option (Int)
abbrev kU.asr:=bA→aL→ae→an→bM→Option (Int)
def kU.mR(N:Nat)(gP:kU.ga)(x3:aL)(x5:ae)(x6:an)(x9:bM)(a7:iA)(cj:Int)(dq:Int):Option (Int):=
 cond (aZ dq (List.length x3:Int)) (cond (bb dq (List.length x3)) (cond (aO ((((List.getD x3 dq.toNat aV).2).2).1) x9.2.2.1) (cond (bb dq (List.length x3)) (cond (aO (((List.getD x3 dq.toNat aV).2).1) x9.2.1) (some (4:Int)) (gP x3 x5 x6 x9 a7 cj (W .i64 (dq+1)))) (none)) (gP x3 x5 x6 x9 a7 cj (W .i64 (dq+1)))) (none)) (cond (aO (List.length x3:Int) 40) (some (5:Int)) ((iG N x9.2.2.2.1).bind λpV=>(iG N (4:Int)).bind λvQ=>(iG N a7.2.2.1).bind λxj=>(jL N vQ xj).bind λvP=>(Kt N pV vP).bind λzr=>cond (aZ zr 0) (some (11:Int)) ((lH N x6.2.2.2.1 cj).bind λuj=>(eR N uj a7.2.1).bind λLl=>cond (!Ll.2) (some (2:Int)) ((ah9 N x6.2.2.2.2.2.1 cj).bind λLi=>(qg N x5 Ll.1 Li).bind λDc=>(HQ N x6 cj).bind λLj=>(iG N Lj).bind λDd=>(iG N x9.2.2.2.1).bind λJI=>(Nj N Dd JI).bind λEh=>(Kt N Eh Dc.1).bind λBm=>cond (aZ Bm 0) (some (10:Int)) (some (0:Int))))))
def kU.nW(N:Nat):Nat→kU.ga
 |0,_,_,_,_,_,_,_=>none
 |n+1,x3,x5,x6,x9,a7,cj,dq=>kU.mR N (kU.nW N n) x3 x5 x6 x9 a7 cj dq
def kU.j3b(N:Nat)(ue:kU.ga)(x2:bA)(x3:aL)(x5:ae)(x6:an)(x9:bM):Option (Int):=
 (HX N x6 x9.2.2.1).bind λr7=>cond (aO r7 0) (some (3:Int)) (cond (!aO r7 1) (some (7:Int)) ((qk N x2 x9.2.1).bind λr8=>(mq N x6.2.1 x9.2.2.1).bind λr9=>cond (!r8.2) (some (3:Int)) (cond (!aO r8.1.2.2.2.1 1) (some (3:Int)) (cond (aO r9 0) (some (3:Int)) (ue x3 x5 x6 x9 r8.1 r9 (0:Int))))))
def kU.j3(N:Nat)(x2:bA)(x3:aL)(x5:ae)(x6:an)(x9:bM):Option (Int):=kU.j3b N (kU.nW N N) x2 x3 x5 x6 x9
def kU.b(N:Nat)(ans:kU.asr)(a0:ae)(a1:an)(a2:bA)(a3:aL)(a4:bM):Option (Int):=
 (gb N a0 a1).bind λr1=>cond (!r1) (some (1:Int)) ((iW N a0 a2).bind λr2=>cond (!r2) (some (1:Int)) ((eH N a3).bind λr3=>cond (!r3) (some (1:Int)) ((WK N a4).bind λr4=>cond (!r4) (some (1:Int)) (cond (aZ 0 (List.length a3:Int)) (let v5:Int:=W .i64 ((List.length a3:Int)-1);cond (bb v5 (List.length a3)) (cond (dk a4.1 ((List.getD a3 v5.toNat aV).1)) (some (1:Int)) (ans a2 a3 a0 a1 a4)) (none)) (ans a2 a3 a0 a1 a4)))))
def kU(N:Nat)(a0:ae)(a1:an)(a2:bA)(a3:aL)(a4:bM):Option (Int):=kU.b N (kU.j3 N) a0 a1 a2 a3 a4
def aaV(N:Nat)(a0:ae)(a1:an)(a2:bA)(a3:aL)(a4:bM):Option (aL×(Int)):=
 (kU N a0 a1 a2 a3 a4).bind λr1=>cond (!aO r1 0) (some ([],r1)) (cond (small (List.length c9+List.length a3)) (let v2:List ((Int)×((Int)×((Int)×((Int)×(Unit))))):=c9++a3;cond (small (List.length v2+List.length ([a4]))) (some ((v2++([a4])),(0:Int))) (none)) (none))
abbrev rM.jF:=aL→Int→bM→bM→Bool→Int→Option (bM×(Bool))
def rM.uN(N:Nat)(kE:rM.jF)(x0:aL)(x1:Int)(x4:bM)(x6:bM)(x7:Bool)(x8:Int):Option (bM×(Bool)):=
 cond (aZ x8 (List.length x0:Int)) (cond (bb x8 (List.length x0)) (cond (aO (((List.getD x0 x8.toNat aV).2).1) x1) (cond (!x7) (cond (bb x8 (List.length x0)) (kE x0 x1 x4 (List.getD x0 x8.toNat aV) true (W .i64 (x8+1))) (none)) (cond (bb x8 (List.length x0)) (cond (aZ x6.2.2.2.1 (((((List.getD x0 x8.toNat aV).2).2).2).1)) (cond (bb x8 (List.length x0)) (kE x0 x1 x4 (List.getD x0 x8.toNat aV) true (W .i64 (x8+1))) (none)) (kE x0 x1 x4 x6 x7 (W .i64 (x8+1)))) (none))) (kE x0 x1 x4 x6 x7 (W .i64 (x8+1)))) (none)) (some (x6,x7))
def rM.l6(N:Nat):Nat→rM.jF
 |0,_,_,_,_,_,_=>none
 |n+1,x0,x1,x4,x6,x7,x8=>rM.uN N (rM.l6 N n) x0 x1 x4 x6 x7 x8
def rM.b(N:Nat)(xm:rM.jF)(a0:aL)(a1:Int):Option (bM×(Bool)):=
 (eH N a0).bind λr1=>cond (!r1) (some (aV,false)) (xm a0 a1 aV aV false (0:Int))
def rM(N:Nat)(a0:aL)(a1:Int):Option (bM×(Bool)):=rM.b N (rM.l6 N N) a0 a1
abbrev fL.rT:=bA→aL→an→an→au→bE→bA→Int→iA→bM→Int→Int→Option (an×bA×(Int))
abbrev fL.fx:=bA→aL→an→an→au→bE→bA→Int→Option (an×bA×(Int))
def fL.vI(N:Nat)(eP:fL.fx)(GO:fL.rT)(x2:bA)(x3:aL)(x5:an)(x8:an)(aW:au)(a7:bE)(bU:bA)(cj:Int)(dq:iA)(et:bM)(ll:Int)(ln:Int):Option (an×bA×(Int)):=
 cond (aZ ln (List.length dq.2.1:Int)) (cond (bb ln (List.length dq.2.1)) (cond (bb ln (List.length dq.2.1)) (let v14:Int:=W .i64 (0-(((List.getD dq.2.1 ln.toNat cA).2).1));cond (bb ln (List.length dq.2.1)) (cond (bb ln (List.length dq.2.1)) (cond (small (List.length aW+List.length ([((0:Int),((List.getD dq.2.1 ln.toNat cA).1,(v14,()))),(ll,((List.getD dq.2.1 ln.toNat cA).1,(((List.getD dq.2.1 ln.toNat cA).2).1,())))]))) (GO x2 x3 x5 x8 (aW++([((0:Int),((List.getD dq.2.1 ln.toNat cA).1,(v14,()))),(ll,((List.getD dq.2.1 ln.toNat cA).1,(((List.getD dq.2.1 ln.toNat cA).2).1,())))])) a7 bU cj dq et ll (W .i64 (ln+1))) (none)) (none)) (none)) (none)) (none)) ((iG N et.2.2.2.1).bind λzr=>(yr N (5:Int) ll (2:Int) (0:Int) zr).bind λuj=>cond (small (List.length a7+List.length uj)) (cond (small (List.length bU+List.length ([dq]))) (eP x2 x3 x5 x8 aW (a7++uj) (bU++([dq])) (W .i64 (cj+1))) (none)) (none))
def fL.w5(N:Nat)(eP:fL.fx):Nat→fL.rT
 |0,_,_,_,_,_,_,_,_,_,_,_,_=>none
 |n+1,x2,x3,x5,x8,aW,a7,bU,cj,dq,et,ll,ln=>fL.vI N eP (fL.w5 N eP n) x2 x3 x5 x8 aW a7 bU cj dq et ll ln
def fL.rj(N:Nat)(GP:fL.rT)(eP:fL.fx)(x2:bA)(x3:aL)(x5:an)(x8:an)(aW:au)(a7:bE)(bU:bA)(cj:Int):Option (an×bA×(Int)):=
 cond (aZ cj (List.length x2:Int)) (cond (bb cj (List.length x2)) (cond (small (List.length cn+List.length (((List.getD x2 cj.toNat ((0:Int),(cn,aV))).2).1))) (let v5:List ((Int)×((Int)×(Unit))):=cn++(((List.getD x2 cj.toNat ((0:Int),(cn,aV))).2).1);cond (!aO (((((List.getD x2 cj.toNat ((0:Int),(cn,aV))).2).2).2).1) (1:Int)) (cond (small (List.length bU+List.length ([((List.getD x2 cj.toNat ((0:Int),(cn,aV))).1,(v5,((List.getD x2 cj.toNat ((0:Int),(cn,aV))).2).2))]))) (eP x2 x3 x5 x8 aW a7 (bU++([((List.getD x2 cj.toNat ((0:Int),(cn,aV))).1,(v5,((List.getD x2 cj.toNat ((0:Int),(cn,aV))).2).2))])) (W .i64 (cj+1))) (none)) ((rM N x3 ((List.getD x2 cj.toNat ((0:Int),(cn,aV))).1)).bind λr8=>cond (!r8.2) (cond (small (List.length bU+List.length ([((List.getD x2 cj.toNat ((0:Int),(cn,aV))).1,(v5,((((List.getD x2 cj.toNat ((0:Int),(cn,aV))).2).2).1,((3:Int),((((List.getD x2 cj.toNat ((0:Int),(cn,aV))).2).2).2).2))))]))) (eP x2 x3 x5 x8 aW a7 (bU++([((List.getD x2 cj.toNat ((0:Int),(cn,aV))).1,(v5,((((List.getD x2 cj.toNat ((0:Int),(cn,aV))).2).2).1,((3:Int),((((List.getD x2 cj.toNat ((0:Int),(cn,aV))).2).2).2).2))))])) (W .i64 (cj+1))) (none)) ((mq N x5.2.1 r8.1.2.2.1).bind λnY=>cond (aO nY 0) (some ((cn,(c9,(bH,(bH,(dB,(dR,())))))),[],(3:Int))) ((HX N x5 r8.1.2.2.1).bind λn6=>cond (aO n6 0) (some ((cn,(c9,(bH,(bH,(dB,(dR,())))))),[],(3:Int))) (GP x2 x3 x5 x8 aW a7 bU cj ((List.getD x2 cj.toNat ((0:Int),(cn,aV))).1,(v5,((((List.getD x2 cj.toNat ((0:Int),(cn,aV))).2).2).1,((2:Int),(r8.1.2.2.1,(r8.1.2.2.2.1,((((((List.getD x2 cj.toNat ((0:Int),(cn,aV))).2).2).2).2).2).2)))))) r8.1 nY (0:Int)))))) (none)) (none)) ((yq N x5 aW a7).bind λLj=>cond (!aO Lj.2 0) (some ((cn,(c9,(bH,(bH,(dB,(dR,())))))),[],Lj.2)) (some (Lj.1,bU,(0:Int))))
def fL.l7(N:Nat):Nat→fL.fx
 |0,_,_,_,_,_,_,_,_=>none
 |n+1,x2,x3,x5,x8,aW,a7,bU,cj=>fL.rj N (fL.w5 N (fL.l7 N n) N) (fL.l7 N n) x2 x3 x5 x8 aW a7 bU cj
def fL.b(N:Nat)(vk:fL.fx)(a0:ae)(a1:an)(a2:bA)(a3:aL):Option (an×bA×(Int)):=
 (gb N a0 a1).bind λr1=>cond (!r1) (some ((cn,(c9,(bH,(bH,(dB,(dR,())))))),[],(1:Int))) ((iW N a0 a2).bind λr2=>cond (!r2) (some ((cn,(c9,(bH,(bH,(dB,(dR,())))))),[],(1:Int))) ((eH N a3).bind λr3=>cond (!r3) (some ((cn,(c9,(bH,(bH,(dB,(dR,())))))),[],(1:Int))) (vk a2 a3 a1 (cn,(c9,(bH,(bH,(dB,(dR,())))))) ([]) ([]) ([]) (0:Int))))
def fL(N:Nat)(a0:ae)(a1:an)(a2:bA)(a3:aL):Option (an×bA×(Int)):=fL.b N (fL.l7 N N) a0 a1 a2 a3
abbrev pq.db:=aE→Int→Option (Bool)
def pq.gJ(N:Nat)(eG:pq.db)(x0:aE)(x3:Int):Option (Bool):=
 cond (aZ x3 (List.length x0:Int)) (cond (bb x3 (List.length x0)) (cond (aZ ((List.getD x0 x3.toNat cA).1) (1:Int)) (some false) (cond (bb x3 (List.length x0)) (cond (aZ 12 ((List.getD x0 x3.toNat cA).1)) (some false) (cond (bb x3 (List.length x0)) (cond (aZ (((List.getD x0 x3.toNat cA).2).1) (1:Int)) (some false) (cond (bb x3 (List.length x0)) (cond (aZ 4 (((List.getD x0 x3.toNat cA).2).1)) (some false) (cond (aZ 0 x3) (cond (bb x3 (List.length x0)) (let v2:Int:=W .i64 (x3-1);cond (bb v2 (List.length x0)) (cond (dk ((List.getD x0 x3.toNat cA).1) ((List.getD x0 v2.toNat cA).1)) (some false) (eG x0 (W .i64 (x3+1)))) (none)) (none)) (eG x0 (W .i64 (x3+1))))) (none))) (none))) (none))) (none)) (some true)
def pq.l2(N:Nat):Nat→pq.db
 |0,_,_=>none
 |n+1,x0,x3=>pq.gJ N (pq.l2 N n) x0 x3
def pq.b(N:Nat)(jq:pq.db)(a0:aE):Option (Bool):=
 jq a0 (0:Int)
def pq(N:Nat)(a0:aE):Option (Bool):=pq.b N (pq.l2 N N) a0
abbrev rI.db:=(List (Int))→Int→Option (Bool)
def rI.gJ(N:Nat)(eG:rI.db)(x0:List (Int))(x3:Int):Option (Bool):=
 cond (aZ x3 (List.length x0:Int)) (cond (bb x3 (List.length x0)) (cond (aZ (List.getD x0 x3.toNat (0:Int)) (1:Int)) (some false) (cond (bb x3 (List.length x0)) (cond (aZ 12 (List.getD x0 x3.toNat (0:Int))) (some false) (cond (aZ 0 x3) (cond (bb x3 (List.length x0)) (let v2:Int:=W .i64 (x3-1);cond (bb v2 (List.length x0)) (cond (dk (List.getD x0 x3.toNat (0:Int)) (List.getD x0 v2.toNat (0:Int))) (some false) (eG x0 (W .i64 (x3+1)))) (none)) (none)) (eG x0 (W .i64 (x3+1))))) (none))) (none)) (some true)
def rI.l2(N:Nat):Nat→rI.db
 |0,_,_=>none
 |n+1,x0,x3=>rI.gJ N (rI.l2 N n) x0 x3
def rI.b(N:Nat)(jq:rI.db)(a0:List (Int)):Option (Bool):=
 jq a0 (0:Int)
def rI(N:Nat)(a0:List (Int)):Option (Bool):=rI.b N (rI.l2 N N) a0
abbrev jw.gi:=Int→bA→Int→Int→Option (Int)
abbrev jw.dU:=Int→bA→aL→Int→Int→Option (Int)
def jw.ns(N:Nat)(gj:jw.gi)(x0:Int)(x1:bA)(x7:Int)(a7:Int):Option (Int):=
 cond (aZ a7 (List.length x1:Int)) (cond (bb a7 (List.length x1)) (cond (aO (((((List.getD x1 a7.toNat ((0:Int),(cn,aV))).2).2).2).1) (2:Int)) (cond (bb a7 (List.length x1)) (cond (aO ((((((List.getD x1 a7.toNat ((0:Int),(cn,aV))).2).2).2).2).1) x0) (gj x0 x1 (4:Int) (W .i64 (a7+1))) (gj x0 x1 x7 (W .i64 (a7+1)))) (none)) (gj x0 x1 x7 (W .i64 (a7+1)))) (none)) (some x7)
def jw.mU(N:Nat):Nat→jw.gi
 |0,_,_,_,_=>none
 |n+1,x0,x1,x7,a7=>jw.ns N (jw.mU N n) x0 x1 x7 a7
def jw.nT(N:Nat)(ug:jw.gi)(dn:jw.dU)(x0:Int)(x1:bA)(x2:aL)(x7:Int)(x8:Int):Option (Int):=
 cond (aZ x8 (List.length x2:Int)) (cond (bb x8 (List.length x2)) (cond (!aO ((((List.getD x2 x8.toNat aV).2).2).1) x0) (dn x0 x1 x2 x7 (W .i64 (x8+1))) (cond (bb x8 (List.length x2)) ((qk N x1 (((List.getD x2 x8.toNat aV).2).1)).bind λr3=>cond (r3.2) (cond (bb x8 (List.length x2)) (cond (dk r3.1.2.2.1 (((((List.getD x2 x8.toNat aV).2).2).2).1)) (dn x0 x1 x2 (mx x7 3) (W .i64 (x8+1))) (dn x0 x1 x2 (mx x7 2) (W .i64 (x8+1)))) (none)) (dn x0 x1 x2 (mx x7 2) (W .i64 (x8+1)))) (none))) (none)) (ug x0 x1 x7 (0:Int))
def jw.l3(N:Nat):Nat→jw.dU
 |0,_,_,_,_,_=>none
 |n+1,x0,x1,x2,x7,x8=>jw.nT N (jw.mU N N) (jw.l3 N n) x0 x1 x2 x7 x8
def jw.b(N:Nat)(oG:jw.dU)(a0:Int)(a1:bA)(a2:aL):Option (Int):=
 oG a0 a1 a2 (1:Int) (0:Int)
def jw(N:Nat)(a0:Int)(a1:bA)(a2:aL):Option (Int):=jw.b N (jw.l3 N N) a0 a1 a2
abbrev dv.xr:=aE→(List (Int))→bA→aL→aE→Int→Int→Bool→Int→Option (aE×(Int))
abbrev dv.xv:=aE→(List (Int))→bA→aL→aE→Int→Int→Bool→Int→Option (aE×(Int))
abbrev dv.mz:=aE→(List (Int))→bA→aL→aE→Int→Int→Bool→Int→Option (aE×(Int))
abbrev dv.bN:=aE→(List (Int))→bA→aL→aE→Int→Option (aE×(Int))
def dv.DJ(N:Nat)(bP:dv.bN)(GY:dv.xr)(x1:aE)(x2:List (Int))(x3:bA)(x4:aL)(a7:aE)(bU:Int)(cj:Int)(dq:Bool)(ll:Int):Option (aE×(Int)):=
 cond (aZ ll (List.length x4:Int)) (cond (dq) (GY x1 x2 x3 x4 a7 bU cj true (W .i64 (ll+1))) (cond (bb ll (List.length x4)) (GY x1 x2 x3 x4 a7 bU cj (aO ((((List.getD x4 ll.toNat aV).2).2).1) bU) (W .i64 (ll+1))) (none))) (cond (dq) ((jw N bU x3 x4).bind λxj=>let Yw:Int:=mx cj xj;cond (small (List.length a7+List.length ([(bU,(Yw,()))]))) (bP x1 x2 x3 x4 (a7++([(bU,(Yw,()))])) (W .i64 (bU+1))) (none)) (bP x1 x2 x3 x4 a7 (W .i64 (bU+1))))
def dv.Hh(N:Nat)(bP:dv.bN):Nat→dv.xr
 |0,_,_,_,_,_,_,_,_,_=>none
 |n+1,x1,x2,x3,x4,a7,bU,cj,dq,ll=>dv.DJ N bP (dv.Hh N bP n) x1 x2 x3 x4 a7 bU cj dq ll
def dv.F6(N:Nat)(OA:dv.xr)(bP:dv.bN)(Dg:dv.xv)(x1:aE)(x2:List (Int))(x3:bA)(x4:aL)(a7:aE)(bU:Int)(cj:Int)(dq:Bool)(e8:Int):Option (aE×(Int)):=
 cond (aZ e8 (List.length x2:Int)) (cond (dq) (Dg x1 x2 x3 x4 a7 bU cj true (W .i64 (e8+1))) (cond (bb e8 (List.length x2)) (Dg x1 x2 x3 x4 a7 bU cj (aO (List.getD x2 e8.toNat (0:Int)) bU) (W .i64 (e8+1))) (none))) (OA x1 x2 x3 x4 a7 bU cj dq (0:Int))
def dv.I5(N:Nat)(bP:dv.bN):Nat→dv.xv
 |0,_,_,_,_,_,_,_,_,_=>none
 |n+1,x1,x2,x3,x4,a7,bU,cj,dq,e8=>dv.F6 N (dv.Hh N bP N) bP (dv.I5 N bP n) x1 x2 x3 x4 a7 bU cj dq e8
def dv.xK(N:Nat)(OD:dv.xv)(bP:dv.bN)(rU:dv.mz)(x1:aE)(x2:List (Int))(x3:bA)(x4:aL)(a7:aE)(bU:Int)(cj:Int)(dq:Bool)(et:Int):Option (aE×(Int)):=
 cond (aZ et (List.length x1:Int)) (cond (bb et (List.length x1)) (cond (aO ((List.getD x1 et.toNat cA).1) bU) (cond (bb et (List.length x1)) (rU x1 x2 x3 x4 a7 bU (((List.getD x1 et.toNat cA).2).1) true (W .i64 (et+1))) (none)) (rU x1 x2 x3 x4 a7 bU cj dq (W .i64 (et+1)))) (none)) (OD x1 x2 x3 x4 a7 bU cj dq (0:Int))
def dv.l9(N:Nat)(bP:dv.bN):Nat→dv.mz
 |0,_,_,_,_,_,_,_,_,_=>none
 |n+1,x1,x2,x3,x4,a7,bU,cj,dq,et=>dv.xK N (dv.I5 N bP N) bP (dv.l9 N bP n) x1 x2 x3 x4 a7 bU cj dq et
def dv.eg(N:Nat)(zk:dv.mz)(bP:dv.bN)(x1:aE)(x2:List (Int))(x3:bA)(x4:aL)(a7:aE)(bU:Int):Option (aE×(Int)):=
 cond (dk bU 12) (zk x1 x2 x3 x4 a7 bU (0:Int) false (0:Int)) (some (a7,(0:Int)))
def dv.l5(N:Nat):Nat→dv.bN
 |0,_,_,_,_,_,_=>none
 |n+1,x1,x2,x3,x4,a7,bU=>dv.eg N (dv.l9 N (dv.l5 N n) N) (dv.l5 N n) x1 x2 x3 x4 a7 bU
def dv.b(N:Nat)(eY:dv.bN)(a0:ae)(a1:aE)(a2:List (Int))(a3:bA)(a4:aL):Option (aE×(Int)):=
 (pq N a1).bind λr1=>cond (!r1) (some ([],(1:Int))) ((rI N a2).bind λr2=>cond (!r2) (some ([],(1:Int))) ((iW N a0 a3).bind λr3=>cond (!r3) (some ([],(1:Int))) ((eH N a4).bind λr4=>cond (!r4) (some ([],(1:Int))) (eY a1 a2 a3 a4 ([]) (1:Int)))))
def dv(N:Nat)(a0:ae)(a1:aE)(a2:List (Int))(a3:bA)(a4:aL):Option (aE×(Int)):=dv.b N (dv.l5 N N) a0 a1 a2 a3 a4
def K1(N:Nat)(a0:bK)(a1:an)(a2:Int)(a3:Int)(a4:Int):Option bK:=
 (s9 N a1.2.2.1 a3 a4).bind λr1=>cond (aZ 0 r1) (cond (small (List.length a0+List.length ([(a2,(a3,(a4,(r1,((0:Int),())))))]))) (some (a0++([(a2,(a3,(a4,(r1,((0:Int),())))))]))) (none)) (some a0)
def XI(N:Nat)(a0:Int):Option (Bool):=
 cond (aO a0 1) (some true) (some (aO a0 2))
abbrev rJ.ca:=aE→Int→Int→Option (Int)
def rJ.eK(N:Nat)(cJ:rJ.ca)(x0:aE)(x1:Int)(x5:Int):Option (Int):=
 cond (aZ x5 (List.length x0:Int)) (cond (bb x5 (List.length x0)) (cond (aO ((List.getD x0 x5.toNat cA).1) x1) (cond (bb x5 (List.length x0)) (some (((List.getD x0 x5.toNat cA).2).1)) (none)) (cJ x0 x1 (W .i64 (x5+1)))) (none)) (some (1:Int))
def rJ.l4(N:Nat):Nat→rJ.ca
 |0,_,_,_=>none
 |n+1,x0,x1,x5=>rJ.eK N (rJ.l4 N n) x0 x1 x5
def rJ.b(N:Nat)(gd:rJ.ca)(a0:aE)(a1:Int):Option (Int):=
 (pq N a0).bind λr1=>cond (!r1) (some (0:Int)) (gd a0 a1 (0:Int))
def rJ(N:Nat)(a0:aE)(a1:Int):Option (Int):=rJ.b N (rJ.l4 N N) a0 a1
abbrev rK.bN:=aE→Int→Int→an→(List (Int))→Int→Option ((List (Int))×(Int))
def rK.eg(N:Nat)(bP:rK.bN)(x2:aE)(x3:Int)(x4:Int)(x6:an)(a7:List (Int))(bU:Int):Option ((List (Int))×(Int)):=
 cond (aZ bU (List.length x6.1:Int)) (cond (bb bU (List.length x6.1)) ((XI N (((List.getD x6.1 bU.toNat cA).2).1)).bind λr4=>cond (r4) (cond (!aO ((List.getD x6.1 bU.toNat cA).1) x3) ((s9 N x6.2.2.1 (6:Int) ((List.getD x6.1 bU.toNat cA).1)).bind λr5=>cond (aZ 0 r5) ((rJ N x2 ((List.getD x6.1 bU.toNat cA).1)).bind λr6=>cond (aO r6 x4) (cond (small (List.length a7+List.length ([(List.getD x6.1 bU.toNat cA).1]))) (bP x2 x3 x4 x6 (a7++([(List.getD x6.1 bU.toNat cA).1])) (W .i64 (bU+1))) (none)) (bP x2 x3 x4 x6 a7 (W .i64 (bU+1)))) (bP x2 x3 x4 x6 a7 (W .i64 (bU+1)))) (bP x2 x3 x4 x6 a7 (W .i64 (bU+1)))) (bP x2 x3 x4 x6 a7 (W .i64 (bU+1)))) (none)) (some (a7,(0:Int)))
def rK.l5(N:Nat):Nat→rK.bN
 |0,_,_,_,_,_,_=>none
 |n+1,x2,x3,x4,x6,a7,bU=>rK.eg N (rK.l5 N n) x2 x3 x4 x6 a7 bU
def rK.b(N:Nat)(eY:rK.bN)(a0:ae)(a1:an)(a2:aE)(a3:Int)(a4:Int):Option ((List (Int))×(Int)):=
 (gb N a0 a1).bind λr1=>cond (!r1) (some ([],(1:Int))) ((pq N a2).bind λr2=>cond (!r2) (some ([],(1:Int))) (eY a2 a3 a4 a1 ([]) (0:Int)))
def rK(N:Nat)(a0:ae)(a1:an)(a2:aE)(a3:Int)(a4:Int):Option ((List (Int))×(Int)):=rK.b N (rK.l5 N N) a0 a1 a2 a3 a4
abbrev cI.mI:=Int→aE→aE→ae→an→bK→Int→(List (Int))→Int→Option (bK×(Int))
abbrev cI.GR:=Int→aE→an→bK→Int→Option (bK×(Int))
abbrev cI.uh:=Int→aE→ae→an→bK→Int→Option (bK×(Int))
abbrev cI.gi:=Int→aE→aE→ae→an→bK→Int→Option (bK×(Int))
abbrev cI.Rh:=Int→aE→aE→ae→an→bK→Option (bK×(Int))
def cI.vH(N:Nat)(gj:cI.gi)(n7:cI.mI)(x2:Int)(x3:aE)(x4:aE)(x5:ae)(x6:an)(a7:bK)(cj:Int)(dq:List (Int))(e8:Int):Option (bK×(Int)):=
 cond (aZ e8 (List.length dq:Int)) (cond (bb e8 (List.length dq)) ((K1 N a7 x6 (W .i64 ((W .i64 ((4:Int)+cj))-1)) (6:Int) (List.getD dq e8.toNat (0:Int))).bind λxj=>n7 x2 x3 x4 x5 x6 xj cj dq (W .i64 (e8+1))) (none)) (gj x2 x3 x4 x5 x6 a7 (W .i64 (cj+1)))
def cI.w4(N:Nat)(gj:cI.gi):Nat→cI.mI
 |0,_,_,_,_,_,_,_,_,_=>none
 |n+1,x2,x3,x4,x5,x6,a7,cj,dq,e8=>cI.vH N gj (cI.w4 N gj n) x2 x3 x4 x5 x6 a7 cj dq e8
def cI.KF(N:Nat)(De:cI.GR)(x2:Int)(x4:aE)(x6:an)(a7:bK)(U7:Int):Option (bK×(Int)):=
 cond (aZ U7 (List.length x4:Int)) (cond (bb U7 (List.length x4)) ((Vm N x6.2.1 ((List.getD x4 U7.toNat cA).1)).bind λHj=>cond (bb U7 (List.length x4)) (cond (bb U7 (List.length x4)) ((s9 N x6.2.2.1 (5:Int) ((List.getD x4 U7.toNat cA).1)).bind λr32=>let v33:Int:=mn (((List.getD x4 U7.toNat cA).2).1) r32;cond (Hj.2) (cond (!aO Hj.1.2.1 x2) (cond (aZ 0 v33) (cond (small (List.length a7+List.length ([((9:Int),((5:Int),(Hj.1.1,(v33,((0:Int),())))))]))) (De x2 x4 x6 (a7++([((9:Int),((5:Int),(Hj.1.1,(v33,((0:Int),())))))])) (W .i64 (U7+1))) (none)) (De x2 x4 x6 a7 (W .i64 (U7+1)))) (De x2 x4 x6 a7 (W .i64 (U7+1)))) (De x2 x4 x6 a7 (W .i64 (U7+1)))) (none)) (none)) (none)) (some (a7,(0:Int)))
def cI.Nv(N:Nat):Nat→cI.GR
 |0,_,_,_,_,_=>none
 |n+1,x2,x4,x6,a7,U7=>cI.KF N (cI.Nv N n) x2 x4 x6 a7 U7
def cI.NZ(N:Nat)(Yt:cI.GR)(mK:cI.uh)(x2:Int)(x4:aE)(x5:ae)(x6:an)(a7:bK)(ll:Int):Option (bK×(Int)):=
 cond (aZ ll (List.length x6.1:Int)) (cond (bb ll (List.length x6.1)) ((XI N (((List.getD x6.1 ll.toNat cA).2).1)).bind λLl=>cond (!Ll) (mK x2 x4 x5 x6 a7 (W .i64 (ll+1))) (cond (aO ((List.getD x6.1 ll.toNat cA).1) x2) (mK x2 x4 x5 x6 a7 (W .i64 (ll+1))) ((iG N x5.2.2.1).bind λLj=>(s9 N x6.2.2.1 (6:Int) ((List.getD x6.1 ll.toNat cA).1)).bind λDd=>(iG N Dd).bind λJI=>(jL N Lj JI).bind λEh=>(wT N Eh).bind λBm=>cond (!Bm.2) (some ([],(2:Int))) (cond (aZ 0 Bm.1) (cond (small (List.length a7+List.length ([((8:Int),((7:Int),((List.getD x6.1 ll.toNat cA).1,(Bm.1,((0:Int),())))))]))) (mK x2 x4 x5 x6 (a7++([((8:Int),((7:Int),((List.getD x6.1 ll.toNat cA).1,(Bm.1,((0:Int),())))))])) (W .i64 (ll+1))) (none)) (mK x2 x4 x5 x6 a7 (W .i64 (ll+1))))))) (none)) (Yt x2 x4 x6 a7 (0:Int))
def cI.HY(N:Nat):Nat→cI.uh
 |0,_,_,_,_,_,_=>none
 |n+1,x2,x4,x5,x6,a7,ll=>cI.NZ N (cI.Nv N N) (cI.HY N n) x2 x4 x5 x6 a7 ll
def cI.ns(N:Nat)(GQ:cI.mI)(YD:cI.uh)(gj:cI.gi)(x2:Int)(x3:aE)(x4:aE)(x5:ae)(x6:an)(a7:bK)(cj:Int):Option (bK×(Int)):=
 cond (dk cj 4) ((rK N x5 x6 x3 x2 cj).bind λnY=>GQ x2 x3 x4 x5 x6 a7 cj nY.1 (0:Int)) (YD x2 x4 x5 x6 a7 (0:Int))
def cI.mU(N:Nat):Nat→cI.gi
 |0,_,_,_,_,_,_,_=>none
 |n+1,x2,x3,x4,x5,x6,a7,cj=>cI.ns N (cI.w4 N (cI.mU N n) N) (cI.HY N N) (cI.mU N n) x2 x3 x4 x5 x6 a7 cj
def cI.Nl(N:Nat)(ug:cI.gi)(x2:Int)(x3:aE)(x4:aE)(x5:ae)(x6:an)(a7:bK):Option (bK×(Int)):=
 (K1 N a7 x6 (2:Int) (6:Int) x2).bind λr8=>(K1 N r8 x6 (3:Int) (3:Int) (0:Int)).bind λr9=>ug x2 x3 x4 x5 x6 r9 (1:Int)
def cI.j9(N:Nat)(x2:Int)(x3:aE)(x4:aE)(x5:ae)(x6:an)(a7:bK):Option (bK×(Int)):=cI.Nl N (cI.mU N N) x2 x3 x4 x5 x6 a7
def cI.b(N:Nat)(GV:cI.Rh)(a0:ae)(a1:an)(a2:Int)(a3:aE)(a4:aE):Option (bK×(Int)):=
 (gb N a0 a1).bind λr1=>cond (!r1) (some ([],(1:Int))) ((pq N a3).bind λr2=>cond (!r2) (some ([],(1:Int))) ((qh N a4).bind λr3=>cond (!r3) (some ([],(1:Int))) ((R9 N a1.1 a2).bind λr4=>cond (aO r4 0) (some ([],(3:Int))) ((mq N a1.2.1 a2).bind λr5=>cond (!aO r5 0) ((K1 N ([]) a1 (1:Int) (5:Int) r5).bind λr6=>GV a2 a3 a4 a0 a1 r6) (GV a2 a3 a4 a0 a1 ([]))))))
def cI(N:Nat)(a0:ae)(a1:an)(a2:Int)(a3:aE)(a4:aE):Option (bK×(Int)):=cI.b N (cI.j9 N) a0 a1 a2 a3 a4
def aaX(N:Nat)(a0:ae)(a1:an):Option ((Int)×(Int)):=
 (gb N a0 a1).bind λr1=>cond (!r1) (some ((0:Int),(1:Int))) ((s9 N a1.2.2.1 (2:Int) (0:Int)).bind λr2=>cond (aO r2 (-9223372036854775808)) (some ((0:Int),(2:Int))) (some ((mx (W .i64 (0-r2)) (0:Int)),(0:Int))))
abbrev rL.ca:=bK→Int→Option (Bool)
def rL.eK(N:Nat)(cJ:rL.ca)(x0:bK)(x3:Int):Option (Bool):=
 cond (aZ x3 (List.length x0:Int)) (cond (bb x3 (List.length x0)) (cond (aZ ((List.getD x0 x3.toNat mL).1) (1:Int)) (some false) (cond (aZ 9 ((List.getD x0 x3.toNat mL).1)) (some false) ((Qo N (((List.getD x0 x3.toNat mL).2).1) ((((List.getD x0 x3.toNat mL).2).2).1)).bind λr2=>cond (!r2) (some false) (cond (aZ (((((List.getD x0 x3.toNat mL).2).2).2).1) (1:Int)) (some false) (cond (aZ ((((((List.getD x0 x3.toNat mL).2).2).2).2).1) (0:Int)) (some false) (cond (aZ (((((List.getD x0 x3.toNat mL).2).2).2).1) ((((((List.getD x0 x3.toNat mL).2).2).2).2).1)) (some false) (cond (aZ 0 x3) (let v3:Int:=W .i64 (x3-1);cond (bb v3 (List.length x0)) (cond (aZ ((List.getD x0 x3.toNat mL).1) ((List.getD x0 v3.toNat mL).1)) (some false) (let v4:Int:=W .i64 (x3-1);cond (bb v4 (List.length x0)) (cond (aO ((List.getD x0 x3.toNat mL).1) ((List.getD x0 v4.toNat mL).1)) (let v5:Int:=W .i64 (x3-1);cond (bb v5 (List.length x0)) (cond (!aO (((List.getD x0 x3.toNat mL).2).1) (((List.getD x0 v5.toNat mL).2).1)) (some false) (let v6:Int:=W .i64 (x3-1);cond (bb v6 (List.length x0)) (cond (dk ((((List.getD x0 x3.toNat mL).2).2).1) ((((List.getD x0 v6.toNat mL).2).2).1)) (some false) (cJ x0 (W .i64 (x3+1)))) (none))) (none)) (cJ x0 (W .i64 (x3+1)))) (none))) (none)) (cJ x0 (W .i64 (x3+1)))))))))) (none)) (some true)
def rL.l4(N:Nat):Nat→rL.ca
 |0,_,_=>none
 |n+1,x0,x3=>rL.eK N (rL.l4 N n) x0 x3
def rL.b(N:Nat)(gd:rL.ca)(a0:bK):Option (Bool):=
 cond (aZ 64 (List.length a0:Int)) (some false) (gd a0 (0:Int))
def rL(N:Nat)(a0:bK):Option (Bool):=rL.b N (rL.l4 N N) a0
abbrev dD.xr:=bK→Int→Int→Int→(List (Int))→Int→Option (bK×(Int)×(Int))
abbrev dD.Oy:=bK→Int→Int→Int→(List (Int))→Option (bK×(Int)×(Int))
abbrev dD.gT:=bK→Int→Int→Int→(List (Int))→Option (bK×(Int)×(Int))
abbrev dD.bN:=bK→Int→Int→Option (bK×(Int)×(Int))
def dD.DJ(N:Nat)(bP:dD.bN)(GY:dD.xr)(x7:bK)(x8:Int)(x9:Int)(bx:Int)(cj:List (Int))(et:Int):Option (bK×(Int)×(Int)):=
 cond (aZ et bx) (let v13:Int:=W .i64 (et-x9);cond (bb v13 (List.length cj)) (cond (bb et (List.length x7)) (let v15:Int:=W .i64 (et-x9);cond (bb v15 (List.length cj)) (GY (List.set x7 et.toNat ((List.getD x7 et.toNat mL).1,(((List.getD x7 et.toNat mL).2).1,((((List.getD x7 et.toNat mL).2).2).1,(((((List.getD x7 et.toNat mL).2).2).2).1,(List.getD cj v13.toNat (0:Int),(((((List.getD x7 et.toNat mL).2).2).2).2).2)))))) (W .i64 (x8-(List.getD cj v15.toNat (0:Int)))) x9 bx cj (W .i64 (et+1))) (none)) (none)) (none)) (bP x7 x8 bx)
def dD.Hh(N:Nat)(bP:dD.bN):Nat→dD.xr
 |0,_,_,_,_,_,_=>none
 |n+1,x7,x8,x9,bx,cj,et=>dD.DJ N bP (dD.Hh N bP n) x7 x8 x9 bx cj et
def dD.BZ(N:Nat)(OA:dD.xr)(bP:dD.bN)(x7:bK)(x8:Int)(x9:Int)(bx:Int)(aW:List (Int)):Option (bK×(Int)×(Int)):=
 (pD N aW).bind λr8=>(wT N r8).bind λr9=>cond (!r9.2) (some ([],(0:Int),(2:Int))) ((fO N (mn r9.1 x8) aW).bind λnY=>cond (!aO nY.2 0) (some ([],(0:Int),nY.2)) (OA x7 x8 x9 bx nY.1 x9))
def dD.Jj(N:Nat)(bP:dD.bN)(x7:bK)(x8:Int)(x9:Int)(bx:Int)(aW:List (Int)):Option (bK×(Int)×(Int)):=dD.BZ N (dD.Hh N bP N) bP x7 x8 x9 bx aW
def dD.yn(N:Nat)(Df:dD.Oy)(bP:dD.bN)(e9:dD.gT)(x7:bK)(x8:Int)(x9:Int)(bx:Int)(aW:List (Int)):Option (bK×(Int)×(Int)):=
 cond (aZ bx (List.length x7:Int)) (cond (bb bx (List.length x7)) (cond (bb x9 (List.length x7)) (cond (aO ((List.getD x7 bx.toNat mL).1) ((List.getD x7 x9.toNat mL).1)) (cond (bb bx (List.length x7)) (cond (small (List.length aW+List.length ([((((List.getD x7 bx.toNat mL).2).2).2).1]))) (e9 x7 x8 x9 (W .i64 (bx+1)) (aW++([((((List.getD x7 bx.toNat mL).2).2).2).1]))) (none)) (none)) (Df x7 x8 x9 bx aW)) (none)) (none)) (Df x7 x8 x9 bx aW)
def dD.l8(N:Nat)(bP:dD.bN):Nat→dD.gT
 |0,_,_,_,_,_=>none
 |n+1,x7,x8,x9,bx,aW=>dD.yn N (dD.Jj N bP) bP (dD.l8 N bP n) x7 x8 x9 bx aW
def dD.eg(N:Nat)(Cc:dD.gT)(bP:dD.bN)(x7:bK)(x8:Int)(x9:Int):Option (bK×(Int)×(Int)):=
 cond (aZ x9 (List.length x7:Int)) (Cc x7 x8 x9 x9 ([])) (some (x7,x8,(0:Int)))
def dD.l5(N:Nat):Nat→dD.bN
 |0,_,_,_=>none
 |n+1,x7,x8,x9=>dD.eg N (dD.l8 N (dD.l5 N n) N) (dD.l5 N n) x7 x8 x9
def dD.b(N:Nat)(eY:dD.bN)(a0:bK)(a1:Int):Option (bK×(Int)×(Int)):=
 (rL N a0).bind λr1=>cond (!r1) (some ([],(0:Int),(1:Int))) (cond (aZ a1 0) (some ([],(0:Int),(1:Int))) (cond (small (List.length Dj+List.length a0)) (eY (Dj++a0) a1 (0:Int)) (none)))
def dD(N:Nat)(a0:bK)(a1:Int):Option (bK×(Int)×(Int)):=dD.b N (dD.l5 N N) a0 a1
def aaY(N:Nat)(a0:ae)(a1:an):Option ((Int)×(Int)):=
 (gb N a0 a1).bind λr1=>cond (!r1) (some ((0:Int),(1:Int))) ((s9 N a1.2.2.1 (2:Int) (0:Int)).bind λr2=>some ((mx r2 0),(0:Int)))
abbrev iw.ant:=an→an→dK→bE→dK→bK→Int→Int→Int→Option (an×dK×(Int))
abbrev iw.GX:=Int→ae→an→an→dK→bK→Int→bE→dK→bK→Int→Option (an×dK×(Int))
def iw.aa0(N:Nat)(x6:an)(bx:an)(aW:dK)(ll:bE)(ln:dK)(GZ:bK)(x21:Int)(x23:Int)(x24:Int):Option (an×dK×(Int)):=
 (iG N x21).bind λzr=>(yr N (2:Int) (0:Int) x23 x24 zr).bind λuj=>cond (small (List.length ll+List.length uj)) ((yq N x6 bH (ll++uj)).bind λLi=>cond (!aO Li.2 0) (some ((cn,(c9,(bH,(bH,(dB,(dR,())))))),((0:Int),((0:Int),(Dj,((0:Int),())))),Li.2)) (some (Li.1,(ln.1,(ln.2.1,(GZ,ln.2.2.2))),(0:Int)))) (none)
def iw.j26(N:Nat)(x6:an)(bx:an)(aW:dK)(ll:bE)(ln:dK)(GZ:bK)(x21:Int)(x23:Int)(x24:Int):Option (an×dK×(Int)):=iw.aa0 N x6 bx aW ll ln GZ x21 x23 x24
def iw.HO(N:Nat)(agn:iw.ant)(JJ:iw.GX)(x2:Int)(x5:ae)(x6:an)(bx:an)(aW:dK)(bU:bK)(e8:Int)(ll:bE)(ln:dK)(GZ:bK)(DM:Int):Option (an×dK×(Int)):=
 cond (aZ DM (List.length bU:Int)) (cond (bb DM (List.length bU)) (cond (aZ 0 ((((((List.getD bU DM.toNat mL).2).2).2).2).1)) (cond (bb DM (List.length bU)) (cond (small (List.length GZ+List.length ([List.getD bU DM.toNat mL]))) (cond (bb DM (List.length bU)) (cond (bb DM (List.length bU)) (cond (bb DM (List.length bU)) ((iG N ((((((List.getD bU DM.toNat mL).2).2).2).2).1)).bind λr6=>(yr N (((List.getD bU DM.toNat mL).2).1) ((((List.getD bU DM.toNat mL).2).2).1) (2:Int) (0:Int) r6).bind λr7=>cond (small (List.length ll+List.length r7)) (JJ x2 x5 x6 bx aW bU e8 (ll++r7) (ln.1,(ln.2.1,(Dj,ln.2.2.2))) (GZ++([List.getD bU DM.toNat mL])) (W .i64 (DM+1))) (none)) (none)) (none)) (none)) (none)) (none)) (JJ x2 x5 x6 bx aW bU e8 ll ln GZ (W .i64 (DM+1)))) (none)) ((iG N e8).bind λnY=>(yr N (4:Int) (0:Int) (2:Int) (0:Int) nY).bind λn6=>cond (small (List.length ll+List.length n6)) (let v13:List ((Int)×((Int)×(((Bool)×((List (Int))×(Unit)))×(Unit)))):=ll++n6;(aaY N x5 x6).bind λvQ=>(mq N x6.2.1 x2).bind λxj=>cond (!aO xj 0) (agn x6 bx aW v13 ln GZ vQ.1 (5:Int) xj) (agn x6 bx aW v13 ln GZ vQ.1 (6:Int) x2)) (none))
def iw.IP(N:Nat):Nat→iw.GX
 |0,_,_,_,_,_,_,_,_,_,_,_=>none
 |n+1,x2,x5,x6,bx,aW,bU,e8,ll,ln,GZ,DM=>iw.HO N (iw.j26 N) (iw.IP N n) x2 x5 x6 bx aW bU e8 ll ln GZ DM
def iw.b(N:Nat)(YA:iw.GX)(a0:ae)(a1:an)(a2:Int)(a3:aE)(a4:aE):Option (an×dK×(Int)):=
 (cI N a0 a1 a2 a3 a4).bind λr1=>cond (aO r1.2 1) (some ((cn,(c9,(bH,(bH,(dB,(dR,())))))),((0:Int),((0:Int),(Dj,((0:Int),())))),r1.2)) (cond (aO r1.2 3) (some ((cn,(c9,(bH,(bH,(dB,(dR,())))))),((0:Int),((0:Int),(Dj,((0:Int),())))),r1.2)) ((aaX N a0 a1).bind λr2=>cond (!aO r2.2 0) (some ((cn,(c9,(bH,(bH,(dB,(dR,())))))),((0:Int),((0:Int),(Dj,((0:Int),())))),r2.2)) (cond (!aO r1.2 0) (some ((cn,(c9,(bH,(bH,(dB,(dR,())))))),((0:Int),((0:Int),(Dj,((0:Int),())))),r1.2)) ((dD N r1.1 r2.1).bind λr3=>cond (!aO r3.2.2 0) (some ((cn,(c9,(bH,(bH,(dB,(dR,())))))),((0:Int),((0:Int),(Dj,((0:Int),())))),r3.2.2)) (YA a2 a0 a1 (cn,(c9,(bH,(bH,(dB,(dR,())))))) ((0:Int),((0:Int),(Dj,((0:Int),())))) r3.1 r3.2.1 ([]) (a2,(r2.1,(Dj,(r3.2.1,())))) Dj (0:Int))))))
def iw(N:Nat)(a0:ae)(a1:an)(a2:Int)(a3:aE)(a4:aE):Option (an×dK×(Int)):=iw.b N (iw.IP N N) a0 a1 a2 a3 a4
abbrev eN.xn:=(List (Int))→(List (Int))→(List (Int))→Int→Int→(List (Int))→Int→Option ((List (Int))×(Int)×(Int))
abbrev eN.gi:=(List (Int))→(List (Int))→(List (Int))→Int→Int→(List (Int))→Bool→Int→Option ((List (Int))×(Int)×(Int))
abbrev eN.gT:=(List (Int))→(List (Int))→(List (Int))→Int→Int→Option ((List (Int))×(Int)×(Int))
def eN.FO(N:Nat)(e9:eN.gT)(Ou:eN.xn)(x1:List (Int))(x2:List (Int))(aW:List (Int))(a7:Int)(bU:Int)(e8:List (Int))(ln:Int):Option ((List (Int))×(Int)×(Int)):=
 cond (aZ ln (List.length x1:Int)) (cond (bb ln (List.length e8)) (cond (bb ln (List.length x2)) (cond (bb ln (List.length aW)) (let Yw:Int:=mn (List.getD e8 ln.toNat (0:Int)) (W .i64 ((List.getD x2 ln.toNat (0:Int))-(List.getD aW ln.toNat (0:Int))));cond (bb ln (List.length aW)) (cond (bb ln (List.length aW)) (Ou x1 x2 (List.set aW ln.toNat (W .i64 ((List.getD aW ln.toNat (0:Int))+Yw))) (W .i64 (a7-Yw)) bU e8 (W .i64 (ln+1))) (none)) (none)) (none)) (none)) (none)) (e9 x1 x2 aW a7 (W .i64 (bU+1)))
def eN.IV(N:Nat)(e9:eN.gT):Nat→eN.xn
 |0,_,_,_,_,_,_,_=>none
 |n+1,x1,x2,aW,a7,bU,e8,ln=>eN.FO N e9 (eN.IV N e9 n) x1 x2 aW a7 bU e8 ln
def eN.ns(N:Nat)(Ov:eN.xn)(e9:eN.gT)(gj:eN.gi)(x1:List (Int))(x2:List (Int))(aW:List (Int))(a7:Int)(bU:Int)(cj:List (Int))(dq:Bool)(et:Int):Option ((List (Int))×(Int)×(Int)):=
 cond (aZ et (List.length x1:Int)) (cond (bb et (List.length x1)) (cond (aZ 0 (List.getD x1 et.toNat (0:Int))) (cond (bb et (List.length aW)) (cond (bb et (List.length x2)) (cond (aZ (List.getD aW et.toNat (0:Int)) (List.getD x2 et.toNat (0:Int))) (cond (bb et (List.length x1)) (cond (bb et (List.length cj)) (gj x1 x2 aW a7 bU (List.set cj et.toNat (List.getD x1 et.toNat (0:Int))) true (W .i64 (et+1))) (none)) (none)) (gj x1 x2 aW a7 bU cj dq (W .i64 (et+1)))) (none)) (none)) (gj x1 x2 aW a7 bU cj dq (W .i64 (et+1)))) (none)) (cond (aO a7 0) (some (aW,a7,(0:Int))) (cond (!dq) (some (aW,a7,(0:Int))) ((fO N a7 cj).bind λpV=>Ov x1 x2 aW a7 bU pV.1 (0:Int))))
def eN.mU(N:Nat)(e9:eN.gT):Nat→eN.gi
 |0,_,_,_,_,_,_,_,_=>none
 |n+1,x1,x2,aW,a7,bU,cj,dq,et=>eN.ns N (eN.IV N e9 N) e9 (eN.mU N e9 n) x1 x2 aW a7 bU cj dq et
def eN.yn(N:Nat)(ug:eN.gi)(e9:eN.gT)(x1:List (Int))(x2:List (Int))(aW:List (Int))(a7:Int)(bU:Int):Option ((List (Int))×(Int)×(Int)):=
 cond (dk bU (List.length x1:Int)) (cond (jZ (List.length x1:Int) (List.length x1:Int)) (ug x1 x2 aW a7 bU (List.replicate (List.length x1:Int).toNat (0:Int)) false (0:Int)) (none)) (some (aW,a7,(0:Int)))
def eN.l8(N:Nat):Nat→eN.gT
 |0,_,_,_,_,_=>none
 |n+1,x1,x2,aW,a7,bU=>eN.yn N (eN.mU N (eN.l8 N n) N) (eN.l8 N n) x1 x2 aW a7 bU
def eN.b(N:Nat)(Cc:eN.gT)(a0:Int)(a1:List (Int))(a2:List (Int)):Option ((List (Int))×(Int)×(Int)):=
 (pJ N a0 a1).bind λr1=>cond (r1) (some ([],(0:Int),(1:Int))) (cond (!aO (List.length a2:Int) (List.length a1:Int)) (some ([],(0:Int),(1:Int))) ((pJ N (0:Int) a2).bind λr2=>cond (r2) (some ([],(0:Int),(1:Int))) ((pD N a1).bind λr3=>(wT N r3).bind λr4=>cond (!r4.2) (some ([],(0:Int),(2:Int))) (cond (jZ (List.length a1:Int) (List.length a1:Int)) (Cc a1 a2 (List.replicate (List.length a1:Int).toNat (0:Int)) a0 (0:Int)) (none)))))
def eN(N:Nat)(a0:Int)(a1:List (Int))(a2:List (Int)):Option ((List (Int))×(Int)×(Int)):=eN.b N (eN.l8 N N) a0 a1 a2
abbrev fE.YE:=Int→Int→(List (Int))→(List (Int))→au→Int→Option (au×(Int))
abbrev fE.xu:=Int→an→Int→(List (Int))→(List (Int))→Int→Option (au×(Int))
def fE.XJ(N:Nat)(SW:fE.YE)(x2:Int)(x8:Int)(x9:List (Int))(bU:List (Int))(et:au)(e8:Int):Option (au×(Int)):=
 cond (aZ e8 (List.length bU:Int)) (cond (bb e8 (List.length bU)) (cond (aZ x8 0) (let v17:Int:=W .i64 (0-(List.getD bU e8.toNat (0:Int)));cond (!aO v17 0) (cond (bb e8 (List.length x9)) (cond (small (List.length et+List.length ([(List.getD x9 e8.toNat (0:Int),(x2,(v17,())))]))) (SW x2 x8 x9 bU (et++([(List.getD x9 e8.toNat (0:Int),(x2,(v17,())))])) (W .i64 (e8+1))) (none)) (none)) (SW x2 x8 x9 bU et (W .i64 (e8+1)))) (cond (!aO (List.getD bU e8.toNat (0:Int)) (0:Int)) (cond (bb e8 (List.length x9)) (cond (small (List.length et+List.length ([(List.getD x9 e8.toNat (0:Int),(x2,(List.getD bU e8.toNat (0:Int),())))]))) (SW x2 x8 x9 bU (et++([(List.getD x9 e8.toNat (0:Int),(x2,(List.getD bU e8.toNat (0:Int),())))])) (W .i64 (e8+1))) (none)) (none)) (SW x2 x8 x9 bU et (W .i64 (e8+1))))) (none)) (some (et,(0:Int)))
def fE.UC(N:Nat):Nat→fE.YE
 |0,_,_,_,_,_,_=>none
 |n+1,x2,x8,x9,bU,et,e8=>fE.XJ N (fE.UC N n) x2 x8 x9 bU et e8
def fE.zg(N:Nat)(anu:fE.YE)(Be:fE.xu)(x2:Int)(x4:an)(x8:Int)(x9:List (Int))(bx:List (Int))(aW:Int):Option (au×(Int)):=
 cond (aZ aW (List.length x4.2.2.2.1:Int)) (cond (bb aW (List.length x4.2.2.2.1)) (cond (!aO ((List.getD x4.2.2.2.1 aW.toNat bm).1) (0:Int)) (cond (aO (((List.getD x4.2.2.2.1 aW.toNat bm).2).1) x2) (cond (!(uw .bool (aZ 0 ((((List.getD x4.2.2.2.1 aW.toNat bm).2).2).1)) (aZ 0 x8))) (cond (small (List.length x9+List.length ([(List.getD x4.2.2.2.1 aW.toNat bm).1]))) (let v6:Int:=mx ((((List.getD x4.2.2.2.1 aW.toNat bm).2).2).1) (W .i64 (0-((((List.getD x4.2.2.2.1 aW.toNat bm).2).2).1)));cond (small (List.length bx+List.length ([v6]))) (Be x2 x4 x8 (x9++([(List.getD x4.2.2.2.1 aW.toNat bm).1])) (bx++([v6])) (W .i64 (aW+1))) (none)) (none)) (Be x2 x4 x8 x9 bx (W .i64 (aW+1)))) (Be x2 x4 x8 x9 bx (W .i64 (aW+1)))) (Be x2 x4 x8 x9 bx (W .i64 (aW+1)))) (none)) ((eN N (mx x8 (W .i64 (0-x8))) bx bx).bind λvQ=>cond (!aO vQ.2.2 0) (some ([],vQ.2.2)) (anu x2 x8 x9 vQ.1 ([((0:Int),(x2,((W .i64 (0-x8)),())))]) (0:Int)))
def fE.BY(N:Nat):Nat→fE.xu
 |0,_,_,_,_,_,_=>none
 |n+1,x2,x4,x8,x9,bx,aW=>fE.zg N (fE.UC N N) (fE.BY N n) x2 x4 x8 x9 bx aW
def fE.b(N:Nat)(OC:fE.xu)(a0:ae)(a1:an)(a2:Int):Option (au×(Int)):=
 (gb N a0 a1).bind λr1=>cond (!r1) (some ([],(1:Int))) (cond (aZ a2 0) (some ([],(3:Int))) (cond (dk (List.length a0.1:Int) a2) (some ([],(3:Int))) ((Bk N a1.2.2.2.1 (0:Int) a2).bind λr2=>cond (aO r2 0) (some ([],(0:Int))) (OC a2 a1 r2 ([]) ([]) (0:Int)))))
def fE(N:Nat)(a0:ae)(a1:an)(a2:Int):Option (au×(Int)):=fE.b N (fE.BY N N) a0 a1 a2
abbrev nM.bN:=ae→an→an→au→Int→Option (an×(Int))
def nM.eg(N:Nat)(bP:nM.bN)(x2:ae)(x3:an)(x4:an)(x6:au)(x7:Int):Option (an×(Int)):=
 cond (aZ x7 (List.length x2.1:Int)) ((fE N x2 x3 x7).bind λr3=>cond (!aO r3.2 0) (some ((cn,(c9,(bH,(bH,(dB,(dR,())))))),r3.2)) (cond (small (List.length x6+List.length r3.1)) (bP x2 x3 x4 (x6++r3.1) (W .i64 (x7+1))) (none))) ((yq N x3 x6 ([]:List ((Int)×((Int)×(((Bool)×((List (Int))×(Unit)))×(Unit)))))).bind λr6=>some (r6.1,r6.2))
def nM.l5(N:Nat):Nat→nM.bN
 |0,_,_,_,_,_=>none
 |n+1,x2,x3,x4,x6,x7=>nM.eg N (nM.l5 N n) x2 x3 x4 x6 x7
def nM.b(N:Nat)(eY:nM.bN)(a0:ae)(a1:an):Option (an×(Int)):=
 (gb N a0 a1).bind λr1=>cond (!r1) (some ((cn,(c9,(bH,(bH,(dB,(dR,())))))),(1:Int))) (eY a0 a1 (cn,(c9,(bH,(bH,(dB,(dR,())))))) ([]) (0:Int))
def nM(N:Nat)(a0:ae)(a1:an):Option (an×(Int)):=nM.b N (nM.l5 N N) a0 a1
abbrev nO.YF:=aQ→aQ→dh→bA→Int→Int→Option (aQ×dh)
def nO.aa2(N:Nat)(ago:nO.YF)(x4:aQ)(x6:aQ)(x7:dh)(cj:bA)(et:Int)(e8:Int):Option (aQ×dh):=
 cond (aZ e8 (List.length cj:Int)) (cond (bb e8 (List.length cj)) (cond (aO (((((List.getD cj e8.toNat ((0:Int),(cn,aV))).2).2).2).1) (2:Int)) (ago x4 x6 x7 cj (W .i64 (et+1)) (W .i64 (e8+1))) (ago x4 x6 x7 cj et (W .i64 (e8+1)))) (none)) (some (x4,((0:Int),(et,((0:Int),())))))
def nO.l41(N:Nat):Nat→nO.YF
 |0,_,_,_,_,_,_=>none
 |n+1,x4,x6,x7,cj,et,e8=>nO.aa2 N (nO.l41 N n) x4 x6 x7 cj et e8
def nO.b(N:Nat)(anv:nO.YF)(a0:ae)(a1:aQ)(a2:gR):Option (aQ×dh):=
 cond (aO a2.1 14) ((Ut N a0 a1.2.2.1 a1.2.2.2.1.1 a2.2.1 a2.2.2.1).bind λr1=>(fA N r1.2).bind λr2=>some ((a1.1,(a1.2.1,(r1.1,a1.2.2.2))),r2)) (cond (aO a2.1 15) ((mW N a0 a1.2.2.1 a1.2.2.2.1.1).bind λr3=>(fA N r3.2).bind λr4=>some ((a1.1,(a1.2.1,(r3.1,((a1.2.2.2.1.1,((2:Int),((0:Int),a1.2.2.2.1.2.2.2))),a1.2.2.2.2)))),r4)) (cond (aO a2.1 16) ((iY N a0 a1.2.2.1 a1.2.1).bind λr5=>some ((a1.1,((W .i64 (a1.2.1+(List.length r5.1:Int))),(a1.2.2.1,((a1.2.2.2.1.1,(a1.2.2.2.1.2.1,(a1.2.2.2.1.2.2.1,(a1.2.2.2.1.2.2.2.1,(r5.1,a1.2.2.2.1.2.2.2.2.2))))),a1.2.2.2.2)))),(r5.2,((List.length r5.1:Int),((0:Int),()))))) (cond (aO a2.1 17) ((nN N a0 a1 a2).bind λr7=>some (r7.1,r7.2)) (cond (aO a2.1 18) (cond (aO a1.2.2.2.1.2.2.2.1 3) ((fA N (5:Int)).bind λr8=>some (a1,r8)) ((bS N a0 a1.2.2.1 a1.2.1).bind λr9=>cond (!aO r9.2 0) ((fA N r9.2).bind λkD=>some (a1,kD)) ((UE N a1 a0.2.2.2.2.1).bind λnY=>cond (!nY.2) ((fA N (2:Int)).bind λn6=>some (a1,n6)) ((rH N a0 a1.2.2.1).bind λvQ=>some ((a1.1,((W .i64 (a1.2.1+(List.length r9.1:Int))),(a1.2.2.1,((a1.2.2.2.1.1,((3:Int),(nY.1,((W .i64 (a1.2.2.2.1.2.2.2.1+1)),(c9,(r9.1,(c9,(vQ.1,a1.2.2.2.1.2.2.2.2.2.2.2.2)))))))),a1.2.2.2.2)))),((0:Int),((List.length r9.1:Int),((0:Int),())))))))) (cond (aO a2.1 19) ((aaV N a0 a1.2.2.1 a1.2.2.2.1.2.2.2.2.2.1 a1.2.2.2.1.2.2.2.2.2.2.1 (a1.2.1,(a2.2.2.2.2.2.1,(a2.2.1,(a2.2.2.2.2.2.2.2.1,()))))).bind λvP=>let v17:Int:=W .i64 (a1.2.1+1);some ((a1.1,(v17,(a1.2.2.1,((a1.2.2.2.1.1,(a1.2.2.2.1.2.1,(a1.2.2.2.1.2.2.1,(a1.2.2.2.1.2.2.2.1,(a1.2.2.2.1.2.2.2.2.1,(a1.2.2.2.1.2.2.2.2.2.1,(vP.1,a1.2.2.2.1.2.2.2.2.2.2.2))))))),a1.2.2.2.2)))),(vP.2,((W .i64 (v17-1)),((0:Int),()))))) (cond (aO a2.1 20) ((fL N a0 a1.2.2.1 a1.2.2.2.1.2.2.2.2.2.1 a1.2.2.2.1.2.2.2.2.2.2.1).bind λLl=>cond (!aO Ll.2.2 0) ((fA N Ll.2.2).bind λLi=>some (a1,Li)) ((dv N a0 a1.2.2.2.1.2.2.2.2.2.2.2.2.1 a1.2.2.2.1.2.2.2.2.2.2.2.1 Ll.2.1 a1.2.2.2.1.2.2.2.2.2.2.1).bind λDc=>anv (a1.1,(a1.2.1,(Ll.1,((a1.2.2.2.1.1,((2:Int),((0:Int),(a1.2.2.2.1.2.2.2.1,(a1.2.2.2.1.2.2.2.2.1,(Ll.2.1,(a1.2.2.2.1.2.2.2.2.2.2.1,(a1.2.2.2.1.2.2.2.2.2.2.2.1,(Dc.1,a1.2.2.2.1.2.2.2.2.2.2.2.2.2))))))))),a1.2.2.2.2)))) ((0:Int),((0:Int),((cn,(c9,(bH,(bH,(dB,(dR,())))))),(((0:Int),((0:Int),((0:Int),((0:Int),(c9,(([]:List ((Int)×((List ((Int)×((Int)×(Unit))))×((Int)×((Int)×((Int)×((Int)×(Unit)))))))),(c9,(dB,(cn,(cn,())))))))))),(((0:Int),((0:Int),(Dj,((0:Int),())))),()))))) bm Ll.2.1 (0:Int) (0:Int))) (cond (aO a2.1 21) ((iw N a0 a1.2.2.1 a1.2.2.2.1.1 a1.2.2.2.1.2.2.2.2.2.2.2.2.1 a1.2.2.2.1.2.2.2.2.2.2.2.2.2.1).bind λBm=>cond (!aO Bm.2.2 0) ((fA N Bm.2.2).bind λLh=>some (a1,Lh)) ((nM N a0 Bm.1).bind λr28=>cond (!aO r28.2 0) ((fA N r28.2).bind λEg=>some (a1,Eg)) ((lL N r28.1.1 a1.2.2.2.1.1 a2.1).bind λRg=>some ((a1.1,(a1.2.1,((Rg.1,r28.1.2),(((0:Int),((0:Int),((0:Int),((0:Int),(c9,(([]:List ((Int)×((List ((Int)×((Int)×(Unit))))×((Int)×((Int)×((Int)×((Int)×(Unit)))))))),(c9,(dB,(cn,(cn,())))))))))),(Bm.2.1,a1.2.2.2.2.2))))),(Rg.2,((0:Int),(Bm.2.1.2.1,()))))))) ((fA N (0:Int)).bind λHj=>some (a1,Hj)))))))))
def nO(N:Nat)(a0:ae)(a1:aQ)(a2:gR):Option (aQ×dh):=nO.b N (nO.l41 N N) a0 a1 a2
abbrev pO.YC:=ae→aQ→gR→aQ→dh→Option (aQ×dh)
def pO.N0(N:Nat)(x3:ae)(x4:aQ)(x5:gR)(x6:aQ)(x7:dh):Option (aQ×dh):=
 (aa3 N x4 x5.1).bind λLh=>cond (!Lh) ((fA N (6:Int)).bind λr28=>some (x4,r28)) ((nO N x3 x4 x5).bind λEg=>some (Eg.1,Eg.2))
def pO.Ux(N:Nat)(x3:ae)(x4:aQ)(x5:gR)(x6:aQ)(x7:dh):Option (aQ×dh):=pO.N0 N x3 x4 x5 x6 x7
def pO.b(N:Nat)(OE:pO.YC)(a0:ae)(a1:aQ)(a2:gR):Option (aQ×dh):=
 cond (aO a2.1 11) ((lL N a1.2.2.1.1 a2.2.1 a2.1).bind λr1=>cond (aO r1.2 0) (cond (aO a2.1 11) ((KY N a0 (r1.1,a1.2.2.1.2) a2.2.1).bind λr2=>cond (aO a1.2.2.2.1.2.1 3) ((pn N a1.2.2.2.1.2.2.2.2.2.2.1 a2.2.1).bind λr3=>(fA N r1.2).bind λr4=>some ((a1.1,(a1.2.1,(r2.1,((a1.2.2.2.1.1,(a1.2.2.2.1.2.1,(a1.2.2.2.1.2.2.1,(a1.2.2.2.1.2.2.2.1,(a1.2.2.2.1.2.2.2.2.1,(a1.2.2.2.1.2.2.2.2.2.1,(r3,a1.2.2.2.1.2.2.2.2.2.2.2))))))),a1.2.2.2.2)))),r4)) ((fA N r1.2).bind λr5=>some ((a1.1,(a1.2.1,(r2.1,a1.2.2.2))),r5))) ((fA N r1.2).bind λr6=>some ((a1.1,(a1.2.1,((r1.1,a1.2.2.1.2),a1.2.2.2))),r6))) ((fA N r1.2).bind λr7=>some ((a1.1,(a1.2.1,((r1.1,a1.2.2.1.2),a1.2.2.2))),r7))) (cond (aO a2.1 12) ((lL N a1.2.2.1.1 a2.2.1 a2.1).bind λr8=>cond (aO r8.2 0) (cond (aO a2.1 11) ((KY N a0 (r8.1,a1.2.2.1.2) a2.2.1).bind λr9=>cond (aO a1.2.2.2.1.2.1 3) ((pn N a1.2.2.2.1.2.2.2.2.2.2.1 a2.2.1).bind λkD=>(fA N r8.2).bind λnY=>some ((a1.1,(a1.2.1,(r9.1,((a1.2.2.2.1.1,(a1.2.2.2.1.2.1,(a1.2.2.2.1.2.2.1,(a1.2.2.2.1.2.2.2.1,(a1.2.2.2.1.2.2.2.2.1,(a1.2.2.2.1.2.2.2.2.2.1,(kD,a1.2.2.2.1.2.2.2.2.2.2.2))))))),a1.2.2.2.2)))),nY)) ((fA N r8.2).bind λn6=>some ((a1.1,(a1.2.1,(r9.1,a1.2.2.2))),n6))) ((fA N r8.2).bind λpV=>some ((a1.1,(a1.2.1,((r8.1,a1.2.2.1.2),a1.2.2.2))),pV))) ((fA N r8.2).bind λvQ=>some ((a1.1,(a1.2.1,((r8.1,a1.2.2.1.2),a1.2.2.2))),vQ))) (cond (aO a2.1 13) ((Gl N a1 a2.2.1).bind λxj=>cond (aO xj 0) ((fA N (3:Int)).bind λvP=>some (a1,vP)) (cond (!aO a1.2.2.2.1.2.1 0) ((fA N (6:Int)).bind λzr=>some (a1,zr)) ((lL N a1.2.2.1.1 a2.2.1 a2.1).bind λuj=>cond (!aO uj.2 0) ((fA N uj.2).bind λLl=>some ((a1.1,(a1.2.1,((uj.1,a1.2.2.1.2),a1.2.2.2))),Ll)) ((UE N (a1.1,(a1.2.1,((uj.1,a1.2.2.1.2),a1.2.2.2))) a0.2.2.2.1).bind λLi=>cond (!Li.2) ((fA N (2:Int)).bind λDc=>some ((a1.1,(a1.2.1,((uj.1,a1.2.2.1.2),a1.2.2.2))),Dc)) (some ((a1.1,(a1.2.1,((uj.1,a1.2.2.1.2),((a2.2.1,((1:Int),(Li.1,((0:Int),(c9,(([]:List ((Int)×((List ((Int)×((Int)×(Unit))))×((Int)×((Int)×((Int)×((Int)×(Unit)))))))),(c9,(dB,(cn,(cn,())))))))))),a1.2.2.2.2)))),bm)))))) (cond (aO a2.1 19) ((Gl N a1 a2.2.1).bind λLj=>cond (aO Lj 0) ((fA N (3:Int)).bind λDd=>some (a1,Dd)) ((Gl N a1 a2.2.1).bind λJI=>cond (!aO JI 1) ((fA N (7:Int)).bind λEh=>some (a1,Eh)) (OE a0 a1 a2 ((0:Int),((0:Int),((cn,(c9,(bH,(bH,(dB,(dR,())))))),(((0:Int),((0:Int),((0:Int),((0:Int),(c9,(([]:List ((Int)×((List ((Int)×((Int)×(Unit))))×((Int)×((Int)×((Int)×((Int)×(Unit)))))))),(c9,(dB,(cn,(cn,())))))))))),(((0:Int),((0:Int),(Dj,((0:Int),())))),()))))) bm))) (OE a0 a1 a2 ((0:Int),((0:Int),((cn,(c9,(bH,(bH,(dB,(dR,())))))),(((0:Int),((0:Int),((0:Int),((0:Int),(c9,(([]:List ((Int)×((List ((Int)×((Int)×(Unit))))×((Int)×((Int)×((Int)×((Int)×(Unit)))))))),(c9,(dB,(cn,(cn,())))))))))),(((0:Int),((0:Int),(Dj,((0:Int),())))),()))))) bm))))
def pO(N:Nat)(a0:ae)(a1:aQ)(a2:gR):Option (aQ×dh):=pO.b N (pO.Ux N) a0 a1 a2
def UG(N:Nat)(a0:ae)(a1:aQ)(a2:gR):Option (aQ×dh):=
 cond (aO a2.1 1) ((iu N a1.2.2.1.1 a2.2.1).bind λr1=>(fA N r1.2).bind λr2=>some ((a1.1,(a1.2.1,((r1.1,a1.2.2.1.2),a1.2.2.2))),r2)) (cond (aO a2.1 2) ((ff N a1.2.2.1.1 a1.2.2.1.2.1 (a2.2.2.1,(a2.2.1,(a2.2.2.2.2.1,((0:Int),()))))).bind λr3=>(fA N r3.2).bind λr4=>some ((a1.1,(a1.2.1,((a1.2.2.1.1,(r3.1,a1.2.2.1.2.2)),a1.2.2.2))),r4)) (cond (aO a2.1 3) ((QW N a1 a2.2.2.1).bind λr5=>cond (!r5) ((fA N (3:Int)).bind λr6=>some (a1,r6)) ((N6 N a1 (1:Int) (0:Int) (5:Int) a2.2.2.1 a2.2.2.2.2.2.2.1).bind λr7=>some (r7.1,r7.2))) (cond (aO a2.1 4) ((Us N a0 a1.2.2.1 a2.2.2.1 a2.2.2.2.2.2.2.1).bind λr8=>(fA N r8.2).bind λr9=>some ((a1.1,(a1.2.1,(r8.1,a1.2.2.2))),r9)) (cond (aO a2.1 5) ((Gl N a1 a2.2.1).bind λkD=>cond (aO kD 0) ((fA N (3:Int)).bind λnY=>some (a1,nY)) ((Gl N a1 a2.2.1).bind λn6=>cond (!aO n6 1) ((fA N (7:Int)).bind λpV=>some (a1,pV)) ((N6 N a1 (1:Int) (0:Int) (6:Int) a2.2.1 a2.2.2.2.2.2.2.1).bind λvQ=>some (vQ.1,vQ.2)))) (cond (aO a2.1 22) ((Gl N a1 a2.2.1).bind λxj=>cond (aO xj 0) ((fA N (3:Int)).bind λvP=>some (a1,vP)) ((s9 N a1.2.2.1.2.2.1 (7:Int) a2.2.1).bind λzr=>(iG N zr).bind λuj=>(TO N uj).bind λLl=>(iG N a2.2.2.2.2.2.2.1).bind λLi=>(Kt N Li Ll).bind λDc=>cond (aZ 0 Dc) ((fA N (9:Int)).bind λLj=>some (a1,Lj)) ((N6 N a1 (1:Int) (0:Int) (7:Int) a2.2.1 a2.2.2.2.2.2.2.1).bind λDd=>some (Dd.1,Dd.2)))) (cond (aO a2.1 6) ((nI N a1.2.2.1.2.1 a2.2.2.1 a2.2.2.2.2.2.2.1).bind λJI=>(fA N JI.2).bind λEh=>some ((a1.1,(a1.2.1,((a1.2.2.1.1,(JI.1,a1.2.2.1.2.2)),a1.2.2.2))),Eh)) (cond (aO a2.1 7) ((jl N a0 a1.2.2.1 (a1.2.1,(a2.2.2.1,(a2.2.2.2.1,(a2.2.2.2.2.1,(a2.2.2.2.2.2.2.1,(a2.2.2.2.2.2.2.2.1,()))))))).bind λBm=>let v27:Int:=W .i64 (a1.2.1+1);some ((a1.1,(v27,(Bm.1,a1.2.2.2))),(Bm.2.2.2,((W .i64 (v27-1)),((W .i64 (a2.2.2.2.2.2.2.1-Bm.2.2.1)),()))))) (cond (aO a2.1 8) ((QW N a1 a2.2.2.1).bind λRg=>cond (!Rg) ((fA N (3:Int)).bind λHj=>some (a1,Hj)) ((nK N a1.2.2.1.2.2.2.2.2.1 a2.2.2.1 a2.2.2.2.2.2.1).bind λr32=>(fA N r32.2).bind λr33=>some ((a1.1,(a1.2.1,((a1.2.2.1.1,(a1.2.2.1.2.1,(a1.2.2.1.2.2.1,(a1.2.2.1.2.2.2.1,(a1.2.2.1.2.2.2.2.1,(r32.1,a1.2.2.1.2.2.2.2.2.2)))))),a1.2.2.2))),r33))) (cond (aO a2.1 9) ((Ur N a0 a1.2.2.1 a2.2.2.2.1 a2.2.2.2.2.2.2.2.1).bind λRe=>cond (aO Re.2.2 0) (cond (!aO a1.2.2.2.1.2.1 0) ((eQ N a1.2.2.2.1.2.2.2.2.2.2.2.2.2.1 Re.2.1).bind λr35=>(fA N r35.2).bind λr36=>some ((a1.1,(a1.2.1,(Re.1,((a1.2.2.2.1.1,(a1.2.2.2.1.2.1,(a1.2.2.2.1.2.2.1,(a1.2.2.2.1.2.2.2.1,(a1.2.2.2.1.2.2.2.2.1,(a1.2.2.2.1.2.2.2.2.2.1,(a1.2.2.2.1.2.2.2.2.2.2.1,(a1.2.2.2.1.2.2.2.2.2.2.2.1,(a1.2.2.2.1.2.2.2.2.2.2.2.2.1,(r35.1,a1.2.2.2.1.2.2.2.2.2.2.2.2.2.2)))))))))),a1.2.2.2.2)))),r36)) ((fA N Re.2.2).bind λr37=>some ((a1.1,(a1.2.1,(Re.1,a1.2.2.2))),r37))) ((fA N Re.2.2).bind λr38=>some ((a1.1,(a1.2.1,(Re.1,a1.2.2.2))),r38))) (cond (aO a2.1 10) ((UE N a1 a2.2.2.2.2.2.2.1).bind λr39=>cond (!r39.2) ((fA N (2:Int)).bind λr40=>some (a1,r40)) (some ((r39.1,a1.2),bm))) ((pO N a0 a1 a2).bind λr41=>some (r41.1,r41.2))))))))))))
def QY(N:Nat)(a0:ae)(a1:aQ)(a2:gR):Option (aQ×dh):=
 (mh N a0).bind λr1=>cond (!r1) (some (a1,((1:Int),cA))) ((rE N a2).bind λr2=>cond (!r2) (some (a1,((1:Int),cA))) ((UG N a0 a1 a2).bind λr3=>cond (!aO r3.2.1 0) (some (a1,(r3.2.1,cA))) (some (r3.1,r3.2))))
abbrev qm.aip:=cE→cV→aQ→Option (aQ×cE×cV)
def qm.l1b(N:Nat)(asz:qm.aip)(x0:cE)(x1:cV)(x4:aQ):Option (aQ×cE×cV):=
 cond (aZ x0.2.2.1 (List.length x1:Int)) (cond (bb x0.2.2.1 (List.length x1)) ((QY N x0.1 x0.2.1 (List.getD x1 x0.2.2.1.toNat zz8)).bind λr2=>asz (x0.1,(r2.1,((W .i64 (x0.2.2.1+1)),x0.2.2.2))) x1 x4) (none)) (some (x0.2.1,x0,x1))
def qm.l1(N:Nat):Nat→qm.aip
 |0,_,_,_=>none
 |n+1,x0,x1,x4=>qm.l1b N (qm.l1 N n) x0 x1 x4
def qm.b(N:Nat)(asA:qm.aip)(a0:cE)(a1:cV):Option (aQ×cE×cV):=
 asA a0 a1 ((0:Int),((0:Int),((cn,(c9,(bH,(bH,(dB,(dR,())))))),(((0:Int),((0:Int),((0:Int),((0:Int),(c9,(([]:List ((Int)×((List ((Int)×((Int)×(Unit))))×((Int)×((Int)×((Int)×((Int)×(Unit)))))))),(c9,(dB,(cn,(cn,())))))))))),(((0:Int),((0:Int),(Dj,((0:Int),())))),())))))
def qm(N:Nat)(a0:cE)(a1:cV):Option (aQ×cE×cV):=qm.b N (qm.l1 N N) a0 a1
abbrev dV.xp:=aM→cE→cV→aQ→Int→iA→Int→Option (cV×aM×cE)
abbrev dV.ga:=aM→cE→cV→aQ→Int→Option (cV×aM×cE)
abbrev dV.JL:=aM→cE→cV→Option (cV×aM×cE)
abbrev dV.bN:=aM→cE→cV→aQ→Int→Option (cV×aM×cE)
def dV.DH(N:Nat)(gP:dV.ga)(JK:dV.xp)(x0:aM)(x1:cE)(x2:cV)(bx:aQ)(aW:Int)(a7:iA)(bU:Int):Option (cV×aM×cE):=
 cond (dk bU 4) ((QP N x0 (3:Int)).bind λDc=>cond (!Dc.1) ((pT N Dc.2 (41:Int)).bind λLj=>let v26:Int:=mx (mn (W .i64 ((W .i64 (a7.2.2.1+Lj.1))-20)) (1152921504606846976:Int)) (-1152921504606846976:Int);cond (small (List.length x2+List.length ([((19:Int),(bU,((0:Int),((0:Int),((0:Int),(a7.1,((0:Int),(v26,()))))))))]))) (JK Lj.2 x1 (x2++([((19:Int),(bU,((0:Int),((0:Int),((0:Int),(a7.1,((0:Int),(v26,()))))))))])) bx aW a7 (W .i64 (bU+1))) (none)) (JK Dc.2 x1 x2 bx aW a7 (W .i64 (bU+1)))) (gP x0 x1 x2 bx (W .i64 (aW+1)))
def dV.D5(N:Nat)(gP:dV.ga):Nat→dV.xp
 |0,_,_,_,_,_,_,_=>none
 |n+1,x0,x1,x2,bx,aW,a7,bU=>dV.DH N gP (dV.D5 N gP n) x0 x1 x2 bx aW a7 bU
def dV.mR(N:Nat)(Oz:dV.xp)(gP:dV.ga)(x0:aM)(x1:cE)(x2:cV)(bx:aQ)(aW:Int):Option (cV×aM×cE):=
 cond (aZ aW (List.length bx.2.2.2.1.2.2.2.2.2.1:Int)) (cond (bb aW (List.length bx.2.2.2.1.2.2.2.2.2.1)) (Oz x0 x1 x2 bx aW (List.getD bx.2.2.2.1.2.2.2.2.2.1 aW.toNat ((0:Int),(cn,aV))) (1:Int)) (none)) ((nH N x0 x1.1).bind λHj=>cond (small (List.length x2+List.length Hj.1)) (let v32:List ((Int)×((Int)×((Int)×((Int)×((Int)×((Int)×((Int)×((Int)×(Unit))))))))):=x2++Hj.1;cond (small (List.length v32+List.length ([((10:Int),((0:Int),((0:Int),((0:Int),((0:Int),((0:Int),((2:Int),((0:Int),())))))))),((20:Int),Lx)]))) (some ((v32++([((10:Int),((0:Int),((0:Int),((0:Int),((0:Int),((0:Int),((2:Int),((0:Int),())))))))),((20:Int),Lx)])),Hj.2,x1)) (none)) (none))
def dV.nW(N:Nat):Nat→dV.ga
 |0,_,_,_,_,_=>none
 |n+1,x0,x1,x2,bx,aW=>dV.mR N (dV.D5 N (dV.nW N n) N) (dV.nW N n) x0 x1 x2 bx aW
def dV.B0(N:Nat)(ue:dV.ga)(x0:aM)(x1:cE)(x2:cV):Option (cV×aM×cE):=
 cond (small (List.length x2+List.length ([((18:Int),Lx)]))) ((qm N x1 (x2++([((18:Int),Lx)]))).bind λuj=>ue x0 uj.2.1 uj.2.2 uj.1 (0:Int)) (none)
def dV.HW(N:Nat)(x0:aM)(x1:cE)(x2:cV):Option (cV×aM×cE):=dV.B0 N (dV.nW N N) x0 x1 x2
def dV.eg(N:Nat)(xt:dV.JL)(bP:dV.bN)(x0:aM)(x1:cE)(x2:cV)(x7:aQ)(x8:Int):Option (cV×aM×cE):=
 cond (aZ x8 (List.length x7.2.2.2.1.2.2.2.2.1:Int)) (cond (bb x8 (List.length x7.2.2.2.1.2.2.2.2.1)) ((QP N x0 (2:Int)).bind λr5=>cond (r5.1) ((pT N r5.2 (7:Int)).bind λr6=>let v7:Int:=W .i64 ((1:Int)+r6.1);(F62 N r6.2).bind λr8=>let v9:Int:=W .u64 (((((List.getD x7.2.2.2.1.2.2.2.2.1 x8.toNat aV).2).2).2).1);cond (aO v9 0) (none) (let Yy:Int:=W .i64 ((1:Int)+(W .i64 (rem r8.1 v9)));cond (bb (((List.getD x7.2.2.2.1.2.2.2.2.1 x8.toNat aV).2).1) (List.length x7.2.2.1.2.2.2.2.1)) (cond (small (List.length x2+List.length ([((17:Int),((0:Int),(v7,((0:Int),((0:Int),((List.getD x7.2.2.2.1.2.2.2.2.1 x8.toNat aV).1,(Yy,(List.getD x7.2.2.1.2.2.2.2.1 (((List.getD x7.2.2.2.1.2.2.2.2.1 x8.toNat aV).2).1).toNat (0:Int),()))))))))]))) (bP r8.2 x1 (x2++([((17:Int),((0:Int),(v7,((0:Int),((0:Int),((List.getD x7.2.2.2.1.2.2.2.2.1 x8.toNat aV).1,(Yy,(List.getD x7.2.2.1.2.2.2.2.1 (((List.getD x7.2.2.2.1.2.2.2.2.1 x8.toNat aV).2).1).toNat (0:Int),()))))))))])) x7 (W .i64 (x8+1))) (none)) (none))) (bP r5.2 x1 x2 x7 (W .i64 (x8+1)))) (none)) (xt x0 x1 x2)
def dV.l5(N:Nat):Nat→dV.bN
 |0,_,_,_,_,_=>none
 |n+1,x0,x1,x2,x7,x8=>dV.eg N (dV.HW N) (dV.l5 N n) x0 x1 x2 x7 x8
def dV.b(N:Nat)(eY:dV.bN)(xt:dV.JL)(a0:aM)(a1:cE)(a2:cV):Option (cV×aM×cE):=
 (QP N a0 (2:Int)).bind λr1=>cond (r1.1) (cond (small (List.length a2+List.length ([((16:Int),Lx)]))) ((qm N a1 (a2++([((16:Int),Lx)]))).bind λr3=>eY r1.2 r3.2.1 r3.2.2 r3.1 (0:Int)) (none)) (xt r1.2 a1 a2)
def dV(N:Nat)(a0:aM)(a1:cE)(a2:cV):Option (cV×aM×cE):=dV.b N (dV.l5 N N) (dV.HW N) a0 a1 a2
abbrev jo.xp:=aM→ae→cE→cV→Int→Option (cV×aM)
abbrev jo.mz:=aM→ae→cE→cV→Int→Option (cV×aM)
def jo.DH(N:Nat)(JK:jo.xp)(x0:aM)(x4:ae)(x9:cE)(bx:cV)(bU:Int):Option (cV×aM):=
 cond (aZ 0 bU) ((dV N x0 x9 bx).bind λEh=>JK Eh.2.1 x4 Eh.2.2 Eh.1 (W .i64 (bU-1))) ((QP N x0 (4:Int)).bind λLh=>cond (!Lh.1) (cond (small (List.length bx+List.length ([((21:Int),Lx)]))) (let v28:List ((Int)×((Int)×((Int)×((Int)×((Int)×((Int)×((Int)×((Int)×(Unit))))))))):=bx++([((21:Int),Lx)]);(nH N Lh.2 x4).bind λEg=>cond (small (List.length v28+List.length Eg.1)) (some ((v28++Eg.1),Eg.2)) (none)) (none)) ((nH N Lh.2 x4).bind λHj=>cond (small (List.length bx+List.length Hj.1)) (some ((bx++Hj.1),Hj.2)) (none)))
def jo.D5(N:Nat):Nat→jo.xp
 |0,_,_,_,_,_=>none
 |n+1,x0,x4,x9,bx,bU=>jo.DH N (jo.D5 N n) x0 x4 x9 bx bU
def jo.xK(N:Nat)(Oz:jo.xp)(rU:jo.mz)(x0:aM)(x4:ae)(x9:cE)(bx:cV)(a7:Int):Option (cV×aM):=
 cond (dk a7 7) ((QP N x0 (3:Int)).bind λkD=>cond (kD.1) ((pT N kD.2 (2:Int)).bind λnY=>let Yy:Int:=W .i64 ((3:Int)+nY.1);cond (small (List.length bx+List.length ([((14:Int),(Yy,(a7,mL)))]))) (rU nY.2 x4 x9 (bx++([((14:Int),(Yy,(a7,mL)))])) (W .i64 (a7+1))) (none)) (rU kD.2 x4 x9 bx (W .i64 (a7+1)))) ((nH N x0 x4).bind λvP=>cond (small (List.length bx+List.length vP.1)) (let v17:List ((Int)×((Int)×((Int)×((Int)×((Int)×((Int)×((Int)×((Int)×(Unit))))))))):=bx++vP.1;(pT N vP.2 (2:Int)).bind λuj=>let v19:Int:=W .i64 ((2:Int)+uj.1);cond (small (List.length v17+List.length ([((10:Int),((0:Int),((0:Int),((0:Int),((0:Int),((0:Int),(v19,((0:Int),())))))))),((15:Int),Lx)]))) (let v20:List ((Int)×((Int)×((Int)×((Int)×((Int)×((Int)×((Int)×((Int)×(Unit))))))))):=v17++([((10:Int),((0:Int),((0:Int),((0:Int),((0:Int),((0:Int),(v19,((0:Int),())))))))),((15:Int),Lx)]);(nH N uj.2 x4).bind λDc=>cond (small (List.length v20+List.length Dc.1)) ((pT N Dc.2 (3:Int)).bind λDd=>Oz Dd.2 x4 x9 (v20++Dc.1) Dd.1) (none)) (none)) (none))
def jo.l9(N:Nat):Nat→jo.mz
 |0,_,_,_,_,_=>none
 |n+1,x0,x4,x9,bx,a7=>jo.xK N (jo.D5 N N) (jo.l9 N n) x0 x4 x9 bx a7
def jo.b(N:Nat)(zk:jo.mz)(a0:aM)(a1:ae)(a2:Int):Option (cV×aM):=
 (Yh N a1).bind λr1=>(pN N a0 a1 a2).bind λr2=>(pT N r2.2 (2:Int)).bind λr3=>let v4:Int:=W .i64 ((1:Int)+r3.1);cond (small (List.length r2.1+List.length ([((11:Int),(v4,fm))]))) (let v5:List ((Int)×((Int)×((Int)×((Int)×((Int)×((Int)×((Int)×((Int)×(Unit))))))))):=r2.1++([((11:Int),(v4,fm))]);(nH N r3.2 a1).bind λr6=>cond (small (List.length v5+List.length r6.1)) (let v7:List ((Int)×((Int)×((Int)×((Int)×((Int)×((Int)×((Int)×((Int)×(Unit))))))))):=v5++r6.1;cond (small (List.length v7+List.length ([((13:Int),(v4,fm))]))) (zk r6.2 a1 (a1,(r1.1,((0:Int),()))) (v7++([((13:Int),(v4,fm))])) (5:Int)) (none)) (none)) (none)
def jo(N:Nat)(a0:aM)(a1:ae)(a2:Int):Option (cV×aM):=jo.b N (jo.l9 N N) a0 a1 a2
abbrev GF.bN:=aM→ae→cV→Int→Option (cV×aM)
def GF.eg(N:Nat)(bP:GF.bN)(x0:aM)(x4:ae)(x7:cV)(x8:Int):Option (cV×aM):=
 cond (aZ 0 x8) ((Ul N x0 x4).bind λr5=>cond (small (List.length x7+List.length ([r5.1]))) (bP r5.2 x4 (x7++([r5.1])) (W .i64 (x8-1))) (none)) (some (x7,x0))
def GF.l5(N:Nat):Nat→GF.bN
 |0,_,_,_,_=>none
 |n+1,x0,x4,x7,x8=>GF.eg N (GF.l5 N n) x0 x4 x7 x8
def GF.b(N:Nat)(eY:GF.bN)(a0:aM)(a1:ae)(a2:Int):Option (cV×aM):=
 (pT N a0 (5:Int)).bind λr1=>cond (aO r1.1 0) ((pT N r1.2 (W .i64 (a2+1))).bind λr3=>eY r3.2 a1 ([]) r3.1) (cond (aO r1.1 1) ((pN N r1.2 a1 a2).bind λr8=>some (r8.1,r8.2)) ((jo N r1.2 a1 a2).bind λr9=>some (r9.1,r9.2)))
def GF(N:Nat)(a0:aM)(a1:ae)(a2:Int):Option (cV×aM):=GF.b N (GF.l5 N N) a0 a1 a2
abbrev GD.jF:=cV→ae→aQ→aQ→au→Int→Option (aQ×au)
def GD.uN(N:Nat)(kE:GD.jF)(x1:cV)(x2:ae)(x4:aQ)(x6:aQ)(x8:au)(x9:Int):Option (aQ×au):=
 cond (aZ x9 (List.length x1:Int)) (cond (bb x9 (List.length x1)) ((QY N x2 x6 (List.getD x1 x9.toNat zz8)).bind λr3=>cond (small (List.length x8+List.length ([r3.2]))) (kE x1 x2 x4 r3.1 (x8++([r3.2])) (W .i64 (x9+1))) (none)) (none)) (some (x6,x8))
def GD.l6(N:Nat):Nat→GD.jF
 |0,_,_,_,_,_,_=>none
 |n+1,x1,x2,x4,x6,x8,x9=>GD.uN N (GD.l6 N n) x1 x2 x4 x6 x8 x9
def GD.b(N:Nat)(xm:GD.jF)(a0:ae)(a1:cV):Option (aQ×au):=
 (Yh N a0).bind λr1=>cond (!aO r1.2 0) (some (((0:Int),((0:Int),((cn,(c9,(bH,(bH,(dB,(dR,())))))),(((0:Int),((0:Int),((0:Int),((0:Int),(c9,(([]:List ((Int)×((List ((Int)×((Int)×(Unit))))×((Int)×((Int)×((Int)×((Int)×(Unit)))))))),(c9,(dB,(cn,(cn,())))))))))),(((0:Int),((0:Int),(Dj,((0:Int),())))),()))))),[])) (xm a1 a0 ((0:Int),((0:Int),((cn,(c9,(bH,(bH,(dB,(dR,())))))),(((0:Int),((0:Int),((0:Int),((0:Int),(c9,(([]:List ((Int)×((List ((Int)×((Int)×(Unit))))×((Int)×((Int)×((Int)×((Int)×(Unit)))))))),(c9,(dB,(cn,(cn,())))))))))),(((0:Int),((0:Int),(Dj,((0:Int),())))),()))))) r1.1 ([]) (0:Int))
def GD(N:Nat)(a0:ae)(a1:cV):Option (aQ×au):=GD.b N (GD.l6 N N) a0 a1
def F18(N:Nat)(a0:aM)(a1:ae)(a2:Int):Option (aQ×aM):=
 (GF N a0 a1 a2).bind λr1=>(GD N a1 r1.1).bind λr2=>some (r2.1,r1.2)
abbrev F5.anw:=ae→an→Int→an→aH→Int→bM→Int→Int→Int→Option (Bool)
abbrev F5.xn:=ae→an→Int→an→aH→Int→bM→Int→Int→Int→Int→aH→Int→Option (Bool)
abbrev F5.gi:=ae→an→Int→an→aH→Int→Option (Bool)
def F5.aim(N:Nat)(gj:F5.gi)(x6:ae)(x7:an)(x8:Int)(x9:an)(aW:aH)(a7:Int)(bU:bM)(cj:Int)(dq:Int)(et:Int):Option (Bool):=
 cond (!aO bU.2.1 x8) (gj x6 x7 x8 x9 aW (W .i64 (a7+1))) (let v30:Int:=mx cj 0;cond (aO bU.2.2.1 2) (cond (!aO dq (W .i64 (v30-et))) (some false) ((iG N cj).bind λr32=>(iG N dq).bind λr33=>(Nj N r32 r33).bind λRe=>(xJ N aW Re).bind λr35=>gj x6 x7 x8 x9 r35 (W .i64 (a7+1)))) (cond (!aO dq v30) (some false) ((iG N cj).bind λr37=>(iG N dq).bind λr38=>(Nj N r37 r38).bind λr39=>(xJ N aW r39).bind λr40=>gj x6 x7 x8 x9 r40 (W .i64 (a7+1)))))
def F5.j24(N:Nat)(gj:F5.gi)(x6:ae)(x7:an)(x8:Int)(x9:an)(aW:aH)(a7:Int)(bU:bM)(cj:Int)(dq:Int)(et:Int):Option (Bool):=F5.aim N gj x6 x7 x8 x9 aW a7 bU cj dq et
def F5.FO(N:Nat)(agp:F5.anw)(gj:F5.gi)(Ou:F5.xn)(x6:ae)(x7:an)(x8:Int)(x9:an)(aW:aH)(a7:Int)(bU:bM)(cj:Int)(dq:Int)(et:Int)(e8:Int)(ll:aH)(ln:Int):Option (Bool):=
 cond (aZ ln (List.length x6.1:Int)) ((Bk N x7.2.2.2.1 bU.1 ln).bind λvP=>(iG N vP).bind λzr=>(Vj N zr).bind λuj=>cond (bb ln (List.length x6.1)) ((iG N (((((List.getD x6.1 ln.toNat aV).2).2).2).1)).bind λLl=>(jL N uj Ll).bind λLi=>(xJ N ll Li).bind λDc=>Ou x6 x7 x8 x9 aW a7 bU cj dq et e8 Dc (W .i64 (ln+1))) (none)) (cond (!aO e8 0) (some false) (cond (aZ et 0) (some false) (cond (aZ (mx cj 0) et) (some false) ((iG N et).bind λJI=>(Kt N JI ll).bind λEh=>cond (aZ 0 Eh) (some false) (cond (aZ et cj) ((iG N et).bind λBm=>(Kt N Bm ll).bind λLh=>cond (!aO Lh 0) (some false) (agp x6 x7 x8 x9 aW a7 bU cj dq et)) (agp x6 x7 x8 x9 aW a7 bU cj dq et))))))
def F5.IV(N:Nat)(gj:F5.gi):Nat→F5.xn
 |0,_,_,_,_,_,_,_,_,_,_,_,_,_=>none
 |n+1,x6,x7,x8,x9,aW,a7,bU,cj,dq,et,e8,ll,ln=>F5.FO N (F5.j24 N gj) gj (F5.IV N gj n) x6 x7 x8 x9 aW a7 bU cj dq et e8 ll ln
def F5.ns(N:Nat)(Ov:F5.xn)(gj:F5.gi)(x6:ae)(x7:an)(x8:Int)(x9:an)(aW:aH)(a7:Int):Option (Bool):=
 cond (aZ a7 (List.length x7.2.1:Int)) (cond (bb a7 (List.length x7.2.1)) ((s9 N x7.2.2.1 (5:Int) ((List.getD x7.2.1 a7.toNat aV).1)).bind λn6=>(s9 N x9.2.2.1 (5:Int) ((List.getD x7.2.1 a7.toNat aV).1)).bind λpV=>(F31 N x6 x7 ((List.getD x7.2.1 a7.toNat aV).1)).bind λvQ=>Ov x6 x7 x8 x9 aW a7 (List.getD x7.2.1 a7.toNat aV) n6 pV vQ.1 vQ.2 (false,py) (0:Int)) (none)) ((s9 N x9.2.2.1 (2:Int) (0:Int)).bind λr42=>(iG N r42).bind λr43=>(Kt N aW r43).bind λr44=>some (aO r44 0))
def F5.mU(N:Nat):Nat→F5.gi
 |0,_,_,_,_,_,_=>none
 |n+1,x6,x7,x8,x9,aW,a7=>F5.ns N (F5.IV N (F5.mU N n) N) (F5.mU N n) x6 x7 x8 x9 aW a7
def F5.b(N:Nat)(ug:F5.gi)(a0:List (Int))(a1:Int):Option (Bool):=
 (F15 N).bind λr1=>cond (!r1) (some false) ((F16 N a0).bind λr2=>(vg N r2).bind λr3=>(F18 N r3.2 r3.1 (30:Int)).bind λr4=>cond (aO 5 0) (none) (let v7:Int:=W .i64 ((1:Int)+(W .i64 (rem a1 5)));(tc N r3.1 r4.1.2.2.1 v7).bind λr8=>cond (!aO r8.2 0) (some (aO (List.length r8.1.2.2.2.2.1:Int) 0)) ((s9 N r4.1.2.2.1.2.2.1 (2:Int) (0:Int)).bind λr9=>(iG N r9).bind λkD=>ug r3.1 r4.1.2.2.1 v7 r8.1 kD (0:Int))))
def F5(N:Nat)(a0:List (Int))(a1:Int):Option (Bool):=F5.b N (F5.mU N N) a0 a1
end
end VM.F
