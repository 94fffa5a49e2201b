/- A part of the proof of WindTwice of layer 21: the functions as equations between values, printed by a program. -/
import Derived.Test.YtecmobijochjkaaGreatVm0
set_option linter.all false
namespace VM.F
open Go VM
set_option maxRecDepth 100000
noncomputable section
abbrev lh:Ty:=(.pair .str (.pair (.int .u64) .unit))
abbrev jC:Ty:=(.pair (.int .i64) (.pair (.int .i64) .unit))
abbrev fQ:Ty:=(.pair (.int .i64) (.pair (.int .u64) .unit))
abbrev cX:Ty:=(.pair .bool (.pair (.slice (.int .u64)) .unit))
abbrev dN:Ty:=(.pair (.slice (.int .u64)) (.pair (.int .i64) .unit))
abbrev jt:Ty:=(.pair (.int .i64) jC)
abbrev uZ:Ty:=(.pair (.int .i64) (.pair (.int .i64) (.pair .bool (.pair (.int .u8) .unit))))
abbrev eB:Ty:=(.pair (.int .i64) jt)
abbrev w9:Ty:=(.pair (.int .i64) (.pair (.int .i64) (.pair fQ .unit)))
abbrev sX:Ty:=(.pair (.int .i64) eB)
abbrev rL:Ty:=(.pair (.int .i64) (.pair (.int .i64) (.pair cX .unit)))
abbrev mT:Ty:=(.pair (.int .i64) sX)
abbrev kX:Ty:=(.pair (.int .i64) (.pair (.int .i64) mT))
abbrev jk:Ty:=(.pair (.int .i64) (.pair (.slice jC) eB))
abbrev gM:Ty:=(.pair (.int .i64) (.pair (.int .i64) (.pair (.slice sX) (.pair (.int .i64) .unit))))
abbrev aA:Ty:=(.pair (.slice eB) mT)
abbrev aL:Ty:=(.pair (.slice jC) (.pair (.slice eB) (.pair (.slice jt) (.pair (.slice jt) (.pair (.slice (.int .i64)) (.pair (.slice mT) .unit))))))
abbrev rF:Ty:=(.pair (.int .i64) (.pair (.int .i64) (.pair (.int .i64) (.pair (.int .i64) (.pair (.slice eB) (.pair (.slice jk) (.pair (.slice eB) (.pair (.slice (.int .i64)) (.pair (.slice jC) (.pair (.slice jC) .unit))))))))))
abbrev dt:Ty:=(.pair (.int .i64) (.pair (.int .i64) (.pair aL (.pair rF (.pair gM .unit)))))
abbrev mv:Ty:=(.pair aA (.pair dt (.pair (.int .i64) .unit)))
abbrev Oi:=Ty.den lh
abbrev Oj:=List (Ty.den lh)
abbrev yT:=Ty.den jC
abbrev aD:=List (Ty.den jC)
abbrev cC:=Ty.den fQ
abbrev jD:=List (Ty.den fQ)
abbrev aH:=Ty.den cX
abbrev pg:=List (Ty.den cX)
abbrev aM:=Ty.den dN
abbrev asD:=List (Ty.den dN)
abbrev db:=Ty.den jt
abbrev au:=List (Ty.den jt)
abbrev Zg:=Ty.den uZ
abbrev Zh:=List (Ty.den uZ)
abbrev bO:=Ty.den eB
abbrev aK:=List (Ty.den eB)
abbrev uG:=Ty.den w9
abbrev di:=List (Ty.den w9)
abbrev sW:=Ty.den sX
abbrev bK:=List (Ty.den sX)
abbrev ah3:=Ty.den rL
abbrev bF:=List (Ty.den rL)
abbrev gk:=Ty.den mT
abbrev bq:=List (Ty.den mT)
abbrev gP:=Ty.den kX
abbrev cS:=List (Ty.den kX)
abbrev ir:=Ty.den jk
abbrev bz:=List (Ty.den jk)
abbrev dL:=Ty.den gM
abbrev ann:=List (Ty.den gM)
abbrev ae:=Ty.den aA
abbrev ano:=List (Ty.den aA)
abbrev aq:=Ty.den aL
abbrev asE:=List (Ty.den aL)
abbrev alu:=Ty.den rF
abbrev alv:=List (Ty.den rF)
abbrev aQ:=Ty.den dt
abbrev aqO:=List (Ty.den dt)
abbrev cE:=Ty.den mv
abbrev aqP:=List (Ty.den mv)
def F56(N:Nat):Option (ae×aq):=
 some (([((0:Int),((100:Int),((2:Int),((3:Int),()))))],((0:Int),((0:Int),((0:Int),((0:Int),((1:Int),((0:Int),()))))))),([((1:Int),((3:Int),())),((2:Int),((1:Int),()))],([((1:Int),((1:Int),((1:Int),((0:Int),())))),((2:Int),((1:Int),((2:Int),((0:Int),())))),((3:Int),((2:Int),((1:Int),((0:Int),()))))],([((1:Int),((0:Int),((-10:Int),()))),((5:Int),((1:Int),((-10:Int),()))),((5:Int),((2:Int),((20:Int),())))],([((1:Int),((0:Int),((1:Int),()))),((2:Int),((0:Int),((5:Int),()))),((3:Int),((0:Int),((-6:Int),())))],([(100:Int)],(dT,())))))))
def Dn(N:Nat)(a0:Int)(a1:Int)(a2:Int):Option (Bool):=
 cond (dk a1 a0) (some (dk a0 a2)) (some false)
abbrev CC.bE:=ae→aK→Int→Int→Option (Bool)
def CC.dw(N:Nat)(cr:CC.bE)(x1:ae)(a6:aK)(bc:Int)(bZ:Int):Option (Bool):=
 cond (aY bZ bc) (cond (ba bZ (List.length a6)) ((Dn N ((List.getD a6 bZ.toNat aV).1) (0:Int) (3:Int)).bind λr3=>cond (!r3) (some false) ((Dn N (((List.getD a6 bZ.toNat aV).2).1) (1:Int) (1000000000000:Int)).bind λr4=>cond (!r4) (some false) ((Dn N ((((List.getD a6 bZ.toNat aV).2).2).1) (0:Int) (1000000000:Int)).bind λr5=>cond (!r5) (some false) ((Dn N (((((List.getD a6 bZ.toNat aV).2).2).2).1) (0:Int) (1000000000:Int)).bind λr6=>cond (!r6) (some false) (cr x1 a6 bc (W .i64 (bZ+1))))))) (none)) (cond (dk 0 x1.2.1) ((Dn N x1.2.2.1 (0:Int) (4:Int)).bind λr8=>cond (r8) ((Dn N x1.2.2.2.1 (0:Int) (1000000:Int)).bind λr9=>cond (r9) ((Dn N x1.2.2.2.2.1 (0:Int) (1000000:Int)).bind λkB=>cond (kB) ((Dn N x1.2.2.2.2.2.1 (1:Int) (4611686018427387904:Int)).bind λnV=>cond (nV) (some (dk 0 x1.2.2.2.2.2.2.1)) (some false)) (some false)) (some false)) (some false)) (some false))
def CC.l4(N:Nat):Nat→CC.bE
 |0,_,_,_,_=>none
 |n+1,x1,a6,bc,bZ=>CC.dw N (CC.l4 N n) x1 a6 bc bZ
def CC.b(N:Nat)(eH:CC.bE)(a0:ae):Option (Bool):=
 (Dn N (List.length a0.1:Int) (1:Int) (6:Int)).bind λr1=>cond (!r1) (some false) (eH a0 a0.1 (List.length a0.1:Int) (0:Int))
def CC(N:Nat)(a0:ae):Option (Bool):=CC.b N (CC.l4 N N) a0
abbrev o5.dd:=aD→aD→Int→Int→Option (Bool)
def o5.gJ(N:Nat)(eE:o5.dd)(x0:aD)(x5:aD)(x6:Int)(x7:Int):Option (Bool):=
 cond (aY x7 x6) (cond (ba x7 (List.length x5)) (cond (aY ((List.getD x5 x7.toNat cA).1) (1:Int)) (some false) (cond (aY 12 ((List.getD x5 x7.toNat cA).1)) (some false) (cond (aY (((List.getD x5 x7.toNat cA).2).1) (1:Int)) (some false) (cond (aY 4 (((List.getD x5 x7.toNat cA).2).1)) (some false) (cond (aY 0 x7) (let v2:Int:=W .i64 (x7-1);cond (ba v2 (List.length x0)) (cond (dk ((List.getD x5 x7.toNat cA).1) ((List.getD x0 v2.toNat cA).1)) (some false) (eE x0 x5 x6 (W .i64 (x7+1)))) (none)) (eE x0 x5 x6 (W .i64 (x7+1)))))))) (none)) (some true)
def o5.l2(N:Nat):Nat→o5.dd
 |0,_,_,_,_=>none
 |n+1,x0,x5,x6,x7=>o5.gJ N (o5.l2 N n) x0 x5 x6 x7
def o5.b(N:Nat)(jn:o5.dd)(a0:aD):Option (Bool):=
 jn a0 a0 (List.length a0:Int) (0:Int)
def o5(N:Nat)(a0:aD):Option (Bool):=o5.b N (o5.l2 N N) a0
abbrev mO.dY:=aK→(List (Bool))→aK→Int→Int→Option (Bool)
def mO.nO(N:Nat)(dp:mO.dY)(x0:aK)(x3:List (Bool))(x6:aK)(x7:Int)(x8:Int):Option (Bool):=
 cond (aY x8 x7) (cond (ba x8 (List.length x6)) (cond (aY ((List.getD x6 x8.toNat aV).1) (1:Int)) (some false) (cond (aY 24 ((List.getD x6 x8.toNat aV).1)) (some false) (cond (aY (((List.getD x6 x8.toNat aV).2).1) (1:Int)) (some false) (cond (aY 12 (((List.getD x6 x8.toNat aV).2).1)) (some false) (cond (!aO ((((List.getD x6 x8.toNat aV).2).2).1) (1:Int)) (cond (!aO ((((List.getD x6 x8.toNat aV).2).2).1) (2:Int)) (some false) (cond (aY (((((List.getD x6 x8.toNat aV).2).2).2).1) (0:Int)) (some false) (cond (aY 1000000000000 (((((List.getD x6 x8.toNat aV).2).2).2).1)) (some false) (cond (aY 0 x8) (let v2:Int:=W .i64 (x8-1);cond (ba v2 (List.length x0)) (cond (dk ((List.getD x6 x8.toNat aV).1) ((List.getD x0 v2.toNat aV).1)) (some false) (cond (aO ((((List.getD x6 x8.toNat aV).2).2).1) (1:Int)) (cond (ba (((List.getD x6 x8.toNat aV).2).1) 13) (cond (List.getD x3 (((List.getD x6 x8.toNat aV).2).1).toNat false) (some false) (cond (ba (((List.getD x6 x8.toNat aV).2).1) 13) (dp x0 (List.set x3 (((List.getD x6 x8.toNat aV).2).1).toNat true) x6 x7 (W .i64 (x8+1))) (none))) (none)) (dp x0 x3 x6 x7 (W .i64 (x8+1))))) (none)) (cond (aO ((((List.getD x6 x8.toNat aV).2).2).1) (1:Int)) (cond (ba (((List.getD x6 x8.toNat aV).2).1) 13) (cond (List.getD x3 (((List.getD x6 x8.toNat aV).2).1).toNat false) (some false) (cond (ba (((List.getD x6 x8.toNat aV).2).1) 13) (dp x0 (List.set x3 (((List.getD x6 x8.toNat aV).2).1).toNat true) x6 x7 (W .i64 (x8+1))) (none))) (none)) (dp x0 x3 x6 x7 (W .i64 (x8+1)))))))) (cond (aY (((((List.getD x6 x8.toNat aV).2).2).2).1) (0:Int)) (some false) (cond (aY 1000000000000 (((((List.getD x6 x8.toNat aV).2).2).2).1)) (some false) (cond (aY 0 x8) (let v7:Int:=W .i64 (x8-1);cond (ba v7 (List.length x0)) (cond (dk ((List.getD x6 x8.toNat aV).1) ((List.getD x0 v7.toNat aV).1)) (some false) (cond (aO ((((List.getD x6 x8.toNat aV).2).2).1) (1:Int)) (cond (ba (((List.getD x6 x8.toNat aV).2).1) 13) (cond (List.getD x3 (((List.getD x6 x8.toNat aV).2).1).toNat false) (some false) (cond (ba (((List.getD x6 x8.toNat aV).2).1) 13) (dp x0 (List.set x3 (((List.getD x6 x8.toNat aV).2).1).toNat true) x6 x7 (W .i64 (x8+1))) (none))) (none)) (dp x0 x3 x6 x7 (W .i64 (x8+1))))) (none)) (cond (aO ((((List.getD x6 x8.toNat aV).2).2).1) (1:Int)) (cond (ba (((List.getD x6 x8.toNat aV).2).1) 13) (cond (List.getD x3 (((List.getD x6 x8.toNat aV).2).1).toNat false) (some false) (cond (ba (((List.getD x6 x8.toNat aV).2).1) 13) (dp x0 (List.set x3 (((List.getD x6 x8.toNat aV).2).1).toNat true) x6 x7 (W .i64 (x8+1))) (none))) (none)) (dp x0 x3 x6 x7 (W .i64 (x8+1)))))))))))) (none)) (some true)
def mO.l3(N:Nat):Nat→mO.dY
 |0,_,_,_,_,_=>none
 |n+1,x0,x3,x6,x7,x8=>mO.nO N (mO.l3 N n) x0 x3 x6 x7 x8
def mO.b(N:Nat)(oE:mO.dY)(a0:aK):Option (Bool):=
 oE a0 (List.replicate 13 false) a0 (List.length a0:Int) (0:Int)
def mO(N:Nat)(a0:aK):Option (Bool):=mO.b N (mO.l3 N N) a0
abbrev Al.bE:=Int→aD→Int→Int→Option (Int)
def Al.dw(N:Nat)(cr:Al.bE)(x1:Int)(bw:aD)(a6:Int)(bc:Int):Option (Int):=
 cond (aY bc a6) (cond (ba bc (List.length bw)) (cond (aO ((List.getD bw bc.toNat cA).1) x1) (some (((List.getD bw bc.toNat cA).2).1)) (cr x1 bw a6 (W .i64 (bc+1)))) (none)) (some (0:Int))
def Al.l4(N:Nat):Nat→Al.bE
 |0,_,_,_,_=>none
 |n+1,x1,bw,a6,bc=>Al.dw N (Al.l4 N n) x1 bw a6 bc
def Al.b(N:Nat)(eH:Al.bE)(a0:aD)(a1:Int):Option (Int):=
 (o5 N a0).bind λr1=>cond (!r1) (some (0:Int)) (eH a1 a0 (List.length a0:Int) (0:Int))
def Al(N:Nat)(a0:aD)(a1:Int):Option (Int):=Al.b N (Al.l4 N N) a0 a1
abbrev Dr.bE:=aD→aK→Int→Int→Option (Bool)
def Dr.dw(N:Nat)(cr:Dr.bE)(x0:aD)(dQ:aK)(eR:Int)(fy:Int):Option (Bool):=
 cond (aY fy eR) (cond (ba fy (List.length dQ)) ((Al N x0 (((List.getD dQ fy.toNat aV).2).1)).bind λr4=>cond (aO r4 0) (some false) (cr x0 dQ eR (W .i64 (fy+1)))) (none)) (some true)
def Dr.l4(N:Nat):Nat→Dr.bE
 |0,_,_,_,_=>none
 |n+1,x0,dQ,eR,fy=>Dr.dw N (Dr.l4 N n) x0 dQ eR fy
def Dr.b(N:Nat)(eH:Dr.bE)(a0:aD)(a1:aK):Option (Bool):=
 (o5 N a0).bind λr1=>cond (!r1) (some false) ((mO N a1).bind λr2=>cond (!r2) (some false) (eH a0 a1 (List.length a1:Int) (0:Int)))
def Dr(N:Nat)(a0:aD)(a1:aK):Option (Bool):=Dr.b N (Dr.l4 N N) a0 a1
def Ql(N:Nat)(a0:Int)(a1:Int):Option (Bool):=
 cond (aO a0 1) (some (aO a1 0)) (cond (aO a0 2) (some (aO a1 0)) (cond (aO a0 3) (some (aO a1 0)) (cond (aO a0 4) (some (aO a1 0)) (cond (aO a0 5) (cond (dk 1 a1) (some (dk a1 24)) (some false)) (cond (aO a0 6) (cond (dk 1 a1) (some (dk a1 12)) (some false)) (cond (aO a0 7) (cond (dk 1 a1) (some (dk a1 12)) (some false)) (some false)))))))
def Qn(N:Nat)(a0:Int)(a1:Int)(a2:db):Option (Int):=
 cond (!aO a0 a2.1) (some (W .i64 (a0-a2.1))) (some (W .i64 (a1-a2.2.1)))
abbrev A7.dd:=au→au→Int→Int→Option (Bool)
def A7.gJ(N:Nat)(eE:A7.dd)(x0:au)(x5:au)(x6:Int)(x7:Int):Option (Bool):=
 cond (aY x7 x6) (cond (ba x7 (List.length x5)) ((Ql N ((List.getD x5 x7.toNat bh).1) (((List.getD x5 x7.toNat bh).2).1)).bind λr2=>cond (!r2) (some false) (cond (aO ((((List.getD x5 x7.toNat bh).2).2).1) (0:Int)) (some false) (cond (aY 0 x7) (let v3:Int:=W .i64 (x7-1);cond (ba v3 (List.length x0)) ((Qn N ((List.getD x5 x7.toNat bh).1) (((List.getD x5 x7.toNat bh).2).1) (List.getD x0 v3.toNat bh)).bind λr4=>cond (dk r4 0) (some false) (eE x0 x5 x6 (W .i64 (x7+1)))) (none)) (eE x0 x5 x6 (W .i64 (x7+1)))))) (none)) (some true)
def A7.l2(N:Nat):Nat→A7.dd
 |0,_,_,_,_=>none
 |n+1,x0,x5,x6,x7=>A7.gJ N (A7.l2 N n) x0 x5 x6 x7
def A7.b(N:Nat)(jn:A7.dd)(a0:au):Option (Bool):=
 jn a0 a0 (List.length a0:Int) (0:Int)
def A7(N:Nat)(a0:au):Option (Bool):=A7.b N (A7.l2 N N) a0
def Vn(N:Nat)(a0:Int):Option cC:=
 cond (aY 63 0) (none) (some ((shr .i64 a0 63),((W .u64 a0),())))
abbrev mM.dY:=cC→Int→Int→Int→jD→Int→Int→Option (cC×(Bool))
def mM.nO(N:Nat)(dp:mM.dY)(x2:cC)(x4:Int)(x5:Int)(x6:Int)(bw:jD)(a6:Int)(bc:Int):Option (cC×(Bool)):=
 cond (aY bc a6) (cond (ba bc (List.length bw)) ((yl N x6 (((List.getD bw bc.toNat cA).2).1) (0:Int)).bind λr2=>(yl N x5 (W .u64 ((List.getD bw bc.toNat cA).1)) r2.2).bind λr4=>cond (aY 63 0) (none) (dp x2 (W .i64 ((W .i64 (x4+(shr .i64 ((List.getD bw bc.toNat cA).1) (63:Int))))+(W .i64 r4.2))) r4.1 r2.1 bw a6 (W .i64 (bc+1)))) (none)) (cond (aY 63 0) (none) (cond (!aO x4 (shr .i64 (W .i64 x5) 63)) (some (cA,false)) (some (((W .i64 x5),(x6,())),true))))
def mM.l3(N:Nat):Nat→mM.dY
 |0,_,_,_,_,_,_,_=>none
 |n+1,x2,x4,x5,x6,bw,a6,bc=>mM.nO N (mM.l3 N n) x2 x4 x5 x6 bw a6 bc
def mM.b(N:Nat)(oE:mM.dY)(a0:jD):Option (cC×(Bool)):=
 oE cA (0:Int) (0:Int) (0:Int) a0 (List.length a0:Int) (0:Int)
def mM(N:Nat)(a0:jD):Option (cC×(Bool)):=mM.b N (mM.l3 N N) a0
abbrev CD.bM:=cC→jD→au→Int→Int→Option cC
def CD.ei(N:Nat)(bQ:CD.bM)(x2:cC)(x3:jD)(bc:au)(bZ:Int)(cw:Int):Option cC:=
 cond (aY cw bZ) (cond (ba cw (List.length bc)) ((Vn N ((((List.getD bc cw.toNat bh).2).2).1)).bind λr3=>cond (small (List.length x3+List.length ([r3]))) (bQ x2 (x3++([r3])) bc bZ (W .i64 (cw+1))) (none)) (none)) ((mM N x3).bind λr6=>some r6.1)
def CD.l5(N:Nat):Nat→CD.bM
 |0,_,_,_,_,_=>none
 |n+1,x2,x3,bc,bZ,cw=>CD.ei N (CD.l5 N n) x2 x3 bc bZ cw
def CD.b(N:Nat)(eW:CD.bM)(a0:au):Option cC:=
 (A7 N a0).bind λr1=>cond (!r1) (some cA) (eW cA ([]) a0 (List.length a0:Int) (0:Int))
def CD(N:Nat)(a0:au):Option cC:=CD.b N (CD.l5 N N) a0
def WH(N:Nat)(a0:cC)(a1:cC):Option (Int):=
 cond (aY a0.1 a1.1) (some (-1:Int)) (cond (aO a0.1 a1.1) (cond (aY a0.2.1 a1.2.1) (some (-1:Int)) (cond (pt (.pair (.int .i64) (.pair (.int .u64) .unit)) a0 a1) (some (0:Int)) (some (1:Int)))) (cond (pt (.pair (.int .i64) (.pair (.int .u64) .unit)) a0 a1) (some (0:Int)) (some (1:Int))))
def F74(N:Nat)(a0:cC):Option (Int):=
 (WH N a0 cA).bind λr1=>some r1
def Qp(N:Nat)(a0:Int)(a1:Int):Option (Bool):=
 cond (dk 0 a0) (cond (dk a0 24) (cond (dk 0 a1) (some (aY a1 6)) (some false)) (some false)) (some false)
def Qq(N:Nat)(a0:Int):Option (Bool):=
 some (!aO a0 (-9223372036854775808))
def TU(N:Nat)(a0:Int)(a1:Int)(a2:db):Option (Int):=
 cond (!aO a0 a2.1) (some (W .i64 (a0-a2.1))) (some (W .i64 (a1-a2.2.1)))
abbrev nj.dd:=au→au→Int→Int→Option (Bool)
def nj.gJ(N:Nat)(eE:nj.dd)(x0:au)(x5:au)(x6:Int)(x7:Int):Option (Bool):=
 cond (aY x7 x6) (cond (ba x7 (List.length x5)) ((Qp N ((List.getD x5 x7.toNat bh).1) (((List.getD x5 x7.toNat bh).2).1)).bind λr2=>cond (!r2) (some false) (cond (aO ((((List.getD x5 x7.toNat bh).2).2).1) (0:Int)) (some false) ((Qq N ((((List.getD x5 x7.toNat bh).2).2).1)).bind λr3=>cond (!r3) (some false) (cond (aY 0 x7) (let v4:Int:=W .i64 (x7-1);cond (ba v4 (List.length x0)) ((TU N ((List.getD x5 x7.toNat bh).1) (((List.getD x5 x7.toNat bh).2).1) (List.getD x0 v4.toNat bh)).bind λr5=>cond (dk r5 0) (some false) (eE x0 x5 x6 (W .i64 (x7+1)))) (none)) (eE x0 x5 x6 (W .i64 (x7+1))))))) (none)) (some true)
def nj.l2(N:Nat):Nat→nj.dd
 |0,_,_,_,_=>none
 |n+1,x0,x5,x6,x7=>nj.gJ N (nj.l2 N n) x0 x5 x6 x7
def nj.b(N:Nat)(jn:nj.dd)(a0:au):Option (Bool):=
 jn a0 a0 (List.length a0:Int) (0:Int)
def nj(N:Nat)(a0:au):Option (Bool):=nj.b N (nj.l2 N N) a0
abbrev o7.bM:=Int→cC→jD→au→Int→Int→Option cC
def o7.ei(N:Nat)(bQ:o7.bM)(x1:Int)(x4:cC)(x5:jD)(cw:au)(dQ:Int)(eR:Int):Option cC:=
 cond (aY eR dQ) (cond (ba eR (List.length cw)) (cond (aO (((List.getD cw eR.toNat bh).2).1) x1) ((Vn N ((((List.getD cw eR.toNat bh).2).2).1)).bind λr3=>cond (small (List.length x5+List.length ([r3]))) (bQ x1 x4 (x5++([r3])) cw dQ (W .i64 (eR+1))) (none)) (bQ x1 x4 x5 cw dQ (W .i64 (eR+1)))) (none)) ((mM N x5).bind λr7=>some r7.1)
def o7.l5(N:Nat):Nat→o7.bM
 |0,_,_,_,_,_,_=>none
 |n+1,x1,x4,x5,cw,dQ,eR=>o7.ei N (o7.l5 N n) x1 x4 x5 cw dQ eR
def o7.b(N:Nat)(eW:o7.bM)(a0:au)(a1:Int):Option cC:=
 (nj N a0).bind λr1=>cond (!r1) (some cA) (eW a1 cA ([]) a0 (List.length a0:Int) (0:Int))
def o7(N:Nat)(a0:au)(a1:Int):Option cC:=o7.b N (o7.l5 N N) a0 a1
abbrev Ds.dd:=au→Int→Option (Bool)
def Ds.gJ(N:Nat)(eE:Ds.dd)(x0:au)(x4:Int):Option (Bool):=
 cond (aY x4 6) ((o7 N x0 x4).bind λr2=>(F74 N r2).bind λr3=>cond (!aO r3 0) (some false) (eE x0 (W .i64 (x4+1)))) ((nj N x0).bind λr5=>some r5)
def Ds.l2(N:Nat):Nat→Ds.dd
 |0,_,_=>none
 |n+1,x0,x4=>Ds.gJ N (Ds.l2 N n) x0 x4
def Ds.b(N:Nat)(jn:Ds.dd)(a0:au):Option (Bool):=
 jn a0 (0:Int)
def Ds(N:Nat)(a0:au):Option (Bool):=Ds.b N (Ds.l2 N N) a0
def aai(N:Nat)(a0:gk):Option (Bool):=
 cond (dk 1 a0.1) (cond (dk a0.1 1099511627776) (cond (dk 1 a0.2.1) (cond (dk a0.2.1 24) (cond (dk 0 a0.2.2.1) (cond (aY a0.2.2.1 6) (cond (aO a0.2.2.2.1 1) (cond (dk 1 a0.2.2.2.2.1) (cond (dk a0.2.2.2.2.1 1000000000) (cond (dk 1 a0.2.2.2.2.2.1) (some (dk a0.2.2.2.2.2.1 1000000000000)) (some false)) (some false)) (some false)) (cond (aO a0.2.2.2.1 2) (cond (dk 1 a0.2.2.2.2.1) (cond (dk a0.2.2.2.2.1 1000000000) (cond (dk 1 a0.2.2.2.2.2.1) (some (dk a0.2.2.2.2.2.1 1000000000000)) (some false)) (some false)) (some false)) (some false))) (some false)) (some false)) (some false)) (some false)) (some false)) (some false)
abbrev Dq.dd:=bq→bq→Int→Int→Option (Bool)
def Dq.gJ(N:Nat)(eE:Dq.dd)(x0:bq)(x5:bq)(x6:Int)(x7:Int):Option (Bool):=
 cond (aY x7 x6) (cond (ba x7 (List.length x5)) ((aai N (List.getD x5 x7.toNat fa)).bind λr2=>cond (!r2) (some false) (cond (aY 0 x7) (let v3:Int:=W .i64 (x7-1);cond (ba v3 (List.length x0)) (cond (dk ((List.getD x5 x7.toNat fa).1) ((List.getD x0 v3.toNat fa).1)) (some false) (eE x0 x5 x6 (W .i64 (x7+1)))) (none)) (eE x0 x5 x6 (W .i64 (x7+1))))) (none)) (some (dk (List.length x0:Int) 32))
def Dq.l2(N:Nat):Nat→Dq.dd
 |0,_,_,_,_=>none
 |n+1,x0,x5,x6,x7=>Dq.gJ N (Dq.l2 N n) x0 x5 x6 x7
def Dq.b(N:Nat)(jn:Dq.dd)(a0:bq):Option (Bool):=
 jn a0 a0 (List.length a0:Int) (0:Int)
def Dq(N:Nat)(a0:bq):Option (Bool):=Dq.b N (Dq.l2 N N) a0
abbrev o6.bE:=Int→bO→aK→Int→Int→Option (bO×(Bool))
def o6.dw(N:Nat)(cr:o6.bE)(x1:Int)(x4:bO)(bc:aK)(bZ:Int)(cw:Int):Option (bO×(Bool)):=
 cond (aY cw bZ) (cond (ba cw (List.length bc)) (cond (aO ((List.getD bc cw.toNat aV).1) x1) (some (List.getD bc cw.toNat aV,true)) (cr x1 x4 bc bZ (W .i64 (cw+1)))) (none)) (some (aV,false))
def o6.l4(N:Nat):Nat→o6.bE
 |0,_,_,_,_,_=>none
 |n+1,x1,x4,bc,bZ,cw=>o6.dw N (o6.l4 N n) x1 x4 bc bZ cw
def o6.b(N:Nat)(eH:o6.bE)(a0:aK)(a1:Int):Option (bO×(Bool)):=
 (mO N a0).bind λr1=>cond (!r1) (some (aV,false)) (eH a1 aV a0 (List.length a0:Int) (0:Int))
def o6(N:Nat)(a0:aK)(a1:Int):Option (bO×(Bool)):=o6.b N (o6.l4 N N) a0 a1
def F78(N:Nat)(a0:aq)(a1:Int):Option (Bool):=
 (o6 N a0.2.1 a1).bind λr1=>some r1.2
def F81(N:Nat)(a0:Int):Option (Bool):=
 cond (dk 1 a0) (some (dk a0 1000000000000)) (some false)
def F80(N:Nat)(a0:Int):Option (Bool):=
 (F81 N a0).bind λr1=>some (!r1)
abbrev rT.dd:=(List (Int))→Unit→Int→Int→Option (Int)
def rT.gJ(N:Nat)(eE:rT.dd)(x0:List (Int))(x1:Unit)(x7:Int)(x8:Int):Option (Int):=
 cond (aY x8 x7) (cond (ba x8 (List.length x0)) ((F80 N (List.getD x0 x8.toNat (0:Int))).bind λr2=>cond (r2) (some x8) (eE x0 () x7 (W .i64 (x8+1)))) (none)) (some (-1:Int))
def rT.l2(N:Nat):Nat→rT.dd
 |0,_,_,_,_=>none
 |n+1,x0,x1,x7,x8=>rT.gJ N (rT.l2 N n) x0 x1 x7 x8
def rT.b(N:Nat)(jn:rT.dd)(a0:List (Int))(a1:Unit):Option (Int):=
 jn a0 () (List.length a0:Int) (0:Int)
def rT(N:Nat)(a0:List (Int))(a1:Unit):Option (Int):=rT.b N (rT.l2 N N) a0 a1
def F79(N:Nat)(a0:List (Int))(a1:Unit):Option (Bool):=
 (rT N a0 ()).bind λr1=>some (dk 0 r1)
abbrev lD.rM:=ae→aq→bq→Int→Int→Option (Bool)
abbrev lD.mF:=ae→aq→au→Int→Int→Option (Bool)
abbrev lD.bE:=ae→aq→au→Int→Int→Option (Bool)
def lD.vw(N:Nat)(GC:lD.rM)(x2:ae)(x3:aq)(rX:bq)(abt:Int)(Re:Int):Option (Bool):=
 cond (aY Re abt) (cond (ba Re (List.length rX)) ((F78 N x3 (((List.getD rX Re.toNat fa).2).1)).bind λEa=>cond (!Ea) (some false) (cond (dk (List.length x2.1:Int) ((((List.getD rX Re.toNat fa).2).2).1)) (some false) (GC x2 x3 rX abt (W .i64 (Re+1))))) (none)) ((F79 N x3.2.2.2.2.1 ()).bind λCZ=>some (!CZ))
def lD.wO(N:Nat):Nat→lD.rM
 |0,_,_,_,_,_=>none
 |n+1,x2,x3,rX,abt,Re=>lD.vw N (lD.wO N n) x2 x3 rX abt Re
def lD.vv(N:Nat)(GD:lD.rM)(nY:lD.mF)(x2:ae)(x3:aq)(x83:au)(x84:Int)(Zi:Int):Option (Bool):=
 cond (aY Zi x84) (cond (ba Zi (List.length x83)) (cond (!aO ((List.getD x83 Zi.toNat bh).1) (0:Int)) ((F78 N x3 ((List.getD x83 Zi.toNat bh).1)).bind λA9=>cond (!A9) (some false) (cond (dk (List.length x2.1:Int) (((List.getD x83 Zi.toNat bh).2).1)) (some false) (nY x2 x3 x83 x84 (W .i64 (Zi+1))))) (cond (dk (List.length x2.1:Int) (((List.getD x83 Zi.toNat bh).2).1)) (some false) (nY x2 x3 x83 x84 (W .i64 (Zi+1))))) (none)) (GD x2 x3 x3.2.2.2.2.2.1 (List.length x3.2.2.2.2.2.1:Int) (0:Int))
def lD.wN(N:Nat):Nat→lD.mF
 |0,_,_,_,_,_=>none
 |n+1,x2,x3,x83,x84,Zi=>lD.vv N (lD.wO N N) (lD.wN N n) x2 x3 x83 x84 Zi
def lD.dw(N:Nat)(GF:lD.mF)(cr:lD.bE)(x2:ae)(x3:aq)(U6:au)(x58:Int)(SX:Int):Option (Bool):=
 cond (aY SX x58) (cond (ba SX (List.length U6)) (cond (aO ((List.getD U6 SX.toNat bh).1) (5:Int)) ((F78 N x3 (((List.getD U6 SX.toNat bh).2).1)).bind λr9=>cond (!r9) (some false) (cr x2 x3 U6 x58 (W .i64 (SX+1)))) (cond (aO ((List.getD U6 SX.toNat bh).1) (6:Int)) ((Al N x3.1 (((List.getD U6 SX.toNat bh).2).1)).bind λnV=>cond (aO nV 0) (some false) (cr x2 x3 U6 x58 (W .i64 (SX+1)))) (cond (aO ((List.getD U6 SX.toNat bh).1) (7:Int)) ((Al N x3.1 (((List.getD U6 SX.toNat bh).2).1)).bind λqw=>cond (aO qw 0) (some false) (cr x2 x3 U6 x58 (W .i64 (SX+1)))) (cr x2 x3 U6 x58 (W .i64 (SX+1)))))) (none)) (GF x2 x3 x3.2.2.2.1 (List.length x3.2.2.2.1:Int) (0:Int))
def lD.l4(N:Nat):Nat→lD.bE
 |0,_,_,_,_,_=>none
 |n+1,x2,x3,U6,x58,SX=>lD.dw N (lD.wN N N) (lD.l4 N n) x2 x3 U6 x58 SX
def lD.b(N:Nat)(eH:lD.bE)(a0:ae)(a1:aq):Option (Bool):=
 (CC N a0).bind λr1=>cond (!r1) (some false) ((Dr N a1.1 a1.2.1).bind λr2=>cond (!r2) (some false) ((A7 N a1.2.2.1).bind λr3=>cond (!r3) (some false) ((CD N a1.2.2.1).bind λr4=>(F74 N r4).bind λr5=>cond (!aO r5 0) (some false) ((Ds N a1.2.2.2.1).bind λr6=>cond (!r6) (some false) ((Dq N a1.2.2.2.2.2.1).bind λr7=>cond (!r7) (some false) (cond (!aO (List.length a1.2.2.2.2.1:Int) (List.length a0.1:Int)) (some false) (eH a0 a1 a1.2.2.1 (List.length a1.2.2.1:Int) (0:Int))))))))
def lD(N:Nat)(a0:ae)(a1:aq):Option (Bool):=lD.b N (lD.l4 N N) a0 a1
abbrev BE.bE:=Int→Int→au→Int→Int→Option (Int)
def BE.dw(N:Nat)(cr:BE.bE)(x1:Int)(x2:Int)(bc:au)(bZ:Int)(cw:Int):Option (Int):=
 cond (aY cw bZ) (cond (ba cw (List.length bc)) (cond (aO ((List.getD bc cw.toNat bh).1) x1) (cond (aO (((List.getD bc cw.toNat bh).2).1) x2) (some ((((List.getD bc cw.toNat bh).2).2).1)) (cr x1 x2 bc bZ (W .i64 (cw+1)))) (cr x1 x2 bc bZ (W .i64 (cw+1)))) (none)) (some (0:Int))
def BE.l4(N:Nat):Nat→BE.bE
 |0,_,_,_,_,_=>none
 |n+1,x1,x2,bc,bZ,cw=>BE.dw N (BE.l4 N n) x1 x2 bc bZ cw
def BE.b(N:Nat)(eH:BE.bE)(a0:au)(a1:Int)(a2:Int):Option (Int):=
 (A7 N a0).bind λr1=>cond (!r1) (some (0:Int)) (eH a1 a2 a0 (List.length a0:Int) (0:Int))
def BE(N:Nat)(a0:au)(a1:Int)(a2:Int):Option (Int):=BE.b N (BE.l4 N N) a0 a1 a2
abbrev BG.bM:=Int→aD→au→Int→Int→Option aD
def BG.ei(N:Nat)(bQ:BG.bM)(x1:Int)(x5:aD)(a6:au)(bc:Int)(bZ:Int):Option aD:=
 cond (aY bZ bc) (cond (ba bZ (List.length a6)) (cond (aO ((List.getD a6 bZ.toNat bh).1) x1) (cond (small (List.length x5+List.length ([(((List.getD a6 bZ.toNat bh).2).1,((((List.getD a6 bZ.toNat bh).2).2).1,()))]))) (bQ x1 (x5++([(((List.getD a6 bZ.toNat bh).2).1,((((List.getD a6 bZ.toNat bh).2).2).1,()))])) a6 bc (W .i64 (bZ+1))) (none)) (bQ x1 x5 a6 bc (W .i64 (bZ+1)))) (none)) (some x5)
def BG.l5(N:Nat):Nat→BG.bM
 |0,_,_,_,_,_=>none
 |n+1,x1,x5,a6,bc,bZ=>BG.ei N (BG.l5 N n) x1 x5 a6 bc bZ
def BG.b(N:Nat)(eW:BG.bM)(a0:au)(a1:Int):Option aD:=
 (nj N a0).bind λr1=>cond (!r1) (some ([])) (eW a1 ([]) a0 (List.length a0:Int) (0:Int))
def BG(N:Nat)(a0:au)(a1:Int):Option aD:=BG.b N (BG.l5 N N) a0 a1
abbrev pG.dd:=aD→ae→aD→Int→Int→Option (Bool)
def pG.gJ(N:Nat)(eE:pG.dd)(x1:aD)(x2:ae)(x7:aD)(x8:Int)(x9:Int):Option (Bool):=
 cond (aY x9 x8) (cond (ba x9 (List.length x7)) (cond (aY ((List.getD x7 x9.toNat cA).1) (0:Int)) (some false) (cond (dk (List.length x2.1:Int) ((List.getD x7 x9.toNat cA).1)) (some false) (cond (aO (((List.getD x7 x9.toNat cA).2).1) (0:Int)) (some false) ((Qq N (((List.getD x7 x9.toNat cA).2).1)).bind λr2=>cond (!r2) (some false) (cond (aY 0 x9) (let v3:Int:=W .i64 (x9-1);cond (ba v3 (List.length x1)) (cond (dk ((List.getD x7 x9.toNat cA).1) ((List.getD x1 v3.toNat cA).1)) (some false) (eE x1 x2 x7 x8 (W .i64 (x9+1)))) (none)) (eE x1 x2 x7 x8 (W .i64 (x9+1)))))))) (none)) ((CC N x2).bind λr6=>some r6)
def pG.l2(N:Nat):Nat→pG.dd
 |0,_,_,_,_,_=>none
 |n+1,x1,x2,x7,x8,x9=>pG.gJ N (pG.l2 N n) x1 x2 x7 x8 x9
def pG.b(N:Nat)(jn:pG.dd)(a0:ae)(a1:aD):Option (Bool):=
 jn a1 a0 a1 (List.length a1:Int) (0:Int)
def pG(N:Nat)(a0:ae)(a1:aD):Option (Bool):=pG.b N (pG.l2 N N) a0 a1
def TO(N:Nat)(a0:Int):Option (Int):=
 cond (aY a0 0) (some (W .u64 (0-(W .u64 a0)))) (some (W .u64 a0))
def ah7(N:Nat)(a0:bO):Option (Int):=
 some a0.2.2.2.1
def Z5(N:Nat)(a0:Int)(a1:Int):Option ((Int)×(Int)):=
 let v1:Int:=qL .and .u64 a0 4294967295;cond (aY 32 0) (none) (let v2:Int:=shr .u64 a0 32;let v3:Int:=qL .and .u64 a1 4294967295;cond (aY 32 0) (none) (let v4:Int:=shr .u64 a1 32;cond (aY 32 0) (none) (let v8:Int:=W .u64 ((W .u64 (v2*v3))+(shr .u64 (W .u64 (v1*v3)) (32:Int)));cond (aY 32 0) (none) (cond (aY 32 0) (none) (some ((W .u64 ((W .u64 ((W .u64 (v2*v4))+(shr .u64 v8 32)))+(shr .u64 (W .u64 ((qL .and .u64 v8 4294967295)+(W .u64 (v1*v4)))) (32:Int)))),(W .u64 (a0*a1))))))))
abbrev rS.Yt:=Int→Int→cC→Option (cC×(Bool))
def rS.Vm(N:Nat)(x1:Int)(x2:Int)(x6:cC):Option (cC×(Bool)):=
 (u7 N (0:Int) x2 (0:Int)).bind λr3=>(u7 N (0:Int) x1 r3.2).bind λr4=>some (((W .i64 r4.1),(r3.1,())),true)
def rS.j7(N:Nat)(x1:Int)(x2:Int)(x6:cC):Option (cC×(Bool)):=rS.Vm N x1 x2 x6
def rS.b(N:Nat)(HU:rS.Yt)(a0:Bool)(a1:Int)(a2:Int):Option (cC×(Bool)):=
 cond (!a0) (cond (dk 9223372036854775808 a1) (some (cA,false)) (some (((W .i64 a1),(a2,())),true))) (cond (aY 9223372036854775808 a1) (some (cA,false)) (cond (aO a1 9223372036854775808) (cond (aY 0 a2) (some (cA,false)) (HU a1 a2 cA)) (HU a1 a2 cA)))
def rS(N:Nat)(a0:Bool)(a1:Int)(a2:Int):Option (cC×(Bool)):=rS.b N (rS.j7 N) a0 a1 a2
def aae(N:Nat)(a0:Int)(a1:Int):Option cC:=
 (TO N a0).bind λr1=>(TO N a1).bind λr2=>(Z5 N r1 r2).bind λr3=>(rS N (!(pt .bool (aY a0 0) (aY a1 0))) r3.1 r3.2).bind λr4=>some r4.1
abbrev pH.bM:=Unit→ae→cC→jD→aD→Int→Int→Option (cC×(Int))
def pH.ei(N:Nat)(bQ:pH.bM)(x2:Unit)(x3:ae)(x6:cC)(x8:jD)(mQ:aD)(nP:Int)(DG:Int):Option (cC×(Int)):=
 cond (aY DG nP) (cond (ba DG (List.length mQ)) ((TO N (((List.getD mQ DG.toNat cA).2).1)).bind λr3=>cond (ba ((List.getD mQ DG.toNat cA).1) (List.length x3.1)) ((ah7 N (List.getD x3.1 ((List.getD mQ DG.toNat cA).1).toNat aV)).bind λr5=>(aae N (W .i64 r3) r5).bind λr6=>cond (small (List.length x8+List.length ([r6]))) (bQ () x3 x6 (x8++([r6])) mQ nP (W .i64 (DG+1))) (none)) (none)) (none)) ((mM N x8).bind λr9=>some (r9.1,(0:Int)))
def pH.l5(N:Nat):Nat→pH.bM
 |0,_,_,_,_,_,_,_=>none
 |n+1,x2,x3,x6,x8,mQ,nP,DG=>pH.ei N (pH.l5 N n) x2 x3 x6 x8 mQ nP DG
def pH.b(N:Nat)(eW:pH.bM)(a0:ae)(a1:aD)(a2:Unit):Option (cC×(Int)):=
 (pG N a0 a1).bind λr1=>cond (!r1) (some (cA,(1:Int))) (eW () a0 cA ([]) a1 (List.length a1:Int) (0:Int))
def pH(N:Nat)(a0:ae)(a1:aD)(a2:Unit):Option (cC×(Int)):=pH.b N (pH.l5 N N) a0 a1 a2
def F89(N:Nat)(a0:ae)(a1:aD):Option (cC×(Int)):=
 (pH N a0 a1 ()).bind λr1=>some (r1.1,r1.2)
def F91(N:Nat)(a0:Int)(a1:cC):Option (Bool):=
 (Vn N a0).bind λr1=>(WH N r1 a1).bind λr2=>some (dk 0 r2)
def F92(N:Nat)(a0:cC):Option ((Int)×(Bool)):=
 cond (aY 63 0) (none) (cond (!aO a0.1 (shr .i64 (W .i64 a0.2.1) 63)) (some ((0:Int),false)) (some ((W .i64 a0.2.1),true)))
def F31(N:Nat)(a0:ae)(a1:aq)(a2:Int):Option ((Int)×(Int)):=
 (lD N a0 a1).bind λr1=>cond (!r1) (some ((0:Int),(1:Int))) ((F78 N a1 a2).bind λr2=>cond (!r2) (some ((0:Int),(3:Int))) ((BE N a1.2.2.1 (5:Int) a2).bind λr3=>let v4:Int:=mx r3 0;(BG N a1.2.2.2.1 a2).bind λr5=>(F89 N a0 r5).bind λr6=>(F91 N v4 r6.1).bind λr7=>cond (r7) ((F92 N r6.1).bind λr8=>some (r8.1,(0:Int))) (some (v4,(0:Int)))))
def ah5(N:Nat)(a0:cC)(a1:cC):Option (cC×(Bool)):=
 (u7 N a0.2.1 a1.2.1 (0:Int)).bind λr1=>(u7 N (W .u64 a0.1) (W .u64 a1.1) r1.2).bind λr4=>let v5:Int:=W .i64 r4.1;cond (!(pt .bool (aY a0.1 0) (aY a1.1 0))) (cond (!(pt .bool (aY v5 0) (aY a0.1 0))) (some (cA,false)) (some ((v5,(r1.1,())),true))) (some ((v5,(r1.1,())),true))
def F66(N:Nat)(a0:cC):Option (cC×(Bool)):=
 (ah5 N cA a0).bind λr1=>some (r1.1,r1.2)
abbrev CJ.bM:=Int→Int→au→aD→Int→Int→Option au
def CJ.ei(N:Nat)(bQ:CJ.bM)(x1:Int)(x2:Int)(x7:au)(xa:aD)(JA:Int)(vk:Int):Option au:=
 cond (aY vk JA) (cond (ba vk (List.length xa)) (let v6:Int:=W .i64 (0-(((List.getD xa vk.toNat cA).2).1));cond (small (List.length x7+List.length ([(x1,((List.getD xa vk.toNat cA).1,(v6,()))),(x2,((List.getD xa vk.toNat cA).1,(((List.getD xa vk.toNat cA).2).1,())))]))) (bQ x1 x2 (x7++([(x1,((List.getD xa vk.toNat cA).1,(v6,()))),(x2,((List.getD xa vk.toNat cA).1,(((List.getD xa vk.toNat cA).2).1,())))])) xa JA (W .i64 (vk+1))) (none)) (none)) (some x7)
def CJ.l5(N:Nat):Nat→CJ.bM
 |0,_,_,_,_,_,_=>none
 |n+1,x1,x2,x7,xa,JA,vk=>CJ.ei N (CJ.l5 N n) x1 x2 x7 xa JA vk
def CJ.b(N:Nat)(eW:CJ.bM)(a0:au)(a1:Int)(a2:Int):Option au:=
 (nj N a0).bind λr1=>cond (!r1) (some ([])) ((Qp N a1 (0:Int)).bind λr2=>cond (!r2) (some ([])) ((Qp N a2 (0:Int)).bind λr3=>cond (!r3) (some ([])) (cond (aO a1 a2) (some ([])) ((BG N a0 a1).bind λr4=>eW a1 a2 ([]) r4 (List.length r4:Int) (0:Int)))))
def CJ(N:Nat)(a0:au)(a1:Int)(a2:Int):Option au:=CJ.b N (CJ.l5 N N) a0 a1 a2
def aax(N:Nat)(a0:aq):Option aq:=
 (n6 N a0.1).bind λr1=>(n6 N a0.2.1).bind λr2=>(n6 N a0.2.2.1).bind λr3=>(n6 N a0.2.2.2.1).bind λr4=>(n6 N a0.2.2.2.2.1).bind λr5=>(n6 N a0.2.2.2.2.2.1).bind λr6=>some (r1,(r2,(r3,(r4,(r5,(r6,()))))))
abbrev gy.jE:=au→Int→jD→Int→au→Int→Int→Option (Bool)
abbrev gy.dd:=au→Int→Option (Bool)
def gy.uu(N:Nat)(eE:gy.dd)(kC:gy.jE)(x0:au)(x3:Int)(x4:jD)(x9:Int)(bc:au)(bZ:Int)(cw:Int):Option (Bool):=
 cond (aY cw bZ) (cond (ba cw (List.length bc)) (cond (aO (((List.getD bc cw.toNat bh).2).1) x3) ((Vn N ((((List.getD bc cw.toNat bh).2).2).1)).bind λr3=>cond (small (List.length x4+List.length ([r3]))) (kC x0 x3 (x4++([r3])) x9 bc bZ (W .i64 (cw+1))) (none)) (kC x0 x3 x4 x9 bc bZ (W .i64 (cw+1)))) (none)) ((mM N x4).bind λr7=>cond (!r7.2) (some false) ((F74 N r7.1).bind λr8=>cond (!aO r8 0) (some false) (eE x0 (W .i64 (x9+1)))))
def gy.l6(N:Nat)(eE:gy.dd):Nat→gy.jE
 |0,_,_,_,_,_,_,_=>none
 |n+1,x0,x3,x4,x9,bc,bZ,cw=>gy.uu N eE (gy.l6 N eE n) x0 x3 x4 x9 bc bZ cw
def gy.gJ(N:Nat)(xb:gy.jE)(eE:gy.dd)(x0:au)(x9:Int):Option (Bool):=
 cond (aY x9 6) (xb x0 x9 ([]) x9 x0 (List.length x0:Int) (0:Int)) (some true)
def gy.l2(N:Nat):Nat→gy.dd
 |0,_,_=>none
 |n+1,x0,x9=>gy.gJ N (gy.l6 N (gy.l2 N n) N) (gy.l2 N n) x0 x9
def gy.b(N:Nat)(jn:gy.dd)(a0:au):Option (Bool):=
 jn a0 (0:Int)
def gy(N:Nat)(a0:au):Option (Bool):=gy.b N (gy.l2 N N) a0
def aao(N:Nat)(a0:au):Option au:=
 cond (ka 0 (List.length a0:Int) (List.length a0:Int) (List.length a0:Int)) (some (List.drop (0:Int).toNat (List.take (List.length a0:Int).toNat a0))) (none)
abbrev cn.anq:=au→au→db→Int→au→Int→Int→Option (au×(Int))
abbrev cn.mF:=au→au→db→Int→au→Int→Int→Option (au×(Int))
abbrev cn.Yu:=au→au→db→jD→au→Int→Int→au→Int→Int→Option (au×(Int))
abbrev cn.IB:=au→au→au→Int→Int→Option (au×(Int))
abbrev cn.fX:=au→au→au→Int→Int→Option (au×(Int))
abbrev cn.bE:=au→au→au→Int→Int→Option (au×(Int))
def cn.ahZ(N:Nat)(gO:cn.fX)(x1:au)(x8:au)(bw:db)(a6:Int)(Ol:au)(PX:Int)(Lx:Int):Option (au×(Int)):=
 cond (aO a6 (List.length x8:Int)) ((pY N x8 a6 ([(bw.1,(bw.2.1,((0:Int),())))])).bind λqw=>gO x1 qw Ol PX (W .i64 (Lx+1))) (cond (ba a6 (List.length x8)) ((TU N bw.1 bw.2.1 (List.getD x8 a6.toNat bh)).bind λw8=>cond (!aO w8 0) ((pY N x8 a6 ([(bw.1,(bw.2.1,((0:Int),())))])).bind λxP=>gO x1 xP Ol PX (W .i64 (Lx+1))) (gO x1 x8 Ol PX (W .i64 (Lx+1)))) (none))
def cn.j18(N:Nat)(gO:cn.fX)(x1:au)(x8:au)(bw:db)(a6:Int)(Ol:au)(PX:Int)(Lx:Int):Option (au×(Int)):=cn.ahZ N gO x1 x8 bw a6 Ol PX Lx
def cn.vv(N:Nat)(ago:cn.anq)(gO:cn.fX)(nY:cn.mF)(x1:au)(x8:au)(bw:db)(a6:Int)(Ol:au)(PX:Int)(Lx:Int):Option (au×(Int)):=
 cond (aY a6 (List.length x8:Int)) (cond (ba a6 (List.length x8)) ((TU N bw.1 bw.2.1 (List.getD x8 a6.toNat bh)).bind λkB=>cond (aY 0 kB) (nY x1 x8 bw (W .i64 (a6+1)) Ol PX Lx) (ago x1 x8 bw a6 Ol PX Lx)) (none)) (ago x1 x8 bw a6 Ol PX Lx)
def cn.wN(N:Nat)(gO:cn.fX):Nat→cn.mF
 |0,_,_,_,_,_,_,_=>none
 |n+1,x1,x8,bw,a6,Ol,PX,Lx=>cn.vv N (cn.j18 N gO) gO (cn.wN N gO n) x1 x8 bw a6 Ol PX Lx
def cn.aap(N:Nat)(JB:cn.IB)(Yv:cn.Yu)(x1:au)(bc:au)(cw:db)(dQ:jD)(AY:au)(DH:Int)(rX:Int)(La:au)(U7:Int)(HV:Int):Option (au×(Int)):=
 cond (aY HV U7) (cond (ba HV (List.length La)) (cond (aO ((List.getD La HV.toNat bh).1) cw.1) (cond (aO (((List.getD La HV.toNat bh).2).1) cw.2.1) ((Vn N ((((List.getD La HV.toNat bh).2).2).1)).bind λCZ=>cond (small (List.length dQ+List.length ([CZ]))) (Yv x1 bc cw (dQ++([CZ])) AY DH rX La U7 (W .i64 (HV+1))) (none)) (Yv x1 bc cw dQ AY DH rX La U7 (W .i64 (HV+1)))) (Yv x1 bc cw dQ AY DH rX La U7 (W .i64 (HV+1)))) (none)) ((mM N dQ).bind λr28=>(F92 N r28.1).bind λEb=>cond (!Eb.2) (some (bH,(2:Int))) ((Qq N Eb.1).bind λRf=>cond (!Rf) (some (bH,(2:Int))) (cond (!aO Eb.1 0) (cond (small (List.length bc+List.length ([(cw.1,(cw.2.1,(Eb.1,())))]))) (JB x1 (bc++([(cw.1,(cw.2.1,(Eb.1,())))])) AY DH (W .i64 (rX+1))) (none)) (JB x1 bc AY DH (W .i64 (rX+1))))))
def cn.l27(N:Nat)(JB:cn.IB):Nat→cn.Yu
 |0,_,_,_,_,_,_,_,_,_,_=>none
 |n+1,x1,bc,cw,dQ,AY,DH,rX,La,U7,HV=>cn.aap N JB (cn.l27 N JB n) x1 bc cw dQ AY DH rX La U7 HV
def cn.aar(N:Nat)(anr:cn.Yu)(JB:cn.IB)(x1:au)(bc:au)(AY:au)(DH:Int)(rX:Int):Option (au×(Int)):=
 cond (aY rX DH) (cond (ba rX (List.length AY)) ((Vn N ((((List.getD AY rX.toNat bh).2).2).1)).bind λEa=>anr x1 bc (List.getD AY rX.toNat bh) ([Ea]) AY DH rX x1 (List.length x1:Int) (0:Int)) (none)) ((aao N bc).bind λYw=>some (Yw,(0:Int)))
def cn.l23(N:Nat):Nat→cn.IB
 |0,_,_,_,_,_=>none
 |n+1,x1,bc,AY,DH,rX=>cn.aar N (cn.l27 N (cn.l23 N n) N) (cn.l23 N n) x1 bc AY DH rX
def cn.mP(N:Nat)(GF:cn.mF)(ans:cn.IB)(gO:cn.fX)(x1:au)(x8:au)(Ol:au)(PX:Int)(Lx:Int):Option (au×(Int)):=
 cond (aY Lx PX) (cond (ba Lx (List.length Ol)) (GF x1 x8 (List.getD Ol Lx.toNat bh) (0:Int) Ol PX Lx) (none)) (cond (jZ 0 (List.length x8:Int)) (ans x1 (List.replicate (0:Int).toNat bh) x8 (List.length x8:Int) (0:Int)) (none))
def cn.nT(N:Nat):Nat→cn.fX
 |0,_,_,_,_,_=>none
 |n+1,x1,x8,Ol,PX,Lx=>cn.mP N (cn.wN N (cn.nT N n) N) (cn.l23 N N) (cn.nT N n) x1 x8 Ol PX Lx
def cn.dw(N:Nat)(tQ:cn.fX)(cr:cn.bE)(x0:au)(x1:au)(xa:au)(JA:Int)(vk:Int):Option (au×(Int)):=
 cond (aY vk JA) (cond (ba vk (List.length xa)) ((Qp N ((List.getD xa vk.toNat bh).1) (((List.getD xa vk.toNat bh).2).1)).bind λr3=>cond (!r3) (some (bH,(1:Int))) ((Qq N ((((List.getD xa vk.toNat bh).2).2).1)).bind λr4=>cond (!r4) (some (bH,(1:Int))) (cr x0 x1 xa JA (W .i64 (vk+1))))) (none)) ((gy N x1).bind λr6=>cond (!r6) (some (bH,(1:Int))) ((n6 N x0).bind λr7=>tQ x1 r7 x1 (List.length x1:Int) (0:Int)))
def cn.l4(N:Nat):Nat→cn.bE
 |0,_,_,_,_,_=>none
 |n+1,x0,x1,xa,JA,vk=>cn.dw N (cn.nT N N) (cn.l4 N n) x0 x1 xa JA vk
def cn.b(N:Nat)(eH:cn.bE)(a0:au)(a1:au):Option (au×(Int)):=
 (nj N a0).bind λr1=>cond (!r1) (some (bH,(1:Int))) (cond (aY 400 (List.length a1:Int)) (some (bH,(1:Int))) (eH a0 a1 a1 (List.length a1:Int) (0:Int)))
def cn(N:Nat)(a0:au)(a1:au):Option (au×(Int)):=cn.b N (cn.l4 N N) a0 a1
def ah1(N:Nat)(a0:au):Option au:=
 cond (ka 0 (List.length a0:Int) (List.length a0:Int) (List.length a0:Int)) (some (List.drop (0:Int).toNat (List.take (List.length a0:Int).toNat a0))) (none)
abbrev cq.ant:=di→au→uG→Int→di→Int→Int→Option (au×(Int))
abbrev cq.GG:=di→au→uG→Int→di→Int→Int→Option (au×(Int))
abbrev cq.GH:=di→au→db→jD→au→Int→Int→di→Int→Int→Option (au×(Int))
abbrev cq.IL:=di→au→au→Int→Int→Option (au×(Int))
abbrev cq.mF:=di→au→di→Int→Int→Option (au×(Int))
abbrev cq.bM:=au→di→jD→di→Int→Int→Option (au×(Int))
def cq.ah2(N:Nat)(nY:cq.mF)(x1:di)(a6:au)(bZ:uG)(cw:Int)(Om:di)(PY:Int)(Ly:Int):Option (au×(Int)):=
 cond (aO cw (List.length a6:Int)) ((pY N a6 cw ([(bZ.1,(bZ.2.1,((0:Int),())))])).bind λw8=>nY x1 w8 Om PY (W .i64 (Ly+1))) (cond (ba cw (List.length a6)) ((Qn N bZ.1 bZ.2.1 (List.getD a6 cw.toNat bh)).bind λA9=>cond (!aO A9 0) ((pY N a6 cw ([(bZ.1,(bZ.2.1,((0:Int),())))])).bind λvj=>nY x1 vj Om PY (W .i64 (Ly+1))) (nY x1 a6 Om PY (W .i64 (Ly+1)))) (none))
def cq.j21(N:Nat)(nY:cq.mF)(x1:di)(a6:au)(bZ:uG)(cw:Int)(Om:di)(PY:Int)(Ly:Int):Option (au×(Int)):=cq.ah2 N nY x1 a6 bZ cw Om PY Ly
def cq.Qy(N:Nat)(agq:cq.ant)(nY:cq.mF)(Yx:cq.GG)(x1:di)(a6:au)(bZ:uG)(cw:Int)(Om:di)(PY:Int)(Ly:Int):Option (au×(Int)):=
 cond (aY cw (List.length a6:Int)) (cond (ba cw (List.length a6)) ((Qn N bZ.1 bZ.2.1 (List.getD a6 cw.toNat bh)).bind λoR=>cond (aY 0 oR) (Yx x1 a6 bZ (W .i64 (cw+1)) Om PY Ly) (agq x1 a6 bZ cw Om PY Ly)) (none)) (agq x1 a6 bZ cw Om PY Ly)
def cq.T7(N:Nat)(nY:cq.mF):Nat→cq.GG
 |0,_,_,_,_,_,_,_=>none
 |n+1,x1,a6,bZ,cw,Om,PY,Ly=>cq.Qy N (cq.j21 N nY) nY (cq.T7 N nY n) x1 a6 bZ cw Om PY Ly
def cq.Ky(N:Nat)(JC:cq.IL)(C0:cq.GH)(x1:di)(dQ:au)(fy:db)(mQ:jD)(AZ:au)(DI:Int)(y7:Int)(HW:di)(U8:Int)(GI:Int):Option (au×(Int)):=
 cond (aY GI U8) (cond (ba GI (List.length HW)) (cond (aO ((List.getD HW GI.toNat ((0:Int),((0:Int),(cA,())))).1) fy.1) (cond (aO (((List.getD HW GI.toNat ((0:Int),((0:Int),(cA,())))).2).1) fy.2.1) (cond (small (List.length mQ+List.length ([(((List.getD HW GI.toNat ((0:Int),((0:Int),(cA,())))).2).2).1]))) (C0 x1 dQ fy (mQ++([(((List.getD HW GI.toNat ((0:Int),((0:Int),(cA,())))).2).2).1])) AZ DI y7 HW U8 (W .i64 (GI+1))) (none)) (C0 x1 dQ fy mQ AZ DI y7 HW U8 (W .i64 (GI+1)))) (C0 x1 dQ fy mQ AZ DI y7 HW U8 (W .i64 (GI+1)))) (none)) ((mM N mQ).bind λEb=>(F92 N Eb.1).bind λRf=>cond (!Eb.2) (some (bH,(2:Int))) (cond (!Rf.2) (some (bH,(2:Int))) (cond (!aO Rf.1 0) (cond (small (List.length dQ+List.length ([(fy.1,(fy.2.1,(Rf.1,())))]))) (JC x1 (dQ++([(fy.1,(fy.2.1,(Rf.1,())))])) AZ DI (W .i64 (y7+1))) (none)) (JC x1 dQ AZ DI (W .i64 (y7+1))))))
def cq.No(N:Nat)(JC:cq.IL):Nat→cq.GH
 |0,_,_,_,_,_,_,_,_,_,_=>none
 |n+1,x1,dQ,fy,mQ,AZ,DI,y7,HW,U8,GI=>cq.Ky N JC (cq.No N JC n) x1 dQ fy mQ AZ DI y7 HW U8 GI
def cq.aav(N:Nat)(Yy:cq.GH)(JC:cq.IL)(x1:di)(dQ:au)(AZ:au)(DI:Int)(y7:Int):Option (au×(Int)):=
 cond (aY y7 DI) (cond (ba y7 (List.length AZ)) ((Vn N ((((List.getD AZ y7.toNat bh).2).2).1)).bind λCZ=>Yy x1 dQ (List.getD AZ y7.toNat bh) ([CZ]) AZ DI y7 x1 (List.length x1:Int) (0:Int)) (none)) ((ah1 N dQ).bind λYw=>some (Yw,(0:Int)))
def cq.l26(N:Nat):Nat→cq.IL
 |0,_,_,_,_,_=>none
 |n+1,x1,dQ,AZ,DI,y7=>cq.aav N (cq.No N (cq.l26 N n) N) (cq.l26 N n) x1 dQ AZ DI y7
def cq.vv(N:Nat)(Yz:cq.GG)(anu:cq.IL)(nY:cq.mF)(x1:di)(a6:au)(Om:di)(PY:Int)(Ly:Int):Option (au×(Int)):=
 cond (aY Ly PY) (cond (ba Ly (List.length Om)) (Yz x1 a6 (List.getD Om Ly.toNat ((0:Int),((0:Int),(cA,())))) (0:Int) Om PY Ly) (none)) (cond (jZ 0 (List.length a6:Int)) (anu x1 (List.replicate (0:Int).toNat bh) a6 (List.length a6:Int) (0:Int)) (none))
def cq.wN(N:Nat):Nat→cq.mF
 |0,_,_,_,_,_=>none
 |n+1,x1,a6,Om,PY,Ly=>cq.vv N (cq.T7 N (cq.wN N n) N) (cq.l26 N N) (cq.wN N n) x1 a6 Om PY Ly
def cq.ei(N:Nat)(GF:cq.mF)(bQ:cq.bM)(x0:au)(x1:di)(x6:jD)(x36:di)(x37:Int)(x38:Int):Option (au×(Int)):=
 cond (aY x38 x37) (cond (ba x38 (List.length x36)) ((Ql N ((List.getD x36 x38.toNat ((0:Int),((0:Int),(cA,())))).1) (((List.getD x36 x38.toNat ((0:Int),((0:Int),(cA,())))).2).1)).bind λr4=>cond (!r4) (some (bH,(1:Int))) (cond (small (List.length x6+List.length ([(((List.getD x36 x38.toNat ((0:Int),((0:Int),(cA,())))).2).2).1]))) (bQ x0 x1 (x6++([(((List.getD x36 x38.toNat ((0:Int),((0:Int),(cA,())))).2).2).1])) x36 x37 (W .i64 (x38+1))) (none))) (none)) ((mM N x6).bind λr7=>cond (!r7.2) (some (bH,(1:Int))) ((F74 N r7.1).bind λr8=>cond (!aO r8 0) (some (bH,(1:Int))) ((n6 N x0).bind λr9=>GF x1 r9 x1 (List.length x1:Int) (0:Int))))
def cq.l5(N:Nat):Nat→cq.bM
 |0,_,_,_,_,_,_=>none
 |n+1,x0,x1,x6,x36,x37,x38=>cq.ei N (cq.wN N N) (cq.l5 N n) x0 x1 x6 x36 x37 x38
def cq.b(N:Nat)(eW:cq.bM)(a0:au)(a1:di):Option (au×(Int)):=
 (A7 N a0).bind λr1=>cond (!r1) (some (bH,(1:Int))) (cond (aY 400 (List.length a1:Int)) (some (bH,(1:Int))) (cond (jZ 0 (List.length a1:Int)) (eW a0 a1 (List.replicate (0:Int).toNat cA) a1 (List.length a1:Int) (0:Int)) (none)))
def cq(N:Nat)(a0:au)(a1:di):Option (au×(Int)):=cq.b N (cq.l5 N N) a0 a1
def F68(N:Nat)(a0:aq)(a1:au)(a2:di):Option (aq×(Int)):=
 (aax N a0).bind λr1=>(cn N a0.2.2.2.1 a1).bind λr2=>cond (!aO r2.2 0) (some ((ck,(c9,(bH,(bH,(dC,(dT,())))))),r2.2)) ((cq N a0.2.2.1 a2).bind λr3=>cond (!aO r3.2 0) (some ((ck,(c9,(bH,(bH,(dC,(dT,())))))),r3.2)) (some ((r1.1,(r1.2.1,(r3.1,(r2.1,r1.2.2.2.2)))),(0:Int))))
abbrev sO.YA:=Int→ae→aq→aq→au→di→bO→Int→aK→Int→Int→Option (aq×(Int))
abbrev sO.gQ:=Int→ae→aq→aq→au→di→aK→Int→Int→Option (aq×(Int))
def sO.NM(N:Nat)(e7:sO.gQ)(x2:Int)(x3:ae)(x4:aq)(x6:aq)(x8:au)(x9:di)(a6:bO)(bc:Int)(xa:aK)(JA:Int)(vk:Int):Option (aq×(Int)):=
 (BE N x4.2.2.1 (5:Int) a6.1).bind λr7=>(Vn N (W .i64 (bc+(mn r7 0)))).bind λkB=>(F66 N kB).bind λnV=>(CJ N x4.2.2.2.1 a6.1 (0:Int)).bind λoR=>cond (small (List.length x8+List.length oR)) (cond (small (List.length x9+List.length ([((5:Int),(a6.1,(nV.1,()))),((2:Int),((0:Int),(kB,())))]))) (e7 x2 x3 x4 x6 (x8++oR) (x9++([((5:Int),(a6.1,(nV.1,()))),((2:Int),((0:Int),(kB,())))])) xa JA (W .i64 (vk+1))) (none)) (none)
def sO.Vp(N:Nat)(e7:sO.gQ)(x2:Int)(x3:ae)(x4:aq)(x6:aq)(x8:au)(x9:di)(a6:bO)(bc:Int)(xa:aK)(JA:Int)(vk:Int):Option (aq×(Int)):=sO.NM N e7 x2 x3 x4 x6 x8 x9 a6 bc xa JA vk
def sO.yc(N:Nat)(On:sO.YA)(e7:sO.gQ)(x2:Int)(x3:ae)(x4:aq)(x6:aq)(x8:au)(x9:di)(xa:aK)(JA:Int)(vk:Int):Option (aq×(Int)):=
 cond (aY vk JA) (cond (ba vk (List.length xa)) (cond (!aO (((List.getD xa vk.toNat aV).2).1) x2) (e7 x2 x3 x4 x6 x8 x9 xa JA (W .i64 (vk+1))) (cond (aO ((((List.getD xa vk.toNat aV).2).2).1) (2:Int)) ((F31 N x3 x4 ((List.getD xa vk.toNat aV).1)).bind λr5=>On x2 x3 x4 x6 x8 x9 (List.getD xa vk.toNat aV) r5.1 xa JA vk) (On x2 x3 x4 x6 x8 x9 (List.getD xa vk.toNat aV) (0:Int) xa JA vk))) (none)) ((F68 N x4 x8 x9).bind λxP=>some (xP.1,xP.2))
def sO.l8(N:Nat):Nat→sO.gQ
 |0,_,_,_,_,_,_,_,_,_=>none
 |n+1,x2,x3,x4,x6,x8,x9,xa,JA,vk=>sO.yc N (sO.Vp N (sO.l8 N n)) (sO.l8 N n) x2 x3 x4 x6 x8 x9 xa JA vk
def sO.b(N:Nat)(B1:sO.gQ)(a0:ae)(a1:aq)(a2:Int):Option (aq×(Int)):=
 (lD N a0 a1).bind λr1=>cond (!r1) (some ((ck,(c9,(bH,(bH,(dC,(dT,())))))),(1:Int))) ((Al N a1.1 a2).bind λr2=>cond (aO r2 0) (some ((ck,(c9,(bH,(bH,(dC,(dT,())))))),(3:Int))) (B1 a2 a0 a1 (ck,(c9,(bH,(bH,(dC,(dT,())))))) ([]) ([]) a1.2.1 (List.length a1.2.1:Int) (0:Int)))
def sO(N:Nat)(a0:ae)(a1:aq)(a2:Int):Option (aq×(Int)):=sO.b N (sO.l8 N N) a0 a1 a2
abbrev ze.dd:=au→Int→Option (Bool)
def ze.gJ(N:Nat)(eE:ze.dd)(x0:au)(x3:Int):Option (Bool):=
 cond (aY x3 (List.length x0:Int)) (cond (ba x3 (List.length x0)) (cond (aY ((List.getD x0 x3.toNat bh).1) (0:Int)) (some false) (cond (aY 24 ((List.getD x0 x3.toNat bh).1)) (some false) (cond (aY (((List.getD x0 x3.toNat bh).2).1) (0:Int)) (some false) (cond (dk 6 (((List.getD x0 x3.toNat bh).2).1)) (some false) (cond (aO ((((List.getD x0 x3.toNat bh).2).2).1) (0:Int)) (some false) (cond (aO ((((List.getD x0 x3.toNat bh).2).2).1) (-9223372036854775808:Int)) (some false) (cond (aY 0 x3) (let v2:Int:=W .i64 (x3-1);cond (ba v2 (List.length x0)) (cond (aY ((List.getD x0 x3.toNat bh).1) ((List.getD x0 v2.toNat bh).1)) (some false) (let v3:Int:=W .i64 (x3-1);cond (ba v3 (List.length x0)) (cond (aO ((List.getD x0 x3.toNat bh).1) ((List.getD x0 v3.toNat bh).1)) (let v4:Int:=W .i64 (x3-1);cond (ba v4 (List.length x0)) (cond (dk (((List.getD x0 x3.toNat bh).2).1) (((List.getD x0 v4.toNat bh).2).1)) (some false) (eE x0 (W .i64 (x3+1)))) (none)) (eE x0 (W .i64 (x3+1)))) (none))) (none)) (eE x0 (W .i64 (x3+1)))))))))) (none)) (some true)
def ze.l2(N:Nat):Nat→ze.dd
 |0,_,_=>none
 |n+1,x0,x3=>ze.gJ N (ze.l2 N n) x0 x3
def ze.b(N:Nat)(jn:ze.dd)(a0:au):Option (Bool):=
 jn a0 (0:Int)
def ze(N:Nat)(a0:au):Option (Bool):=ze.b N (ze.l2 N N) a0
abbrev BC.bE:=au→Int→Int→Int→Option (Int)
def BC.dw(N:Nat)(cr:BC.bE)(x0:au)(x1:Int)(x2:Int)(x7:Int):Option (Int):=
 cond (aY x7 (List.length x0:Int)) (cond (ba x7 (List.length x0)) (cond (aO ((List.getD x0 x7.toNat bh).1) x1) (cond (ba x7 (List.length x0)) (cond (aO (((List.getD x0 x7.toNat bh).2).1) x2) (cond (ba x7 (List.length x0)) (some ((((List.getD x0 x7.toNat bh).2).2).1)) (none)) (cr x0 x1 x2 (W .i64 (x7+1)))) (none)) (cr x0 x1 x2 (W .i64 (x7+1)))) (none)) (some (0:Int))
def BC.l4(N:Nat):Nat→BC.bE
 |0,_,_,_,_=>none
 |n+1,x0,x1,x2,x7=>BC.dw N (BC.l4 N n) x0 x1 x2 x7
def BC.b(N:Nat)(eH:BC.bE)(a0:au)(a1:Int)(a2:Int):Option (Int):=
 (ze N a0).bind λr1=>cond (!r1) (some (0:Int)) (eH a0 a1 a2 (0:Int))
def BC(N:Nat)(a0:au)(a1:Int)(a2:Int):Option (Int):=BC.b N (BC.l4 N N) a0 a1 a2
def Qm(N:Nat)(a0:Int)(a1:Int):Option (Bool):=
 cond (aO a0 1) (some (aO a1 0)) (cond (aO a0 2) (some (aO a1 0)) (cond (aO a0 3) (some (aO a1 0)) (cond (aO a0 4) (some (aO a1 0)) (cond (aO a0 5) (cond (dk 1 a1) (some (dk a1 24)) (some false)) (cond (aO a0 6) (cond (dk 1 a1) (some (dk a1 12)) (some false)) (cond (aO a0 7) (cond (dk 1 a1) (some (dk a1 12)) (some false)) (some false)))))))
abbrev Bu.dd:=au→Int→Option (Bool)
def Bu.gJ(N:Nat)(eE:Bu.dd)(x0:au)(x3:Int):Option (Bool):=
 cond (aY x3 (List.length x0:Int)) (cond (ba x3 (List.length x0)) (cond (ba x3 (List.length x0)) ((Qm N ((List.getD x0 x3.toNat bh).1) (((List.getD x0 x3.toNat bh).2).1)).bind λr2=>cond (!r2) (some false) (cond (ba x3 (List.length x0)) (cond (aO ((((List.getD x0 x3.toNat bh).2).2).1) (0:Int)) (some false) (cond (aY 0 x3) (cond (ba x3 (List.length x0)) (let v3:Int:=W .i64 (x3-1);cond (ba v3 (List.length x0)) (cond (aY ((List.getD x0 x3.toNat bh).1) ((List.getD x0 v3.toNat bh).1)) (some false) (cond (ba x3 (List.length x0)) (let v4:Int:=W .i64 (x3-1);cond (ba v4 (List.length x0)) (cond (aO ((List.getD x0 x3.toNat bh).1) ((List.getD x0 v4.toNat bh).1)) (cond (ba x3 (List.length x0)) (let v5:Int:=W .i64 (x3-1);cond (ba v5 (List.length x0)) (cond (dk (((List.getD x0 x3.toNat bh).2).1) (((List.getD x0 v5.toNat bh).2).1)) (some false) (eE x0 (W .i64 (x3+1)))) (none)) (none)) (eE x0 (W .i64 (x3+1)))) (none)) (none))) (none)) (none)) (eE x0 (W .i64 (x3+1))))) (none))) (none)) (none)) (some true)
def Bu.l2(N:Nat):Nat→Bu.dd
 |0,_,_=>none
 |n+1,x0,x3=>Bu.gJ N (Bu.l2 N n) x0 x3
def Bu.b(N:Nat)(jn:Bu.dd)(a0:au):Option (Bool):=
 jn a0 (0:Int)
def Bu(N:Nat)(a0:au):Option (Bool):=Bu.b N (Bu.l2 N N) a0
abbrev uI.bE:=au→Int→Int→Int→Option (Int)
def uI.dw(N:Nat)(cr:uI.bE)(x0:au)(x1:Int)(x2:Int)(x7:Int):Option (Int):=
 cond (aY x7 (List.length x0:Int)) (cond (ba x7 (List.length x0)) (cond (aO ((List.getD x0 x7.toNat bh).1) x1) (cond (ba x7 (List.length x0)) (cond (aO (((List.getD x0 x7.toNat bh).2).1) x2) (cond (ba x7 (List.length x0)) (some ((((List.getD x0 x7.toNat bh).2).2).1)) (none)) (cr x0 x1 x2 (W .i64 (x7+1)))) (none)) (cr x0 x1 x2 (W .i64 (x7+1)))) (none)) (some (0:Int))
def uI.l4(N:Nat):Nat→uI.bE
 |0,_,_,_,_=>none
 |n+1,x0,x1,x2,x7=>uI.dw N (uI.l4 N n) x0 x1 x2 x7
def uI.b(N:Nat)(eH:uI.bE)(a0:au)(a1:Int)(a2:Int):Option (Int):=
 (Bu N a0).bind λr1=>cond (!r1) (some (0:Int)) (eH a0 a1 a2 (0:Int))
def uI(N:Nat)(a0:au)(a1:Int)(a2:Int):Option (Int):=uI.b N (uI.l4 N N) a0 a1 a2
def F15(N:Nat):Option (Bool):=
 (F56 N).bind λr1=>(F31 N r1.1 r1.2 (2:Int)).bind λr2=>(sO N r1.1 r1.2 (1:Int)).bind λr3=>(sO N r1.1 r1.2 (9:Int)).bind λr4=>cond (aO r2.2 0) (cond (aO r2.1 15) (cond (aO r3.2 0) ((BC N r3.1.2.2.2.1 (0:Int) (0:Int)).bind λr5=>cond (aO r5 6) ((uI N r3.1.2.2.1 (5:Int) (1:Int)).bind λr6=>cond (aO r6 0) ((uI N r3.1.2.2.1 (5:Int) (2:Int)).bind λr7=>cond (aO r7 5) ((uI N r3.1.2.2.1 (2:Int) (0:Int)).bind λr8=>cond (aO r8 5) (some (aO r4.2 3)) (some false)) (some false)) (some false)) (some false)) (some false)) (some false)) (some false)
def F16(N:Nat)(a0:List (Int)):Option aM:=
 some (a0,((0:Int),()))
def F62(N:Nat)(a0:aM):Option ((Int)×aM):=
 cond (aY a0.2.1 (List.length a0.1:Int)) (cond (ba a0.2.1 (List.length a0.1)) (some (List.getD a0.1 a0.2.1.toNat (0:Int),(a0.1,((W .i64 (a0.2.1+1)),a0.2.2)))) (none)) (some ((0:Int),(a0.1,((W .i64 (a0.2.1+1)),a0.2.2))))
def pS(N:Nat)(a0:aM)(a1:Int):Option ((Int)×aM):=
 (F62 N a0).bind λr1=>let v2:Int:=W .u64 a1;cond (aO v2 0) (none) (some ((W .i64 (rem r1.1 v2)),r1.2))
def QP(N:Nat)(a0:aM)(a1:Int):Option ((Bool)×aM):=
 (pS N a0 a1).bind λr1=>some (aO r1.1 (W .i64 (a1-1)),r1.2)
def Lv(N:Nat)(a0:aM):Option ((Int)×aM):=
 (F62 N a0).bind λr1=>cond (aO 8 0) (none) (let v2:Int:=rem r1.1 8;cond (aO v2 0) (cond (aY 1 0) (none) (some ((W .i64 (shr .u64 r1.1 1)),r1.2))) (cond (aO v2 1) (cond (aY 3 0) (none) (cond (aO 1000000000000 0) (none) (some ((W .i64 (rem (shr .u64 r1.1 3) 1000000000000)),r1.2)))) (cond (aO v2 2) (cond (aY 3 0) (none) (cond (aO 2 0) (none) (some ((W .i64 (rem (shr .u64 r1.1 3) 2)),r1.2)))) (cond (aY 3 0) (none) (cond (aO 5000 0) (none) (some ((W .i64 (rem (shr .u64 r1.1 3) 5000)),r1.2)))))))
abbrev uW.YB:=aM→ae→ae→aK→Int→bO→Option (ae×aM)
abbrev uW.dY:=aM→ae→ae→aK→Int→Option (ae×aM)
def uW.W2(N:Nat)(dp:uW.dY)(x0:aM)(x2:ae)(x3:ae)(U9:aK)(x4:Int)(x5:bO):Option (ae×aM):=
 (QP N x0 (12:Int)).bind λyf=>cond (yf.1) ((Lv N yf.2).bind λw8=>cond (aO 1000000001 0) (none) (let YC:Int:=rem w8.1 1000000001;(Lv N w8.2).bind λA9=>cond (aO 1000000001 0) (none) (let v18:Int:=rem A9.1 1000000001;cond (small (List.length U9+List.length ([(x5.1,(x5.2.1,(YC,(v18,x5.2.2.2.2))))]))) (dp A9.2 x2 (c9,x3.2) (U9++([(x5.1,(x5.2.1,(YC,(v18,x5.2.2.2.2))))])) (W .i64 (x4-1))) (none)))) (cond (small (List.length U9+List.length ([x5]))) (dp yf.2 x2 (c9,x3.2) (U9++([x5])) (W .i64 (x4-1))) (none))
def uW.j8(N:Nat)(dp:uW.dY)(x0:aM)(x2:ae)(x3:ae)(U9:aK)(x4:Int)(x5:bO):Option (ae×aM):=uW.W2 N dp x0 x2 x3 U9 x4 x5
def uW.nO(N:Nat)(Oo:uW.YB)(dp:uW.dY)(x0:aM)(x2:ae)(x3:ae)(U9:aK)(x4:Int):Option (ae×aM):=
 cond (aY 0 x4) ((pS N x0 (3:Int)).bind λr4=>(pS N r4.2 (300:Int)).bind λr5=>(pS N r5.2 (12:Int)).bind λr7=>(pS N r7.2 (6:Int)).bind λr8=>(QP N r8.2 (12:Int)).bind λr9=>cond (r9.1) ((Lv N r9.2).bind λkB=>cond (aO 1000000000000 0) (none) (Oo kB.2 x2 x3 U9 x4 (r4.1,((W .i64 ((1:Int)+(rem kB.1 1000000000000))),(r7.1,(r8.1,())))))) (Oo r9.2 x2 x3 U9 x4 (r4.1,((W .i64 ((1:Int)+r5.1)),(r7.1,(r8.1,())))))) ((pS N x0 (300:Int)).bind λCZ=>(pS N CZ.2 (5:Int)).bind λLA=>(pS N LA.2 (3:Int)).bind λHa=>(pS N Ha.2 (3:Int)).bind λC1=>(pS N C1.2 (20:Int)).bind λOq=>let v28:Int:=W .i64 ((1:Int)+Oq.1);(pS N Oq.2 (100:Int)).bind λEb=>(QP N Eb.2 (15:Int)).bind λRf=>cond (Rf.1) ((Lv N Rf.2).bind λHb=>some ((U9,(Hb.1,(LA.1,(Ha.1,(C1.1,(v28,(Eb.1,x3.2.2.2.2.2.2.2))))))),Hb.2)) (some ((U9,(CZ.1,(LA.1,(Ha.1,(C1.1,(v28,(Eb.1,x3.2.2.2.2.2.2.2))))))),Rf.2)))
def uW.l3(N:Nat):Nat→uW.dY
 |0,_,_,_,_,_=>none
 |n+1,x0,x2,x3,U9,x4=>uW.nO N (uW.j8 N (uW.l3 N n)) (uW.l3 N n) x0 x2 x3 U9 x4
def uW.b(N:Nat)(oE:uW.dY)(a0:aM):Option (ae×aM):=
 (pS N a0 (4:Int)).bind λr1=>oE r1.2 (c9,fa) (c9,fa) c9 (W .i64 ((1:Int)+r1.1))
def uW(N:Nat)(a0:aM):Option (ae×aM):=uW.b N (uW.l3 N N) a0
def Un(N:Nat)(a0:aM)(a1:ae)(a2:Int):Option (gP×aM):=
 cond (ba a2 (List.length a1.1)) ((pS N a0 (61:Int)).bind λr1=>(QP N r1.2 (20:Int)).bind λr6=>cond (r6.1) ((Lv N r6.2).bind λr7=>cond (aO 1000000000000 0) (none) (some (((9:Int),((0:Int),((0:Int),(a2,((0:Int),((0:Int),((0:Int),((W .i64 ((1:Int)+(rem r7.1 1000000000000))),())))))))),r7.2))) (some (((9:Int),((0:Int),((0:Int),(a2,((0:Int),((0:Int),((0:Int),((mx 1 (mn 1000000000000 (W .i64 ((W .i64 ((((List.getD a1.1 a2.toNat aV).2).1)+r1.1))-30)))),())))))))),r6.2))) (none)
def Xy(N:Nat)(a0:aM)(a1:ae):Option (gP×aM):=
 (pS N a0 (List.length a1.1:Int)).bind λr1=>(pS N r1.2 (7:Int)).bind λr2=>let v3:Int:=W .i64 ((1:Int)+r2.1);(pS N r2.2 (2:Int)).bind λr4=>let v5:Int:=W .i64 ((1:Int)+r4.1);(pS N r4.2 (30:Int)).bind λr6=>cond (ba r1.1 (List.length a1.1)) ((pS N r6.2 (21:Int)).bind λr8=>(QP N r8.2 (30:Int)).bind λqw=>cond (qw.1) ((Lv N qw.2).bind λyf=>cond (aO 1000000000 0) (none) ((Lv N yf.2).bind λA9=>cond (aO 1000000000000 0) (none) (some (((7:Int),((0:Int),(v3,(r1.1,(v5,((0:Int),((W .i64 ((1:Int)+(rem yf.1 1000000000))),((W .i64 ((1:Int)+(rem A9.1 1000000000000))),())))))))),A9.2)))) (some (((7:Int),((0:Int),(v3,(r1.1,(v5,((0:Int),((W .i64 ((1:Int)+r6.1)),((mx 1 (mn 1000000000000 (W .i64 ((W .i64 ((((List.getD a1.1 r1.1.toNat aV).2).1)+r8.1))-10)))),())))))))),qw.2))) (none)
def Uo(N:Nat)(a0:aM)(a1:ae):Option (gP×aM):=
 (pS N a0 (4:Int)).bind λr1=>let v2:Int:=W .i64 ((1:Int)+r1.1);(pS N r1.2 (7:Int)).bind λr3=>let v4:Int:=W .i64 ((1:Int)+r3.1);(pS N r3.2 (List.length a1.1:Int)).bind λr5=>(pS N r5.2 (36:Int)).bind λr6=>let v7:Int:=W .i64 ((1:Int)+r6.1);cond (aO v7 1) (some ((v7,(v2,fa)),r6.2)) (cond (aO v7 11) (some ((v7,(v2,fa)),r6.2)) (cond (aO v7 12) (some ((v7,(v2,fa)),r6.2)) (cond (aO v7 13) (some ((v7,(v2,fa)),r6.2)) (cond (aO v7 2) ((pS N r6.2 (2:Int)).bind λr8=>some ((v7,(v2,(v4,((0:Int),((W .i64 ((1:Int)+r8.1)),bh))))),r8.2)) (cond (aO v7 3) ((Lv N r6.2).bind λkB=>some ((v7,((0:Int),(v4,((0:Int),((0:Int),((0:Int),((mx kB.1 1),((0:Int),())))))))),kB.2)) (cond (aO v7 4) ((Lv N r6.2).bind λoR=>some ((v7,((0:Int),(v4,((0:Int),((0:Int),((0:Int),((mx oR.1 1),((0:Int),())))))))),oR.2)) (cond (aO v7 5) ((Lv N r6.2).bind λyf=>some ((v7,(v2,((0:Int),((0:Int),((0:Int),((0:Int),((mx yf.1 1),((0:Int),())))))))),yf.2)) (cond (aO v7 22) ((Lv N r6.2).bind λxP=>some ((v7,(v2,((0:Int),((0:Int),((0:Int),((0:Int),((mx xP.1 1),((0:Int),())))))))),xP.2)) (cond (aO v7 6) ((Lv N r6.2).bind λvj=>cond (aO 1000000000001 0) (none) (some ((v7,((0:Int),(v4,((0:Int),((0:Int),((0:Int),((rem vj.1 1000000000001),((0:Int),())))))))),vj.2))) (cond (aO v7 8) ((pS N r6.2 (40:Int)).bind λOt=>some ((v7,((0:Int),(v4,((0:Int),((0:Int),((W .i64 ((1:Int)+Ot.1)),cA)))))),Ot.2)) (cond (aO v7 9) ((Un N r6.2 a1 r5.1).bind λLb=>some (Lb.1,Lb.2)) (cond (aO v7 10) ((pS N r6.2 (3:Int)).bind λCZ=>some ((v7,((0:Int),((0:Int),((0:Int),((0:Int),((0:Int),((W .i64 ((1:Int)+CZ.1)),((0:Int),())))))))),CZ.2)) (cond (aO v7 14) (some ((v7,(v2,(v4,mK))),r6.2)) (cond (aO v7 15) (some ((v7,Lo),r6.2)) (cond (aO v7 16) (some ((v7,Lo),r6.2)) (cond (aO v7 18) (some ((v7,Lo),r6.2)) (cond (aO v7 20) (some ((v7,Lo),r6.2)) (cond (aO v7 21) (some ((v7,Lo),r6.2)) (cond (aO v7 17) ((pS N r6.2 (60:Int)).bind λHa=>(pS N Ha.2 (20:Int)).bind λOq=>cond (ba r5.1 (List.length a1.1)) (some ((v7,((0:Int),(v4,((0:Int),((0:Int),((W .i64 ((1:Int)+Ha.1)),((W .i64 ((1:Int)+Oq.1)),(((List.getD a1.1 r5.1.toNat aV).2).1,())))))))),Oq.2)) (none)) (cond (aO v7 19) ((pS N r6.2 (60:Int)).bind λEb=>(pS N Eb.2 (80:Int)).bind λHb=>some ((v7,(v2,((0:Int),((0:Int),((0:Int),((W .i64 ((1:Int)+Eb.1)),((0:Int),((W .i64 (Hb.1-60)),())))))))),Hb.2)) ((Xy N r6.2 a1).bind λr33=>some (r33.1,r33.2))))))))))))))))))))))
abbrev fP.fX:=aM→cS→Int→Option (cS×aM)
abbrev fP.mw:=aM→cS→Int→Option (cS×aM)
abbrev fP.dY:=aM→cS→Int→Option (cS×aM)
def fP.mP(N:Nat)(gO:fP.fX)(x0:aM)(x5:cS)(x8:Int):Option (cS×aM):=
 cond (dk x8 7) ((pS N x0 (3000:Int)).bind λw8=>let YC:Int:=W .i64 ((200:Int)+w8.1);(pS N w8.2 (200:Int)).bind λA9=>let v18:Int:=W .i64 ((20:Int)+A9.1);cond (small (List.length x5+List.length ([((3:Int),((0:Int),(x8,((0:Int),((0:Int),((0:Int),(YC,((0:Int),())))))))),((6:Int),((0:Int),(x8,((0:Int),((0:Int),((0:Int),(v18,((0:Int),()))))))))]))) (gO A9.2 (x5++([((3:Int),((0:Int),(x8,((0:Int),((0:Int),((0:Int),(YC,((0:Int),())))))))),((6:Int),((0:Int),(x8,((0:Int),((0:Int),((0:Int),(v18,((0:Int),()))))))))])) (W .i64 (x8+1))) (none)) (some (x5,x0))
def fP.nT(N:Nat):Nat→fP.fX
 |0,_,_,_=>none
 |n+1,x0,x5,x8=>fP.mP N (fP.nT N n) x0 x5 x8
def fP.xy(N:Nat)(tQ:fP.fX)(rN:fP.mw)(x0:aM)(x5:cS)(x7:Int):Option (cS×aM):=
 cond (dk x7 7) ((pS N x0 (2:Int)).bind λkB=>let v11:Int:=W .i64 ((1:Int)+kB.1);cond (small (List.length x5+List.length ([((2:Int),(v11,(x7,((0:Int),((2:Int),bh)))))]))) (rN kB.2 (x5++([((2:Int),(v11,(x7,((0:Int),((2:Int),bh)))))])) (W .i64 (x7+1))) (none)) (tQ x0 x5 (1:Int))
def fP.l9(N:Nat):Nat→fP.mw
 |0,_,_,_=>none
 |n+1,x0,x5,x7=>fP.xy N (fP.nT N N) (fP.l9 N n) x0 x5 x7
def fP.nO(N:Nat)(y8:fP.mw)(dp:fP.dY)(x0:aM)(x5:cS)(x6:Int):Option (cS×aM):=
 cond (dk x6 4) (cond (small (List.length x5+List.length ([((1:Int),(x6,fa)),((2:Int),(x6,(x6,((0:Int),((1:Int),bh)))))]))) (let v2:List ((Int)×((Int)×((Int)×((Int)×((Int)×((Int)×((Int)×((Int)×(Unit))))))))):=x5++([((1:Int),(x6,fa)),((2:Int),(x6,(x6,((0:Int),((1:Int),bh)))))]);(QP N x0 (5:Int)).bind λr3=>cond (!r3.1) ((pS N r3.2 (400:Int)).bind λr4=>let v5:Int:=W .i64 ((1:Int)+r4.1);cond (small (List.length v2+List.length ([((5:Int),(x6,((0:Int),((0:Int),((0:Int),((0:Int),(v5,((0:Int),()))))))))]))) (dp r4.2 (v2++([((5:Int),(x6,((0:Int),((0:Int),((0:Int),((0:Int),(v5,((0:Int),()))))))))])) (W .i64 (x6+1))) (none)) (dp r3.2 v2 (W .i64 (x6+1)))) (none)) (y8 x0 x5 (5:Int))
def fP.l3(N:Nat):Nat→fP.dY
 |0,_,_,_=>none
 |n+1,x0,x5,x6=>fP.nO N (fP.l9 N N) (fP.l3 N n) x0 x5 x6
def fP.b(N:Nat)(oE:fP.dY)(a0:aM)(a1:ae):Option (cS×aM):=
 oE a0 ([]) (1:Int)
def fP(N:Nat)(a0:aM)(a1:ae):Option (cS×aM):=fP.b N (fP.l3 N N) a0 a1
abbrev pM.dY:=aM→ae→cS→Int→Option (cS×aM)
def pM.nO(N:Nat)(dp:pM.dY)(x0:aM)(x4:ae)(x7:cS)(x8:Int):Option (cS×aM):=
 cond (aY 0 x8) ((pS N x0 (8:Int)).bind λr5=>cond (aO r5.1 0) ((Uo N r5.2 x4).bind λr6=>cond (small (List.length x7+List.length ([r6.1]))) (dp r6.2 x4 (x7++([r6.1])) (W .i64 (x8-1))) (none)) (cond (aO r5.1 1) ((pS N r5.2 (List.length x4.1:Int)).bind λr9=>(Un N r9.2 x4 r9.1).bind λkB=>cond (small (List.length x7+List.length ([kB.1]))) (dp kB.2 x4 (x7++([kB.1])) (W .i64 (x8-1))) (none)) ((Xy N r5.2 x4).bind λqw=>cond (small (List.length x7+List.length ([qw.1]))) (dp qw.2 x4 (x7++([qw.1])) (W .i64 (x8-1))) (none)))) (some (x7,x0))
def pM.l3(N:Nat):Nat→pM.dY
 |0,_,_,_,_=>none
 |n+1,x0,x4,x7,x8=>pM.nO N (pM.l3 N n) x0 x4 x7 x8
def pM.b(N:Nat)(oE:pM.dY)(a0:aM)(a1:ae)(a2:Int):Option (cS×aM):=
 (fP N a0 a1).bind λr1=>(pS N r1.2 (W .i64 (a2+1))).bind λr3=>oE r3.2 a1 r1.1 r3.1
def pM(N:Nat)(a0:aM)(a1:ae)(a2:Int):Option (cS×aM):=pM.b N (pM.l3 N N) a0 a1 a2
def HA(N:Nat)(a0:Int)(a1:Int)(a2:Int):Option (Bool):=
 cond (dk a1 a0) (some (dk a0 a2)) (some false)
abbrev me.bE:=ae→Int→Option (Bool)
def me.dw(N:Nat)(cr:me.bE)(x1:ae)(x3:Int):Option (Bool):=
 cond (aY x3 (List.length x1.1:Int)) (cond (ba x3 (List.length x1.1)) ((HA N ((List.getD x1.1 x3.toNat aV).1) (0:Int) (3:Int)).bind λr2=>cond (!r2) (some false) ((HA N (((List.getD x1.1 x3.toNat aV).2).1) (1:Int) (1000000000000:Int)).bind λr3=>cond (!r3) (some false) ((HA N ((((List.getD x1.1 x3.toNat aV).2).2).1) (0:Int) (1000000000:Int)).bind λr4=>cond (!r4) (some false) ((HA N (((((List.getD x1.1 x3.toNat aV).2).2).2).1) (0:Int) (1000000000:Int)).bind λr5=>cond (!r5) (some false) (cr x1 (W .i64 (x3+1))))))) (none)) (cond (dk 0 x1.2.1) ((HA N x1.2.2.1 (0:Int) (4:Int)).bind λr7=>cond (r7) ((HA N x1.2.2.2.1 (0:Int) (1000000:Int)).bind λr8=>cond (r8) ((HA N x1.2.2.2.2.1 (0:Int) (1000000:Int)).bind λr9=>cond (r9) ((HA N x1.2.2.2.2.2.1 (1:Int) (4611686018427387904:Int)).bind λkB=>cond (kB) (some (dk 0 x1.2.2.2.2.2.2.1)) (some false)) (some false)) (some false)) (some false)) (some false))
def me.l4(N:Nat):Nat→me.bE
 |0,_,_=>none
 |n+1,x1,x3=>me.dw N (me.l4 N n) x1 x3
def me.b(N:Nat)(eH:me.bE)(a0:ae):Option (Bool):=
 cond (aY (List.length a0.1:Int) 1) (some false) (cond (aY 6 (List.length a0.1:Int)) (some false) (eH a0 (0:Int)))
def me(N:Nat)(a0:ae):Option (Bool):=me.b N (me.l4 N N) a0
abbrev ij.fu:=ae→aq→aq→(List (Int))→Int→Option (aq×(Int))
abbrev ij.YD:=ae→aq→aq→(List (Int))→Option (aq×(Int))
def ij.q4(N:Nat)(eN:ij.fu)(x1:ae)(x2:aq)(x4:aq)(x4l:List (Int))(x5:Int):Option (aq×(Int)):=
 cond (aY x5 (List.length x1.1:Int)) (cond (ba x5 (List.length x1.1)) (cond (small (List.length x4l+List.length ([((List.getD x1.1 x5.toNat aV).2).1]))) (eN x1 x2 (x4.1,(x4.2.1,(x4.2.2.1,(x4.2.2.2.1,(dC,x4.2.2.2.2.2))))) (x4l++([((List.getD x1.1 x5.toNat aV).2).1])) (W .i64 (x5+1))) (none)) (none)) (some ((x4.1,(x4.2.1,(x4.2.2.1,(x4.2.2.2.1,(x4l,x4.2.2.2.2.2))))),(0:Int)))
def ij.l7(N:Nat):Nat→ij.fu
 |0,_,_,_,_,_=>none
 |n+1,x1,x2,x4,x4l,x5=>ij.q4 N (ij.l7 N n) x1 x2 x4 x4l x5
def ij.TP(N:Nat)(u2:ij.fu)(x1:ae)(x2:aq)(x4:aq)(x4l:List (Int)):Option (aq×(Int)):=
 u2 x1 x2 x4 x4l (0:Int)
def ij.j6(N:Nat)(x1:ae)(x2:aq)(x4:aq)(x4l:List (Int)):Option (aq×(Int)):=ij.TP N (ij.l7 N N) x1 x2 x4 x4l
def ij.b(N:Nat)(Lc:ij.YD)(a0:ae):Option (aq×(Int)):=
 (me N a0).bind λr1=>cond (!r1) (some ((ck,(c9,(bH,(bH,(dC,(dT,())))))),(1:Int))) (cond (!aO a0.2.1 0) (Lc a0 (ck,(c9,(bH,(bH,(dC,(dT,())))))) (ck,(c9,([((1:Int),((0:Int),((W .i64 (0-a0.2.1)),()))),((3:Int),((0:Int),(a0.2.1,())))],(bH,(dC,(dT,())))))) dC) (Lc a0 (ck,(c9,(bH,(bH,(dC,(dT,())))))) (ck,(c9,(bH,(bH,(dC,(dT,())))))) dC))
def ij(N:Nat)(a0:ae):Option (aq×(Int)):=ij.b N (ij.j6 N) a0
def Ym(N:Nat)(a0:ae):Option (aQ×(Int)):=
 (ij N a0).bind λr1=>cond (!aO r1.2 0) (some (((0:Int),((0:Int),((ck,(c9,(bH,(bH,(dC,(dT,())))))),(((0:Int),((0:Int),((0:Int),((0:Int),(c9,(([]:List ((Int)×((List ((Int)×((Int)×(Unit))))×((Int)×((Int)×((Int)×((Int)×(Unit)))))))),(c9,(dC,(ck,(ck,())))))))))),(((0:Int),((0:Int),(C8,((0:Int),())))),()))))),r1.2)) (some (((0:Int),((1:Int),(r1.1,(((0:Int),((0:Int),((0:Int),((0:Int),(c9,(([]:List ((Int)×((List ((Int)×((Int)×(Unit))))×((Int)×((Int)×((Int)×((Int)×(Unit)))))))),(c9,(dC,(ck,(ck,())))))))))),(((0:Int),((0:Int),(C8,((0:Int),())))),()))))),(0:Int)))
abbrev nE.dY:=aM→ae→cS→Int→Option (cS×aM)
def nE.nO(N:Nat)(dp:nE.dY)(x0:aM)(x3:ae)(x5:cS)(x6:Int):Option (cS×aM):=
 cond (aY 0 x6) ((QP N x0 (2:Int)).bind λr3=>cond (r3.1) ((pS N r3.2 (List.length x3.1:Int)).bind λr4=>(Un N r4.2 x3 r4.1).bind λr5=>cond (small (List.length x5+List.length ([r5.1]))) (dp r5.2 x3 (x5++([r5.1])) (W .i64 (x6-1))) (none)) ((Uo N r3.2 x3).bind λr8=>cond (small (List.length x5+List.length ([r8.1]))) (dp r8.2 x3 (x5++([r8.1])) (W .i64 (x6-1))) (none))) (some (x5,x0))
def nE.l3(N:Nat):Nat→nE.dY
 |0,_,_,_,_=>none
 |n+1,x0,x3,x5,x6=>nE.nO N (nE.l3 N n) x0 x3 x5 x6
def nE.b(N:Nat)(oE:nE.dY)(a0:aM)(a1:ae):Option (cS×aM):=
 (pS N a0 (3:Int)).bind λr1=>oE r1.2 a1 ([]) r1.1
def nE(N:Nat)(a0:aM)(a1:ae):Option (cS×aM):=nE.b N (nE.l3 N N) a0 a1
def aih(N:Nat)(a0:Int):Option (Bool):=
 cond (dk 1 a0) (some (dk a0 22)) (some false)
def aaS(N:Nat)(a0:Int):Option (ByteArray):=
 cond (aO a0 1) (some (strOf [77])) (cond (aO a0 11) (some (strOf [77])) (cond (aO a0 12) (some (strOf [77])) (cond (aO a0 13) (some (strOf [77])) (cond (aO a0 2) (some (strOf [77,65,83])) (cond (aO a0 3) (some (strOf [65,81])) (cond (aO a0 4) (some (strOf [65,81])) (cond (aO a0 6) (some (strOf [65,81])) (cond (aO a0 5) (some (strOf [77,81])) (cond (aO a0 22) (some (strOf [77,81])) (cond (aO a0 7) (some (strOf [65,73,83,81,80])) (cond (aO a0 8) (some (strOf [65,68])) (cond (aO a0 9) (some (strOf [73,80])) (cond (aO a0 10) (some (strOf [81])) (cond (aO a0 14) (some (strOf [77,65])) (cond (aO a0 17) (some (strOf [65,68,81,80])) (cond (aO a0 19) (some (strOf [77,68,80])) (some (strOf []))))))))))))))))))
def aie(N:Nat)(a0:Int):Option ((Int)×(Int)):=
 cond (aO a0 6) (some ((0:Int),(1000000000000:Int))) (cond (aO a0 7) (some ((1:Int),(1000000000:Int))) (cond (aO a0 17) (some ((1:Int),(1000000000:Int))) (cond (aO a0 10) (some ((1:Int),(1000000:Int))) (some ((1:Int),(9223372036854775807:Int))))))
def aif(N:Nat)(a0:Int):Option ((Int)×(Int)):=
 cond (aO a0 19) (some ((-1152921504606846976:Int),(1152921504606846976:Int))) (some ((1:Int),(1000000000000:Int)))
def aaT(N:Nat)(a0:Int)(a1:Int):Option ((Int)×(Int)):=
 cond (aO a1 77) (some ((1:Int),(12:Int))) (cond (aO a1 65) (some ((1:Int),(24:Int))) (cond (aO a1 73) (some ((0:Int),(5:Int))) (cond (aO a1 83) (some ((1:Int),(2:Int))) (cond (aO a1 68) (some ((1:Int),(1099511627776:Int))) (cond (aO a1 81) ((aie N a0).bind λr1=>some (r1.1,r1.2)) ((aif N a0).bind λr2=>some (r2.1,r2.2)))))))
def aaU(N:Nat)(a0:gP)(a1:Int):Option (Int):=
 cond (aO a1 77) (some a0.2.1) (cond (aO a1 65) (some a0.2.2.1) (cond (aO a1 73) (some a0.2.2.2.1) (cond (aO a1 83) (some a0.2.2.2.2.1) (cond (aO a1 68) (some a0.2.2.2.2.2.1) (cond (aO a1 81) (some a0.2.2.2.2.2.2.1) (some a0.2.2.2.2.2.2.2.1))))))
def aaV(N:Nat)(a0:gP)(a1:Int)(a2:Int):Option gP:=
 cond (aO a1 77) (some (a0.1,(a2,a0.2.2))) (cond (aO a1 65) (some (a0.1,(a0.2.1,(a2,a0.2.2.2)))) (cond (aO a1 73) (some (a0.1,(a0.2.1,(a0.2.2.1,(a2,a0.2.2.2.2))))) (cond (aO a1 83) (some (a0.1,(a0.2.1,(a0.2.2.1,(a0.2.2.2.1,(a2,a0.2.2.2.2.2)))))) (cond (aO a1 68) (some (a0.1,(a0.2.1,(a0.2.2.1,(a0.2.2.2.1,(a0.2.2.2.2.1,(a2,a0.2.2.2.2.2.2))))))) (cond (aO a1 81) (some (a0.1,(a0.2.1,(a0.2.2.1,(a0.2.2.2.1,(a0.2.2.2.2.1,(a0.2.2.2.2.2.1,(a2,a0.2.2.2.2.2.2.2)))))))) (some (a0.1,(a0.2.1,(a0.2.2.1,(a0.2.2.2.1,(a0.2.2.2.2.1,(a0.2.2.2.2.2.1,(a0.2.2.2.2.2.2.1,(a2,a0.2.2.2.2.2.2.2.2))))))))))))))
abbrev rr.jE:=gP→ByteArray→gP→Int→Option (Bool)
def rr.uu(N:Nat)(kC:rr.jE)(x1:gP)(x3:ByteArray)(x4:gP)(x5:Int):Option (Bool):=
 cond (aY x5 (ByteArray.size x3:Int)) (cond (ba x5 (ByteArray.size x3)) ((aaT N x1.1 ((x3.data.getD x5.toNat 0).toNat:Int)).bind λr4=>cond (ba x5 (ByteArray.size x3)) ((aaU N x1 ((x3.data.getD x5.toNat 0).toNat:Int)).bind λr5=>cond (aY r5 r4.1) (some false) (cond (aY r4.2 r5) (some false) (cond (ba x5 (ByteArray.size x3)) ((aaV N x4 ((x3.data.getD x5.toNat 0).toNat:Int) r5).bind λr6=>kC x1 x3 r6 (W .i64 (x5+1))) (none)))) (none)) (none)) (some (pt (.pair (.int .i64) (.pair (.int .i64) (.pair (.int .i64) (.pair (.int .i64) (.pair (.int .i64) (.pair (.int .i64) (.pair (.int .i64) (.pair (.int .i64) .unit)))))))) x4 x1))
def rr.l6(N:Nat):Nat→rr.jE
 |0,_,_,_,_=>none
 |n+1,x1,x3,x4,x5=>rr.uu N (rr.l6 N n) x1 x3 x4 x5
def rr.b(N:Nat)(xb:rr.jE)(a0:gP):Option (Bool):=
 (aih N a0.1).bind λr1=>cond (!r1) (some false) ((aaS N a0.1).bind λr2=>xb a0 r2 (a0.1,Lo) (0:Int))
def rr(N:Nat)(a0:gP):Option (Bool):=rr.b N (rr.l6 N N) a0
abbrev A6.dd:=aD→Int→Option (Bool)
def A6.gJ(N:Nat)(eE:A6.dd)(x0:aD)(x3:Int):Option (Bool):=
 cond (aY x3 (List.length x0:Int)) (cond (ba x3 (List.length x0)) (cond (aY ((List.getD x0 x3.toNat cA).1) (1:Int)) (some false) (cond (ba x3 (List.length x0)) (cond (aY 12 ((List.getD x0 x3.toNat cA).1)) (some false) (cond (ba x3 (List.length x0)) (cond (aY (((List.getD x0 x3.toNat cA).2).1) (1:Int)) (some false) (cond (ba x3 (List.length x0)) (cond (aY 4 (((List.getD x0 x3.toNat cA).2).1)) (some false) (cond (aY 0 x3) (cond (ba x3 (List.length x0)) (let v2:Int:=W .i64 (x3-1);cond (ba v2 (List.length x0)) (cond (dk ((List.getD x0 x3.toNat cA).1) ((List.getD x0 v2.toNat cA).1)) (some false) (eE x0 (W .i64 (x3+1)))) (none)) (none)) (eE x0 (W .i64 (x3+1))))) (none))) (none))) (none))) (none)) (some true)
def A6.l2(N:Nat):Nat→A6.dd
 |0,_,_=>none
 |n+1,x0,x3=>A6.gJ N (A6.l2 N n) x0 x3
def A6.b(N:Nat)(jn:A6.dd)(a0:aD):Option (Bool):=
 jn a0 (0:Int)
def A6(N:Nat)(a0:aD):Option (Bool):=A6.b N (A6.l2 N N) a0
abbrev zf.dd:=aD→Int→Int→Option (Int)
def zf.gJ(N:Nat)(eE:zf.dd)(x0:aD)(x1:Int)(x5:Int):Option (Int):=
 cond (aY x5 (List.length x0:Int)) (cond (ba x5 (List.length x0)) (cond (aO ((List.getD x0 x5.toNat cA).1) x1) (cond (ba x5 (List.length x0)) (some (((List.getD x0 x5.toNat cA).2).1)) (none)) (eE x0 x1 (W .i64 (x5+1)))) (none)) (some (0:Int))
def zf.l2(N:Nat):Nat→zf.dd
 |0,_,_,_=>none
 |n+1,x0,x1,x5=>zf.gJ N (zf.l2 N n) x0 x1 x5
def zf.b(N:Nat)(jn:zf.dd)(a0:aD)(a1:Int):Option (Int):=
 jn a0 a1 (0:Int)
def zf(N:Nat)(a0:aD)(a1:Int):Option (Int):=zf.b N (zf.l2 N N) a0 a1
abbrev ig.Rg:=aD→Int→aD→Int→Option (aD×(Int))
abbrev ig.fu:=aD→Int→aD→Int→Option (aD×(Int))
def ig.Nd(N:Nat)(x0:aD)(x1:Int)(x6:aD)(x7:Int):Option (aD×(Int)):=
 cond (ka 0 x7 (List.length x0:Int) (List.length x0:Int)) (let v6:List ((Int)×((Int)×(Unit))):=List.drop (0:Int).toNat (List.take x7.toNat x0);cond (small (List.length x6+List.length v6)) (let v7:List ((Int)×((Int)×(Unit))):=x6++v6;cond (small (List.length v7+List.length ([(x1,((1:Int),()))]))) (let v8:List ((Int)×((Int)×(Unit))):=v7++([(x1,((1:Int),()))]);cond (ka x7 (List.length x0:Int) (List.length x0:Int) (List.length x0:Int)) (let v9:List ((Int)×((Int)×(Unit))):=List.drop x7.toNat (List.take (List.length x0:Int).toNat x0);cond (small (List.length v8+List.length v9)) (some ((v8++v9),(0:Int))) (none)) (none)) (none)) (none)) (none)
def ig.j9(N:Nat)(x0:aD)(x1:Int)(x6:aD)(x7:Int):Option (aD×(Int)):=ig.Nd N x0 x1 x6 x7
def ig.q4(N:Nat)(GJ:ig.Rg)(eN:ig.fu)(x0:aD)(x1:Int)(x6:aD)(x7:Int):Option (aD×(Int)):=
 cond (aY x7 (List.length x0:Int)) (cond (ba x7 (List.length x0)) (cond (aY ((List.getD x0 x7.toNat cA).1) x1) (eN x0 x1 x6 (W .i64 (x7+1))) (GJ x0 x1 x6 x7)) (none)) (GJ x0 x1 x6 x7)
def ig.l7(N:Nat):Nat→ig.fu
 |0,_,_,_,_=>none
 |n+1,x0,x1,x6,x7=>ig.q4 N (ig.j9 N) (ig.l7 N n) x0 x1 x6 x7
def ig.b(N:Nat)(u2:ig.fu)(a0:aD)(a1:Int):Option (aD×(Int)):=
 (A6 N a0).bind λr1=>cond (!r1) (some ([],(1:Int))) (cond (aY a1 1) (some ([],(1:Int))) (cond (aY 12 a1) (some ([],(1:Int))) ((zf N a0 a1).bind λr2=>cond (!aO r2 0) (some ([],(4:Int))) (u2 a0 a1 ([]) (0:Int)))))
def ig(N:Nat)(a0:aD)(a1:Int):Option (aD×(Int)):=ig.b N (ig.l7 N N) a0 a1
def fx(N:Nat)(a0:Int):Option db:=
 some (a0,cA)
abbrev eD.gQ:=aK→Int→bO→Int→Option (Bool)
abbrev eD.Yt:=aK→Int→bO→Option (Bool)
abbrev eD.dd:=aK→Int→Option (Bool)
def eD.yc(N:Nat)(eE:eD.dd)(e7:eD.gQ)(x0:aK)(x3:Int)(x4:bO)(x5:Int):Option (Bool):=
 cond (aY x5 x3) (cond (aO x4.2.2.1 1) (cond (ba x5 (List.length x0)) (cond (aO ((((List.getD x0 x5.toNat aV).2).2).1) (1:Int)) (cond (ba x5 (List.length x0)) (cond (aO (((List.getD x0 x5.toNat aV).2).1) x4.2.1) (some false) (e7 x0 x3 x4 (W .i64 (x5+1)))) (none)) (e7 x0 x3 x4 (W .i64 (x5+1)))) (none)) (e7 x0 x3 x4 (W .i64 (x5+1)))) (eE x0 (W .i64 (x3+1)))
def eD.l8(N:Nat)(eE:eD.dd):Nat→eD.gQ
 |0,_,_,_,_=>none
 |n+1,x0,x3,x4,x5=>eD.yc N eE (eD.l8 N eE n) x0 x3 x4 x5
def eD.Vm(N:Nat)(B1:eD.gQ)(eE:eD.dd)(x0:aK)(x3:Int)(x4:bO):Option (Bool):=
 B1 x0 x3 x4 (0:Int)
def eD.j7(N:Nat)(eE:eD.dd)(x0:aK)(x3:Int)(x4:bO):Option (Bool):=eD.Vm N (eD.l8 N eE N) eE x0 x3 x4
def eD.gJ(N:Nat)(HU:eD.Yt)(eE:eD.dd)(x0:aK)(x3:Int):Option (Bool):=
 cond (aY x3 (List.length x0:Int)) (cond (ba x3 (List.length x0)) (cond (aY ((List.getD x0 x3.toNat aV).1) (1:Int)) (some false) (cond (aY 24 ((List.getD x0 x3.toNat aV).1)) (some false) (cond (aY (((List.getD x0 x3.toNat aV).2).1) (1:Int)) (some false) (cond (aY 12 (((List.getD x0 x3.toNat aV).2).1)) (some false) (cond (!aO ((((List.getD x0 x3.toNat aV).2).2).1) (1:Int)) (cond (!aO ((((List.getD x0 x3.toNat aV).2).2).1) (2:Int)) (some false) (cond (aY (((((List.getD x0 x3.toNat aV).2).2).2).1) (0:Int)) (some false) (cond (aY 1000000000000 (((((List.getD x0 x3.toNat aV).2).2).2).1)) (some false) (cond (aY 0 x3) (let v2:Int:=W .i64 (x3-1);cond (ba v2 (List.length x0)) (cond (dk ((List.getD x0 x3.toNat aV).1) ((List.getD x0 v2.toNat aV).1)) (some false) (HU x0 x3 (List.getD x0 x3.toNat aV))) (none)) (HU x0 x3 (List.getD x0 x3.toNat aV)))))) (cond (aY (((((List.getD x0 x3.toNat aV).2).2).2).1) (0:Int)) (some false) (cond (aY 1000000000000 (((((List.getD x0 x3.toNat aV).2).2).2).1)) (some false) (cond (aY 0 x3) (let v9:Int:=W .i64 (x3-1);cond (ba v9 (List.length x0)) (cond (dk ((List.getD x0 x3.toNat aV).1) ((List.getD x0 v9.toNat aV).1)) (some false) (HU x0 x3 (List.getD x0 x3.toNat aV))) (none)) (HU x0 x3 (List.getD x0 x3.toNat aV)))))))))) (none)) (some true)
def eD.l2(N:Nat):Nat→eD.dd
 |0,_,_=>none
 |n+1,x0,x3=>eD.gJ N (eD.j7 N (eD.l2 N n)) (eD.l2 N n) x0 x3
def eD.b(N:Nat)(jn:eD.dd)(a0:aK):Option (Bool):=
 jn a0 (0:Int)
def eD(N:Nat)(a0:aK):Option (Bool):=eD.b N (eD.l2 N N) a0
abbrev oj.bE:=aD→aK→Int→Option (Bool)
def oj.dw(N:Nat)(cr:oj.bE)(x0:aD)(x1:aK)(x5:Int):Option (Bool):=
 cond (aY x5 (List.length x1:Int)) (cond (ba x5 (List.length x1)) ((zf N x0 (((List.getD x1 x5.toNat aV).2).1)).bind λr4=>cond (aO r4 0) (some false) (cr x0 x1 (W .i64 (x5+1)))) (none)) (some true)
def oj.l4(N:Nat):Nat→oj.bE
 |0,_,_,_=>none
 |n+1,x0,x1,x5=>oj.dw N (oj.l4 N n) x0 x1 x5
def oj.b(N:Nat)(eH:oj.bE)(a0:aD)(a1:aK):Option (Bool):=
 (A6 N a0).bind λr1=>cond (!r1) (some false) ((eD N a1).bind λr2=>cond (!r2) (some false) (eH a0 a1 (0:Int)))
def oj(N:Nat)(a0:aD)(a1:aK):Option (Bool):=oj.b N (oj.l4 N N) a0 a1
abbrev nQ.dd:=aK→Int→bO→Int→Option (bO×(Bool))
def nQ.gJ(N:Nat)(eE:nQ.dd)(x0:aK)(x1:Int)(x4:bO)(x6:Int):Option (bO×(Bool)):=
 cond (aY x6 (List.length x0:Int)) (cond (ba x6 (List.length x0)) (cond (aO ((List.getD x0 x6.toNat aV).1) x1) (cond (ba x6 (List.length x0)) (some (List.getD x0 x6.toNat aV,true)) (none)) (eE x0 x1 x4 (W .i64 (x6+1)))) (none)) (some (aV,false))
def nQ.l2(N:Nat):Nat→nQ.dd
 |0,_,_,_,_=>none
 |n+1,x0,x1,x4,x6=>nQ.gJ N (nQ.l2 N n) x0 x1 x4 x6
def nQ.b(N:Nat)(jn:nQ.dd)(a0:aK)(a1:Int):Option (bO×(Bool)):=
 jn a0 a1 aV (0:Int)
def nQ(N:Nat)(a0:aK)(a1:Int):Option (bO×(Bool)):=nQ.b N (nQ.l2 N N) a0 a1
abbrev mh.bE:=aK→Int→Int→Option (Int)
def mh.dw(N:Nat)(cr:mh.bE)(x0:aK)(x1:Int)(x5:Int):Option (Int):=
 cond (aY x5 (List.length x0:Int)) (cond (ba x5 (List.length x0)) (cond (aO (((List.getD x0 x5.toNat aV).2).1) x1) (cond (ba x5 (List.length x0)) (cond (aO ((((List.getD x0 x5.toNat aV).2).2).1) (1:Int)) (cond (ba x5 (List.length x0)) (some ((List.getD x0 x5.toNat aV).1)) (none)) (cr x0 x1 (W .i64 (x5+1)))) (none)) (cr x0 x1 (W .i64 (x5+1)))) (none)) (some (0:Int))
def mh.l4(N:Nat):Nat→mh.bE
 |0,_,_,_=>none
 |n+1,x0,x1,x5=>mh.dw N (mh.l4 N n) x0 x1 x5
def mh.b(N:Nat)(eH:mh.bE)(a0:aK)(a1:Int):Option (Int):=
 (eD N a0).bind λr1=>cond (!r1) (some (0:Int)) (eH a0 a1 (0:Int))
def mh(N:Nat)(a0:aK)(a1:Int):Option (Int):=mh.b N (mh.l4 N N) a0 a1
abbrev fe.GK:=aK→bO→aK→Int→Option (aK×(Int))
abbrev fe.fX:=aK→bO→aK→Int→Option (aK×(Int))
abbrev fe.Ou:=aK→bO→Option (aK×(Int))
def fe.uT(N:Nat)(x1:aK)(x5:bO)(a6:aK)(bc:Int):Option (aK×(Int)):=
 cond (ka 0 bc (List.length x1:Int) (List.length x1:Int)) (let v10:List ((Int)×((Int)×((Int)×((Int)×(Unit))))):=List.drop (0:Int).toNat (List.take bc.toNat x1);cond (small (List.length a6+List.length v10)) (let v11:List ((Int)×((Int)×((Int)×((Int)×(Unit))))):=a6++v10;cond (small (List.length v11+List.length ([x5]))) (let YE:List ((Int)×((Int)×((Int)×((Int)×(Unit))))):=v11++([x5]);cond (ka bc (List.length x1:Int) (List.length x1:Int) (List.length x1:Int)) (let v13:List ((Int)×((Int)×((Int)×((Int)×(Unit))))):=List.drop bc.toNat (List.take (List.length x1:Int).toNat x1);cond (small (List.length YE+List.length v13)) (some ((YE++v13),(0:Int))) (none)) (none)) (none)) (none)) (none)
def fe.A8(N:Nat)(x1:aK)(x5:bO)(a6:aK)(bc:Int):Option (aK×(Int)):=fe.uT N x1 x5 a6 bc
def fe.mP(N:Nat)(vl:fe.GK)(gO:fe.fX)(x1:aK)(x5:bO)(a6:aK)(bc:Int):Option (aK×(Int)):=
 cond (aY bc (List.length x1:Int)) (cond (ba bc (List.length x1)) (cond (aY ((List.getD x1 bc.toNat aV).1) x5.1) (gO x1 x5 a6 (W .i64 (bc+1))) (vl x1 x5 a6 bc)) (none)) (vl x1 x5 a6 bc)
def fe.nT(N:Nat):Nat→fe.fX
 |0,_,_,_,_=>none
 |n+1,x1,x5,a6,bc=>fe.mP N (fe.A8 N) (fe.nT N n) x1 x5 a6 bc
def fe.BN(N:Nat)(tQ:fe.fX)(x1:aK)(x5:bO):Option (aK×(Int)):=
 tQ x1 x5 ([]) (0:Int)
def fe.Je(N:Nat)(x1:aK)(x5:bO):Option (aK×(Int)):=fe.BN N (fe.nT N N) x1 x5
def fe.b(N:Nat)(C2:fe.Ou)(a0:aD)(a1:aK)(a2:bO):Option (aK×(Int)):=
 (oj N a0 a1).bind λr1=>cond (!r1) (some ([],(1:Int))) ((eD N ([a2])).bind λr2=>cond (!r2) (some ([],(1:Int))) ((zf N a0 a2.2.1).bind λr3=>cond (aO r3 0) (some ([],(3:Int))) (cond (!aO r3 1) (some ([],(7:Int))) ((nQ N a1 a2.1).bind λr4=>cond (r4.2) (some ([],(4:Int))) (cond (aO a2.2.2.1 1) ((mh N a1 a2.2.1).bind λr5=>cond (!aO r5 0) (some ([],(4:Int))) (C2 a1 a2)) (C2 a1 a2))))))
def fe(N:Nat)(a0:aD)(a1:aK)(a2:bO):Option (aK×(Int)):=fe.b N (fe.Je N) a0 a1 a2
def Vo(N:Nat)(a0:aK)(a1:Int):Option (bO×(Bool)):=
 (eD N a0).bind λr1=>cond (!r1) (some (aV,false)) ((nQ N a0 a1).bind λr2=>some (r2.1,r2.2))
def QW(N:Nat)(a0:aQ)(a1:Int):Option (Bool):=
 (Vo N a0.2.2.1.2.1 a1).bind λr1=>some r1.2
abbrev oe.dd:=(List (Int))→Int→Option (List (Int))
def oe.gJ(N:Nat)(eE:oe.dd)(x0:List (Int))(x3:Int):Option (List (Int)):=
 cond (aY 0 x3) (let v2:Int:=W .i64 (x3-1);cond (ba v2 (List.length x0)) (cond (aO (List.getD x0 v2.toNat (0:Int)) (0:Int)) (eE x0 (W .i64 (x3-1))) (cond (ka 0 x3 x3 (List.length x0:Int)) (some (List.drop (0:Int).toNat (List.take x3.toNat x0))) (none))) (none)) (cond (ka 0 x3 x3 (List.length x0:Int)) (some (List.drop (0:Int).toNat (List.take x3.toNat x0))) (none))
def oe.l2(N:Nat):Nat→oe.dd
 |0,_,_=>none
 |n+1,x0,x3=>oe.gJ N (oe.l2 N n) x0 x3
def oe.b(N:Nat)(jn:oe.dd)(a0:List (Int)):Option (List (Int)):=
 jn a0 (List.length a0:Int)
def oe(N:Nat)(a0:List (Int)):Option (List (Int)):=oe.b N (oe.l2 N N) a0
def F83(N:Nat)(a0:Int):Option (List (Int)):=
 cond (aY 32 0) (none) ((oe N ([(qL .and .u64 a0 4294967295),(shr .u64 a0 32)])).bind λr3=>some r3)
def WA(N:Nat)(a0:Bool)(a1:List (Int)):Option aH:=
 (oe N a1).bind λr1=>cond (a0) (some (aY 0 (List.length r1:Int),(r1,()))) (some (false,(r1,())))
def jV(N:Nat)(a0:Int):Option aH:=
 let v1:Int:=W .u64 a0;cond (aY a0 0) ((F83 N (W .u64 (0-v1))).bind λr3=>(WA N (aY a0 0) r3).bind λr4=>some r4) ((F83 N v1).bind λr5=>(WA N (aY a0 0) r5).bind λr6=>some r6)
def TQ(N:Nat)(a0:aH):Option aH:=
 (WA N (!a0.1) a0.2.1).bind λr1=>some r1
def ye(N:Nat)(a0:Int)(a1:Int)(a2:Int)(a3:Int)(a4:aH):Option bF:=
 (TQ N a4).bind λr1=>some ([(a0,(a1,(r1,()))),(a2,(a3,(a4,())))])
def Z6(N:Nat)(a0:List (Int))(a1:Int):Option (Int):=
 cond (aY a1 (List.length a0:Int)) (cond (ba a1 (List.length a0)) (some (List.getD a0 a1.toNat (0:Int))) (none)) (some (0:Int))
abbrev vh.YD:=(List (Int))→(List (Int))→(List (Int))→Int→Int→Option (List (Int))
abbrev vh.bE:=(List (Int))→(List (Int))→(List (Int))→Int→Int→Option (List (Int))
def vh.TP(N:Nat)(cr:vh.bE)(x0:List (Int))(x1:List (Int))(x5:List (Int))(x6:Int)(x7:Int):Option (List (Int)):=
 (Z6 N x0 x7).bind λr3=>(Z6 N x1 x7).bind λr4=>let v6:Int:=W .u64 (x6+(W .u64 (r3+r4)));let v7:Int:=qL .and .u64 v6 4294967295;cond (small (List.length x5+List.length ([v7]))) (cond (aY 32 0) (none) (cr x0 x1 (x5++([v7])) (shr .u64 v6 32) (W .i64 (x7+1)))) (none)
def vh.j6(N:Nat)(cr:vh.bE)(x0:List (Int))(x1:List (Int))(x5:List (Int))(x6:Int)(x7:Int):Option (List (Int)):=vh.TP N cr x0 x1 x5 x6 x7
def vh.dw(N:Nat)(Lc:vh.YD)(cr:vh.bE)(x0:List (Int))(x1:List (Int))(x5:List (Int))(x6:Int)(x7:Int):Option (List (Int)):=
 cond (aY x7 (List.length x0:Int)) (Lc x0 x1 x5 x6 x7) (cond (aY x7 (List.length x1:Int)) (Lc x0 x1 x5 x6 x7) (cond (aY 0 x6) (Lc x0 x1 x5 x6 x7) (some x5)))
def vh.l4(N:Nat):Nat→vh.bE
 |0,_,_,_,_,_=>none
 |n+1,x0,x1,x5,x6,x7=>vh.dw N (vh.j6 N (vh.l4 N n)) (vh.l4 N n) x0 x1 x5 x6 x7
def vh.b(N:Nat)(eH:vh.bE)(a0:List (Int))(a1:List (Int)):Option (List (Int)):=
 eH a0 a1 ([]) (0:Int) (0:Int)
def vh(N:Nat)(a0:List (Int))(a1:List (Int)):Option (List (Int)):=vh.b N (vh.l4 N N) a0 a1
abbrev Dm.jE:=(List (Int))→(List (Int))→Int→Option (Int)
def Dm.uu(N:Nat)(kC:Dm.jE)(x0:List (Int))(x1:List (Int))(x5:Int):Option (Int):=
 cond (dk 0 x5) (cond (ba x5 (List.length x0)) (cond (ba x5 (List.length x1)) (cond (aY (List.getD x0 x5.toNat (0:Int)) (List.getD x1 x5.toNat (0:Int))) (some (-1:Int)) (cond (ba x5 (List.length x0)) (cond (ba x5 (List.length x1)) (cond (aY (List.getD x1 x5.toNat (0:Int)) (List.getD x0 x5.toNat (0:Int))) (some (1:Int)) (kC x0 x1 (W .i64 (x5-1)))) (none)) (none))) (none)) (none)) (some (0:Int))
def Dm.l6(N:Nat):Nat→Dm.jE
 |0,_,_,_=>none
 |n+1,x0,x1,x5=>Dm.uu N (Dm.l6 N n) x0 x1 x5
def Dm.b(N:Nat)(xb:Dm.jE)(a0:List (Int))(a1:List (Int)):Option (Int):=
 cond (!aO (List.length a0:Int) (List.length a1:Int)) (cond (aY (List.length a0:Int) (List.length a1:Int)) (some (-1:Int)) (some (1:Int))) (xb a0 a1 (W .i64 ((List.length a0:Int)-1)))
def Dm(N:Nat)(a0:List (Int))(a1:List (Int)):Option (Int):=Dm.b N (Dm.l6 N N) a0 a1
abbrev DU.bE:=(List (Int))→(List (Int))→(List (Int))→Int→Int→Option (List (Int))
def DU.dw(N:Nat)(cr:DU.bE)(x0:List (Int))(x1:List (Int))(x5:List (Int))(x6:Int)(x7:Int):Option (List (Int)):=
 cond (aY x7 (List.length x0:Int)) (cond (ba x7 (List.length x0)) ((Z6 N x1 x7).bind λr2=>let v3:Int:=W .u64 (r2+x6);cond (aY (List.getD x0 x7.toNat (0:Int)) v3) (let v5:Int:=W .u64 ((W .u64 ((List.getD x0 x7.toNat (0:Int))+4294967296))-v3);cond (small (List.length x5+List.length ([v5]))) (cr x0 x1 (x5++([v5])) (1:Int) (W .i64 (x7+1))) (none)) (let v8:Int:=W .u64 ((List.getD x0 x7.toNat (0:Int))-v3);cond (small (List.length x5+List.length ([v8]))) (cr x0 x1 (x5++([v8])) (0:Int) (W .i64 (x7+1))) (none))) (none)) (some x5)
def DU.l4(N:Nat):Nat→DU.bE
 |0,_,_,_,_,_=>none
 |n+1,x0,x1,x5,x6,x7=>DU.dw N (DU.l4 N n) x0 x1 x5 x6 x7
def DU.b(N:Nat)(eH:DU.bE)(a0:List (Int))(a1:List (Int)):Option (List (Int)):=
 eH a0 a1 ([]) (0:Int) (0:Int)
def DU(N:Nat)(a0:List (Int))(a1:List (Int)):Option (List (Int)):=DU.b N (DU.l4 N N) a0 a1
def zd(N:Nat)(a0:aH)(a1:aH):Option aH:=
 cond (pt .bool a0.1 a1.1) ((vh N a0.2.1 a1.2.1).bind λr1=>(WA N a0.1 r1).bind λr2=>some r2) ((Dm N a0.2.1 a1.2.1).bind λr3=>cond (dk 0 r3) ((DU N a0.2.1 a1.2.1).bind λr4=>(WA N a0.1 r4).bind λr5=>some r5) ((DU N a1.2.1 a0.2.1).bind λr6=>(WA N a1.1 r6).bind λr7=>some r7))
def wE(N:Nat)(a0:aH):Option ((Int)×(Bool)):=
 cond (aY 2 (List.length a0.2.1:Int)) (some ((0:Int),false)) ((Z6 N a0.2.1 (0:Int)).bind λr1=>(Z6 N a0.2.1 (1:Int)).bind λr2=>cond (aY 32 0) (none) (let v4:Int:=qL .or .u64 r1 (W .u64 (shl .u64 r2 32));cond (a0.1) (cond (aY 9223372036854775808 v4) (some ((0:Int),false)) (some ((W .i64 (W .u64 (0-v4))),true))) (cond (aY 9223372036854775807 v4) (some ((0:Int),false)) (some ((W .i64 v4),true)))))
def Qx(N:Nat)(a0:aH):Option ((Int)×(Bool)):=
 (wE N a0).bind λr1=>cond (!r1.2) (some ((0:Int),false)) (cond (aO r1.1 (-9223372036854775808)) (some ((0:Int),false)) (some (r1.1,true)))
abbrev ct.GM:=au→au→au→Int→Int→Int→Int→Bool→aH→Int→Option (au×(Bool))
abbrev ct.YF:=au→au→au→Int→Int→Int→Int→Bool→Option (au×(Bool))
abbrev ct.fu:=au→au→au→Int→Int→Int→Option (au×(Bool))
abbrev ct.bE:=au→au→au→Int→Int→Option (au×(Bool))
def ct.HG(N:Nat)(cr:ct.bE)(eN:ct.fu)(JD:ct.GM)(x0:au)(x1:au)(x6:au)(x7:Int)(x8:Int)(x9:Int)(bw:Int)(a6:Bool)(bc:aH)(bZ:Int):Option (au×(Bool)):=
 cond (aY bZ (List.length x1:Int)) (cond (ba bZ (List.length x1)) (cond (aO ((List.getD x1 bZ.toNat bh).1) x8) (cond (ba bZ (List.length x1)) (cond (aO (((List.getD x1 bZ.toNat bh).2).1) x9) (cond (ba bZ (List.length x1)) ((jV N ((((List.getD x1 bZ.toNat bh).2).2).1)).bind λr6=>(zd N bc r6).bind λr7=>JD x0 x1 x6 x7 x8 x9 bw true r7 (W .i64 (bZ+1))) (none)) (JD x0 x1 x6 x7 x8 x9 bw a6 bc (W .i64 (bZ+1)))) (none)) (JD x0 x1 x6 x7 x8 x9 bw a6 bc (W .i64 (bZ+1)))) (none)) (cond (a6) ((jV N bw).bind λnV=>(zd N bc nV).bind λoR=>(Qx N oR).bind λqw=>cond (!qw.2) (some ([],false)) (cond (!aO qw.1 0) (cond (small (List.length x6+List.length ([(x8,(x9,(qw.1,())))]))) (eN x0 x1 (x6++([(x8,(x9,(qw.1,())))])) x7 x8 (W .i64 (x9+1))) (none)) (eN x0 x1 x6 x7 x8 (W .i64 (x9+1))))) (cond (!aO bw 0) (cond (small (List.length x6+List.length ([(x8,(x9,(bw,())))]))) (eN x0 x1 (x6++([(x8,(x9,(bw,())))])) x7 x8 (W .i64 (x9+1))) (none)) (eN x0 x1 x6 x7 x8 (W .i64 (x9+1)))))
def ct.IG(N:Nat)(cr:ct.bE)(eN:ct.fu):Nat→ct.GM
 |0,_,_,_,_,_,_,_,_,_,_=>none
 |n+1,x0,x1,x6,x7,x8,x9,bw,a6,bc,bZ=>ct.HG N cr eN (ct.IG N cr eN n) x0 x1 x6 x7 x8 x9 bw a6 bc bZ
def ct.Kv(N:Nat)(YG:ct.GM)(cr:ct.bE)(eN:ct.fu)(x0:au)(x1:au)(x6:au)(x7:Int)(x8:Int)(x9:Int)(bw:Int)(a6:Bool):Option (au×(Bool)):=
 YG x0 x1 x6 x7 x8 x9 bw a6 (false,pv) (0:Int)
def ct.Si(N:Nat)(cr:ct.bE)(eN:ct.fu)(x0:au)(x1:au)(x6:au)(x7:Int)(x8:Int)(x9:Int)(bw:Int)(a6:Bool):Option (au×(Bool)):=ct.Kv N (ct.IG N cr eN N) cr eN x0 x1 x6 x7 x8 x9 bw a6
def ct.q4(N:Nat)(A0:ct.YF)(cr:ct.bE)(eN:ct.fu)(x0:au)(x1:au)(x6:au)(x7:Int)(x8:Int)(x9:Int):Option (au×(Bool)):=
 cond (aY x9 6) (cond (aY x7 (List.length x0:Int)) (cond (ba x7 (List.length x0)) (cond (aO ((List.getD x0 x7.toNat bh).1) x8) (cond (ba x7 (List.length x0)) (cond (aO (((List.getD x0 x7.toNat bh).2).1) x9) (cond (ba x7 (List.length x0)) (A0 x0 x1 x6 (W .i64 (x7+1)) x8 x9 ((((List.getD x0 x7.toNat bh).2).2).1) false) (none)) (A0 x0 x1 x6 x7 x8 x9 (0:Int) false)) (none)) (A0 x0 x1 x6 x7 x8 x9 (0:Int) false)) (none)) (A0 x0 x1 x6 x7 x8 x9 (0:Int) false)) (cr x0 x1 x6 x7 (W .i64 (x8+1)))
def ct.l7(N:Nat)(cr:ct.bE):Nat→ct.fu
 |0,_,_,_,_,_,_=>none
 |n+1,x0,x1,x6,x7,x8,x9=>ct.q4 N (ct.Si N cr (ct.l7 N cr n)) cr (ct.l7 N cr n) x0 x1 x6 x7 x8 x9
def ct.dw(N:Nat)(u2:ct.fu)(cr:ct.bE)(x0:au)(x1:au)(x6:au)(x7:Int)(x8:Int):Option (au×(Bool)):=
 cond (dk x8 24) (u2 x0 x1 x6 x7 x8 (0:Int)) (some (x6,true))
def ct.l4(N:Nat):Nat→ct.bE
 |0,_,_,_,_,_=>none
 |n+1,x0,x1,x6,x7,x8=>ct.dw N (ct.l7 N (ct.l4 N n) N) (ct.l4 N n) x0 x1 x6 x7 x8
def ct.b(N:Nat)(eH:ct.bE)(a0:au)(a1:au):Option (au×(Bool)):=
 eH a0 a1 ([]) (0:Int) (0:Int)
def ct(N:Nat)(a0:au)(a1:au):Option (au×(Bool)):=ct.b N (ct.l4 N N) a0 a1
abbrev ny.dY:=Int→Int→Int→bF→aH→Bool→Int→Option ((Int)×(Bool))
def ny.nO(N:Nat)(dp:ny.dY)(x0:Int)(x1:Int)(x2:Int)(x3:bF)(bw:aH)(a6:Bool)(bc:Int):Option ((Int)×(Bool)):=
 cond (aY bc (List.length x3:Int)) (cond (ba bc (List.length x3)) (cond (aO ((List.getD x3 bc.toNat ((0:Int),((0:Int),((false,pv),())))).1) x1) (cond (ba bc (List.length x3)) (cond (aO (((List.getD x3 bc.toNat ((0:Int),((0:Int),((false,pv),())))).2).1) x2) (cond (ba bc (List.length x3)) ((zd N bw ((((List.getD x3 bc.toNat ((0:Int),((0:Int),((false,pv),())))).2).2).1)).bind λr2=>dp x0 x1 x2 x3 r2 true (W .i64 (bc+1))) (none)) (dp x0 x1 x2 x3 bw a6 (W .i64 (bc+1)))) (none)) (dp x0 x1 x2 x3 bw a6 (W .i64 (bc+1)))) (none)) (cond (!a6) (some (x0,true)) ((jV N x0).bind λr6=>(zd N bw r6).bind λr7=>(wE N r7).bind λr8=>some (r8.1,r8.2)))
def ny.l3(N:Nat):Nat→ny.dY
 |0,_,_,_,_,_,_,_=>none
 |n+1,x0,x1,x2,x3,bw,a6,bc=>ny.nO N (ny.l3 N n) x0 x1 x2 x3 bw a6 bc
def ny.b(N:Nat)(oE:ny.dY)(a0:Int)(a1:Int)(a2:Int)(a3:bF):Option ((Int)×(Bool)):=
 oE a0 a1 a2 a3 (false,pv) false (0:Int)
def ny(N:Nat)(a0:Int)(a1:Int)(a2:Int)(a3:bF):Option ((Int)×(Bool)):=ny.b N (ny.l3 N N) a0 a1 a2 a3
abbrev du.YF:=au→bF→au→Int→Int→Int→Int→Option (au×(Bool))
abbrev du.fu:=au→bF→au→Int→Int→Int→Option (au×(Bool))
abbrev du.bE:=au→bF→au→Int→Int→Option (au×(Bool))
def du.Kv(N:Nat)(cr:du.bE)(eN:du.fu)(x0:au)(x1:bF)(x6:au)(x7:Int)(x8:Int)(x9:Int)(bw:Int):Option (au×(Bool)):=
 (ny N bw x8 x9 x1).bind λr5=>cond (!r5.2) (some ([],false)) (cond (!aO r5.1 0) (cond (small (List.length x6+List.length ([(x8,(x9,(r5.1,())))]))) (eN x0 x1 (x6++([(x8,(x9,(r5.1,())))])) x7 x8 (W .i64 (x9+1))) (none)) (eN x0 x1 x6 x7 x8 (W .i64 (x9+1))))
def du.Si(N:Nat)(cr:du.bE)(eN:du.fu)(x0:au)(x1:bF)(x6:au)(x7:Int)(x8:Int)(x9:Int)(bw:Int):Option (au×(Bool)):=du.Kv N cr eN x0 x1 x6 x7 x8 x9 bw
def du.q4(N:Nat)(A0:du.YF)(cr:du.bE)(eN:du.fu)(x0:au)(x1:bF)(x6:au)(x7:Int)(x8:Int)(x9:Int):Option (au×(Bool)):=
 cond (dk x9 24) (cond (aY x7 (List.length x0:Int)) (cond (ba x7 (List.length x0)) (cond (aO ((List.getD x0 x7.toNat bh).1) x8) (cond (ba x7 (List.length x0)) (cond (aO (((List.getD x0 x7.toNat bh).2).1) x9) (cond (ba x7 (List.length x0)) (A0 x0 x1 x6 (W .i64 (x7+1)) x8 x9 ((((List.getD x0 x7.toNat bh).2).2).1)) (none)) (A0 x0 x1 x6 x7 x8 x9 (0:Int))) (none)) (A0 x0 x1 x6 x7 x8 x9 (0:Int))) (none)) (A0 x0 x1 x6 x7 x8 x9 (0:Int))) (cr x0 x1 x6 x7 (W .i64 (x8+1)))
def du.l7(N:Nat)(cr:du.bE):Nat→du.fu
 |0,_,_,_,_,_,_=>none
 |n+1,x0,x1,x6,x7,x8,x9=>du.q4 N (du.Si N cr (du.l7 N cr n)) cr (du.l7 N cr n) x0 x1 x6 x7 x8 x9
def du.dw(N:Nat)(u2:du.fu)(cr:du.bE)(x0:au)(x1:bF)(x6:au)(x7:Int)(x8:Int):Option (au×(Bool)):=
 cond (dk x8 7) (u2 x0 x1 x6 x7 x8 (0:Int)) (some (x6,true))
def du.l4(N:Nat):Nat→du.bE
 |0,_,_,_,_,_=>none
 |n+1,x0,x1,x6,x7,x8=>du.dw N (du.l7 N (du.l4 N n) N) (du.l4 N n) x0 x1 x6 x7 x8
def du.b(N:Nat)(eH:du.bE)(a0:au)(a1:bF):Option (au×(Bool)):=
 eH a0 a1 ([]) (0:Int) (1:Int)
def du(N:Nat)(a0:au)(a1:bF):Option (au×(Bool)):=du.b N (du.l4 N N) a0 a1
def yd(N:Nat)(a0:aq)(a1:au)(a2:bF):Option (aq×(Int)):=
 (ct N a0.2.2.2.1 a1).bind λr1=>cond (!r1.2) (some ((ck,(c9,(bH,(bH,(dC,(dT,())))))),(2:Int))) ((du N a0.2.2.1 a2).bind λr2=>cond (!r2.2) (some ((ck,(c9,(bH,(bH,(dC,(dT,())))))),(2:Int))) (some ((a0.1,(a0.2.1,(r2.1,(r1.1,a0.2.2.2.2)))),(0:Int))))
def N1(N:Nat)(a0:aQ)(a1:Int)(a2:Int)(a3:Int)(a4:Int)(a5:Int):Option (aQ×db):=
 (jV N a5).bind λr1=>(ye N a1 a2 a3 a4 r1).bind λr2=>(yd N a0.2.2.1 bH r2).bind λr3=>some ((a0.1,(a0.2.1,(r3.1,a0.2.2.2))),(r3.2,cA))
abbrev o8.bM:=au→Int→aH→aH→Int→Option aH
def o8.ei(N:Nat)(bQ:o8.bM)(x0:au)(x1:Int)(x4:aH)(x5:aH)(x6:Int):Option aH:=
 cond (aY x6 (List.length x0:Int)) (cond (ba x6 (List.length x0)) (cond (aO (((List.getD x0 x6.toNat bh).2).1) x1) (cond (ba x6 (List.length x0)) ((jV N ((((List.getD x0 x6.toNat bh).2).2).1)).bind λr3=>(zd N x5 r3).bind λr4=>bQ x0 x1 x4 r4 (W .i64 (x6+1))) (none)) (bQ x0 x1 x4 x5 (W .i64 (x6+1)))) (none)) (some x5)
def o8.l5(N:Nat):Nat→o8.bM
 |0,_,_,_,_,_=>none
 |n+1,x0,x1,x4,x5,x6=>o8.ei N (o8.l5 N n) x0 x1 x4 x5 x6
def o8.b(N:Nat)(eW:o8.bM)(a0:au)(a1:Int):Option aH:=
 (ze N a0).bind λr1=>cond (!r1) (some (false,pv)) (eW a0 a1 (false,pv) (false,pv) (0:Int))
def o8(N:Nat)(a0:au)(a1:Int):Option aH:=o8.b N (o8.l5 N N) a0 a1
def R2(N:Nat)(a0:aH):Option (Int):=
 cond (aO (List.length a0.2.1:Int) 0) (some (0:Int)) (cond (a0.1) (some (-1:Int)) (some (1:Int)))
abbrev Dt.dd:=au→Int→Option (Bool)
def Dt.gJ(N:Nat)(eE:Dt.dd)(x0:au)(x3:Int):Option (Bool):=
 cond (aY x3 6) ((o8 N x0 x3).bind λr2=>(R2 N r2).bind λr3=>cond (!aO r3 0) (some false) (eE x0 (W .i64 (x3+1)))) ((ze N x0).bind λr5=>some r5)
def Dt.l2(N:Nat):Nat→Dt.dd
 |0,_,_=>none
 |n+1,x0,x3=>Dt.gJ N (Dt.l2 N n) x0 x3
def Dt.b(N:Nat)(jn:Dt.dd)(a0:au):Option (Bool):=
 jn a0 (0:Int)
def Dt(N:Nat)(a0:au):Option (Bool):=Dt.b N (Dt.l2 N N) a0
def Dp(N:Nat)(a0:Int):Option (Bool):=
 cond (dk 1 a0) (some (dk a0 1000000000000)) (some false)
def Qr(N:Nat)(a0:gk):Option (Bool):=
 cond (dk 1 a0.1) (cond (dk a0.1 1099511627776) (cond (dk 1 a0.2.1) (cond (dk a0.2.1 24) (cond (dk 0 a0.2.2.1) (cond (aY a0.2.2.1 6) (cond (aO a0.2.2.2.1 1) (cond (dk 1 a0.2.2.2.2.1) (cond (dk a0.2.2.2.2.1 1000000000) ((Dp N a0.2.2.2.2.2.1).bind λr1=>some r1) (some false)) (some false)) (cond (aO a0.2.2.2.1 2) (cond (dk 1 a0.2.2.2.2.1) (cond (dk a0.2.2.2.2.1 1000000000) ((Dp N a0.2.2.2.2.2.1).bind λr2=>some r2) (some false)) (some false)) (some false))) (some false)) (some false)) (some false)) (some false)) (some false)) (some false)
abbrev mN.bE:=bq→Int→Option (Bool)
def mN.dw(N:Nat)(cr:mN.bE)(x0:bq)(x3:Int):Option (Bool):=
 cond (aY x3 (List.length x0:Int)) (cond (ba x3 (List.length x0)) ((Qr N (List.getD x0 x3.toNat fa)).bind λr2=>cond (!r2) (some false) (cond (aY 0 x3) (cond (ba x3 (List.length x0)) (let v3:Int:=W .i64 (x3-1);cond (ba v3 (List.length x0)) (cond (dk ((List.getD x0 x3.toNat fa).1) ((List.getD x0 v3.toNat fa).1)) (some false) (cr x0 (W .i64 (x3+1)))) (none)) (none)) (cr x0 (W .i64 (x3+1))))) (none)) (some true)
def mN.l4(N:Nat):Nat→mN.bE
 |0,_,_=>none
 |n+1,x0,x3=>mN.dw N (mN.l4 N n) x0 x3
def mN.b(N:Nat)(eH:mN.bE)(a0:bq):Option (Bool):=
 cond (aY 32 (List.length a0:Int)) (some false) (eH a0 (0:Int))
def mN(N:Nat)(a0:bq):Option (Bool):=mN.b N (mN.l4 N N) a0
abbrev CE.bM:=au→aH→aH→Int→Option aH
def CE.ei(N:Nat)(bQ:CE.bM)(x0:au)(x2:aH)(x3:aH)(x4:Int):Option aH:=
 cond (aY x4 (List.length x0:Int)) (cond (ba x4 (List.length x0)) ((jV N ((((List.getD x0 x4.toNat bh).2).2).1)).bind λr3=>(zd N x3 r3).bind λr4=>bQ x0 x2 r4 (W .i64 (x4+1))) (none)) (some x3)
def CE.l5(N:Nat):Nat→CE.bM
 |0,_,_,_,_=>none
 |n+1,x0,x2,x3,x4=>CE.ei N (CE.l5 N n) x0 x2 x3 x4
def CE.b(N:Nat)(eW:CE.bM)(a0:au):Option aH:=
 (Bu N a0).bind λr1=>cond (!r1) (some (false,pv)) (eW a0 (false,pv) (false,pv) (0:Int))
def CE(N:Nat)(a0:au):Option aH:=CE.b N (CE.l5 N N) a0
def Ks(N:Nat)(a0:aq)(a1:Int):Option (Bool):=
 (Vo N a0.2.1 a1).bind λr1=>cond (r1.2) (some true) (some (aO a1 0))
def R8(N:Nat)(a0:aD)(a1:Int):Option (Int):=
 (A6 N a0).bind λr1=>cond (!r1) (some (0:Int)) ((zf N a0 a1).bind λr2=>some r2)
abbrev fZ.rM:=ae→aq→Int→Option (Bool)
abbrev fZ.xc:=ae→aq→Int→Option (Bool)
abbrev fZ.jx:=ae→aq→Int→Option (Bool)
abbrev fZ.jE:=ae→aq→Int→Option (Bool)
def fZ.vw(N:Nat)(GC:fZ.rM)(x2:ae)(x3:aq)(x9:Int):Option (Bool):=
 cond (aY x9 (List.length x3.2.2.2.2.2.1:Int)) (cond (ba x9 (List.length x3.2.2.2.2.2.1)) ((Ks N x3 (((List.getD x3.2.2.2.2.2.1 x9.toNat fa).2).1)).bind λOq=>cond (!Oq) (some false) (cond (ba x9 (List.length x3.2.2.2.2.2.1)) (cond (dk (List.length x2.1:Int) ((((List.getD x3.2.2.2.2.2.1 x9.toNat fa).2).2).1)) (some false) (GC x2 x3 (W .i64 (x9+1)))) (none))) (none)) (some true)
def fZ.wO(N:Nat):Nat→fZ.rM
 |0,_,_,_=>none
 |n+1,x2,x3,x9=>fZ.vw N (fZ.wO N n) x2 x3 x9
def fZ.Dv(N:Nat)(GD:fZ.rM)(JE:fZ.xc)(x2:ae)(x3:aq)(x8:Int):Option (Bool):=
 cond (aY x8 (List.length x3.2.2.2.2.1:Int)) (cond (ba x8 (List.length x3.2.2.2.2.1)) ((Dp N (List.getD x3.2.2.2.2.1 x8.toNat (0:Int))).bind λLA=>cond (!LA) (some false) (JE x2 x3 (W .i64 (x8+1)))) (none)) (GD x2 x3 (0:Int))
def fZ.DZ(N:Nat):Nat→fZ.xc
 |0,_,_,_=>none
 |n+1,x2,x3,x8=>fZ.Dv N (fZ.wO N N) (fZ.DZ N n) x2 x3 x8
def fZ.pF(N:Nat)(Ov:fZ.xc)(lI:fZ.jx)(x2:ae)(x3:aq)(x7:Int):Option (Bool):=
 cond (aY x7 (List.length x3.2.2.2.1:Int)) (cond (ba x7 (List.length x3.2.2.2.1)) ((Ks N x3 ((List.getD x3.2.2.2.1 x7.toNat bh).1)).bind λEa=>cond (!Ea) (some false) (cond (ba x7 (List.length x3.2.2.2.1)) (cond (dk (List.length x2.1:Int) (((List.getD x3.2.2.2.1 x7.toNat bh).2).1)) (some false) (lI x2 x3 (W .i64 (x7+1)))) (none))) (none)) (Ov x2 x3 (0:Int))
def fZ.p8(N:Nat):Nat→fZ.jx
 |0,_,_,_=>none
 |n+1,x2,x3,x7=>fZ.pF N (fZ.DZ N N) (fZ.p8 N n) x2 x3 x7
def fZ.uu(N:Nat)(xd:fZ.jx)(kC:fZ.jE)(x2:ae)(x3:aq)(x5:Int):Option (Bool):=
 cond (aY x5 (List.length x3.2.2.1:Int)) (cond (ba x5 (List.length x3.2.2.1)) (cond (aO ((List.getD x3.2.2.1 x5.toNat bh).1) (5:Int)) ((Ks N x3 (((List.getD x3.2.2.1 x5.toNat bh).2).1)).bind λr9=>cond (!r9) (some false) (cond (aO ((List.getD x3.2.2.1 x5.toNat bh).1) (6:Int)) ((R8 N x3.1 (((List.getD x3.2.2.1 x5.toNat bh).2).1)).bind λkB=>cond (aO kB 0) (some false) (kC x2 x3 (W .i64 (x5+1)))) (cond (aO ((List.getD x3.2.2.1 x5.toNat bh).1) (7:Int)) ((R8 N x3.1 (((List.getD x3.2.2.1 x5.toNat bh).2).1)).bind λoR=>cond (aO oR 0) (some false) (kC x2 x3 (W .i64 (x5+1)))) (kC x2 x3 (W .i64 (x5+1)))))) (cond (aO ((List.getD x3.2.2.1 x5.toNat bh).1) (6:Int)) ((R8 N x3.1 (((List.getD x3.2.2.1 x5.toNat bh).2).1)).bind λw8=>cond (aO w8 0) (some false) (kC x2 x3 (W .i64 (x5+1)))) (cond (aO ((List.getD x3.2.2.1 x5.toNat bh).1) (7:Int)) ((R8 N x3.1 (((List.getD x3.2.2.1 x5.toNat bh).2).1)).bind λA9=>cond (aO A9 0) (some false) (kC x2 x3 (W .i64 (x5+1)))) (kC x2 x3 (W .i64 (x5+1)))))) (none)) (xd x2 x3 (0:Int))
def fZ.l6(N:Nat):Nat→fZ.jE
 |0,_,_,_=>none
 |n+1,x2,x3,x5=>fZ.uu N (fZ.p8 N N) (fZ.l6 N n) x2 x3 x5
def fZ.b(N:Nat)(xb:fZ.jE)(a0:ae)(a1:aq):Option (Bool):=
 (me N a0).bind λr1=>cond (!r1) (some false) ((oj N a1.1 a1.2.1).bind λr2=>cond (!r2) (some false) ((Bu N a1.2.2.1).bind λr3=>cond (!r3) (some false) ((Dt N a1.2.2.2.1).bind λr4=>cond (!r4) (some false) ((mN N a1.2.2.2.2.2.1).bind λr5=>cond (!r5) (some false) (cond (!aO (List.length a1.2.2.2.2.1:Int) (List.length a0.1:Int)) (some false) ((CE N a1.2.2.1).bind λr6=>(R2 N r6).bind λr7=>cond (!aO r7 0) (some false) (xb a0 a1 (0:Int))))))))
def fZ(N:Nat)(a0:ae)(a1:aq):Option (Bool):=fZ.b N (fZ.l6 N N) a0 a1
def R1(N:Nat)(a0:aH)(a1:aH):Option aH:=
 (TQ N a1).bind λr1=>(zd N a0 r1).bind λr2=>some r2
abbrev lE.bM:=au→Int→aD→Int→Option aD
def lE.ei(N:Nat)(bQ:lE.bM)(x0:au)(x1:Int)(x5:aD)(x6:Int):Option aD:=
 cond (aY x6 (List.length x0:Int)) (cond (ba x6 (List.length x0)) (cond (aO ((List.getD x0 x6.toNat bh).1) x1) (cond (ba x6 (List.length x0)) (cond (ba x6 (List.length x0)) (cond (small (List.length x5+List.length ([(((List.getD x0 x6.toNat bh).2).1,((((List.getD x0 x6.toNat bh).2).2).1,()))]))) (bQ x0 x1 (x5++([(((List.getD x0 x6.toNat bh).2).1,((((List.getD x0 x6.toNat bh).2).2).1,()))])) (W .i64 (x6+1))) (none)) (none)) (none)) (bQ x0 x1 x5 (W .i64 (x6+1)))) (none)) (some x5)
def lE.l5(N:Nat):Nat→lE.bM
 |0,_,_,_,_=>none
 |n+1,x0,x1,x5,x6=>lE.ei N (lE.l5 N n) x0 x1 x5 x6
def lE.b(N:Nat)(eW:lE.bM)(a0:au)(a1:Int):Option aD:=
 (ze N a0).bind λr1=>cond (!r1) (some ([])) (eW a0 a1 ([]) (0:Int))
def lE(N:Nat)(a0:au)(a1:Int):Option aD:=lE.b N (lE.l5 N N) a0 a1
abbrev g5.fu:=bq→Int→au→Int→db→Int→Option au
abbrev g5.dY:=bq→Int→au→Int→Option au
def g5.q4(N:Nat)(dp:g5.dY)(eN:g5.fu)(x0:bq)(x1:Int)(x5:au)(x6:Int)(x7:db)(x8:Int):Option au:=
 cond (aY x8 (List.length x0:Int)) (cond (ba x8 (List.length x0)) (cond (!aO (((List.getD x0 x8.toNat fa).2).1) x1) (eN x0 x1 x5 x6 x7 (W .i64 (x8+1))) (cond (ba x8 (List.length x0)) (cond (!aO ((((List.getD x0 x8.toNat fa).2).2).1) x6) (eN x0 x1 x5 x6 x7 (W .i64 (x8+1))) (cond (ba x8 (List.length x0)) (cond (aO (((((List.getD x0 x8.toNat fa).2).2).2).1) (1:Int)) (cond (ba x8 (List.length x0)) (eN x0 x1 x5 x6 (x7.1,((W .i64 (x7.2.1+((((((List.getD x0 x8.toNat fa).2).2).2).2).1))),x7.2.2)) (W .i64 (x8+1))) (none)) (cond (ba x8 (List.length x0)) (eN x0 x1 x5 x6 (x7.1,(x7.2.1,((W .i64 (x7.2.2.1+((((((List.getD x0 x8.toNat fa).2).2).2).2).1))),x7.2.2.2))) (W .i64 (x8+1))) (none))) (none))) (none))) (none)) (cond (aY 0 x7.2.1) (cond (small (List.length x5+List.length ([x7]))) (dp x0 x1 (x5++([x7])) (W .i64 (x6+1))) (none)) (cond (aY 0 x7.2.2.1) (cond (small (List.length x5+List.length ([x7]))) (dp x0 x1 (x5++([x7])) (W .i64 (x6+1))) (none)) (dp x0 x1 x5 (W .i64 (x6+1)))))
def g5.l7(N:Nat)(dp:g5.dY):Nat→g5.fu
 |0,_,_,_,_,_,_=>none
 |n+1,x0,x1,x5,x6,x7,x8=>g5.q4 N dp (g5.l7 N dp n) x0 x1 x5 x6 x7 x8
def g5.nO(N:Nat)(u2:g5.fu)(dp:g5.dY)(x0:bq)(x1:Int)(x5:au)(x6:Int):Option au:=
 cond (aY x6 6) (u2 x0 x1 x5 x6 (x6,cA) (0:Int)) (some x5)
def g5.l3(N:Nat):Nat→g5.dY
 |0,_,_,_,_=>none
 |n+1,x0,x1,x5,x6=>g5.nO N (g5.l7 N (g5.l3 N n) N) (g5.l3 N n) x0 x1 x5 x6
def g5.b(N:Nat)(oE:g5.dY)(a0:bq)(a1:Int):Option au:=
 oE a0 a1 ([]) (0:Int)
def g5(N:Nat)(a0:bq)(a1:Int):Option au:=g5.b N (g5.l3 N N) a0 a1
abbrev nr.bE:=aD→ae→Int→Option (Bool)
def nr.dw(N:Nat)(cr:nr.bE)(x1:aD)(x2:ae)(x5:Int):Option (Bool):=
 cond (aY x5 (List.length x1:Int)) (cond (ba x5 (List.length x1)) (cond (aY ((List.getD x1 x5.toNat cA).1) (0:Int)) (some false) (cond (ba x5 (List.length x1)) (cond (dk (List.length x2.1:Int) ((List.getD x1 x5.toNat cA).1)) (some false) (cond (ba x5 (List.length x1)) (cond (aO (((List.getD x1 x5.toNat cA).2).1) (0:Int)) (some false) (cond (ba x5 (List.length x1)) (cond (aO (((List.getD x1 x5.toNat cA).2).1) (-9223372036854775808:Int)) (some false) (cond (aY 0 x5) (cond (ba x5 (List.length x1)) (let v3:Int:=W .i64 (x5-1);cond (ba v3 (List.length x1)) (cond (dk ((List.getD x1 x5.toNat cA).1) ((List.getD x1 v3.toNat cA).1)) (some false) (cr x1 x2 (W .i64 (x5+1)))) (none)) (none)) (cr x1 x2 (W .i64 (x5+1))))) (none))) (none))) (none))) (none)) (some true)
def nr.l4(N:Nat):Nat→nr.bE
 |0,_,_,_=>none
 |n+1,x1,x2,x5=>nr.dw N (nr.l4 N n) x1 x2 x5
def nr.b(N:Nat)(eH:nr.bE)(a0:ae)(a1:aD):Option (Bool):=
 (me N a0).bind λr1=>cond (!r1) (some false) (eH a1 a0 (0:Int))
def nr(N:Nat)(a0:ae)(a1:aD):Option (Bool):=nr.b N (nr.l4 N N) a0 a1
abbrev qa.bM:=au→ae→Int→Int→Option (Bool)
def qa.ei(N:Nat)(bQ:qa.bM)(x1:au)(x2:ae)(x5:Int)(x6:Int):Option (Bool):=
 cond (aY x6 (List.length x1:Int)) (cond (ba x6 (List.length x1)) (cond (aY ((List.getD x1 x6.toNat bh).1) (0:Int)) (some false) (cond (dk (List.length x2.1:Int) ((List.getD x1 x6.toNat bh).1)) (some false) (cond (aY (((List.getD x1 x6.toNat bh).2).1) (0:Int)) (some false) (cond (aY x5 (((List.getD x1 x6.toNat bh).2).1)) (some false) (cond (aY ((((List.getD x1 x6.toNat bh).2).2).1) (0:Int)) (some false) (cond (aY x5 ((((List.getD x1 x6.toNat bh).2).2).1)) (some false) (cond (aO (((List.getD x1 x6.toNat bh).2).1) (0:Int)) (cond (aO ((((List.getD x1 x6.toNat bh).2).2).1) (0:Int)) (some false) (cond (aY 0 x6) (let v3:Int:=W .i64 (x6-1);cond (ba v3 (List.length x1)) (cond (dk ((List.getD x1 x6.toNat bh).1) ((List.getD x1 v3.toNat bh).1)) (some false) (bQ x1 x2 x5 (W .i64 (x6+1)))) (none)) (bQ x1 x2 x5 (W .i64 (x6+1))))) (cond (aY 0 x6) (let v6:Int:=W .i64 (x6-1);cond (ba v6 (List.length x1)) (cond (dk ((List.getD x1 x6.toNat bh).1) ((List.getD x1 v6.toNat bh).1)) (some false) (bQ x1 x2 x5 (W .i64 (x6+1)))) (none)) (bQ x1 x2 x5 (W .i64 (x6+1))))))))))) (none)) (some true)
def qa.l5(N:Nat):Nat→qa.bM
 |0,_,_,_,_=>none
 |n+1,x1,x2,x5,x6=>qa.ei N (qa.l5 N n) x1 x2 x5 x6
def qa.b(N:Nat)(eW:qa.bM)(a0:ae)(a1:au):Option (Bool):=
 (me N a0).bind λr1=>cond (!r1) (some false) (eW a1 a0 (33000000000:Int) (0:Int))
def qa(N:Nat)(a0:ae)(a1:au):Option (Bool):=qa.b N (qa.l5 N N) a0 a1
def WB(N:Nat)(a0:aH):Option aH:=
 (WA N false a0.2.1).bind λr1=>some r1
def PW(N:Nat)(a0:aH)(a1:aH):Option (Int):=
 (R1 N a0 a1).bind λr1=>(R2 N r1).bind λr2=>some r2
abbrev ji.jx:=au→Int→aH→aH→aH→aH→Int→Option (aH×(Int))
abbrev ji.fu:=aD→au→Int→aH→aH→aH→aH→Int→Option (aH×(Int))
def ji.pF(N:Nat)(lI:ji.jx)(x2:au)(x3:Int)(x8:aH)(bw:aH)(a6:aH)(bc:aH)(cw:Int):Option (aH×(Int)):=
 cond (aY cw (List.length x2:Int)) (cond (ba cw (List.length x2)) (cond (aO ((List.getD x2 cw.toNat bh).1) x3) (cond (ba cw (List.length x2)) ((jV N (((List.getD x2 cw.toNat bh).2).1)).bind λr8=>cond (ba cw (List.length x2)) ((jV N ((((List.getD x2 cw.toNat bh).2).2).1)).bind λr9=>lI x2 x3 x8 bw r8 r9 (W .i64 (cw+1))) (none)) (none)) (lI x2 x3 x8 bw a6 bc (W .i64 (cw+1)))) (none)) ((zd N bw a6).bind λoR=>(WB N oR).bind λqw=>(R1 N bw bc).bind λyf=>(WB N yf).bind λw8=>(PW N w8 qw).bind λxP=>cond (aY 0 xP) (some (w8,(0:Int))) (some (qw,(0:Int))))
def ji.p8(N:Nat):Nat→ji.jx
 |0,_,_,_,_,_,_,_=>none
 |n+1,x2,x3,x8,bw,a6,bc,cw=>ji.pF N (ji.p8 N n) x2 x3 x8 bw a6 bc cw
def ji.q4(N:Nat)(xd:ji.jx)(eN:ji.fu)(x1:aD)(x2:au)(x3:Int)(x8:aH)(bw:aH)(a6:aH)(bc:aH)(bZ:Int):Option (aH×(Int)):=
 cond (aY bZ (List.length x1:Int)) (cond (ba bZ (List.length x1)) (cond (aO ((List.getD x1 bZ.toNat cA).1) x3) (cond (ba bZ (List.length x1)) ((jV N (((List.getD x1 bZ.toNat cA).2).1)).bind λr4=>eN x1 x2 x3 x8 r4 a6 bc (W .i64 (bZ+1))) (none)) (eN x1 x2 x3 x8 bw a6 bc (W .i64 (bZ+1)))) (none)) (xd x2 x3 x8 bw a6 bc (0:Int))
def ji.l7(N:Nat):Nat→ji.fu
 |0,_,_,_,_,_,_,_,_=>none
 |n+1,x1,x2,x3,x8,bw,a6,bc,bZ=>ji.q4 N (ji.p8 N N) (ji.l7 N n) x1 x2 x3 x8 bw a6 bc bZ
def ji.b(N:Nat)(u2:ji.fu)(a0:ae)(a1:aD)(a2:au)(a3:Int):Option (aH×(Int)):=
 (nr N a0 a1).bind λr1=>cond (!r1) (some ((false,pv),(1:Int))) ((qa N a0 a2).bind λr2=>cond (!r2) (some ((false,pv),(1:Int))) (cond (aY a3 0) (some ((false,pv),(3:Int))) (cond (dk (List.length a0.1:Int) a3) (some ((false,pv),(3:Int))) (u2 a1 a2 a3 (false,pv) (false,pv) (false,pv) (false,pv) (0:Int)))))
def ji(N:Nat)(a0:ae)(a1:aD)(a2:au)(a3:Int):Option (aH×(Int)):=ji.b N (ji.l7 N N) a0 a1 a2 a3
abbrev jS.Rg:=aH→aH→aH→(List (Int))→Int→Int→Int→Option aH
abbrev jS.fu:=aH→aH→aH→(List (Int))→Int→Int→Int→Option aH
abbrev jS.dY:=aH→aH→aH→(List (Int))→Int→Option aH
def jS.Nd(N:Nat)(dp:jS.dY)(eN:jS.fu)(x2:aH)(x3:aH)(x4:aH)(x5:List (Int))(x6:Int)(x7:Int)(x8:Int):Option aH:=
 let v7:Int:=W .i64 (x6+x8);cond (ba v7 (List.length x5)) (cond (ba x6 (List.length x2.2.1)) ((Z6 N x3.2.1 x8).bind λr8=>let v11:Int:=W .u64 (x7+(W .u64 ((List.getD x5 v7.toNat (0:Int))+(W .u64 ((List.getD x2.2.1 x6.toNat (0:Int))*r8)))));let YE:Int:=W .i64 (x6+x8);cond (ba YE (List.length x5)) (cond (aY 32 0) (none) (eN x2 x3 x4 (List.set x5 YE.toNat (qL .and .u64 v11 4294967295)) x6 (shr .u64 v11 32) (W .i64 (x8+1)))) (none)) (none)) (none)
def jS.j9(N:Nat)(dp:jS.dY)(eN:jS.fu)(x2:aH)(x3:aH)(x4:aH)(x5:List (Int))(x6:Int)(x7:Int)(x8:Int):Option aH:=jS.Nd N dp eN x2 x3 x4 x5 x6 x7 x8
def jS.q4(N:Nat)(GJ:jS.Rg)(dp:jS.dY)(eN:jS.fu)(x2:aH)(x3:aH)(x4:aH)(x5:List (Int))(x6:Int)(x7:Int)(x8:Int):Option aH:=
 cond (aY x8 (List.length x3.2.1:Int)) (GJ x2 x3 x4 x5 x6 x7 x8) (cond (aY 0 x7) (GJ x2 x3 x4 x5 x6 x7 x8) (dp x2 x3 x4 x5 (W .i64 (x6+1))))
def jS.l7(N:Nat)(dp:jS.dY):Nat→jS.fu
 |0,_,_,_,_,_,_,_=>none
 |n+1,x2,x3,x4,x5,x6,x7,x8=>jS.q4 N (jS.j9 N dp (jS.l7 N dp n)) dp (jS.l7 N dp n) x2 x3 x4 x5 x6 x7 x8
def jS.nO(N:Nat)(u2:jS.fu)(dp:jS.dY)(x2:aH)(x3:aH)(x4:aH)(x5:List (Int))(x6:Int):Option aH:=
 cond (aY x6 (List.length x2.2.1:Int)) (u2 x2 x3 x4 x5 x6 (0:Int) (0:Int)) ((WA N (!(pt .bool x2.1 x3.1)) x5).bind λvj=>some vj)
def jS.l3(N:Nat):Nat→jS.dY
 |0,_,_,_,_,_=>none
 |n+1,x2,x3,x4,x5,x6=>jS.nO N (jS.l7 N (jS.l3 N n) N) (jS.l3 N n) x2 x3 x4 x5 x6
def jS.b(N:Nat)(oE:jS.dY)(a0:aH)(a1:aH):Option aH:=
 let v2:Int:=W .i64 ((W .i64 ((List.length a0.2.1:Int)+(List.length a1.2.1:Int)))+1);cond (jZ v2 v2) (oE a0 a1 (false,pv) (List.replicate v2.toNat (0:Int)) (0:Int)) (none)
def jS(N:Nat)(a0:aH)(a1:aH):Option aH:=jS.b N (jS.l3 N N) a0 a1
abbrev qb.bM:=aD→au→ae→aH→aH→Int→Option (aH×(Int))
def qb.ei(N:Nat)(bQ:qb.bM)(x1:aD)(x2:au)(x3:ae)(x6:aH)(x8:aH)(x9:Int):Option (aH×(Int)):=
 cond (aY x9 (List.length x3.1:Int)) ((ji N x3 x1 x2 x9).bind λr4=>cond (ba x9 (List.length x3.1)) ((jV N ((((List.getD x3.1 x9.toNat aV).2).2).1)).bind λr5=>(jS N r4.1 r5).bind λr6=>(zd N x8 r6).bind λr7=>bQ x1 x2 x3 x6 r7 (W .i64 (x9+1))) (none)) (some (x8,(0:Int)))
def qb.l5(N:Nat):Nat→qb.bM
 |0,_,_,_,_,_,_=>none
 |n+1,x1,x2,x3,x6,x8,x9=>qb.ei N (qb.l5 N n) x1 x2 x3 x6 x8 x9
def qb.b(N:Nat)(eW:qb.bM)(a0:ae)(a1:aD)(a2:au):Option (aH×(Int)):=
 (nr N a0 a1).bind λr1=>cond (!r1) (some ((false,pv),(1:Int))) ((qa N a0 a2).bind λr2=>cond (!r2) (some ((false,pv),(1:Int))) (eW a1 a2 a0 (false,pv) (false,pv) (0:Int)))
def qb(N:Nat)(a0:ae)(a1:aD)(a2:au):Option (aH×(Int)):=qb.b N (qb.l5 N N) a0 a1 a2
def Xu(N:Nat)(a0:ae)(a1:aq)(a2:Int)(a3:bq):Option aH:=
 cond (small (List.length dT+List.length a1.2.2.2.2.2.1)) (let v1:List ((Int)×((Int)×((Int)×((Int)×((Int)×((Int)×(Unit))))))):=dT++a1.2.2.2.2.2.1;cond (small (List.length v1+List.length a3)) ((lE N a1.2.2.2.1 a2).bind λr3=>(g5 N (v1++a3) a2).bind λr4=>(qb N a0 r3 r4).bind λr5=>some r5.1) (none)) (none)
def Uv(N:Nat)(a0:ae)(a1:aq)(a2:Int)(a3:Int):Option (aq×(Int)):=
 (fZ N a0 a1).bind λr1=>cond (!r1) (some ((ck,(c9,(bH,(bH,(dC,(dT,())))))),(1:Int))) (cond (aY a3 1) (some ((ck,(c9,(bH,(bH,(dC,(dT,())))))),(1:Int))) ((Vo N a1.2.1 a2).bind λr2=>cond (!r2.2) (some ((ck,(c9,(bH,(bH,(dC,(dT,())))))),(3:Int))) ((R8 N a1.1 r2.1.2.1).bind λr3=>cond (!aO r3 1) (some ((ck,(c9,(bH,(bH,(dC,(dT,())))))),(7:Int))) ((uI N a1.2.2.1 (5:Int) a2).bind λr4=>(jV N r4).bind λr5=>(jV N a3).bind λr6=>(R1 N r5 r6).bind λr7=>(Xu N a0 a1 a2 dT).bind λr8=>(PW N r7 r8).bind λr9=>cond (aY r9 0) (some ((ck,(c9,(bH,(bH,(dC,(dT,())))))),(10:Int))) ((jV N a3).bind λkB=>(ye N (5:Int) a2 (1:Int) (0:Int) kB).bind λnV=>(yd N a1 bH nV).bind λoR=>some (oR.1,oR.2))))))
def Ge(N:Nat)(a0:aQ)(a1:Int):Option (Int):=
 (R8 N a0.2.2.1.1 a1).bind λr1=>some r1
abbrev nF.gQ:=Int→Int→aK→Int→Option (aK×(Int))
def nF.yc(N:Nat)(e7:nF.gQ)(x1:Int)(x2:Int)(bw:aK)(a6:Int):Option (aK×(Int)):=
 cond (aY a6 (List.length bw:Int)) (cond (ba a6 (List.length bw)) (cond (aO ((List.getD bw a6.toNat aV).1) x1) (cond (ba a6 (List.length bw)) (e7 x1 x2 (List.set bw a6.toNat ((List.getD bw a6.toNat aV).1,(((List.getD bw a6.toNat aV).2).1,((((List.getD bw a6.toNat aV).2).2).1,(x2,((((List.getD bw a6.toNat aV).2).2).2).2))))) (W .i64 (a6+1))) (none)) (e7 x1 x2 bw (W .i64 (a6+1)))) (none)) (some (bw,(0:Int)))
def nF.l8(N:Nat):Nat→nF.gQ
 |0,_,_,_,_=>none
 |n+1,x1,x2,bw,a6=>nF.yc N (nF.l8 N n) x1 x2 bw a6
def nF.b(N:Nat)(B1:nF.gQ)(a0:aK)(a1:Int)(a2:Int):Option (aK×(Int)):=
 (eD N a0).bind λr1=>cond (!r1) (some ([],(1:Int))) (cond (aY a2 0) (some ([],(1:Int))) (cond (aY 1000000000000 a2) (some ([],(1:Int))) ((nQ N a0 a1).bind λr2=>cond (!r2.2) (some ([],(3:Int))) (cond (small (List.length c9+List.length a0)) (B1 a1 a2 (c9++a0) (0:Int)) (none)))))
def nF(N:Nat)(a0:aK)(a1:Int)(a2:Int):Option (aK×(Int)):=nF.b N (nF.l8 N N) a0 a1 a2
def aaR(N:Nat)(a0:gk)(a1:Int):Option (aH×(Int)):=
 (Qr N a0).bind λr1=>cond (!r1) (some ((false,pv),(1:Int))) ((Dp N a1).bind λr2=>cond (!r2) (some ((false,pv),(1:Int))) (let v3:Int:=W .i64 (a0.2.2.2.2.2.1-a1);cond (aO a0.2.2.2.1 2) (let v4:Int:=W .i64 (a1-a0.2.2.2.2.2.1);cond (aY v4 0) (some ((false,pv),(0:Int))) ((jV N a0.2.2.2.2.1).bind λr5=>(jV N v4).bind λr6=>(jS N r5 r6).bind λr7=>some (r7,(0:Int)))) (cond (aY v3 0) (some ((false,pv),(0:Int))) ((jV N a0.2.2.2.2.1).bind λr8=>(jV N v3).bind λr9=>(jS N r8 r9).bind λkB=>some (kB,(0:Int))))))
def Xv(N:Nat)(a0:ae)(a1:aq)(a2:gk):Option (Int):=
 (fZ N a0 a1).bind λr1=>cond (!r1) (some (1:Int)) ((Qr N a2).bind λr2=>cond (!r2) (some (1:Int)) ((Vo N a1.2.1 a2.2.1).bind λr3=>cond (!r3.2) (some (3:Int)) ((R8 N a1.1 r3.1.2.1).bind λr4=>cond (!aO r4 1) (some (7:Int)) (cond (dk (List.length a0.1:Int) a2.2.2.1) (some (3:Int)) (cond (small (List.length dT+List.length a1.2.2.2.2.2.1)) (let v5:List ((Int)×((Int)×((Int)×((Int)×((Int)×((Int)×(Unit))))))):=dT++a1.2.2.2.2.2.1;cond (small (List.length v5+List.length ([a2]))) ((lE N a1.2.2.2.1 a2.2.1).bind λr7=>(g5 N (v5++([a2])) a2.2.1).bind λr8=>(ji N a0 r7 r8 a2.2.2.1).bind λr9=>(jV N r3.1.2.2.2.1).bind λkB=>(PW N r9.1 kB).bind λnV=>cond (aY 0 nV) (some (9:Int)) (cond (ba a2.2.2.1 (List.length a1.2.2.2.2.1)) ((aaR N a2 (List.getD a1.2.2.2.2.1 a2.2.2.1.toNat (0:Int))).bind λoR=>(uI N a1.2.2.1 (5:Int) a2.2.1).bind λqw=>(jV N qw).bind λyf=>(R1 N yf oR.1).bind λw8=>(Xu N a0 a1 a2.2.1 ([a2])).bind λxP=>(PW N w8 xP).bind λA9=>cond (aY A9 0) (some (10:Int)) (some (0:Int))) (none))) (none)) (none))))))
def Ut(N:Nat)(a0:gk)(a1:gk):Option (Bool):=
 cond (!aO a0.2.2.2.2.2.1 a1.2.2.2.2.2.1) (some (pt .bool (aY a1.2.2.2.2.2.1 a0.2.2.2.2.2.1) (aO a0.2.2.2.1 1))) (some (aY a0.1 a1.1))
abbrev dK.Ou:=bq→Int→Int→bq→Int→Int→Option bq
abbrev dK.mw:=bq→Int→Int→bq→Int→Int→Option bq
abbrev dK.bM:=bq→Int→Int→bq→Int→Option bq
def dK.BN(N:Nat)(bQ:dK.bM)(x0:bq)(x1:Int)(x2:Int)(x7:bq)(x8:Int)(x9:Int):Option bq:=
 cond (ka 0 x9 (List.length x7:Int) (List.length x7:Int)) (let v9:List ((Int)×((Int)×((Int)×((Int)×((Int)×((Int)×(Unit))))))):=List.drop (0:Int).toNat (List.take x9.toNat x7);cond (small (List.length v9)) (cond (ba x8 (List.length x0)) (cond (small (List.length v9+List.length ([List.getD x0 x8.toNat fa]))) (let v10:List ((Int)×((Int)×((Int)×((Int)×((Int)×((Int)×(Unit))))))):=v9++([List.getD x0 x8.toNat fa]);cond (ka x9 (List.length x7:Int) (List.length x7:Int) (List.length x7:Int)) (let v11:List ((Int)×((Int)×((Int)×((Int)×((Int)×((Int)×(Unit))))))):=List.drop x9.toNat (List.take (List.length x7:Int).toNat x7);cond (small (List.length v10+List.length v11)) (bQ x0 x1 x2 (v10++v11) (W .i64 (x8+1))) (none)) (none)) (none)) (none)) (none)) (none)
def dK.Je(N:Nat)(bQ:dK.bM)(x0:bq)(x1:Int)(x2:Int)(x7:bq)(x8:Int)(x9:Int):Option bq:=dK.BN N bQ x0 x1 x2 x7 x8 x9
def dK.xy(N:Nat)(C2:dK.Ou)(bQ:dK.bM)(rN:dK.mw)(x0:bq)(x1:Int)(x2:Int)(x7:bq)(x8:Int)(x9:Int):Option bq:=
 cond (aY x9 (List.length x7:Int)) (cond (ba x9 (List.length x7)) (cond (ba x8 (List.length x0)) ((Ut N (List.getD x7 x9.toNat fa) (List.getD x0 x8.toNat fa)).bind λr6=>cond (r6) (rN x0 x1 x2 x7 x8 (W .i64 (x9+1))) (C2 x0 x1 x2 x7 x8 x9)) (none)) (none)) (C2 x0 x1 x2 x7 x8 x9)
def dK.l9(N:Nat)(bQ:dK.bM):Nat→dK.mw
 |0,_,_,_,_,_,_=>none
 |n+1,x0,x1,x2,x7,x8,x9=>dK.xy N (dK.Je N bQ) bQ (dK.l9 N bQ n) x0 x1 x2 x7 x8 x9
def dK.ei(N:Nat)(y8:dK.mw)(bQ:dK.bM)(x0:bq)(x1:Int)(x2:Int)(x7:bq)(x8:Int):Option bq:=
 cond (aY x8 (List.length x0:Int)) (cond (ba x8 (List.length x0)) (cond (!aO ((((List.getD x0 x8.toNat fa).2).2).1) x1) (bQ x0 x1 x2 x7 (W .i64 (x8+1))) (cond (ba x8 (List.length x0)) (cond (!aO (((((List.getD x0 x8.toNat fa).2).2).2).1) x2) (bQ x0 x1 x2 x7 (W .i64 (x8+1))) (y8 x0 x1 x2 x7 x8 (0:Int))) (none))) (none)) (some x7)
def dK.l5(N:Nat):Nat→dK.bM
 |0,_,_,_,_,_=>none
 |n+1,x0,x1,x2,x7,x8=>dK.ei N (dK.l9 N (dK.l5 N n) N) (dK.l5 N n) x0 x1 x2 x7 x8
def dK.b(N:Nat)(eW:dK.bM)(a0:bq)(a1:Int)(a2:Int):Option bq:=
 (mN N a0).bind λr1=>cond (!r1) (some ([])) (eW a0 a1 a2 ([]) (0:Int))
def dK(N:Nat)(a0:bq)(a1:Int)(a2:Int):Option bq:=dK.b N (dK.l5 N N) a0 a1 a2
abbrev cg.xe:=bq→Int→bK→bq→Int→Option (bq×bK×(Int)×(Int))
abbrev cg.anx:=bq→Int→bK→Option (bq×bK×(Int)×(Int))
abbrev cg.xf:=gk→bq→Int→bK→bq→Int→Int→Int→Option (bq×bK×(Int)×(Int))
abbrev cg.GK:=gk→bq→Int→bK→bq→Int→Int→sW→Option (bq×bK×(Int)×(Int))
abbrev cg.JF:=gk→bq→Int→bK→bq→Int→Option (bq×bK×(Int)×(Int))
abbrev cg.fu:=gk→bq→Int→bK→bq→Int→Option (bq×bK×(Int)×(Int))
def cg.NQ(N:Nat)(vm:cg.xe)(x8:bq)(x9:Int)(bw:bK)(eR:bq)(fy:Int):Option (bq×bK×(Int)×(Int)):=
 cond (aY fy (List.length x8:Int)) (cond (ba fy (List.length x8)) (cond (aY 0 ((((((List.getD x8 fy.toNat fa).2).2).2).2).1)) (cond (ba fy (List.length x8)) (cond (small (List.length eR+List.length ([List.getD x8 fy.toNat fa]))) (vm x8 x9 bw (eR++([List.getD x8 fy.toNat fa])) (W .i64 (fy+1))) (none)) (none)) (vm x8 x9 bw eR (W .i64 (fy+1)))) (none)) (some (eR,bw,x9,(0:Int)))
def cg.Lw(N:Nat):Nat→cg.xe
 |0,_,_,_,_,_=>none
 |n+1,x8,x9,bw,eR,fy=>cg.NQ N (cg.Lw N n) x8 x9 bw eR fy
def cg.aaY(N:Nat)(YH:cg.xe)(x8:bq)(x9:Int)(bw:bK):Option (bq×bK×(Int)×(Int)):=
 YH x8 x9 bw ([]) (0:Int)
def cg.j22(N:Nat)(x8:bq)(x9:Int)(bw:bK):Option (bq×bK×(Int)×(Int)):=cg.aaY N (cg.Lw N N) x8 x9 bw
def cg.DD(N:Nat)(eN:cg.fu)(GN:cg.xf)(x3:gk)(x8:bq)(x9:Int)(bw:bK)(a6:bq)(bc:Int)(bZ:Int)(dQ:Int):Option (bq×bK×(Int)×(Int)):=
 cond (aY dQ (List.length x8:Int)) (cond (ba dQ (List.length x8)) (cond (ba bc (List.length a6)) (cond (aO ((List.getD x8 dQ.toNat fa).1) ((List.getD a6 bc.toNat fa).1)) (cond (ba dQ (List.length x8)) (cond (ba dQ (List.length x8)) (GN x3 (List.set x8 dQ.toNat ((List.getD x8 dQ.toNat fa).1,(((List.getD x8 dQ.toNat fa).2).1,((((List.getD x8 dQ.toNat fa).2).2).1,(((((List.getD x8 dQ.toNat fa).2).2).2).1,((W .i64 (((((((List.getD x8 dQ.toNat fa).2).2).2).2).1)-bZ)),(((((List.getD x8 dQ.toNat fa).2).2).2).2).2)))))) x9 bw a6 bc bZ (W .i64 (dQ+1))) (none)) (none)) (GN x3 x8 x9 bw a6 bc bZ (W .i64 (dQ+1)))) (none)) (none)) (eN x3 x8 x9 bw a6 (W .i64 (bc+1)))
def cg.G8(N:Nat)(eN:cg.fu):Nat→cg.xf
 |0,_,_,_,_,_,_,_,_=>none
 |n+1,x3,x8,x9,bw,a6,bc,bZ,dQ=>cg.DD N eN (cg.G8 N eN n) x3 x8 x9 bw a6 bc bZ dQ
def cg.uT(N:Nat)(Ow:cg.xf)(eN:cg.fu)(x3:gk)(x8:bq)(x9:Int)(bw:bK)(a6:bq)(bc:Int)(bZ:Int)(cw:sW):Option (bq×bK×(Int)×(Int)):=
 cond (small (List.length bw+List.length ([cw]))) (Ow x3 x8 (W .i64 (x9-bZ)) (bw++([cw])) a6 bc bZ (0:Int)) (none)
def cg.A8(N:Nat)(eN:cg.fu)(x3:gk)(x8:bq)(x9:Int)(bw:bK)(a6:bq)(bc:Int)(bZ:Int)(cw:sW):Option (bq×bK×(Int)×(Int)):=cg.uT N (cg.G8 N eN N) eN x3 x8 x9 bw a6 bc bZ cw
def cg.BO(N:Nat)(vl:cg.GK)(eN:cg.fu)(x3:gk)(x8:bq)(x9:Int)(bw:bK)(a6:bq)(bc:Int):Option (bq×bK×(Int)×(Int)):=
 cond (ba bc (List.length a6)) (cond (aO (((List.getD a6 bc.toNat fa).2).1) x3.2.1) (eN x3 x8 x9 bw a6 (W .i64 (bc+1))) (cond (ba bc (List.length a6)) (let v14:Int:=mn x9 ((((((List.getD a6 bc.toNat fa).2).2).2).2).1);cond (ba bc (List.length a6)) (cond (ba bc (List.length a6)) (cond (aO x3.2.2.2.1 2) (cond (ba bc (List.length a6)) (vl x3 x8 x9 bw a6 bc v14 (((List.getD a6 bc.toNat fa).2).1,(x3.2.1,(x3.2.2.1,(v14,(((((((List.getD a6 bc.toNat fa).2).2).2).2).2).1,())))))) (none)) (vl x3 x8 x9 bw a6 bc v14 (x3.2.1,(((List.getD a6 bc.toNat fa).2).1,(x3.2.2.1,(v14,(((((((List.getD a6 bc.toNat fa).2).2).2).2).2).1,()))))))) (none)) (none)) (none))) (none)
def cg.HN(N:Nat)(eN:cg.fu)(x3:gk)(x8:bq)(x9:Int)(bw:bK)(a6:bq)(bc:Int):Option (bq×bK×(Int)×(Int)):=cg.BO N (cg.A8 N eN) eN x3 x8 x9 bw a6 bc
def cg.q4(N:Nat)(Ox:cg.anx)(xg:cg.JF)(eN:cg.fu)(x3:gk)(x8:bq)(x9:Int)(bw:bK)(a6:bq)(bc:Int):Option (bq×bK×(Int)×(Int)):=
 cond (aY bc (List.length a6:Int)) (cond (aY 0 x9) (cond (aO x3.2.2.2.1 1) (cond (ba bc (List.length a6)) (cond (aY x3.2.2.2.2.2.1 (((((((List.getD a6 bc.toNat fa).2).2).2).2).2).1)) (Ox x8 x9 bw) (cond (aO x3.2.2.2.1 2) (cond (ba bc (List.length a6)) (cond (aY (((((((List.getD a6 bc.toNat fa).2).2).2).2).2).1) x3.2.2.2.2.2.1) (Ox x8 x9 bw) (xg x3 x8 x9 bw a6 bc)) (none)) (xg x3 x8 x9 bw a6 bc))) (none)) (cond (aO x3.2.2.2.1 2) (cond (ba bc (List.length a6)) (cond (aY (((((((List.getD a6 bc.toNat fa).2).2).2).2).2).1) x3.2.2.2.2.2.1) (Ox x8 x9 bw) (xg x3 x8 x9 bw a6 bc)) (none)) (xg x3 x8 x9 bw a6 bc))) (Ox x8 x9 bw)) (Ox x8 x9 bw)
def cg.l7(N:Nat):Nat→cg.fu
 |0,_,_,_,_,_,_=>none
 |n+1,x3,x8,x9,bw,a6,bc=>cg.q4 N (cg.j22 N) (cg.HN N (cg.l7 N n)) (cg.l7 N n) x3 x8 x9 bw a6 bc
def cg.b(N:Nat)(u2:cg.fu)(a0:bq)(a1:gk):Option (bq×bK×(Int)×(Int)):=
 (mN N a0).bind λr1=>cond (!r1) (some ([],[],(0:Int),(1:Int))) ((Qr N a1).bind λr2=>cond (!r2) (some ([],[],(0:Int),(1:Int))) (cond (small (List.length dT+List.length a0)) ((dK N a0 a1.2.2.1 (W .i64 ((3:Int)-a1.2.2.2.1))).bind λr5=>u2 a1 (dT++a0) a1.2.2.2.2.1 ([]) r5 (0:Int)) (none)))
def cg(N:Nat)(a0:bq)(a1:gk):Option (bq×bK×(Int)×(Int)):=cg.b N (cg.l7 N N) a0 a1
def Xf(N:Nat)(a0:sW):Option (Bool):=
 cond (dk 0 a0.1) (cond (dk a0.1 24) (cond (dk 0 a0.2.1) (cond (dk a0.2.1 24) (cond (!aO a0.1 a0.2.1) (cond (dk 0 a0.2.2.1) (cond (aY a0.2.2.1 6) (cond (dk 1 a0.2.2.2.1) (cond (dk a0.2.2.2.1 1000000000) ((Dp N a0.2.2.2.2.1).bind λr1=>some r1) (some false)) (some false)) (some false)) (some false)) (some false)) (some false)) (some false)) (some false)) (some false)
def KC(N:Nat)(a0:Int):Option ((Int)×(Int)):=
 cond (aO a0 0) (some ((2:Int),(0:Int))) (some ((5:Int),a0))
def QI(N:Nat)(a0:sW)(a1:Int):Option (bF×(Int)):=
 (Xf N a0).bind λr1=>cond (!r1) (some ([],(1:Int))) ((Dp N a1).bind λr2=>cond (!r2) (some ([],(1:Int))) ((jV N (W .i64 (a1-a0.2.2.2.2.1))).bind λr4=>(jV N a0.2.2.2.1).bind λr5=>(jS N r4 r5).bind λr6=>(R2 N r6).bind λr7=>cond (aO r7 0) (some ([],(0:Int))) ((KC N a0.1).bind λr8=>(KC N a0.2.1).bind λr9=>(TQ N r6).bind λkB=>some ([(r8.1,(r8.2,(r6,()))),(r9.1,(r9.2,(kB,())))],(0:Int)))))
abbrev gz.xh:=bK→ae→aq→aq→au→bF→Int→Option (aq×(Int))
abbrev gz.bE:=bK→ae→aq→aq→Int→Option (aq×(Int))
def gz.yZ(N:Nat)(A2:gz.xh)(x2:bK)(x3:ae)(x4:aq)(x6:aq)(x9:au)(bw:bF)(a6:Int):Option (aq×(Int)):=
 cond (aY a6 (List.length x2:Int)) (cond (ba a6 (List.length x2)) ((Ks N x4 ((List.getD x2 a6.toNat mK).1)).bind λr6=>cond (!r6) (some ((ck,(c9,(bH,(bH,(dC,(dT,())))))),(3:Int))) ((Ks N x4 (((List.getD x2 a6.toNat mK).2).1)).bind λr7=>cond (!r7) (some ((ck,(c9,(bH,(bH,(dC,(dT,())))))),(3:Int))) (cond (dk (List.length x3.1:Int) ((((List.getD x2 a6.toNat mK).2).2).1)) (some ((ck,(c9,(bH,(bH,(dC,(dT,())))))),(3:Int))) (let v8:Int:=W .i64 (0-(((((List.getD x2 a6.toNat mK).2).2).2).1));cond (small (List.length x9+List.length ([((List.getD x2 a6.toNat mK).1,((((List.getD x2 a6.toNat mK).2).2).1,(((((List.getD x2 a6.toNat mK).2).2).2).1,()))),(((List.getD x2 a6.toNat mK).2).1,((((List.getD x2 a6.toNat mK).2).2).1,(v8,())))]))) (cond (ba ((((List.getD x2 a6.toNat mK).2).2).1) (List.length x4.2.2.2.2.1)) ((QI N (List.getD x2 a6.toNat mK) (List.getD x4.2.2.2.2.1 ((((List.getD x2 a6.toNat mK).2).2).1).toNat (0:Int))).bind λkB=>cond (small (List.length bw+List.length kB.1)) (A2 x2 x3 x4 x6 (x9++([((List.getD x2 a6.toNat mK).1,((((List.getD x2 a6.toNat mK).2).2).1,(((((List.getD x2 a6.toNat mK).2).2).2).1,()))),(((List.getD x2 a6.toNat mK).2).1,((((List.getD x2 a6.toNat mK).2).2).1,(v8,())))])) (bw++kB.1) (W .i64 (a6+1))) (none)) (none)) (none))))) (none)) ((yd N x4 x9 bw).bind λqw=>some (qw.1,qw.2))
def gz.BM(N:Nat):Nat→gz.xh
 |0,_,_,_,_,_,_,_=>none
 |n+1,x2,x3,x4,x6,x9,bw,a6=>gz.yZ N (gz.BM N n) x2 x3 x4 x6 x9 bw a6
def gz.dw(N:Nat)(Oy:gz.xh)(cr:gz.bE)(x2:bK)(x3:ae)(x4:aq)(x6:aq)(x8:Int):Option (aq×(Int)):=
 cond (aY x8 (List.length x2:Int)) (cond (ba x8 (List.length x2)) ((Xf N (List.getD x2 x8.toNat mK)).bind λr3=>cond (!r3) (some ((ck,(c9,(bH,(bH,(dC,(dT,())))))),(1:Int))) (cr x2 x3 x4 x6 (W .i64 (x8+1)))) (none)) (Oy x2 x3 x4 x6 ([]) ([]) (0:Int))
def gz.l4(N:Nat):Nat→gz.bE
 |0,_,_,_,_,_=>none
 |n+1,x2,x3,x4,x6,x8=>gz.dw N (gz.BM N N) (gz.l4 N n) x2 x3 x4 x6 x8
def gz.b(N:Nat)(eH:gz.bE)(a0:ae)(a1:aq)(a2:bK):Option (aq×(Int)):=
 (fZ N a0 a1).bind λr1=>cond (!r1) (some ((ck,(c9,(bH,(bH,(dC,(dT,())))))),(1:Int))) (cond (aY 200 (List.length a2:Int)) (some ((ck,(c9,(bH,(bH,(dC,(dT,())))))),(1:Int))) (eH a2 a0 a1 (ck,(c9,(bH,(bH,(dC,(dT,())))))) (0:Int)))
def gz(N:Nat)(a0:ae)(a1:aq)(a2:bK):Option (aq×(Int)):=gz.b N (gz.l4 N N) a0 a1 a2
abbrev jj.JF:=ae→aq→gk→aq→bq→bK→Int→Option (aq×bK×(Int)×(Int))
abbrev jj.Yt:=ae→aq→gk→aq→Option (aq×bK×(Int)×(Int))
def jj.BO(N:Nat)(x3:ae)(x4:aq)(x5:gk)(x6:aq)(bc:bq)(bZ:bK)(cw:Int):Option (aq×bK×(Int)×(Int)):=
 (gz N x3 x4 bZ).bind λr6=>cond (!aO r6.2 0) (some ((ck,(c9,(bH,(bH,(dC,(dT,())))))),C8,(0:Int),r6.2)) (cond (aY 0 cw) (cond (small (List.length bc+List.length ([(x5.1,(x5.2.1,(x5.2.2.1,(x5.2.2.2.1,(cw,x5.2.2.2.2.2)))))]))) (some ((r6.1.1,(r6.1.2.1,(r6.1.2.2.1,(r6.1.2.2.2.1,(r6.1.2.2.2.2.1,((bc++([(x5.1,(x5.2.1,(x5.2.2.1,(x5.2.2.2.1,(cw,x5.2.2.2.2.2)))))])),r6.1.2.2.2.2.2.2)))))),bZ,cw,(0:Int))) (none)) (some ((r6.1.1,(r6.1.2.1,(r6.1.2.2.1,(r6.1.2.2.2.1,(r6.1.2.2.2.2.1,(bc,r6.1.2.2.2.2.2.2)))))),bZ,cw,(0:Int))))
def jj.HN(N:Nat)(x3:ae)(x4:aq)(x5:gk)(x6:aq)(bc:bq)(bZ:bK)(cw:Int):Option (aq×bK×(Int)×(Int)):=jj.BO N x3 x4 x5 x6 bc bZ cw
def jj.Vm(N:Nat)(xg:jj.JF)(x3:ae)(x4:aq)(x5:gk)(x6:aq):Option (aq×bK×(Int)×(Int)):=
 (cg N x4.2.2.2.2.2.1 x5).bind λr4=>cond (aY 0 r4.2.2.1) (cond (aO (List.length r4.1:Int) 32) (some ((ck,(c9,(bH,(bH,(dC,(dT,())))))),C8,(0:Int),(5:Int))) (xg x3 x4 x5 x6 r4.1 r4.2.1 r4.2.2.1)) (xg x3 x4 x5 x6 r4.1 r4.2.1 r4.2.2.1)
def jj.j7(N:Nat)(x3:ae)(x4:aq)(x5:gk)(x6:aq):Option (aq×bK×(Int)×(Int)):=jj.Vm N (jj.HN N) x3 x4 x5 x6
def jj.b(N:Nat)(HU:jj.Yt)(a0:ae)(a1:aq)(a2:gk):Option (aq×bK×(Int)×(Int)):=
 (Xv N a0 a1 a2).bind λr1=>cond (!aO r1 0) (some ((ck,(c9,(bH,(bH,(dC,(dT,())))))),C8,(0:Int),r1)) (cond (aY 0 (List.length a1.2.2.2.2.2.1:Int)) (let v2:Int:=W .i64 ((List.length a1.2.2.2.2.2.1:Int)-1);cond (ba v2 (List.length a1.2.2.2.2.2.1)) (cond (dk a2.1 ((List.getD a1.2.2.2.2.2.1 v2.toNat fa).1)) (some ((ck,(c9,(bH,(bH,(dC,(dT,())))))),C8,(0:Int),(1:Int))) (HU a0 a1 a2 (ck,(c9,(bH,(bH,(dC,(dT,())))))))) (none)) (HU a0 a1 a2 (ck,(c9,(bH,(bH,(dC,(dT,()))))))))
def jj(N:Nat)(a0:ae)(a1:aq)(a2:gk):Option (aq×bK×(Int)×(Int)):=jj.b N (jj.j7 N) a0 a1 a2
abbrev nH.bM:=bq→Int→Int→bq→Int→Option (bq×(Int))
def nH.ei(N:Nat)(bQ:nH.bM)(x0:bq)(x1:Int)(x2:Int)(x8:bq)(x9:Int):Option (bq×(Int)):=
 cond (aY x9 (List.length x0:Int)) (cond (ba x9 (List.length x0)) (cond (!aO ((List.getD x0 x9.toNat fa).1) x2) (cond (ba x9 (List.length x0)) (cond (small (List.length x8+List.length ([List.getD x0 x9.toNat fa]))) (bQ x0 x1 x2 (x8++([List.getD x0 x9.toNat fa])) (W .i64 (x9+1))) (none)) (none)) (cond (ba x9 (List.length x0)) (cond (!aO (((List.getD x0 x9.toNat fa).2).1) x1) (cond (ba x9 (List.length x0)) (cond (small (List.length x8+List.length ([List.getD x0 x9.toNat fa]))) (bQ x0 x1 x2 (x8++([List.getD x0 x9.toNat fa])) (W .i64 (x9+1))) (none)) (none)) (bQ x0 x1 x2 x8 (W .i64 (x9+1)))) (none))) (none)) (cond (aO (List.length x8:Int) (List.length x0:Int)) (some ([],(3:Int))) (some (x8,(0:Int))))
def nH.l5(N:Nat):Nat→nH.bM
 |0,_,_,_,_,_=>none
 |n+1,x0,x1,x2,x8,x9=>nH.ei N (nH.l5 N n) x0 x1 x2 x8 x9
def nH.b(N:Nat)(eW:nH.bM)(a0:bq)(a1:Int)(a2:Int):Option (bq×(Int)):=
 (mN N a0).bind λr1=>cond (!r1) (some ([],(1:Int))) (eW a0 a1 a2 ([]) (0:Int))
def nH(N:Nat)(a0:bq)(a1:Int)(a2:Int):Option (bq×(Int)):=nH.b N (nH.l5 N N) a0 a1 a2
abbrev nI.jE:=au→Int→bF→aH→Int→Option (bF×(Int))
def nI.uu(N:Nat)(kC:nI.jE)(x0:au)(x1:Int)(bw:bF)(a6:aH)(bc:Int):Option (bF×(Int)):=
 cond (aY bc (List.length x0:Int)) (cond (ba bc (List.length x0)) (cond (!aO (((List.getD x0 bc.toNat bh).2).1) x1) (kC x0 x1 bw a6 (W .i64 (bc+1))) ((R2 N a6).bind λr9=>cond (aO r9 0) (kC x0 x1 bw a6 (W .i64 (bc+1))) (cond (ba bc (List.length x0)) ((KC N ((List.getD x0 bc.toNat bh).1)).bind λnV=>cond (ba bc (List.length x0)) ((jV N ((((List.getD x0 bc.toNat bh).2).2).1)).bind λoR=>(jS N oR a6).bind λqw=>cond (small (List.length bw+List.length ([(nV.1,(nV.2,(qw,())))]))) (kC x0 x1 (bw++([(nV.1,(nV.2,(qw,())))])) a6 (W .i64 (bc+1))) (none)) (none)) (none)))) (none)) (some (bw,(0:Int)))
def nI.l6(N:Nat):Nat→nI.jE
 |0,_,_,_,_,_=>none
 |n+1,x0,x1,bw,a6,bc=>nI.uu N (nI.l6 N n) x0 x1 bw a6 bc
def nI.b(N:Nat)(xb:nI.jE)(a0:au)(a1:Int)(a2:Int)(a3:Int):Option (bF×(Int)):=
 (ze N a0).bind λr1=>cond (!r1) (some ([],(1:Int))) ((Dp N a2).bind λr2=>cond (!r2) (some ([],(1:Int))) ((Dp N a3).bind λr3=>cond (!r3) (some ([],(1:Int))) ((jV N a3).bind λr4=>(jV N a2).bind λr5=>(R1 N r4 r5).bind λr6=>xb a0 a1 ([]) r6 (0:Int))))
def nI(N:Nat)(a0:au)(a1:Int)(a2:Int)(a3:Int):Option (bF×(Int)):=nI.b N (nI.l6 N N) a0 a1 a2 a3
def Uu(N:Nat)(a0:ae)(a1:aq)(a2:Int)(a3:Int):Option (aq×bF×(Int)):=
 (fZ N a0 a1).bind λr1=>cond (!r1) (some ((ck,(c9,(bH,(bH,(dC,(dT,())))))),([]:List ((Int)×((Int)×(((Bool)×((List (Int))×(Unit)))×(Unit))))),(1:Int))) ((Dp N a3).bind λr2=>cond (!r2) (some ((ck,(c9,(bH,(bH,(dC,(dT,())))))),([]:List ((Int)×((Int)×(((Bool)×((List (Int))×(Unit)))×(Unit))))),(1:Int))) (cond (aY a2 0) (some ((ck,(c9,(bH,(bH,(dC,(dT,())))))),([]:List ((Int)×((Int)×(((Bool)×((List (Int))×(Unit)))×(Unit))))),(3:Int))) (cond (dk (List.length a0.1:Int) a2) (some ((ck,(c9,(bH,(bH,(dC,(dT,())))))),([]:List ((Int)×((Int)×(((Bool)×((List (Int))×(Unit)))×(Unit))))),(3:Int))) (cond (ba a2 (List.length a1.2.2.2.2.1)) ((nI N a1.2.2.2.1 a2 (List.getD a1.2.2.2.2.1 a2.toNat (0:Int)) a3).bind λr3=>(yd N a1 bH r3.1).bind λr4=>cond (!aO r4.2 0) (some ((ck,(c9,(bH,(bH,(dC,(dT,())))))),([]:List ((Int)×((Int)×(((Bool)×((List (Int))×(Unit)))×(Unit))))),r4.2)) (cond (small (List.length dC+List.length a1.2.2.2.2.1)) (let v5:List (Int):=dC++a1.2.2.2.2.1;cond (ba a2 (List.length v5)) (some ((r4.1.1,(r4.1.2.1,(r4.1.2.2.1,(r4.1.2.2.2.1,((List.set v5 a2.toNat a3),r4.1.2.2.2.2.2))))),r3.1,(0:Int))) (none)) (none))) (none)))))
abbrev qc.dd:=aD→Int→Option (Bool)
def qc.gJ(N:Nat)(eE:qc.dd)(x0:aD)(x3:Int):Option (Bool):=
 cond (aY x3 (List.length x0:Int)) (cond (ba x3 (List.length x0)) (cond (aY ((List.getD x0 x3.toNat cA).1) (1:Int)) (some false) (cond (ba x3 (List.length x0)) (cond (aY 24 ((List.getD x0 x3.toNat cA).1)) (some false) (cond (ba x3 (List.length x0)) (cond (aO (((List.getD x0 x3.toNat cA).2).1) (0:Int)) (some false) (cond (aY 0 x3) (cond (ba x3 (List.length x0)) (let v2:Int:=W .i64 (x3-1);cond (ba v2 (List.length x0)) (cond (dk ((List.getD x0 x3.toNat cA).1) ((List.getD x0 v2.toNat cA).1)) (some false) (eE x0 (W .i64 (x3+1)))) (none)) (none)) (eE x0 (W .i64 (x3+1))))) (none))) (none))) (none)) (some true)
def qc.l2(N:Nat):Nat→qc.dd
 |0,_,_=>none
 |n+1,x0,x3=>qc.gJ N (qc.l2 N n) x0 x3
def qc.b(N:Nat)(jn:qc.dd)(a0:aD):Option (Bool):=
 jn a0 (0:Int)
def qc(N:Nat)(a0:aD):Option (Bool):=qc.b N (qc.l2 N N) a0
abbrev eP.xi:=aD→bF→aD→Int→aH→Int→Option (aD×(Int))
abbrev eP.mw:=aD→bF→aD→Int→aH→Int→Option (aD×(Int))
abbrev eP.bM:=aD→bF→aD→Int→Option (aD×(Int))
def eP.FY(N:Nat)(bQ:eP.bM)(C3:eP.xi)(x0:aD)(x1:bF)(x6:aD)(x7:Int)(x8:aH)(bw:Int):Option (aD×(Int)):=
 cond (aY bw (List.length x1:Int)) (cond (ba bw (List.length x1)) (cond (aO ((List.getD x1 bw.toNat ((0:Int),((0:Int),((false,pv),())))).1) (5:Int)) (cond (ba bw (List.length x1)) (cond (aO (((List.getD x1 bw.toNat ((0:Int),((0:Int),((false,pv),())))).2).1) x7) (cond (ba bw (List.length x1)) ((zd N x8 ((((List.getD x1 bw.toNat ((0:Int),((0:Int),((false,pv),())))).2).2).1)).bind λr8=>C3 x0 x1 x6 x7 r8 (W .i64 (bw+1))) (none)) (C3 x0 x1 x6 x7 x8 (W .i64 (bw+1)))) (none)) (C3 x0 x1 x6 x7 x8 (W .i64 (bw+1)))) (none)) ((wE N x8).bind λoR=>cond (!oR.2) (some ([],(2:Int))) (cond (!aO oR.1 0) (cond (small (List.length x6+List.length ([(x7,(oR.1,()))]))) (bQ x0 x1 (x6++([(x7,(oR.1,()))])) (W .i64 (x7+1))) (none)) (bQ x0 x1 x6 (W .i64 (x7+1)))))
def eP.IZ(N:Nat)(bQ:eP.bM):Nat→eP.xi
 |0,_,_,_,_,_,_=>none
 |n+1,x0,x1,x6,x7,x8,bw=>eP.FY N bQ (eP.IZ N bQ n) x0 x1 x6 x7 x8 bw
def eP.xy(N:Nat)(Oz:eP.xi)(bQ:eP.bM)(rN:eP.mw)(x0:aD)(x1:bF)(x6:aD)(x7:Int)(x8:aH)(x9:Int):Option (aD×(Int)):=
 cond (aY x9 (List.length x0:Int)) (cond (ba x9 (List.length x0)) (cond (aO ((List.getD x0 x9.toNat cA).1) x7) (cond (ba x9 (List.length x0)) ((jV N (((List.getD x0 x9.toNat cA).2).1)).bind λr4=>rN x0 x1 x6 x7 r4 (W .i64 (x9+1))) (none)) (rN x0 x1 x6 x7 x8 (W .i64 (x9+1)))) (none)) (Oz x0 x1 x6 x7 x8 (0:Int))
def eP.l9(N:Nat)(bQ:eP.bM):Nat→eP.mw
 |0,_,_,_,_,_,_=>none
 |n+1,x0,x1,x6,x7,x8,x9=>eP.xy N (eP.IZ N bQ N) bQ (eP.l9 N bQ n) x0 x1 x6 x7 x8 x9
def eP.ei(N:Nat)(y8:eP.mw)(bQ:eP.bM)(x0:aD)(x1:bF)(x6:aD)(x7:Int):Option (aD×(Int)):=
 cond (dk x7 24) (y8 x0 x1 x6 x7 (false,pv) (0:Int)) (some (x6,(0:Int)))
def eP.l5(N:Nat):Nat→eP.bM
 |0,_,_,_,_=>none
 |n+1,x0,x1,x6,x7=>eP.ei N (eP.l9 N (eP.l5 N n) N) (eP.l5 N n) x0 x1 x6 x7
def eP.b(N:Nat)(eW:eP.bM)(a0:aD)(a1:bF):Option (aD×(Int)):=
 (qc N a0).bind λr1=>cond (!r1) (some ([],(1:Int))) (eW a0 a1 ([]) (1:Int))
def eP(N:Nat)(a0:aD)(a1:bF):Option (aD×(Int)):=eP.b N (eP.l5 N N) a0 a1
def UH(N:Nat)(a0:aQ)(a1:Int):Option ((Int)×(Bool)):=
 (jV N a0.1).bind λr1=>(jV N a1).bind λr2=>(zd N r1 r2).bind λr3=>(wE N r3).bind λr4=>some (r4.1,r4.2)
def Ur(N:Nat)(a0:Int)(a1:Int):Option ((Int)×(Bool)):=
 cond (aO a0 0) (cond (aO a1 1) (some ((1:Int),true)) (cond (aO a0 1) (cond (aO a1 11) (some ((2:Int),true)) (cond (aO a0 2) (cond (aO a1 12) (some ((1:Int),true)) (cond (aO a0 2) (cond (aO a1 13) (some ((3:Int),true)) (cond (aO a0 3) (cond (aO a1 21) (some ((4:Int),true)) (some ((0:Int),false))) (some ((0:Int),false)))) (cond (aO a0 3) (cond (aO a1 21) (some ((4:Int),true)) (some ((0:Int),false))) (some ((0:Int),false))))) (cond (aO a0 2) (cond (aO a1 13) (some ((3:Int),true)) (cond (aO a0 3) (cond (aO a1 21) (some ((4:Int),true)) (some ((0:Int),false))) (some ((0:Int),false)))) (cond (aO a0 3) (cond (aO a1 21) (some ((4:Int),true)) (some ((0:Int),false))) (some ((0:Int),false)))))) (cond (aO a0 2) (cond (aO a1 12) (some ((1:Int),true)) (cond (aO a0 2) (cond (aO a1 13) (some ((3:Int),true)) (cond (aO a0 3) (cond (aO a1 21) (some ((4:Int),true)) (some ((0:Int),false))) (some ((0:Int),false)))) (cond (aO a0 3) (cond (aO a1 21) (some ((4:Int),true)) (some ((0:Int),false))) (some ((0:Int),false))))) (cond (aO a0 2) (cond (aO a1 13) (some ((3:Int),true)) (cond (aO a0 3) (cond (aO a1 21) (some ((4:Int),true)) (some ((0:Int),false))) (some ((0:Int),false)))) (cond (aO a0 3) (cond (aO a1 21) (some ((4:Int),true)) (some ((0:Int),false))) (some ((0:Int),false))))))) (cond (aO a0 1) (cond (aO a1 11) (some ((2:Int),true)) (cond (aO a0 2) (cond (aO a1 12) (some ((1:Int),true)) (cond (aO a0 2) (cond (aO a1 13) (some ((3:Int),true)) (cond (aO a0 3) (cond (aO a1 21) (some ((4:Int),true)) (some ((0:Int),false))) (some ((0:Int),false)))) (cond (aO a0 3) (cond (aO a1 21) (some ((4:Int),true)) (some ((0:Int),false))) (some ((0:Int),false))))) (cond (aO a0 2) (cond (aO a1 13) (some ((3:Int),true)) (cond (aO a0 3) (cond (aO a1 21) (some ((4:Int),true)) (some ((0:Int),false))) (some ((0:Int),false)))) (cond (aO a0 3) (cond (aO a1 21) (some ((4:Int),true)) (some ((0:Int),false))) (some ((0:Int),false)))))) (cond (aO a0 2) (cond (aO a1 12) (some ((1:Int),true)) (cond (aO a0 2) (cond (aO a1 13) (some ((3:Int),true)) (cond (aO a0 3) (cond (aO a1 21) (some ((4:Int),true)) (some ((0:Int),false))) (some ((0:Int),false)))) (cond (aO a0 3) (cond (aO a1 21) (some ((4:Int),true)) (some ((0:Int),false))) (some ((0:Int),false))))) (cond (aO a0 2) (cond (aO a1 13) (some ((3:Int),true)) (cond (aO a0 3) (cond (aO a1 21) (some ((4:Int),true)) (some ((0:Int),false))) (some ((0:Int),false)))) (cond (aO a0 3) (cond (aO a1 21) (some ((4:Int),true)) (some ((0:Int),false))) (some ((0:Int),false))))))
abbrev lH.xh:=Int→Int→aD→Int→Option (aD×(Int))
def lH.yZ(N:Nat)(A2:lH.xh)(x1:Int)(x9:Int)(a6:aD)(bc:Int):Option (aD×(Int)):=
 cond (aY bc (List.length a6:Int)) (cond (ba bc (List.length a6)) (cond (aO ((List.getD a6 bc.toNat cA).1) x1) (cond (ba bc (List.length a6)) (A2 x1 x9 (List.set a6 bc.toNat ((List.getD a6 bc.toNat cA).1,(x9,((List.getD a6 bc.toNat cA).2).2))) (W .i64 (bc+1))) (none)) (A2 x1 x9 a6 (W .i64 (bc+1)))) (none)) (some (a6,(0:Int)))
def lH.BM(N:Nat):Nat→lH.xh
 |0,_,_,_,_=>none
 |n+1,x1,x9,a6,bc=>lH.yZ N (lH.BM N n) x1 x9 a6 bc
def lH.b(N:Nat)(Oy:lH.xh)(a0:aD)(a1:Int)(a2:Int):Option (aD×(Int)):=
 (A6 N a0).bind λr1=>cond (!r1) (some ([],(1:Int))) ((zf N a0 a1).bind λr2=>cond (aO r2 0) (some ([],(3:Int))) ((Ur N r2 a2).bind λr3=>cond (!r3.2) (some ([],(8:Int))) (cond (small (List.length ck+List.length a0)) (Oy a1 r3.1 (ck++a0) (0:Int)) (none))))
def lH(N:Nat)(a0:aD)(a1:Int)(a2:Int):Option (aD×(Int)):=lH.b N (lH.BM N N) a0 a1 a2
abbrev ru.bM:=aK→Int→(List (Int))→Int→Option (List (Int))
def ru.ei(N:Nat)(bQ:ru.bM)(x0:aK)(x1:Int)(x5:List (Int))(x6:Int):Option (List (Int)):=
 cond (aY x6 (List.length x0:Int)) (cond (ba x6 (List.length x0)) (cond (aO (((List.getD x0 x6.toNat aV).2).1) x1) (cond (ba x6 (List.length x0)) (cond (small (List.length x5+List.length ([(List.getD x0 x6.toNat aV).1]))) (bQ x0 x1 (x5++([(List.getD x0 x6.toNat aV).1])) (W .i64 (x6+1))) (none)) (none)) (bQ x0 x1 x5 (W .i64 (x6+1)))) (none)) (some x5)
def ru.l5(N:Nat):Nat→ru.bM
 |0,_,_,_,_=>none
 |n+1,x0,x1,x5,x6=>ru.ei N (ru.l5 N n) x0 x1 x5 x6
def ru.b(N:Nat)(eW:ru.bM)(a0:aK)(a1:Int):Option (List (Int)):=
 (eD N a0).bind λr1=>cond (!r1) (some ([])) (eW a0 a1 ([]) (0:Int))
def ru(N:Nat)(a0:aK)(a1:Int):Option (List (Int)):=ru.b N (ru.l5 N N) a0 a1
abbrev fU.mw:=bq→(List (Int))→bq→Int→Bool→Int→Option bq
abbrev fU.bM:=bq→(List (Int))→bq→Int→Option bq
def fU.xy(N:Nat)(bQ:fU.bM)(rN:fU.mw)(x0:bq)(x1:List (Int))(x5:bq)(x6:Int)(x7:Bool)(x8:Int):Option bq:=
 cond (aY x8 (List.length x1:Int)) (cond (x7) (rN x0 x1 x5 x6 true (W .i64 (x8+1))) (cond (ba x8 (List.length x1)) (cond (ba x6 (List.length x0)) (rN x0 x1 x5 x6 (aO (List.getD x1 x8.toNat (0:Int)) (((List.getD x0 x6.toNat fa).2).1)) (W .i64 (x8+1))) (none)) (none))) (cond (!x7) (cond (ba x6 (List.length x0)) (cond (small (List.length x5+List.length ([List.getD x0 x6.toNat fa]))) (bQ x0 x1 (x5++([List.getD x0 x6.toNat fa])) (W .i64 (x6+1))) (none)) (none)) (bQ x0 x1 x5 (W .i64 (x6+1))))
def fU.l9(N:Nat)(bQ:fU.bM):Nat→fU.mw
 |0,_,_,_,_,_,_=>none
 |n+1,x0,x1,x5,x6,x7,x8=>fU.xy N bQ (fU.l9 N bQ n) x0 x1 x5 x6 x7 x8
def fU.ei(N:Nat)(y8:fU.mw)(bQ:fU.bM)(x0:bq)(x1:List (Int))(x5:bq)(x6:Int):Option bq:=
 cond (aY x6 (List.length x0:Int)) (y8 x0 x1 x5 x6 false (0:Int)) (some x5)
def fU.l5(N:Nat):Nat→fU.bM
 |0,_,_,_,_=>none
 |n+1,x0,x1,x5,x6=>fU.ei N (fU.l9 N (fU.l5 N n) N) (fU.l5 N n) x0 x1 x5 x6
def fU.b(N:Nat)(eW:fU.bM)(a0:bq)(a1:List (Int)):Option bq:=
 (mN N a0).bind λr1=>cond (!r1) (some ([])) (eW a0 a1 ([]) (0:Int))
def fU(N:Nat)(a0:bq)(a1:List (Int)):Option bq:=fU.b N (fU.l5 N N) a0 a1
def KR(N:Nat)(a0:ae)(a1:aq)(a2:Int):Option (aq×(Int)):=
 (fZ N a0 a1).bind λr1=>cond (!r1) (some ((ck,(c9,(bH,(bH,(dC,(dT,())))))),(1:Int))) ((R8 N a1.1 a2).bind λr2=>cond (aO r2 0) (some ((ck,(c9,(bH,(bH,(dC,(dT,())))))),(3:Int))) ((ru N a1.2.1 a2).bind λr3=>(fU N a1.2.2.2.2.2.1 r3).bind λr4=>some ((a1.1,(a1.2.1,(a1.2.2.1,(a1.2.2.2.1,(a1.2.2.2.2.1,(r4,a1.2.2.2.2.2.2)))))),(0:Int))))
def WM(N:Nat)(a0:bO):Option (Bool):=
 cond (dk 1 a0.1) (cond (dk a0.1 1099511627776) (cond (dk 1 a0.2.1) (cond (dk a0.2.1 1099511627776) (cond (dk 1 a0.2.2.1) (cond (dk a0.2.2.1 12) (cond (dk (-1152921504606846976) a0.2.2.2.1) (some (dk a0.2.2.2.1 1152921504606846976)) (some false)) (some false)) (some false)) (some false)) (some false)) (some false)) (some false)
abbrev eF.mw:=aK→Int→Int→Option (Bool)
abbrev eF.YB:=aK→Int→Option (Bool)
abbrev eF.bE:=aK→Int→Option (Bool)
def eF.xy(N:Nat)(cr:eF.bE)(rN:eF.mw)(x0:aK)(x3:Int)(x4:Int):Option (Bool):=
 cond (aY x4 x3) (cond (ba x4 (List.length x0)) (cond (ba x3 (List.length x0)) (cond (aO ((((List.getD x0 x4.toNat aV).2).2).1) ((((List.getD x0 x3.toNat aV).2).2).1)) (cond (ba x4 (List.length x0)) (cond (ba x3 (List.length x0)) (cond (aO (((List.getD x0 x4.toNat aV).2).1) (((List.getD x0 x3.toNat aV).2).1)) (some false) (rN x0 x3 (W .i64 (x4+1)))) (none)) (none)) (rN x0 x3 (W .i64 (x4+1)))) (none)) (none)) (cr x0 (W .i64 (x3+1)))
def eF.l9(N:Nat)(cr:eF.bE):Nat→eF.mw
 |0,_,_,_=>none
 |n+1,x0,x3,x4=>eF.xy N cr (eF.l9 N cr n) x0 x3 x4
def eF.W2(N:Nat)(y8:eF.mw)(cr:eF.bE)(x0:aK)(x3:Int):Option (Bool):=
 y8 x0 x3 (0:Int)
def eF.j8(N:Nat)(cr:eF.bE)(x0:aK)(x3:Int):Option (Bool):=eF.W2 N (eF.l9 N cr N) cr x0 x3
def eF.dw(N:Nat)(Oo:eF.YB)(cr:eF.bE)(x0:aK)(x3:Int):Option (Bool):=
 cond (aY x3 (List.length x0:Int)) (cond (ba x3 (List.length x0)) ((WM N (List.getD x0 x3.toNat aV)).bind λr2=>cond (!r2) (some false) (cond (aY 0 x3) (cond (ba x3 (List.length x0)) (let v3:Int:=W .i64 (x3-1);cond (ba v3 (List.length x0)) (cond (dk ((List.getD x0 x3.toNat aV).1) ((List.getD x0 v3.toNat aV).1)) (some false) (Oo x0 x3)) (none)) (none)) (Oo x0 x3))) (none)) (some true)
def eF.l4(N:Nat):Nat→eF.bE
 |0,_,_=>none
 |n+1,x0,x3=>eF.dw N (eF.j8 N (eF.l4 N n)) (eF.l4 N n) x0 x3
def eF.b(N:Nat)(eH:eF.bE)(a0:aK):Option (Bool):=
 cond (aY 40 (List.length a0:Int)) (some false) (eH a0 (0:Int))
def eF(N:Nat)(a0:aK):Option (Bool):=eF.b N (eF.l4 N N) a0
abbrev ph.bM:=aK→Int→aK→Int→Option aK
def ph.ei(N:Nat)(bQ:ph.bM)(x0:aK)(x1:Int)(x5:aK)(x6:Int):Option aK:=
 cond (aY x6 (List.length x0:Int)) (cond (ba x6 (List.length x0)) (cond (!aO ((((List.getD x0 x6.toNat aV).2).2).1) x1) (cond (ba x6 (List.length x0)) (cond (small (List.length x5+List.length ([List.getD x0 x6.toNat aV]))) (bQ x0 x1 (x5++([List.getD x0 x6.toNat aV])) (W .i64 (x6+1))) (none)) (none)) (bQ x0 x1 x5 (W .i64 (x6+1)))) (none)) (some x5)
def ph.l5(N:Nat):Nat→ph.bM
 |0,_,_,_,_=>none
 |n+1,x0,x1,x5,x6=>ph.ei N (ph.l5 N n) x0 x1 x5 x6
def ph.b(N:Nat)(eW:ph.bM)(a0:aK)(a1:Int):Option aK:=
 (eF N a0).bind λr1=>cond (!r1) (some ([])) (eW a0 a1 ([]) (0:Int))
def ph(N:Nat)(a0:aK)(a1:Int):Option aK:=ph.b N (ph.l5 N N) a0 a1
def aa9(N:Nat)(a0:aQ)(a1:Int):Option (Bool):=
 cond (aO a1 14) (cond (aO a0.2.2.2.1.2.1 1) (some (aY a0.1 a0.2.2.2.1.2.2.1)) (some false)) (cond (aO a1 15) (cond (aO a0.2.2.2.1.2.1 1) (some (dk a0.2.2.2.1.2.2.1 a0.1)) (some false)) (cond (aO a1 19) (cond (aO a0.2.2.2.1.2.1 3) (some (aY a0.1 a0.2.2.2.1.2.2.1)) (some false)) (cond (aO a1 20) (cond (aO a0.2.2.2.1.2.1 3) (some (dk a0.2.2.2.1.2.2.1 a0.1)) (some false)) (some (aO a0.2.2.2.1.2.1 2)))))
def HO(N:Nat)(a0:aq)(a1:Int):Option (Int):=
 (R8 N a0.1 a1).bind λr1=>some r1
abbrev lF.bM:=aD→Bool→ae→aH→aH→Int→Option (aH×(Int))
def lF.ei(N:Nat)(bQ:lF.bM)(x1:aD)(x2:Bool)(x3:ae)(x6:aH)(x8:aH)(x9:Int):Option (aH×(Int)):=
 cond (aY x9 (List.length x1:Int)) (cond (ba x9 (List.length x1)) (cond (ba ((List.getD x1 x9.toNat cA).1) (List.length x3.1)) (cond (x2) (cond (ba x9 (List.length x1)) (cond (ba ((List.getD x1 x9.toNat cA).1) (List.length x3.1)) (cond (ba x9 (List.length x1)) ((jV N (((List.getD x1 x9.toNat cA).2).1)).bind λr3=>(WB N r3).bind λr4=>(jV N (((((List.getD x3.1 ((List.getD x1 x9.toNat cA).1).toNat aV).2).2).2).1)).bind λr5=>(jS N r4 r5).bind λr6=>(zd N x8 r6).bind λr7=>bQ x1 x2 x3 x6 r7 (W .i64 (x9+1))) (none)) (none)) (none)) (cond (ba x9 (List.length x1)) ((jV N (((List.getD x1 x9.toNat cA).2).1)).bind λr9=>(WB N r9).bind λkB=>(jV N ((((List.getD x3.1 ((List.getD x1 x9.toNat cA).1).toNat aV).2).2).1)).bind λnV=>(jS N kB nV).bind λoR=>(zd N x8 oR).bind λqw=>bQ x1 x2 x3 x6 qw (W .i64 (x9+1))) (none))) (none)) (none)) (some (x8,(0:Int)))
def lF.l5(N:Nat):Nat→lF.bM
 |0,_,_,_,_,_,_=>none
 |n+1,x1,x2,x3,x6,x8,x9=>lF.ei N (lF.l5 N n) x1 x2 x3 x6 x8 x9
def lF.b(N:Nat)(eW:lF.bM)(a0:ae)(a1:aD)(a2:Bool):Option (aH×(Int)):=
 (nr N a0 a1).bind λr1=>cond (!r1) (some ((false,pv),(1:Int))) (eW a1 a2 a0 (false,pv) (false,pv) (0:Int))
def lF(N:Nat)(a0:ae)(a1:aD)(a2:Bool):Option (aH×(Int)):=lF.b N (lF.l5 N N) a0 a1 a2
def aik(N:Nat)(a0:ae)(a1:aD):Option (aH×(Int)):=
 (lF N a0 a1 false).bind λr1=>some (r1.1,r1.2)
def HH(N:Nat)(a0:aq)(a1:Int):Option (Int):=
 (uI N a0.2.2.1 (5:Int) a1).bind λr1=>some r1
def aaZ(N:Nat)(a0:ae)(a1:aq)(a2:Int)(a3:Int)(a4:Int):Option (Int):=
 (fZ N a0 a1).bind λr1=>cond (!r1) (some (1:Int)) ((Vo N a1.2.1 a4).bind λr2=>cond (!r2.2) (some (3:Int)) ((HO N a1 a2).bind λr3=>cond (aO r3 0) (some (3:Int)) ((HO N a1 a3).bind λr4=>cond (aO r4 0) (some (3:Int)) (cond (!aO r2.1.2.1 a2) (some (8:Int)) (cond (!aO r2.1.2.2.1 2) (some (8:Int)) ((HO N a1 a3).bind λr5=>cond (!aO r5 1) (some (7:Int)) ((lE N a1.2.2.2.1 a4).bind λr6=>(aik N a0 r6).bind λr7=>(HH N a1 a4).bind λr8=>(jV N r8).bind λr9=>(PW N r9 r7.1).bind λkB=>cond (aY kB 0) (some (10:Int)) (some (0:Int)))))))))
abbrev nG.fX:=Int→Int→aK→Int→Option (aK×(Int))
def nG.mP(N:Nat)(gO:nG.fX)(x2:Int)(x3:Int)(bZ:aK)(cw:Int):Option (aK×(Int)):=
 cond (aY cw (List.length bZ:Int)) (cond (ba cw (List.length bZ)) (cond (aO ((List.getD bZ cw.toNat aV).1) x2) (cond (ba cw (List.length bZ)) (gO x2 x3 (List.set bZ cw.toNat ((List.getD bZ cw.toNat aV).1,(x3,((List.getD bZ cw.toNat aV).2).2))) (W .i64 (cw+1))) (none)) (gO x2 x3 bZ (W .i64 (cw+1)))) (none)) (some (bZ,(0:Int)))
def nG.nT(N:Nat):Nat→nG.fX
 |0,_,_,_,_=>none
 |n+1,x2,x3,bZ,cw=>nG.mP N (nG.nT N n) x2 x3 bZ cw
def nG.b(N:Nat)(tQ:nG.fX)(a0:aD)(a1:aK)(a2:Int)(a3:Int):Option (aK×(Int)):=
 (oj N a0 a1).bind λr1=>cond (!r1) (some ([],(1:Int))) ((nQ N a1 a2).bind λr2=>(zf N a0 a3).bind λr3=>cond (!r2.2) (some ([],(3:Int))) (cond (aO r3 0) (some ([],(3:Int))) (cond (!aO r2.1.2.2.1 2) (some ([],(8:Int))) (cond (!aO r3 1) (some ([],(7:Int))) (cond (small (List.length c9+List.length a1)) (tQ a2 a3 (c9++a1) (0:Int)) (none))))))
def nG(N:Nat)(a0:aD)(a1:aK)(a2:Int)(a3:Int):Option (aK×(Int)):=nG.b N (nG.nT N N) a0 a1 a2 a3
def Uw(N:Nat)(a0:ae)(a1:aq)(a2:Int)(a3:Int)(a4:Int):Option (aq×(Int)):=
 (aaZ N a0 a1 a2 a3 a4).bind λr1=>cond (!aO r1 0) (some ((ck,(c9,(bH,(bH,(dC,(dT,())))))),r1)) ((nG N a1.1 a1.2.1 a4 a3).bind λr2=>cond (!aO r2.2 0) (some ((ck,(c9,(bH,(bH,(dC,(dT,())))))),r2.2)) (some ((a1.1,(r2.1,a1.2.2)),(0:Int))))
def QF(N:Nat)(a0:ae)(a1:aD):Option (aH×(Int)):=
 (lF N a0 a1 true).bind λr1=>some (r1.1,r1.2)
def F60(N:Nat)(a0:ae)(a1:aq)(a2:Int):Option ((Int)×(Int)):=
 (fZ N a0 a1).bind λr1=>cond (!r1) (some ((0:Int),(1:Int))) ((Vo N a1.2.1 a2).bind λr2=>cond (!r2.2) (some ((0:Int),(3:Int))) ((lE N a1.2.2.2.1 a2).bind λr3=>(QF N a0 r3).bind λr4=>(HH N a1 a2).bind λr5=>cond (dk r5 0) (some ((0:Int),(0:Int))) ((wE N r4.1).bind λr6=>cond (r6.2) (cond (aY r6.1 r5) (some (r6.1,(0:Int))) (some (r5,(0:Int)))) (some (r5,(0:Int))))))
abbrev iR.bM:=au→Int→Int→au→Int→Option au
def iR.ei(N:Nat)(bQ:iR.bM)(x0:au)(x1:Int)(x2:Int)(x7:au)(x8:Int):Option au:=
 cond (aY x8 (List.length x0:Int)) (cond (ba x8 (List.length x0)) (cond (aO ((List.getD x0 x8.toNat bh).1) x1) (cond (ba x8 (List.length x0)) (cond (ba x8 (List.length x0)) (let v3:Int:=W .i64 (0-((((List.getD x0 x8.toNat bh).2).2).1));cond (ba x8 (List.length x0)) (cond (ba x8 (List.length x0)) (cond (small (List.length x7+List.length ([(x1,(((List.getD x0 x8.toNat bh).2).1,(v3,()))),(x2,(((List.getD x0 x8.toNat bh).2).1,((((List.getD x0 x8.toNat bh).2).2).1,())))]))) (bQ x0 x1 x2 (x7++([(x1,(((List.getD x0 x8.toNat bh).2).1,(v3,()))),(x2,(((List.getD x0 x8.toNat bh).2).1,((((List.getD x0 x8.toNat bh).2).2).1,())))])) (W .i64 (x8+1))) (none)) (none)) (none)) (none)) (none)) (bQ x0 x1 x2 x7 (W .i64 (x8+1)))) (none)) (some x7)
def iR.l5(N:Nat):Nat→iR.bM
 |0,_,_,_,_,_=>none
 |n+1,x0,x1,x2,x7,x8=>iR.ei N (iR.l5 N n) x0 x1 x2 x7 x8
def iR.b(N:Nat)(eW:iR.bM)(a0:au)(a1:Int)(a2:Int):Option au:=
 (ze N a0).bind λr1=>cond (!r1) (some ([])) (cond (aO a1 a2) (some ([])) (cond (aY a1 0) (some ([])) (cond (aY 24 a1) (some ([])) (cond (aY a2 0) (some ([])) (cond (aY 24 a2) (some ([])) (eW a0 a1 a2 ([]) (0:Int)))))))
def iR(N:Nat)(a0:au)(a1:Int)(a2:Int):Option au:=iR.b N (iR.l5 N N) a0 a1 a2
abbrev mU.GK:=Int→ae→aq→aq→au→bF→Int→bO→Option (aq×(Int))
abbrev mU.gQ:=Int→ae→aq→aq→au→bF→Int→Option (aq×(Int))
def mU.uT(N:Nat)(e7:mU.gQ)(x2:Int)(x3:ae)(x4:aq)(x6:aq)(x8:au)(x9:bF)(bw:Int)(a6:bO):Option (aq×(Int)):=
 (HH N x4 a6.1).bind λkB=>cond (aY kB 0) ((jV N kB).bind λnV=>(TQ N nV).bind λoR=>(ye N (2:Int) (0:Int) (5:Int) a6.1 oR).bind λqw=>cond (small (List.length x9+List.length qw)) ((iR N x4.2.2.2.1 a6.1 (0:Int)).bind λw8=>cond (small (List.length x8+List.length w8)) (e7 x2 x3 x4 x6 (x8++w8) (x9++qw) (W .i64 (bw+1))) (none)) (none)) ((iR N x4.2.2.2.1 a6.1 (0:Int)).bind λvj=>cond (small (List.length x8+List.length vj)) (e7 x2 x3 x4 x6 (x8++vj) x9 (W .i64 (bw+1))) (none))
def mU.A8(N:Nat)(e7:mU.gQ)(x2:Int)(x3:ae)(x4:aq)(x6:aq)(x8:au)(x9:bF)(bw:Int)(a6:bO):Option (aq×(Int)):=mU.uT N e7 x2 x3 x4 x6 x8 x9 bw a6
def mU.yc(N:Nat)(vl:mU.GK)(e7:mU.gQ)(x2:Int)(x3:ae)(x4:aq)(x6:aq)(x8:au)(x9:bF)(bw:Int):Option (aq×(Int)):=
 cond (aY bw (List.length x4.2.1:Int)) (cond (ba bw (List.length x4.2.1)) (cond (!aO (((List.getD x4.2.1 bw.toNat aV).2).1) x2) (e7 x2 x3 x4 x6 x8 x9 (W .i64 (bw+1))) (cond (aO ((((List.getD x4.2.1 bw.toNat aV).2).2).1) (2:Int)) ((F60 N x3 x4 ((List.getD x4.2.1 bw.toNat aV).1)).bind λr5=>(jV N r5.1).bind λr6=>(ye N (5:Int) ((List.getD x4.2.1 bw.toNat aV).1) (2:Int) (0:Int) r6).bind λr7=>cond (small (List.length x9+List.length r7)) (vl x2 x3 x4 x6 x8 (x9++r7) bw (List.getD x4.2.1 bw.toNat aV)) (none)) (vl x2 x3 x4 x6 x8 x9 bw (List.getD x4.2.1 bw.toNat aV)))) (none)) ((yd N x4 x8 x9).bind λEa=>some (Ea.1,Ea.2))
def mU.l8(N:Nat):Nat→mU.gQ
 |0,_,_,_,_,_,_,_=>none
 |n+1,x2,x3,x4,x6,x8,x9,bw=>mU.yc N (mU.A8 N (mU.l8 N n)) (mU.l8 N n) x2 x3 x4 x6 x8 x9 bw
def mU.b(N:Nat)(B1:mU.gQ)(a0:ae)(a1:aq)(a2:Int):Option (aq×(Int)):=
 (fZ N a0 a1).bind λr1=>cond (!r1) (some ((ck,(c9,(bH,(bH,(dC,(dT,())))))),(1:Int))) ((HO N a1 a2).bind λr2=>cond (aO r2 0) (some ((ck,(c9,(bH,(bH,(dC,(dT,())))))),(3:Int))) (B1 a2 a0 a1 (ck,(c9,(bH,(bH,(dC,(dT,())))))) ([]) ([]) (0:Int)))
def mU(N:Nat)(a0:ae)(a1:aq)(a2:Int):Option (aq×(Int)):=mU.b N (mU.l8 N N) a0 a1 a2
abbrev rq.bM:=ae→aq→pg→Int→Option (pg×(Int))
def rq.ei(N:Nat)(bQ:rq.bM)(x2:ae)(x3:aq)(x6:pg)(x7:Int):Option (pg×(Int)):=
 cond (aY x7 (List.length x2.1:Int)) (cond (ba x7 (List.length x2.1)) (cond (ba ((List.getD x2.1 x7.toNat aV).1) (List.length x6)) ((BC N x3.2.2.2.1 (0:Int) x7).bind λr4=>(jV N r4).bind λr5=>cond (ba x7 (List.length x3.2.2.2.2.1)) ((jV N (List.getD x3.2.2.2.2.1 x7.toNat (0:Int))).bind λr6=>(jS N r5 r6).bind λr7=>(zd N (List.getD x6 ((List.getD x2.1 x7.toNat aV).1).toNat (false,pv)) r7).bind λr8=>cond (ba ((List.getD x2.1 x7.toNat aV).1) (List.length x6)) (bQ x2 x3 (List.set x6 ((List.getD x2.1 x7.toNat aV).1).toNat r8) (W .i64 (x7+1))) (none)) (none)) (none)) (none)) (some (x6,(0:Int)))
def rq.l5(N:Nat):Nat→rq.bM
 |0,_,_,_,_=>none
 |n+1,x2,x3,x6,x7=>rq.ei N (rq.l5 N n) x2 x3 x6 x7
def rq.b(N:Nat)(eW:rq.bM)(a0:ae)(a1:aq):Option (pg×(Int)):=
 (fZ N a0 a1).bind λr1=>cond (!r1) (some ([],(1:Int))) (cond (jZ 4 4) (eW a0 a1 (List.replicate (4:Int).toNat (false,pv)) (0:Int)) (none))
def rq(N:Nat)(a0:ae)(a1:aq):Option (pg×(Int)):=rq.b N (rq.l5 N N) a0 a1
abbrev pa.bM:=Int→ae→(List (Int))→Int→Option (List (Int))
def pa.ei(N:Nat)(bQ:pa.bM)(x1:Int)(x2:ae)(x5:List (Int))(x6:Int):Option (List (Int)):=
 cond (aY x6 (List.length x2.1:Int)) (cond (ba x6 (List.length x2.1)) (cond (aO ((List.getD x2.1 x6.toNat aV).1) x1) (cond (small (List.length x5+List.length ([x6]))) (bQ x1 x2 (x5++([x6])) (W .i64 (x6+1))) (none)) (bQ x1 x2 x5 (W .i64 (x6+1)))) (none)) (some x5)
def pa.l5(N:Nat):Nat→pa.bM
 |0,_,_,_,_=>none
 |n+1,x1,x2,x5,x6=>pa.ei N (pa.l5 N n) x1 x2 x5 x6
def pa.b(N:Nat)(eW:pa.bM)(a0:ae)(a1:Int):Option (List (Int)):=
 (me N a0).bind λr1=>cond (!r1) (some ([])) (eW a1 a0 ([]) (0:Int))
def pa(N:Nat)(a0:ae)(a1:Int):Option (List (Int)):=pa.b N (pa.l5 N N) a0 a1
abbrev pC.bE:=(List (Int))→(List (Int))→Int→Int→Option ((List (Int))×(Int))
def pC.dw(N:Nat)(cr:pC.bE)(x0:List (Int))(x4:List (Int))(x5:Int)(x6:Int):Option ((List (Int))×(Int)):=
 cond (dk 0 x6) (cond (aY 32 0) (none) (cond (ba x6 (List.length x0)) (let v5:Int:=qL .or .u64 (W .u64 (shl .u64 x5 32)) (List.getD x0 x6.toNat (0:Int));cond (aY 1 0) (none) (cond (ba x6 (List.length x4)) (cr x0 (List.set x4 x6.toNat (shr .u64 v5 1)) (qL .and .u64 v5 1) (W .i64 (x6-1))) (none))) (none))) ((oe N x4).bind λkB=>some (kB,x5))
def pC.l4(N:Nat):Nat→pC.bE
 |0,_,_,_,_=>none
 |n+1,x0,x4,x5,x6=>pC.dw N (pC.l4 N n) x0 x4 x5 x6
def pC.b(N:Nat)(eH:pC.bE)(a0:List (Int)):Option ((List (Int))×(Int)):=
 cond (jZ (List.length a0:Int) (List.length a0:Int)) (eH a0 (List.replicate (List.length a0:Int).toNat (0:Int)) (0:Int) (W .i64 ((List.length a0:Int)-1))) (none)
def pC(N:Nat)(a0:List (Int)):Option ((List (Int))×(Int)):=pC.b N (pC.l4 N N) a0
abbrev iu.mw:=aH→aH→aH→aH→(List (Int))→aH→aH→Int→Option (aH×aH)
abbrev iu.dY:=aH→aH→aH→aH→(List (Int))→(List (Int))→Option (aH×aH)
def iu.xy(N:Nat)(rN:iu.mw)(x2:aH)(x3:aH)(x4:aH)(x5:aH)(x6:List (Int))(bw:aH)(a6:aH)(bc:Int):Option (aH×aH):=
 cond (dk 0 bc) ((zd N bw bw).bind λr6=>(zd N a6 a6).bind λr7=>cond (ba bc (List.length x6)) (cond (aO (List.getD x6 bc.toNat (0:Int)) (1:Int)) ((jV N (1:Int)).bind λr8=>(zd N r7 r8).bind λr9=>(PW N r9 x3).bind λkB=>cond (dk 0 kB) ((R1 N r9 x3).bind λnV=>(jV N (1:Int)).bind λoR=>(zd N r6 oR).bind λqw=>rN x2 x3 x4 x5 x6 qw nV (W .i64 (bc-1))) (rN x2 x3 x4 x5 x6 r6 r9 (W .i64 (bc-1)))) ((PW N r7 x3).bind λxP=>cond (dk 0 xP) ((R1 N r7 x3).bind λA9=>(jV N (1:Int)).bind λvj=>(zd N r6 vj).bind λOA=>rN x2 x3 x4 x5 x6 OA A9 (W .i64 (bc-1))) (rN x2 x3 x4 x5 x6 r6 r7 (W .i64 (bc-1))))) (none)) (cond (!x2.1) (some (bw,a6)) ((R2 N a6).bind λLb=>cond (aO Lb 0) ((TQ N bw).bind λCZ=>some (CZ,a6)) ((TQ N bw).bind λLA=>(jV N (1:Int)).bind λHa=>(R1 N LA Ha).bind λC1=>(R1 N x3 a6).bind λOq=>some (C1,Oq))))
def iu.l9(N:Nat):Nat→iu.mw
 |0,_,_,_,_,_,_,_,_=>none
 |n+1,x2,x3,x4,x5,x6,bw,a6,bc=>iu.xy N (iu.l9 N n) x2 x3 x4 x5 x6 bw a6 bc
def iu.nO(N:Nat)(y8:iu.mw)(dp:iu.dY)(x2:aH)(x3:aH)(x4:aH)(x5:aH)(x6:List (Int))(x7:List (Int)):Option (aH×aH):=
 cond (aY 0 (List.length x7:Int)) ((pC N x7).bind λr2=>cond (small (List.length x6+List.length ([r2.2]))) (dp x2 x3 x4 x5 (x6++([r2.2])) r2.1) (none)) (y8 x2 x3 x4 x5 x6 (false,pv) (false,pv) (W .i64 ((List.length x6:Int)-1)))
def iu.l3(N:Nat):Nat→iu.dY
 |0,_,_,_,_,_,_=>none
 |n+1,x2,x3,x4,x5,x6,x7=>iu.nO N (iu.l9 N N) (iu.l3 N n) x2 x3 x4 x5 x6 x7
def iu.b(N:Nat)(oE:iu.dY)(a0:aH)(a1:aH):Option (aH×aH):=
 oE a0 a1 (false,pv) (false,pv) ([]) a0.2.1
def iu(N:Nat)(a0:aH)(a1:aH):Option (aH×aH):=iu.b N (iu.l3 N N) a0 a1
abbrev iS.GK:=Int→ae→aq→pg→aK→Int→(List (Int))→Int→Option (aK×(Int))
abbrev iS.jE:=Int→ae→aq→pg→aK→Int→Option (aK×(Int))
def iS.uT(N:Nat)(kC:iS.jE)(x2:Int)(x3:ae)(x4:aq)(x8:pg)(bw:aK)(a6:Int)(bc:List (Int))(eR:Int):Option (aK×(Int)):=
 cond (aO eR 0) (kC x2 x3 x4 x8 bw (W .i64 (a6+1))) (cond (ba 0 (List.length bc)) (cond (ba a6 (List.length x8)) ((R2 N (List.getD x8 a6.toNat (false,pv))).bind λyf=>cond (aY 0 yf) (cond (small (List.length bw+List.length ([(x2,(List.getD bc (0:Int).toNat (0:Int),((2:Int),(eR,()))))]))) (kC (W .i64 (x2+1)) x3 x4 x8 (bw++([(x2,(List.getD bc (0:Int).toNat (0:Int),((2:Int),(eR,()))))])) (W .i64 (a6+1))) (none)) (cond (small (List.length bw+List.length ([(x2,(List.getD bc (0:Int).toNat (0:Int),((1:Int),(eR,()))))]))) (kC (W .i64 (x2+1)) x3 x4 x8 (bw++([(x2,(List.getD bc (0:Int).toNat (0:Int),((1:Int),(eR,()))))])) (W .i64 (a6+1))) (none))) (none)) (none))
def iS.A8(N:Nat)(kC:iS.jE)(x2:Int)(x3:ae)(x4:aq)(x8:pg)(bw:aK)(a6:Int)(bc:List (Int))(eR:Int):Option (aK×(Int)):=iS.uT N kC x2 x3 x4 x8 bw a6 bc eR
def iS.uu(N:Nat)(vl:iS.GK)(kC:iS.jE)(x2:Int)(x3:ae)(x4:aq)(x8:pg)(bw:aK)(a6:Int):Option (aK×(Int)):=
 cond (aY a6 4) ((pa N x3 a6).bind λr3=>cond (ba a6 (List.length x8)) ((WB N (List.getD x8 a6.toNat (false,pv))).bind λr4=>cond (aO (List.length r3:Int) 0) (kC x2 x3 x4 x8 bw (W .i64 (a6+1))) ((jV N x3.2.2.2.2.2.2.1).bind λr6=>(PW N r4 r6).bind λr7=>cond (dk r7 0) (kC x2 x3 x4 x8 bw (W .i64 (a6+1))) (cond (ba 0 (List.length r3)) (cond (ba (List.getD r3 (0:Int).toNat (0:Int)) (List.length x4.2.2.2.2.1)) ((jV N (List.getD x4.2.2.2.2.1 (List.getD r3 (0:Int).toNat (0:Int)).toNat (0:Int))).bind λr9=>(iu N r4 r9).bind λkB=>(wE N kB.1).bind λnV=>cond (!nV.2) (vl x2 x3 x4 x8 bw a6 r3 (1000000000:Int)) (cond (aY 1000000000 nV.1) (vl x2 x3 x4 x8 bw a6 r3 (1000000000:Int)) (vl x2 x3 x4 x8 bw a6 r3 nV.1))) (none)) (none)))) (none)) (some (bw,(0:Int)))
def iS.l6(N:Nat):Nat→iS.jE
 |0,_,_,_,_,_,_=>none
 |n+1,x2,x3,x4,x8,bw,a6=>iS.uu N (iS.A8 N (iS.l6 N n)) (iS.l6 N n) x2 x3 x4 x8 bw a6
def iS.b(N:Nat)(xb:iS.jE)(a0:ae)(a1:aq)(a2:Int):Option (aK×(Int)):=
 (rq N a0 a1).bind λr1=>cond (!aO r1.2 0) (some ([],(1:Int))) (cond (aY a2 1) (some ([],(1:Int))) (cond (aY 1099511627772 a2) (some ([],(1:Int))) (xb a2 a0 a1 r1.1 ([]) (0:Int))))
def iS(N:Nat)(a0:ae)(a1:aq)(a2:Int):Option (aK×(Int)):=iS.b N (iS.l6 N N) a0 a1 a2
def aaK(N:Nat)(a0:bO):Option (Bool):=
 cond (dk 1 a0.1) (cond (dk a0.1 1099511627776) (cond (dk 0 a0.2.1) (cond (aY a0.2.1 6) (cond (aO a0.2.2.1 1) (cond (dk 1 a0.2.2.2.1) (some (dk a0.2.2.2.1 1000000000)) (some false)) (cond (aO a0.2.2.1 2) (cond (dk 1 a0.2.2.2.1) (some (dk a0.2.2.2.1 1000000000)) (some false)) (some false))) (some false)) (some false)) (some false)) (some false)
abbrev pK.YA:=Int→ae→aq→bO→aq→bO→sW→Option (aq×bO×(Int))
def pK.NM(N:Nat)(x4:Int)(x6:ae)(x7:aq)(x8:bO)(bc:aq)(bZ:bO)(fy:sW):Option (aq×bO×(Int)):=
 (gz N x6 x7 ([fy])).bind λr6=>cond (!aO r6.2 0) (some ((ck,(c9,(bH,(bH,(dC,(dT,())))))),aV,r6.2)) (some (r6.1,(x8.1,(x8.2.1,(x8.2.2.1,((W .i64 (x8.2.2.2.1-x4)),x8.2.2.2.2)))),(0:Int)))
def pK.Vp(N:Nat)(x4:Int)(x6:ae)(x7:aq)(x8:bO)(bc:aq)(bZ:bO)(fy:sW):Option (aq×bO×(Int)):=pK.NM N x4 x6 x7 x8 bc bZ fy
def pK.b(N:Nat)(On:pK.YA)(a0:ae)(a1:aq)(a2:bO)(a3:Int)(a4:Int)(a5:Int):Option (aq×bO×(Int)):=
 (fZ N a0 a1).bind λr1=>cond (!r1) (some ((ck,(c9,(bH,(bH,(dC,(dT,())))))),aV,(1:Int))) ((aaK N a2).bind λr2=>cond (!r2) (some ((ck,(c9,(bH,(bH,(dC,(dT,())))))),aV,(1:Int))) (cond (aY a4 1) (some ((ck,(c9,(bH,(bH,(dC,(dT,())))))),aV,(1:Int))) (cond (aY 1000000000 a4) (some ((ck,(c9,(bH,(bH,(dC,(dT,())))))),aV,(1:Int))) (cond (aY a5 1) (some ((ck,(c9,(bH,(bH,(dC,(dT,())))))),aV,(1:Int))) (cond (aY 1000000000000 a5) (some ((ck,(c9,(bH,(bH,(dC,(dT,())))))),aV,(1:Int))) (cond (aY a2.2.2.2.1 a4) (some ((ck,(c9,(bH,(bH,(dC,(dT,())))))),aV,(9:Int))) (cond (aY a3 1) (some ((ck,(c9,(bH,(bH,(dC,(dT,())))))),aV,(1:Int))) (cond (aY 24 a3) (some ((ck,(c9,(bH,(bH,(dC,(dT,())))))),aV,(1:Int))) ((Xv N a0 a1 (a2.1,(a3,(a2.2.1,((W .i64 ((3:Int)-a2.2.2.1)),(a4,(a5,()))))))).bind λr4=>cond (!aO r4 0) (some ((ck,(c9,(bH,(bH,(dC,(dT,())))))),aV,r4)) (cond (aO a2.2.2.1 2) (On a4 a0 a1 a2 (ck,(c9,(bH,(bH,(dC,(dT,())))))) aV (a3,((0:Int),(a2.2.1,(a4,(a5,())))))) (On a4 a0 a1 a2 (ck,(c9,(bH,(bH,(dC,(dT,())))))) aV ((0:Int),(a3,(a2.2.1,(a4,(a5,()))))))))))))))))
def pK(N:Nat)(a0:ae)(a1:aq)(a2:bO)(a3:Int)(a4:Int)(a5:Int):Option (aq×bO×(Int)):=pK.b N (pK.Vp N) a0 a1 a2 a3 a4 a5
abbrev nK.bM:=ae→aQ→gP→aQ→db→aK→Bool→Int→Int→Option (aQ×db)
def nK.ei(N:Nat)(bQ:nK.bM)(x3:ae)(x4:aQ)(x5:gP)(x6:aQ)(x7:db)(x8:aK)(x9:Bool)(bw:Int)(a6:Int):Option (aQ×db):=
 cond (aY a6 (List.length x4.2.2.2.1.2.2.2.2.1:Int)) (cond (ba a6 (List.length x4.2.2.2.1.2.2.2.2.1)) (cond (aO ((List.getD x4.2.2.2.1.2.2.2.2.1 a6.toNat aV).1) x5.2.2.2.2.2.1) ((pK N x3 x4.2.2.1 (List.getD x4.2.2.2.1.2.2.2.2.1 a6.toNat aV) x5.2.2.1 x5.2.2.2.2.2.2.1 x5.2.2.2.2.2.2.2.1).bind λr2=>cond (!aO r2.2.2 0) ((fx N r2.2.2).bind λr3=>some (x4,r3)) (cond (aY 0 r2.2.1.2.2.2.1) (cond (small (List.length x8+List.length ([r2.2.1]))) (bQ x3 (x4.1,(x4.2.1,(r2.1,x4.2.2.2))) x5 x6 x7 (x8++([r2.2.1])) true r2.2.1.2.2.2.1 (W .i64 (a6+1))) (none)) (bQ x3 (x4.1,(x4.2.1,(r2.1,x4.2.2.2))) x5 x6 x7 x8 true r2.2.1.2.2.2.1 (W .i64 (a6+1))))) (cond (aY 0 (((((List.getD x4.2.2.2.1.2.2.2.2.1 a6.toNat aV).2).2).2).1)) (cond (small (List.length x8+List.length ([List.getD x4.2.2.2.1.2.2.2.2.1 a6.toNat aV]))) (bQ x3 x4 x5 x6 x7 (x8++([List.getD x4.2.2.2.1.2.2.2.2.1 a6.toNat aV])) x9 bw (W .i64 (a6+1))) (none)) (bQ x3 x4 x5 x6 x7 x8 x9 bw (W .i64 (a6+1))))) (none)) (cond (!x9) ((fx N (3:Int)).bind λkB=>some (x4,kB)) (some ((x4.1,(x4.2.1,(x4.2.2.1,((x4.2.2.2.1.1,(x4.2.2.2.1.2.1,(x4.2.2.2.1.2.2.1,(x4.2.2.2.1.2.2.2.1,(x8,x4.2.2.2.1.2.2.2.2.2))))),x4.2.2.2.2)))),((0:Int),((0:Int),(bw,()))))))
def nK.l5(N:Nat):Nat→nK.bM
 |0,_,_,_,_,_,_,_,_,_=>none
 |n+1,x3,x4,x5,x6,x7,x8,x9,bw,a6=>nK.ei N (nK.l5 N n) x3 x4 x5 x6 x7 x8 x9 bw a6
def nK.b(N:Nat)(eW:nK.bM)(a0:ae)(a1:aQ)(a2:gP):Option (aQ×db):=
 eW a0 a1 a2 ((0:Int),((0:Int),((ck,(c9,(bH,(bH,(dC,(dT,())))))),(((0:Int),((0:Int),((0:Int),((0:Int),(c9,(([]:List ((Int)×((List ((Int)×((Int)×(Unit))))×((Int)×((Int)×((Int)×((Int)×(Unit)))))))),(c9,(dC,(ck,(ck,())))))))))),(((0:Int),((0:Int),(C8,((0:Int),())))),()))))) bh ([]) false (0:Int) (0:Int)
def nK(N:Nat)(a0:ae)(a1:aQ)(a2:gP):Option (aQ×db):=nK.b N (nK.l5 N N) a0 a1 a2
abbrev ry.bE:=Int→aH→Int→Option (Int)
def ry.dw(N:Nat)(cr:ry.bE)(x1:Int)(x2:aH)(x5:Int):Option (Int):=
 cond (aY x5 3) ((jV N x5).bind λr3=>(jV N x1).bind λr4=>(jS N r3 r4).bind λr5=>(PW N r5 x2).bind λr6=>cond (aY r6 0) (cr x1 x2 (W .i64 (x5+1))) (some x5)) (some x5)
def ry.l4(N:Nat):Nat→ry.bE
 |0,_,_,_=>none
 |n+1,x1,x2,x5=>ry.dw N (ry.l4 N n) x1 x2 x5
def ry.b(N:Nat)(eH:ry.bE)(a0:aH)(a1:Int):Option (Int):=
 (R2 N a0).bind λr1=>cond (dk r1 0) (some (0:Int)) (cond (aY a1 1) (some (0:Int)) (eH a1 a0 (1:Int)))
def ry(N:Nat)(a0:aH)(a1:Int):Option (Int):=ry.b N (ry.l4 N N) a0 a1
abbrev pI.bE:=(List (Int))→Int→Option (Bool)
def pI.dw(N:Nat)(cr:pI.bE)(x1:List (Int))(x5:Int):Option (Bool):=
 cond (aY x5 (List.length x1:Int)) (cond (ba x5 (List.length x1)) (cond (aY (List.getD x1 x5.toNat (0:Int)) (0:Int)) (some true) (cr x1 (W .i64 (x5+1)))) (none)) (some false)
def pI.l4(N:Nat):Nat→pI.bE
 |0,_,_=>none
 |n+1,x1,x5=>pI.dw N (pI.l4 N n) x1 x5
def pI.b(N:Nat)(eH:pI.bE)(a0:Int)(a1:List (Int)):Option (Bool):=
 cond (aY a0 0) (some true) (cond (aY 64 (List.length a1:Int)) (some true) (eH a1 (0:Int)))
def pI(N:Nat)(a0:Int)(a1:List (Int)):Option (Bool):=pI.b N (pI.l4 N N) a0 a1
abbrev pB.dY:=(List (Int))→aH→aH→Int→Option aH
def pB.nO(N:Nat)(dp:pB.dY)(x0:List (Int))(x2:aH)(x3:aH)(x4:Int):Option aH:=
 cond (aY x4 (List.length x0:Int)) (cond (ba x4 (List.length x0)) ((jV N (List.getD x0 x4.toNat (0:Int))).bind λr2=>(zd N x3 r2).bind λr3=>dp x0 x2 r3 (W .i64 (x4+1))) (none)) (some x3)
def pB.l3(N:Nat):Nat→pB.dY
 |0,_,_,_,_=>none
 |n+1,x0,x2,x3,x4=>pB.nO N (pB.l3 N n) x0 x2 x3 x4
def pB.b(N:Nat)(oE:pB.dY)(a0:List (Int)):Option aH:=
 oE a0 (false,pv) (false,pv) (0:Int)
def pB(N:Nat)(a0:List (Int)):Option aH:=pB.b N (pB.l3 N N) a0
abbrev fB.YB:=(List (Int))→(List (Int))→Int→Int→Option (List (Int))
abbrev fB.jE:=(List (Int))→(List (Int))→Int→Int→Option (List (Int))
abbrev fB.dY:=(List (Int))→(List (Int))→Int→Option (List (Int))
def fB.W2(N:Nat)(dp:fB.dY)(x0:List (Int))(x3:List (Int))(x4:Int)(x5:Int):Option (List (Int)):=
 cond (ka 0 x5 (List.length x3:Int) (List.length x3:Int)) (let v5:List (Int):=List.drop (0:Int).toNat (List.take x5.toNat x3);cond (small (List.length v5)) (cond (small (List.length v5+List.length ([x4]))) (let v6:List (Int):=v5++([x4]);cond (ka x5 (List.length x3:Int) (List.length x3:Int) (List.length x3:Int)) (let v7:List (Int):=List.drop x5.toNat (List.take (List.length x3:Int).toNat x3);cond (small (List.length v6+List.length v7)) (dp x0 (v6++v7) (W .i64 (x4+1))) (none)) (none)) (none)) (none)) (none)
def fB.j8(N:Nat)(dp:fB.dY)(x0:List (Int))(x3:List (Int))(x4:Int)(x5:Int):Option (List (Int)):=fB.W2 N dp x0 x3 x4 x5
def fB.uu(N:Nat)(Oo:fB.YB)(dp:fB.dY)(kC:fB.jE)(x0:List (Int))(x3:List (Int))(x4:Int)(x5:Int):Option (List (Int)):=
 cond (aY x5 (List.length x3:Int)) (cond (ba x5 (List.length x3)) (cond (ba (List.getD x3 x5.toNat (0:Int)) (List.length x0)) (cond (ba x4 (List.length x0)) (cond (dk (List.getD x0 x4.toNat (0:Int)) (List.getD x0 (List.getD x3 x5.toNat (0:Int)).toNat (0:Int))) (kC x0 x3 x4 (W .i64 (x5+1))) (Oo x0 x3 x4 x5)) (none)) (none)) (none)) (Oo x0 x3 x4 x5)
def fB.l6(N:Nat)(dp:fB.dY):Nat→fB.jE
 |0,_,_,_,_=>none
 |n+1,x0,x3,x4,x5=>fB.uu N (fB.j8 N dp) dp (fB.l6 N dp n) x0 x3 x4 x5
def fB.nO(N:Nat)(xb:fB.jE)(dp:fB.dY)(x0:List (Int))(x3:List (Int))(x4:Int):Option (List (Int)):=
 cond (aY x4 (List.length x0:Int)) (xb x0 x3 x4 (0:Int)) (some x3)
def fB.l3(N:Nat):Nat→fB.dY
 |0,_,_,_=>none
 |n+1,x0,x3,x4=>fB.nO N (fB.l6 N (fB.l3 N n) N) (fB.l3 N n) x0 x3 x4
def fB.b(N:Nat)(oE:fB.dY)(a0:List (Int)):Option (List (Int)):=
 oE a0 ([]) (0:Int)
def fB(N:Nat)(a0:List (Int)):Option (List (Int)):=fB.b N (fB.l3 N N) a0
abbrev fN.rM:=(List (Int))→Int→(List (Int))→Int→Option ((List (Int))×(Int))
abbrev fN.xi:=Int→(List (Int))→aH→(List (Int))→(List (Int))→Int→Int→Option ((List (Int))×(Int))
abbrev fN.YD:=Int→(List (Int))→aH→Option ((List (Int))×(Int))
def fN.vw(N:Nat)(GC:fN.rM)(x9:List (Int))(a6:Int)(dQ:List (Int))(eR:Int):Option ((List (Int))×(Int)):=
 cond (aY eR (List.length dQ:Int)) (cond (aY 0 a6) (cond (ba eR (List.length dQ)) (cond (ba (List.getD dQ eR.toNat (0:Int)) (List.length x9)) (cond (ba (List.getD dQ eR.toNat (0:Int)) (List.length x9)) (GC (List.set x9 (List.getD dQ eR.toNat (0:Int)).toNat (W .i64 ((List.getD x9 (List.getD dQ eR.toNat (0:Int)).toNat (0:Int))+1))) (W .i64 (a6-1)) dQ (W .i64 (eR+1))) (none)) (none)) (none)) (some (x9,(0:Int)))) (some (x9,(0:Int)))
def fN.wO(N:Nat):Nat→fN.rM
 |0,_,_,_,_=>none
 |n+1,x9,a6,dQ,eR=>fN.vw N (fN.wO N n) x9 a6 dQ eR
def fN.FY(N:Nat)(GD:fN.rM)(C3:fN.xi)(x0:Int)(x1:List (Int))(x6:aH)(x9:List (Int))(bw:List (Int))(a6:Int)(bc:Int):Option ((List (Int))×(Int)):=
 cond (aY bc (List.length x1:Int)) ((jV N x0).bind λkB=>cond (ba bc (List.length x1)) ((jV N (List.getD x1 bc.toNat (0:Int))).bind λnV=>(jS N kB nV).bind λoR=>(iu N oR x6).bind λqw=>(wE N qw.1).bind λyf=>cond (ba bc (List.length x9)) (let v15:List (Int):=List.set x9 bc.toNat yf.1;(wE N qw.2).bind λxP=>cond (ba bc (List.length bw)) (cond (ba bc (List.length v15)) (C3 x0 x1 x6 v15 (List.set bw bc.toNat xP.1) (W .i64 (a6-(List.getD v15 bc.toNat (0:Int)))) (W .i64 (bc+1))) (none)) (none)) (none)) (none)) ((fB N bw).bind λOt=>GD x9 a6 Ot (0:Int))
def fN.IZ(N:Nat):Nat→fN.xi
 |0,_,_,_,_,_,_,_=>none
 |n+1,x0,x1,x6,x9,bw,a6,bc=>fN.FY N (fN.wO N N) (fN.IZ N n) x0 x1 x6 x9 bw a6 bc
def fN.TP(N:Nat)(Oz:fN.xi)(x0:Int)(x1:List (Int))(x6:aH):Option ((List (Int))×(Int)):=
 (wE N x6).bind λr5=>cond (!r5.2) (some ([],(2:Int))) (cond (jZ (List.length x1:Int) (List.length x1:Int)) (let v6:List (Int):=List.replicate (List.length x1:Int).toNat (0:Int);cond (jZ (List.length x1:Int) (List.length x1:Int)) ((R2 N x6).bind λr8=>cond (aO r8 0) (some (v6,(0:Int))) (Oz x0 x1 x6 v6 (List.replicate (List.length x1:Int).toNat (0:Int)) x0 (0:Int))) (none)) (none))
def fN.j6(N:Nat)(x0:Int)(x1:List (Int))(x6:aH):Option ((List (Int))×(Int)):=fN.TP N (fN.IZ N N) x0 x1 x6
def fN.b(N:Nat)(Lc:fN.YD)(a0:Int)(a1:List (Int)):Option ((List (Int))×(Int)):=
 (pI N a0 a1).bind λr1=>cond (r1) (some ([],(1:Int))) ((pB N a1).bind λr2=>(R2 N r2).bind λr3=>cond (aO r3 0) (cond (!aO a0 0) (some ([],(1:Int))) (Lc a0 a1 r2)) (Lc a0 a1 r2))
def fN(N:Nat)(a0:Int)(a1:List (Int)):Option ((List (Int))×(Int)):=fN.b N (fN.j6 N) a0 a1
abbrev rm.bM:=Int→Int→(List (Int))→Int→Option ((List (Int))×(Int))
def rm.ei(N:Nat)(bQ:rm.bM)(x0:Int)(x1:Int)(x6:List (Int))(x7:Int):Option ((List (Int))×(Int)):=
 cond (aY x7 x1) (cond (ba x7 (List.length x6)) (bQ x0 x1 (List.set x6 x7.toNat (1:Int)) (W .i64 (x7+1))) (none)) ((fN N x0 x6).bind λr5=>some (r5.1,r5.2))
def rm.l5(N:Nat):Nat→rm.bM
 |0,_,_,_,_=>none
 |n+1,x0,x1,x6,x7=>rm.ei N (rm.l5 N n) x0 x1 x6 x7
def rm.b(N:Nat)(eW:rm.bM)(a0:Int)(a1:Int):Option ((List (Int))×(Int)):=
 cond (aY a0 0) (some ([],(1:Int))) (cond (aY a1 1) (some ([],(1:Int))) (cond (aY 64 a1) (some ([],(1:Int))) (cond (jZ a1 a1) (eW a0 a1 (List.replicate a1.toNat (0:Int)) (0:Int)) (none))))
def rm(N:Nat)(a0:Int)(a1:Int):Option ((List (Int))×(Int)):=rm.b N (rm.l5 N N) a0 a1
abbrev bT.anz:=Int→ae→aD→bz→Int→aD→Int→Int→ir→aD→Int→(List (Int))→Option (bz×(Int))
abbrev bT.YI:=Int→ae→aD→bz→Int→aD→Int→Int→ir→aD→Int→Int→Option (bz×(Int))
abbrev bT.xe:=Int→ae→aD→bz→Int→aD→Int→Int→ir→aD→Int→Option (bz×(Int))
abbrev bT.tR:=Int→ae→aD→bz→Int→aD→Int→Int→Option (bz×(Int))
abbrev bT.fX:=Int→ae→aD→bz→Int→aD→aH→Int→Option (bz×(Int))
abbrev bT.gQ:=Int→ae→aD→bz→Int→Option (bz×(Int))
def bT.aim(N:Nat)(e7:bT.gQ)(mJ:bT.tR)(vm:bT.xe)(x2:Int)(x3:ae)(x8:aD)(x9:bz)(bw:Int)(a6:aD)(cw:Int)(dQ:Int)(eR:ir)(u5:aD)(fy:Int)(nP:List (Int)):Option (bz×(Int)):=
 cond (ba dQ (List.length nP)) (cond (!aO (List.getD nP dQ.toNat (0:Int)) (0:Int)) (cond (ba fy (List.length a6)) (cond (ba dQ (List.length nP)) (cond (small (List.length u5+List.length ([((List.getD a6 fy.toNat cA).1,(List.getD nP dQ.toNat (0:Int),()))]))) (vm x2 x3 x8 x9 bw a6 cw dQ (eR.1,(ck,eR.2.2)) (u5++([((List.getD a6 fy.toNat cA).1,(List.getD nP dQ.toNat (0:Int),()))])) (W .i64 (fy+1))) (none)) (none)) (none)) (vm x2 x3 x8 x9 bw a6 cw dQ eR u5 (W .i64 (fy+1)))) (none)
def bT.j32(N:Nat)(e7:bT.gQ)(mJ:bT.tR)(vm:bT.xe)(x2:Int)(x3:ae)(x8:aD)(x9:bz)(bw:Int)(a6:aD)(cw:Int)(dQ:Int)(eR:ir)(u5:aD)(fy:Int)(nP:List (Int)):Option (bz×(Int)):=bT.aim N e7 mJ vm x2 x3 x8 x9 bw a6 cw dQ eR u5 fy nP
def bT.NV(N:Nat)(agt:bT.anz)(e7:bT.gQ)(mJ:bT.tR)(vm:bT.xe)(x2:Int)(x3:ae)(x8:aD)(x9:bz)(bw:Int)(a6:aD)(cw:Int)(dQ:Int)(eR:ir)(u5:aD)(fy:Int)(mQ:Int):Option (bz×(Int)):=
 (rm N mQ cw).bind λxP=>cond (ba fy (List.length a6)) (cond (aY (((List.getD a6 fy.toNat cA).2).1) (0:Int)) (cond (ba dQ (List.length xP.1)) (cond (ba dQ (List.length xP.1)) (agt x2 x3 x8 x9 bw a6 cw dQ eR u5 fy (List.set xP.1 dQ.toNat (W .i64 (0-(List.getD xP.1 dQ.toNat (0:Int)))))) (none)) (none)) (agt x2 x3 x8 x9 bw a6 cw dQ eR u5 fy xP.1)) (none)
def bT.UA(N:Nat)(e7:bT.gQ)(mJ:bT.tR)(vm:bT.xe)(x2:Int)(x3:ae)(x8:aD)(x9:bz)(bw:Int)(a6:aD)(cw:Int)(dQ:Int)(eR:ir)(u5:aD)(fy:Int)(mQ:Int):Option (bz×(Int)):=bT.NV N (bT.j32 N e7 mJ vm) e7 mJ vm x2 x3 x8 x9 bw a6 cw dQ eR u5 fy mQ
def bT.NQ(N:Nat)(OB:bT.YI)(e7:bT.gQ)(mJ:bT.tR)(vm:bT.xe)(x2:Int)(x3:ae)(x8:aD)(x9:bz)(bw:Int)(a6:aD)(cw:Int)(dQ:Int)(eR:ir)(u5:aD)(fy:Int):Option (bz×(Int)):=
 cond (aY fy (List.length a6:Int)) (cond (ba fy (List.length a6)) (cond (aY (((List.getD a6 fy.toNat cA).2).1) (0:Int)) (OB x2 x3 x8 x9 bw a6 cw dQ eR u5 fy (W .i64 (0-(((List.getD a6 fy.toNat cA).2).1)))) (OB x2 x3 x8 x9 bw a6 cw dQ eR u5 fy (((List.getD a6 fy.toNat cA).2).1))) (none)) (cond (aO (List.length u5:Int) 0) (mJ x2 x3 x8 x9 bw a6 cw (W .i64 (dQ+1))) ((QF N x3 u5).bind λLA=>(TQ N LA.1).bind λHa=>(wE N Ha).bind λC1=>cond (!C1.2) (some ([],(2:Int))) (cond (small (List.length x9+List.length ([(eR.1,(u5,(C1.1,eR.2.2.2)))]))) (mJ (W .i64 (x2+1)) x3 x8 (x9++([(eR.1,(u5,(C1.1,eR.2.2.2)))])) bw a6 cw (W .i64 (dQ+1))) (none))))
def bT.Lw(N:Nat)(e7:bT.gQ)(mJ:bT.tR):Nat→bT.xe
 |0,_,_,_,_,_,_,_,_,_,_,_=>none
 |n+1,x2,x3,x8,x9,bw,a6,cw,dQ,eR,u5,fy=>bT.NQ N (bT.UA N e7 mJ (bT.Lw N e7 mJ n)) e7 mJ (bT.Lw N e7 mJ n) x2 x3 x8 x9 bw a6 cw dQ eR u5 fy
def bT.NU(N:Nat)(YH:bT.xe)(e7:bT.gQ)(mJ:bT.tR)(x2:Int)(x3:ae)(x8:aD)(x9:bz)(bw:Int)(a6:aD)(cw:Int)(dQ:Int):Option (bz×(Int)):=
 cond (aY dQ cw) (YH x2 x3 x8 x9 bw a6 cw dQ (x2,(ck,((0:Int),((1:Int),cA)))) ck (0:Int)) (e7 x2 x3 x8 x9 (W .i64 (bw+1)))
def bT.HQ(N:Nat)(e7:bT.gQ):Nat→bT.tR
 |0,_,_,_,_,_,_,_,_=>none
 |n+1,x2,x3,x8,x9,bw,a6,cw,dQ=>bT.NU N (bT.Lw N e7 (bT.HQ N e7 n) N) e7 (bT.HQ N e7 n) x2 x3 x8 x9 bw a6 cw dQ
def bT.mP(N:Nat)(YJ:bT.tR)(e7:bT.gQ)(gO:bT.fX)(x2:Int)(x3:ae)(x8:aD)(x9:bz)(bw:Int)(a6:aD)(bc:aH)(bZ:Int):Option (bz×(Int)):=
 cond (aY bZ (List.length x8:Int)) (cond (ba bZ (List.length x8)) (cond (ba ((List.getD x8 bZ.toNat cA).1) (List.length x3.1)) (cond (aO ((List.getD x3.1 ((List.getD x8 bZ.toNat cA).1).toNat aV).1) bw) (cond (ba bZ (List.length x8)) (cond (small (List.length a6+List.length ([List.getD x8 bZ.toNat cA]))) (cond (ba bZ (List.length x8)) ((jV N (((List.getD x8 bZ.toNat cA).2).1)).bind λr6=>(WB N r6).bind λr7=>(zd N bc r7).bind λr8=>gO x2 x3 x8 x9 bw (a6++([List.getD x8 bZ.toNat cA])) r8 (W .i64 (bZ+1))) (none)) (none)) (none)) (gO x2 x3 x8 x9 bw a6 bc (W .i64 (bZ+1)))) (none)) (none)) ((ry N bc x3.2.2.2.2.2.1).bind λnV=>YJ x2 x3 x8 x9 bw a6 nV (0:Int))
def bT.nT(N:Nat)(e7:bT.gQ):Nat→bT.fX
 |0,_,_,_,_,_,_,_,_=>none
 |n+1,x2,x3,x8,x9,bw,a6,bc,bZ=>bT.mP N (bT.HQ N e7 N) e7 (bT.nT N e7 n) x2 x3 x8 x9 bw a6 bc bZ
def bT.yc(N:Nat)(tQ:bT.fX)(e7:bT.gQ)(x2:Int)(x3:ae)(x8:aD)(x9:bz)(bw:Int):Option (bz×(Int)):=
 cond (aY bw 4) (tQ x2 x3 x8 x9 bw ([]) (false,pv) (0:Int)) (some (x9,(0:Int)))
def bT.l8(N:Nat):Nat→bT.gQ
 |0,_,_,_,_,_=>none
 |n+1,x2,x3,x8,x9,bw=>bT.yc N (bT.nT N (bT.l8 N n) N) (bT.l8 N n) x2 x3 x8 x9 bw
def bT.b(N:Nat)(B1:bT.gQ)(a0:ae)(a1:aq)(a2:Int):Option (bz×(Int)):=
 (fZ N a0 a1).bind λr1=>cond (!r1) (some ([],(1:Int))) (cond (aY a2 1) (some ([],(1:Int))) (cond (aY 1099511627764 a2) (some ([],(1:Int))) ((lE N a1.2.2.2.1 (0:Int)).bind λr2=>cond (aO (List.length r2:Int) 0) (some ([],(3:Int))) (B1 a2 a0 r2 ([]) (0:Int)))))
def bT(N:Nat)(a0:ae)(a1:aq)(a2:Int):Option (bz×(Int)):=bT.b N (bT.l8 N N) a0 a1 a2
abbrev rz.bM:=aq→(List (Int))→Int→Option ((List (Int))×(Int))
def rz.ei(N:Nat)(bQ:rz.bM)(x3:aq)(x6:List (Int))(x7:Int):Option ((List (Int))×(Int)):=
 cond (aY x7 (List.length x3.1:Int)) (cond (ba x7 (List.length x3.1)) (cond (aO (((List.getD x3.1 x7.toNat cA).2).1) (1:Int)) (cond (ba x7 (List.length x3.1)) ((uI N x3.2.2.1 (6:Int) ((List.getD x3.1 x7.toNat cA).1)).bind λr3=>cond (aY 0 r3) (cond (ba x7 (List.length x3.1)) (cond (small (List.length x6+List.length ([(List.getD x3.1 x7.toNat cA).1]))) (bQ x3 (x6++([(List.getD x3.1 x7.toNat cA).1])) (W .i64 (x7+1))) (none)) (none)) (bQ x3 x6 (W .i64 (x7+1)))) (none)) (bQ x3 x6 (W .i64 (x7+1)))) (none)) (some (x6,(0:Int)))
def rz.l5(N:Nat):Nat→rz.bM
 |0,_,_,_=>none
 |n+1,x3,x6,x7=>rz.ei N (rz.l5 N n) x3 x6 x7
def rz.b(N:Nat)(eW:rz.bM)(a0:ae)(a1:aq):Option ((List (Int))×(Int)):=
 (fZ N a0 a1).bind λr1=>cond (!r1) (some ([],(1:Int))) (eW a1 ([]) (0:Int))
def rz(N:Nat)(a0:ae)(a1:aq):Option ((List (Int))×(Int)):=rz.b N (rz.l5 N N) a0 a1
abbrev iQ.Rg:=bz→ae→Int→ir→Option (Bool)
abbrev iQ.bE:=bz→ae→Int→Option (Bool)
def iQ.Nd(N:Nat)(cr:iQ.bE)(x1:bz)(x2:ae)(x5:Int)(x6:ir):Option (Bool):=
 cond (aO x6.2.2.2.1 1) (cond (!aO x6.2.2.2.2.1 0) (some false) (cond (!aO x6.2.2.2.2.2.1 0) (some false) (cr x1 x2 (W .i64 (x5+1))))) (cond (aO x6.2.2.2.1 3) (cond (!aO x6.2.2.2.2.1 0) (some false) (cond (!aO x6.2.2.2.2.2.1 0) (some false) (cr x1 x2 (W .i64 (x5+1))))) (cond (aO x6.2.2.2.1 2) (cond (aY x6.2.2.2.2.1 1) (some false) (cond (aY 12 x6.2.2.2.2.1) (some false) (cond (aY x6.2.2.2.2.2.1 (-1152921504606846976)) (some false) (cond (aY 1152921504606846976 x6.2.2.2.2.2.1) (some false) (cr x1 x2 (W .i64 (x5+1))))))) (some false)))
def iQ.j9(N:Nat)(cr:iQ.bE)(x1:bz)(x2:ae)(x5:Int)(x6:ir):Option (Bool):=iQ.Nd N cr x1 x2 x5 x6
def iQ.dw(N:Nat)(GJ:iQ.Rg)(cr:iQ.bE)(x1:bz)(x2:ae)(x5:Int):Option (Bool):=
 cond (aY x5 (List.length x1:Int)) (cond (ba x5 (List.length x1)) (cond (aY ((List.getD x1 x5.toNat ((0:Int),(ck,aV))).1) (1:Int)) (some false) (cond (aY 1099511627776 ((List.getD x1 x5.toNat ((0:Int),(ck,aV))).1)) (some false) (cond (aY 0 x5) (let v3:Int:=W .i64 (x5-1);cond (ba v3 (List.length x1)) (cond (dk ((List.getD x1 x5.toNat ((0:Int),(ck,aV))).1) ((List.getD x1 v3.toNat ((0:Int),(ck,aV))).1)) (some false) (cond (aO (List.length (((List.getD x1 x5.toNat ((0:Int),(ck,aV))).2).1):Int) (0:Int)) (some false) ((nr N x2 (((List.getD x1 x5.toNat ((0:Int),(ck,aV))).2).1)).bind λr4=>cond (!r4) (some false) (cond (aY 0 ((((List.getD x1 x5.toNat ((0:Int),(ck,aV))).2).2).1)) (some false) (GJ x1 x2 x5 (List.getD x1 x5.toNat ((0:Int),(ck,aV)))))))) (none)) (cond (aO (List.length (((List.getD x1 x5.toNat ((0:Int),(ck,aV))).2).1):Int) (0:Int)) (some false) ((nr N x2 (((List.getD x1 x5.toNat ((0:Int),(ck,aV))).2).1)).bind λr9=>cond (!r9) (some false) (cond (aY 0 ((((List.getD x1 x5.toNat ((0:Int),(ck,aV))).2).2).1)) (some false) (GJ x1 x2 x5 (List.getD x1 x5.toNat ((0:Int),(ck,aV)))))))))) (none)) (some true)
def iQ.l4(N:Nat):Nat→iQ.bE
 |0,_,_,_=>none
 |n+1,x1,x2,x5=>iQ.dw N (iQ.j9 N (iQ.l4 N n)) (iQ.l4 N n) x1 x2 x5
def iQ.b(N:Nat)(eH:iQ.bE)(a0:ae)(a1:bz):Option (Bool):=
 (me N a0).bind λr1=>cond (!r1) (some false) (cond (aY 12 (List.length a1:Int)) (some false) (eH a1 a0 (0:Int)))
def iQ(N:Nat)(a0:ae)(a1:bz):Option (Bool):=iQ.b N (iQ.l4 N N) a0 a1
abbrev qd.dd:=bz→Int→ir→Int→Option (ir×(Bool))
def qd.gJ(N:Nat)(eE:qd.dd)(x0:bz)(x1:Int)(x4:ir)(x6:Int):Option (ir×(Bool)):=
 cond (aY x6 (List.length x0:Int)) (cond (ba x6 (List.length x0)) (cond (aO ((List.getD x0 x6.toNat ((0:Int),(ck,aV))).1) x1) (cond (ba x6 (List.length x0)) (some (List.getD x0 x6.toNat ((0:Int),(ck,aV)),true)) (none)) (eE x0 x1 x4 (W .i64 (x6+1)))) (none)) (some (((0:Int),(ck,aV)),false))
def qd.l2(N:Nat):Nat→qd.dd
 |0,_,_,_,_=>none
 |n+1,x0,x1,x4,x6=>qd.gJ N (qd.l2 N n) x0 x1 x4 x6
def qd.b(N:Nat)(jn:qd.dd)(a0:bz)(a1:Int):Option (ir×(Bool)):=
 jn a0 a1 ((0:Int),(ck,aV)) (0:Int)
def qd(N:Nat)(a0:bz)(a1:Int):Option (ir×(Bool)):=qd.b N (qd.l2 N N) a0 a1
abbrev eQ.jx:=aD→aD→aD→Int→aH→Int→Option (aD×(Bool))
abbrev eQ.fu:=aD→aD→aD→Int→aH→Int→Option (aD×(Bool))
abbrev eQ.dY:=aD→aD→aD→Int→Option (aD×(Bool))
def eQ.pF(N:Nat)(dp:eQ.dY)(lI:eQ.jx)(x0:aD)(x1:aD)(x6:aD)(x7:Int)(x8:aH)(bw:Int):Option (aD×(Bool)):=
 cond (aY bw (List.length x1:Int)) (cond (ba bw (List.length x1)) (cond (aO ((List.getD x1 bw.toNat cA).1) x7) (cond (ba bw (List.length x1)) ((jV N (((List.getD x1 bw.toNat cA).2).1)).bind λr8=>(zd N x8 r8).bind λr9=>lI x0 x1 x6 x7 r9 (W .i64 (bw+1))) (none)) (lI x0 x1 x6 x7 x8 (W .i64 (bw+1)))) (none)) ((Qx N x8).bind λoR=>cond (!oR.2) (some ([],false)) (cond (!aO oR.1 0) (cond (small (List.length x6+List.length ([(x7,(oR.1,()))]))) (dp x0 x1 (x6++([(x7,(oR.1,()))])) (W .i64 (x7+1))) (none)) (dp x0 x1 x6 (W .i64 (x7+1)))))
def eQ.p8(N:Nat)(dp:eQ.dY):Nat→eQ.jx
 |0,_,_,_,_,_,_=>none
 |n+1,x0,x1,x6,x7,x8,bw=>eQ.pF N dp (eQ.p8 N dp n) x0 x1 x6 x7 x8 bw
def eQ.q4(N:Nat)(xd:eQ.jx)(dp:eQ.dY)(eN:eQ.fu)(x0:aD)(x1:aD)(x6:aD)(x7:Int)(x8:aH)(x9:Int):Option (aD×(Bool)):=
 cond (aY x9 (List.length x0:Int)) (cond (ba x9 (List.length x0)) (cond (aO ((List.getD x0 x9.toNat cA).1) x7) (cond (ba x9 (List.length x0)) ((jV N (((List.getD x0 x9.toNat cA).2).1)).bind λr3=>(zd N x8 r3).bind λr4=>eN x0 x1 x6 x7 r4 (W .i64 (x9+1))) (none)) (eN x0 x1 x6 x7 x8 (W .i64 (x9+1)))) (none)) (xd x0 x1 x6 x7 x8 (0:Int))
def eQ.l7(N:Nat)(dp:eQ.dY):Nat→eQ.fu
 |0,_,_,_,_,_,_=>none
 |n+1,x0,x1,x6,x7,x8,x9=>eQ.q4 N (eQ.p8 N dp N) dp (eQ.l7 N dp n) x0 x1 x6 x7 x8 x9
def eQ.nO(N:Nat)(u2:eQ.fu)(dp:eQ.dY)(x0:aD)(x1:aD)(x6:aD)(x7:Int):Option (aD×(Bool)):=
 cond (aY x7 6) (u2 x0 x1 x6 x7 (false,pv) (0:Int)) (some (x6,true))
def eQ.l3(N:Nat):Nat→eQ.dY
 |0,_,_,_,_=>none
 |n+1,x0,x1,x6,x7=>eQ.nO N (eQ.l7 N (eQ.l3 N n) N) (eQ.l3 N n) x0 x1 x6 x7
def eQ.b(N:Nat)(oE:eQ.dY)(a0:aD)(a1:aD):Option (aD×(Bool)):=
 oE a0 a1 ([]) (0:Int)
def eQ(N:Nat)(a0:aD)(a1:aD):Option (aD×(Bool)):=eQ.b N (eQ.l3 N N) a0 a1
def ail(N:Nat)(a0:bq)(a1:Int):Option au:=
 (mN N a0).bind λr1=>cond (!r1) (some ([])) ((g5 N a0 a1).bind λr2=>some r2)
abbrev kT.fX:=aK→ae→aq→bO→ir→Int→Int→Option (Int)
abbrev kT.asF:=bz→aK→ae→aq→bO→Option (Int)
def kT.mP(N:Nat)(gO:kT.fX)(x3:aK)(x5:ae)(x6:aq)(x9:bO)(bc:ir)(cw:Int)(dQ:Int):Option (Int):=
 cond (aY dQ (List.length x3:Int)) (cond (ba dQ (List.length x3)) (cond (aO ((((List.getD x3 dQ.toNat aV).2).2).1) x9.2.2.1) (cond (ba dQ (List.length x3)) (cond (aO (((List.getD x3 dQ.toNat aV).2).1) x9.2.1) (some (4:Int)) (gO x3 x5 x6 x9 bc cw (W .i64 (dQ+1)))) (none)) (gO x3 x5 x6 x9 bc cw (W .i64 (dQ+1)))) (none)) (cond (aO (List.length x3:Int) 40) (some (5:Int)) ((jV N x9.2.2.2.1).bind λqw=>(jV N (4:Int)).bind λyf=>(jV N bc.2.2.1).bind λw8=>(jS N yf w8).bind λxP=>(PW N qw xP).bind λA9=>cond (aY A9 0) (some (11:Int)) ((lE N x6.2.2.2.1 cw).bind λvj=>(eQ N vj bc.2.1).bind λOA=>cond (!OA.2) (some (2:Int)) ((ail N x6.2.2.2.2.2.1 cw).bind λOt=>(qb N x5 OA.1 Ot).bind λEa=>(HH N x6 cw).bind λLb=>(jV N Lb).bind λCZ=>(jV N x9.2.2.2.1).bind λLA=>(R1 N CZ LA).bind λHa=>(PW N Ha Ea.1).bind λC1=>cond (aY C1 0) (some (10:Int)) (some (0:Int))))))
def kT.nT(N:Nat):Nat→kT.fX
 |0,_,_,_,_,_,_,_=>none
 |n+1,x3,x5,x6,x9,bc,cw,dQ=>kT.mP N (kT.nT N n) x3 x5 x6 x9 bc cw dQ
def kT.j3b(N:Nat)(tQ:kT.fX)(x2:bz)(x3:aK)(x5:ae)(x6:aq)(x9:bO):Option (Int):=
 (HO N x6 x9.2.2.1).bind λr7=>cond (aO r7 0) (some (3:Int)) (cond (!aO r7 1) (some (7:Int)) ((qd N x2 x9.2.1).bind λr8=>(mh N x6.2.1 x9.2.2.1).bind λr9=>cond (!r8.2) (some (3:Int)) (cond (!aO r8.1.2.2.2.1 1) (some (3:Int)) (cond (aO r9 0) (some (3:Int)) (tQ x3 x5 x6 x9 r8.1 r9 (0:Int))))))
def kT.j3(N:Nat)(x2:bz)(x3:aK)(x5:ae)(x6:aq)(x9:bO):Option (Int):=kT.j3b N (kT.nT N N) x2 x3 x5 x6 x9
def kT.b(N:Nat)(anA:kT.asF)(a0:ae)(a1:aq)(a2:bz)(a3:aK)(a4:bO):Option (Int):=
 (fZ N a0 a1).bind λr1=>cond (!r1) (some (1:Int)) ((iQ N a0 a2).bind λr2=>cond (!r2) (some (1:Int)) ((eF N a3).bind λr3=>cond (!r3) (some (1:Int)) ((WM N a4).bind λr4=>cond (!r4) (some (1:Int)) (cond (aY 0 (List.length a3:Int)) (let v5:Int:=W .i64 ((List.length a3:Int)-1);cond (ba v5 (List.length a3)) (cond (dk a4.1 ((List.getD a3 v5.toNat aV).1)) (some (1:Int)) (anA a2 a3 a0 a1 a4)) (none)) (anA a2 a3 a0 a1 a4)))))
def kT(N:Nat)(a0:ae)(a1:aq)(a2:bz)(a3:aK)(a4:bO):Option (Int):=kT.b N (kT.j3 N) a0 a1 a2 a3 a4
def aa1(N:Nat)(a0:ae)(a1:aq)(a2:bz)(a3:aK)(a4:bO):Option (aK×(Int)):=
 (kT N a0 a1 a2 a3 a4).bind λr1=>cond (!aO r1 0) (some ([],r1)) (cond (small (List.length c9+List.length a3)) (let v2:List ((Int)×((Int)×((Int)×((Int)×(Unit))))):=c9++a3;cond (small (List.length v2+List.length ([a4]))) (some ((v2++([a4])),(0:Int))) (none)) (none))
abbrev rE.jE:=aK→Int→bO→bO→Bool→Int→Option (bO×(Bool))
def rE.uu(N:Nat)(kC:rE.jE)(x0:aK)(x1:Int)(x4:bO)(x6:bO)(x7:Bool)(x8:Int):Option (bO×(Bool)):=
 cond (aY x8 (List.length x0:Int)) (cond (ba x8 (List.length x0)) (cond (aO (((List.getD x0 x8.toNat aV).2).1) x1) (cond (!x7) (cond (ba x8 (List.length x0)) (kC x0 x1 x4 (List.getD x0 x8.toNat aV) true (W .i64 (x8+1))) (none)) (cond (ba x8 (List.length x0)) (cond (aY x6.2.2.2.1 (((((List.getD x0 x8.toNat aV).2).2).2).1)) (cond (ba x8 (List.length x0)) (kC x0 x1 x4 (List.getD x0 x8.toNat aV) true (W .i64 (x8+1))) (none)) (kC x0 x1 x4 x6 x7 (W .i64 (x8+1)))) (none))) (kC x0 x1 x4 x6 x7 (W .i64 (x8+1)))) (none)) (some (x6,x7))
def rE.l6(N:Nat):Nat→rE.jE
 |0,_,_,_,_,_,_=>none
 |n+1,x0,x1,x4,x6,x7,x8=>rE.uu N (rE.l6 N n) x0 x1 x4 x6 x7 x8
def rE.b(N:Nat)(xb:rE.jE)(a0:aK)(a1:Int):Option (bO×(Bool)):=
 (eF N a0).bind λr1=>cond (!r1) (some (aV,false)) (xb a0 a1 aV aV false (0:Int))
def rE(N:Nat)(a0:aK)(a1:Int):Option (bO×(Bool)):=rE.b N (rE.l6 N N) a0 a1
abbrev fJ.rM:=bz→aK→aq→aq→au→bF→bz→Int→ir→bO→Int→Int→Option (aq×bz×(Int))
abbrev fJ.fu:=bz→aK→aq→aq→au→bF→bz→Int→Option (aq×bz×(Int))
def fJ.vw(N:Nat)(eN:fJ.fu)(GC:fJ.rM)(x2:bz)(x3:aK)(x5:aq)(x8:aq)(a6:au)(bc:bF)(bZ:bz)(cw:Int)(dQ:ir)(eR:bO)(mQ:Int)(nP:Int):Option (aq×bz×(Int)):=
 cond (aY nP (List.length dQ.2.1:Int)) (cond (ba nP (List.length dQ.2.1)) (cond (ba nP (List.length dQ.2.1)) (let v14:Int:=W .i64 (0-(((List.getD dQ.2.1 nP.toNat cA).2).1));cond (ba nP (List.length dQ.2.1)) (cond (ba nP (List.length dQ.2.1)) (cond (small (List.length a6+List.length ([((0:Int),((List.getD dQ.2.1 nP.toNat cA).1,(v14,()))),(mQ,((List.getD dQ.2.1 nP.toNat cA).1,(((List.getD dQ.2.1 nP.toNat cA).2).1,())))]))) (GC x2 x3 x5 x8 (a6++([((0:Int),((List.getD dQ.2.1 nP.toNat cA).1,(v14,()))),(mQ,((List.getD dQ.2.1 nP.toNat cA).1,(((List.getD dQ.2.1 nP.toNat cA).2).1,())))])) bc bZ cw dQ eR mQ (W .i64 (nP+1))) (none)) (none)) (none)) (none)) (none)) ((jV N eR.2.2.2.1).bind λA9=>(ye N (5:Int) mQ (2:Int) (0:Int) A9).bind λvj=>cond (small (List.length bc+List.length vj)) (cond (small (List.length bZ+List.length ([dQ]))) (eN x2 x3 x5 x8 a6 (bc++vj) (bZ++([dQ])) (W .i64 (cw+1))) (none)) (none))
def fJ.wO(N:Nat)(eN:fJ.fu):Nat→fJ.rM
 |0,_,_,_,_,_,_,_,_,_,_,_,_=>none
 |n+1,x2,x3,x5,x8,a6,bc,bZ,cw,dQ,eR,mQ,nP=>fJ.vw N eN (fJ.wO N eN n) x2 x3 x5 x8 a6 bc bZ cw dQ eR mQ nP
def fJ.q4(N:Nat)(GD:fJ.rM)(eN:fJ.fu)(x2:bz)(x3:aK)(x5:aq)(x8:aq)(a6:au)(bc:bF)(bZ:bz)(cw:Int):Option (aq×bz×(Int)):=
 cond (aY cw (List.length x2:Int)) (cond (ba cw (List.length x2)) (cond (small (List.length ck+List.length (((List.getD x2 cw.toNat ((0:Int),(ck,aV))).2).1))) (let v5:List ((Int)×((Int)×(Unit))):=ck++(((List.getD x2 cw.toNat ((0:Int),(ck,aV))).2).1);cond (!aO (((((List.getD x2 cw.toNat ((0:Int),(ck,aV))).2).2).2).1) (1:Int)) (cond (small (List.length bZ+List.length ([((List.getD x2 cw.toNat ((0:Int),(ck,aV))).1,(v5,((List.getD x2 cw.toNat ((0:Int),(ck,aV))).2).2))]))) (eN x2 x3 x5 x8 a6 bc (bZ++([((List.getD x2 cw.toNat ((0:Int),(ck,aV))).1,(v5,((List.getD x2 cw.toNat ((0:Int),(ck,aV))).2).2))])) (W .i64 (cw+1))) (none)) ((rE N x3 ((List.getD x2 cw.toNat ((0:Int),(ck,aV))).1)).bind λr8=>cond (!r8.2) (cond (small (List.length bZ+List.length ([((List.getD x2 cw.toNat ((0:Int),(ck,aV))).1,(v5,((((List.getD x2 cw.toNat ((0:Int),(ck,aV))).2).2).1,((3:Int),((((List.getD x2 cw.toNat ((0:Int),(ck,aV))).2).2).2).2))))]))) (eN x2 x3 x5 x8 a6 bc (bZ++([((List.getD x2 cw.toNat ((0:Int),(ck,aV))).1,(v5,((((List.getD x2 cw.toNat ((0:Int),(ck,aV))).2).2).1,((3:Int),((((List.getD x2 cw.toNat ((0:Int),(ck,aV))).2).2).2).2))))])) (W .i64 (cw+1))) (none)) ((mh N x5.2.1 r8.1.2.2.1).bind λnV=>cond (aO nV 0) (some ((ck,(c9,(bH,(bH,(dC,(dT,())))))),[],(3:Int))) ((HO N x5 r8.1.2.2.1).bind λoR=>cond (aO oR 0) (some ((ck,(c9,(bH,(bH,(dC,(dT,())))))),[],(3:Int))) (GD x2 x3 x5 x8 a6 bc bZ cw ((List.getD x2 cw.toNat ((0:Int),(ck,aV))).1,(v5,((((List.getD x2 cw.toNat ((0:Int),(ck,aV))).2).2).1,((2:Int),(r8.1.2.2.1,(r8.1.2.2.2.1,((((((List.getD x2 cw.toNat ((0:Int),(ck,aV))).2).2).2).2).2).2)))))) r8.1 nV (0:Int)))))) (none)) (none)) ((yd N x5 a6 bc).bind λLb=>cond (!aO Lb.2 0) (some ((ck,(c9,(bH,(bH,(dC,(dT,())))))),[],Lb.2)) (some (Lb.1,bZ,(0:Int))))
def fJ.l7(N:Nat):Nat→fJ.fu
 |0,_,_,_,_,_,_,_,_=>none
 |n+1,x2,x3,x5,x8,a6,bc,bZ,cw=>fJ.q4 N (fJ.wO N (fJ.l7 N n) N) (fJ.l7 N n) x2 x3 x5 x8 a6 bc bZ cw
def fJ.b(N:Nat)(u2:fJ.fu)(a0:ae)(a1:aq)(a2:bz)(a3:aK):Option (aq×bz×(Int)):=
 (fZ N a0 a1).bind λr1=>cond (!r1) (some ((ck,(c9,(bH,(bH,(dC,(dT,())))))),[],(1:Int))) ((iQ N a0 a2).bind λr2=>cond (!r2) (some ((ck,(c9,(bH,(bH,(dC,(dT,())))))),[],(1:Int))) ((eF N a3).bind λr3=>cond (!r3) (some ((ck,(c9,(bH,(bH,(dC,(dT,())))))),[],(1:Int))) (u2 a2 a3 a1 (ck,(c9,(bH,(bH,(dC,(dT,())))))) ([]) ([]) ([]) (0:Int))))
def fJ(N:Nat)(a0:ae)(a1:aq)(a2:bz)(a3:aK):Option (aq×bz×(Int)):=fJ.b N (fJ.l7 N N) a0 a1 a2 a3
abbrev pj.dd:=aD→Int→Option (Bool)
def pj.gJ(N:Nat)(eE:pj.dd)(x0:aD)(x3:Int):Option (Bool):=
 cond (aY x3 (List.length x0:Int)) (cond (ba x3 (List.length x0)) (cond (aY ((List.getD x0 x3.toNat cA).1) (1:Int)) (some false) (cond (ba x3 (List.length x0)) (cond (aY 12 ((List.getD x0 x3.toNat cA).1)) (some false) (cond (ba x3 (List.length x0)) (cond (aY (((List.getD x0 x3.toNat cA).2).1) (1:Int)) (some false) (cond (ba x3 (List.length x0)) (cond (aY 4 (((List.getD x0 x3.toNat cA).2).1)) (some false) (cond (aY 0 x3) (cond (ba x3 (List.length x0)) (let v2:Int:=W .i64 (x3-1);cond (ba v2 (List.length x0)) (cond (dk ((List.getD x0 x3.toNat cA).1) ((List.getD x0 v2.toNat cA).1)) (some false) (eE x0 (W .i64 (x3+1)))) (none)) (none)) (eE x0 (W .i64 (x3+1))))) (none))) (none))) (none))) (none)) (some true)
def pj.l2(N:Nat):Nat→pj.dd
 |0,_,_=>none
 |n+1,x0,x3=>pj.gJ N (pj.l2 N n) x0 x3
def pj.b(N:Nat)(jn:pj.dd)(a0:aD):Option (Bool):=
 jn a0 (0:Int)
def pj(N:Nat)(a0:aD):Option (Bool):=pj.b N (pj.l2 N N) a0
abbrev rA.dd:=(List (Int))→Int→Option (Bool)
def rA.gJ(N:Nat)(eE:rA.dd)(x0:List (Int))(x3:Int):Option (Bool):=
 cond (aY x3 (List.length x0:Int)) (cond (ba x3 (List.length x0)) (cond (aY (List.getD x0 x3.toNat (0:Int)) (1:Int)) (some false) (cond (ba x3 (List.length x0)) (cond (aY 12 (List.getD x0 x3.toNat (0:Int))) (some false) (cond (aY 0 x3) (cond (ba x3 (List.length x0)) (let v2:Int:=W .i64 (x3-1);cond (ba v2 (List.length x0)) (cond (dk (List.getD x0 x3.toNat (0:Int)) (List.getD x0 v2.toNat (0:Int))) (some false) (eE x0 (W .i64 (x3+1)))) (none)) (none)) (eE x0 (W .i64 (x3+1))))) (none))) (none)) (some true)
def rA.l2(N:Nat):Nat→rA.dd
 |0,_,_=>none
 |n+1,x0,x3=>rA.gJ N (rA.l2 N n) x0 x3
def rA.b(N:Nat)(jn:rA.dd)(a0:List (Int)):Option (Bool):=
 jn a0 (0:Int)
def rA(N:Nat)(a0:List (Int)):Option (Bool):=rA.b N (rA.l2 N N) a0
abbrev ju.jx:=Int→bz→Int→Int→Option (Int)
abbrev ju.dY:=Int→bz→aK→Int→Int→Option (Int)
def ju.pF(N:Nat)(lI:ju.jx)(x0:Int)(x1:bz)(x7:Int)(bc:Int):Option (Int):=
 cond (aY bc (List.length x1:Int)) (cond (ba bc (List.length x1)) (cond (aO (((((List.getD x1 bc.toNat ((0:Int),(ck,aV))).2).2).2).1) (2:Int)) (cond (ba bc (List.length x1)) (cond (aO ((((((List.getD x1 bc.toNat ((0:Int),(ck,aV))).2).2).2).2).1) x0) (lI x0 x1 (4:Int) (W .i64 (bc+1))) (lI x0 x1 x7 (W .i64 (bc+1)))) (none)) (lI x0 x1 x7 (W .i64 (bc+1)))) (none)) (some x7)
def ju.p8(N:Nat):Nat→ju.jx
 |0,_,_,_,_=>none
 |n+1,x0,x1,x7,bc=>ju.pF N (ju.p8 N n) x0 x1 x7 bc
def ju.nO(N:Nat)(xd:ju.jx)(dp:ju.dY)(x0:Int)(x1:bz)(x2:aK)(x7:Int)(x8:Int):Option (Int):=
 cond (aY x8 (List.length x2:Int)) (cond (ba x8 (List.length x2)) (cond (!aO ((((List.getD x2 x8.toNat aV).2).2).1) x0) (dp x0 x1 x2 x7 (W .i64 (x8+1))) (cond (ba x8 (List.length x2)) ((qd N x1 (((List.getD x2 x8.toNat aV).2).1)).bind λr3=>cond (r3.2) (cond (ba x8 (List.length x2)) (cond (dk r3.1.2.2.1 (((((List.getD x2 x8.toNat aV).2).2).2).1)) (dp x0 x1 x2 (mx x7 3) (W .i64 (x8+1))) (dp x0 x1 x2 (mx x7 2) (W .i64 (x8+1)))) (none)) (dp x0 x1 x2 (mx x7 2) (W .i64 (x8+1)))) (none))) (none)) (xd x0 x1 x7 (0:Int))
def ju.l3(N:Nat):Nat→ju.dY
 |0,_,_,_,_,_=>none
 |n+1,x0,x1,x2,x7,x8=>ju.nO N (ju.p8 N N) (ju.l3 N n) x0 x1 x2 x7 x8
def ju.b(N:Nat)(oE:ju.dY)(a0:Int)(a1:bz)(a2:aK):Option (Int):=
 oE a0 a1 a2 (1:Int) (0:Int)
def ju(N:Nat)(a0:Int)(a1:bz)(a2:aK):Option (Int):=ju.b N (ju.l3 N N) a0 a1 a2
abbrev dv.xf:=aD→(List (Int))→bz→aK→aD→Int→Int→Bool→Int→Option (aD×(Int))
abbrev dv.xi:=aD→(List (Int))→bz→aK→aD→Int→Int→Bool→Int→Option (aD×(Int))
abbrev dv.mw:=aD→(List (Int))→bz→aK→aD→Int→Int→Bool→Int→Option (aD×(Int))
abbrev dv.bM:=aD→(List (Int))→bz→aK→aD→Int→Option (aD×(Int))
def dv.DD(N:Nat)(bQ:dv.bM)(GN:dv.xf)(x1:aD)(x2:List (Int))(x3:bz)(x4:aK)(bc:aD)(bZ:Int)(cw:Int)(dQ:Bool)(mQ:Int):Option (aD×(Int)):=
 cond (aY mQ (List.length x4:Int)) (cond (dQ) (GN x1 x2 x3 x4 bc bZ cw true (W .i64 (mQ+1))) (cond (ba mQ (List.length x4)) (GN x1 x2 x3 x4 bc bZ cw (aO ((((List.getD x4 mQ.toNat aV).2).2).1) bZ) (W .i64 (mQ+1))) (none))) (cond (dQ) ((ju N bZ x3 x4).bind λw8=>let YC:Int:=mx cw w8;cond (small (List.length bc+List.length ([(bZ,(YC,()))]))) (bQ x1 x2 x3 x4 (bc++([(bZ,(YC,()))])) (W .i64 (bZ+1))) (none)) (bQ x1 x2 x3 x4 bc (W .i64 (bZ+1))))
def dv.G8(N:Nat)(bQ:dv.bM):Nat→dv.xf
 |0,_,_,_,_,_,_,_,_,_=>none
 |n+1,x1,x2,x3,x4,bc,bZ,cw,dQ,mQ=>dv.DD N bQ (dv.G8 N bQ n) x1 x2 x3 x4 bc bZ cw dQ mQ
def dv.FY(N:Nat)(Ow:dv.xf)(bQ:dv.bM)(C3:dv.xi)(x1:aD)(x2:List (Int))(x3:bz)(x4:aK)(bc:aD)(bZ:Int)(cw:Int)(dQ:Bool)(fy:Int):Option (aD×(Int)):=
 cond (aY fy (List.length x2:Int)) (cond (dQ) (C3 x1 x2 x3 x4 bc bZ cw true (W .i64 (fy+1))) (cond (ba fy (List.length x2)) (C3 x1 x2 x3 x4 bc bZ cw (aO (List.getD x2 fy.toNat (0:Int)) bZ) (W .i64 (fy+1))) (none))) (Ow x1 x2 x3 x4 bc bZ cw dQ (0:Int))
def dv.IZ(N:Nat)(bQ:dv.bM):Nat→dv.xi
 |0,_,_,_,_,_,_,_,_,_=>none
 |n+1,x1,x2,x3,x4,bc,bZ,cw,dQ,fy=>dv.FY N (dv.G8 N bQ N) bQ (dv.IZ N bQ n) x1 x2 x3 x4 bc bZ cw dQ fy
def dv.xy(N:Nat)(Oz:dv.xi)(bQ:dv.bM)(rN:dv.mw)(x1:aD)(x2:List (Int))(x3:bz)(x4:aK)(bc:aD)(bZ:Int)(cw:Int)(dQ:Bool)(eR:Int):Option (aD×(Int)):=
 cond (aY eR (List.length x1:Int)) (cond (ba eR (List.length x1)) (cond (aO ((List.getD x1 eR.toNat cA).1) bZ) (cond (ba eR (List.length x1)) (rN x1 x2 x3 x4 bc bZ (((List.getD x1 eR.toNat cA).2).1) true (W .i64 (eR+1))) (none)) (rN x1 x2 x3 x4 bc bZ cw dQ (W .i64 (eR+1)))) (none)) (Oz x1 x2 x3 x4 bc bZ cw dQ (0:Int))
def dv.l9(N:Nat)(bQ:dv.bM):Nat→dv.mw
 |0,_,_,_,_,_,_,_,_,_=>none
 |n+1,x1,x2,x3,x4,bc,bZ,cw,dQ,eR=>dv.xy N (dv.IZ N bQ N) bQ (dv.l9 N bQ n) x1 x2 x3 x4 bc bZ cw dQ eR
def dv.ei(N:Nat)(y8:dv.mw)(bQ:dv.bM)(x1:aD)(x2:List (Int))(x3:bz)(x4:aK)(bc:aD)(bZ:Int):Option (aD×(Int)):=
 cond (dk bZ 12) (y8 x1 x2 x3 x4 bc bZ (0:Int) false (0:Int)) (some (bc,(0:Int)))
def dv.l5(N:Nat):Nat→dv.bM
 |0,_,_,_,_,_,_=>none
 |n+1,x1,x2,x3,x4,bc,bZ=>dv.ei N (dv.l9 N (dv.l5 N n) N) (dv.l5 N n) x1 x2 x3 x4 bc bZ
def dv.b(N:Nat)(eW:dv.bM)(a0:ae)(a1:aD)(a2:List (Int))(a3:bz)(a4:aK):Option (aD×(Int)):=
 (pj N a1).bind λr1=>cond (!r1) (some ([],(1:Int))) ((rA N a2).bind λr2=>cond (!r2) (some ([],(1:Int))) ((iQ N a0 a3).bind λr3=>cond (!r3) (some ([],(1:Int))) ((eF N a4).bind λr4=>cond (!r4) (some ([],(1:Int))) (eW a1 a2 a3 a4 ([]) (1:Int)))))
def dv(N:Nat)(a0:ae)(a1:aD)(a2:List (Int))(a3:bz)(a4:aK):Option (aD×(Int)):=dv.b N (dv.l5 N N) a0 a1 a2 a3 a4
def KU(N:Nat)(a0:bK)(a1:aq)(a2:Int)(a3:Int)(a4:Int):Option bK:=
 (uI N a1.2.2.1 a3 a4).bind λr1=>cond (aY 0 r1) (cond (small (List.length a0+List.length ([(a2,(a3,(a4,(r1,((0:Int),())))))]))) (some (a0++([(a2,(a3,(a4,(r1,((0:Int),())))))]))) (none)) (some a0)
def XO(N:Nat)(a0:Int):Option (Bool):=
 cond (aO a0 1) (some true) (some (aO a0 2))
abbrev rB.bE:=aD→Int→Int→Option (Int)
def rB.dw(N:Nat)(cr:rB.bE)(x0:aD)(x1:Int)(x5:Int):Option (Int):=
 cond (aY x5 (List.length x0:Int)) (cond (ba x5 (List.length x0)) (cond (aO ((List.getD x0 x5.toNat cA).1) x1) (cond (ba x5 (List.length x0)) (some (((List.getD x0 x5.toNat cA).2).1)) (none)) (cr x0 x1 (W .i64 (x5+1)))) (none)) (some (1:Int))
def rB.l4(N:Nat):Nat→rB.bE
 |0,_,_,_=>none
 |n+1,x0,x1,x5=>rB.dw N (rB.l4 N n) x0 x1 x5
def rB.b(N:Nat)(eH:rB.bE)(a0:aD)(a1:Int):Option (Int):=
 (pj N a0).bind λr1=>cond (!r1) (some (0:Int)) (eH a0 a1 (0:Int))
def rB(N:Nat)(a0:aD)(a1:Int):Option (Int):=rB.b N (rB.l4 N N) a0 a1
abbrev rC.bM:=aD→Int→Int→aq→(List (Int))→Int→Option ((List (Int))×(Int))
def rC.ei(N:Nat)(bQ:rC.bM)(x2:aD)(x3:Int)(x4:Int)(x6:aq)(bc:List (Int))(bZ:Int):Option ((List (Int))×(Int)):=
 cond (aY bZ (List.length x6.1:Int)) (cond (ba bZ (List.length x6.1)) ((XO N (((List.getD x6.1 bZ.toNat cA).2).1)).bind λr4=>cond (r4) (cond (!aO ((List.getD x6.1 bZ.toNat cA).1) x3) ((uI N x6.2.2.1 (6:Int) ((List.getD x6.1 bZ.toNat cA).1)).bind λr5=>cond (aY 0 r5) ((rB N x2 ((List.getD x6.1 bZ.toNat cA).1)).bind λr6=>cond (aO r6 x4) (cond (small (List.length bc+List.length ([(List.getD x6.1 bZ.toNat cA).1]))) (bQ x2 x3 x4 x6 (bc++([(List.getD x6.1 bZ.toNat cA).1])) (W .i64 (bZ+1))) (none)) (bQ x2 x3 x4 x6 bc (W .i64 (bZ+1)))) (bQ x2 x3 x4 x6 bc (W .i64 (bZ+1)))) (bQ x2 x3 x4 x6 bc (W .i64 (bZ+1)))) (bQ x2 x3 x4 x6 bc (W .i64 (bZ+1)))) (none)) (some (bc,(0:Int)))
def rC.l5(N:Nat):Nat→rC.bM
 |0,_,_,_,_,_,_=>none
 |n+1,x2,x3,x4,x6,bc,bZ=>rC.ei N (rC.l5 N n) x2 x3 x4 x6 bc bZ
def rC.b(N:Nat)(eW:rC.bM)(a0:ae)(a1:aq)(a2:aD)(a3:Int)(a4:Int):Option ((List (Int))×(Int)):=
 (fZ N a0 a1).bind λr1=>cond (!r1) (some ([],(1:Int))) ((pj N a2).bind λr2=>cond (!r2) (some ([],(1:Int))) (eW a2 a3 a4 a1 ([]) (0:Int)))
def rC(N:Nat)(a0:ae)(a1:aq)(a2:aD)(a3:Int)(a4:Int):Option ((List (Int))×(Int)):=rC.b N (rC.l5 N N) a0 a1 a2 a3 a4
abbrev cI.mF:=Int→aD→aD→ae→aq→bK→Int→(List (Int))→Int→Option (bK×(Int))
abbrev cI.GH:=Int→aD→aq→bK→Int→Option (bK×(Int))
abbrev cI.tR:=Int→aD→ae→aq→bK→Int→Option (bK×(Int))
abbrev cI.jx:=Int→aD→aD→ae→aq→bK→Int→Option (bK×(Int))
abbrev cI.Rg:=Int→aD→aD→ae→aq→bK→Option (bK×(Int))
def cI.vv(N:Nat)(lI:cI.jx)(nY:cI.mF)(x2:Int)(x3:aD)(x4:aD)(x5:ae)(x6:aq)(bc:bK)(cw:Int)(dQ:List (Int))(fy:Int):Option (bK×(Int)):=
 cond (aY fy (List.length dQ:Int)) (cond (ba fy (List.length dQ)) ((KU N bc x6 (W .i64 ((W .i64 ((4:Int)+cw))-1)) (6:Int) (List.getD dQ fy.toNat (0:Int))).bind λw8=>nY x2 x3 x4 x5 x6 w8 cw dQ (W .i64 (fy+1))) (none)) (lI x2 x3 x4 x5 x6 bc (W .i64 (cw+1)))
def cI.wN(N:Nat)(lI:cI.jx):Nat→cI.mF
 |0,_,_,_,_,_,_,_,_,_=>none
 |n+1,x2,x3,x4,x5,x6,bc,cw,dQ,fy=>cI.vv N lI (cI.wN N lI n) x2 x3 x4 x5 x6 bc cw dQ fy
def cI.Ky(N:Nat)(C0:cI.GH)(x2:Int)(x4:aD)(x6:aq)(bc:bK)(Va:Int):Option (bK×(Int)):=
 cond (aY Va (List.length x4:Int)) (cond (ba Va (List.length x4)) ((Vo N x6.2.1 ((List.getD x4 Va.toNat cA).1)).bind λHb=>cond (ba Va (List.length x4)) (cond (ba Va (List.length x4)) ((uI N x6.2.2.1 (5:Int) ((List.getD x4 Va.toNat cA).1)).bind λr32=>let v33:Int:=mn (((List.getD x4 Va.toNat cA).2).1) r32;cond (Hb.2) (cond (!aO Hb.1.2.1 x2) (cond (aY 0 v33) (cond (small (List.length bc+List.length ([((9:Int),((5:Int),(Hb.1.1,(v33,((0:Int),())))))]))) (C0 x2 x4 x6 (bc++([((9:Int),((5:Int),(Hb.1.1,(v33,((0:Int),())))))])) (W .i64 (Va+1))) (none)) (C0 x2 x4 x6 bc (W .i64 (Va+1)))) (C0 x2 x4 x6 bc (W .i64 (Va+1)))) (C0 x2 x4 x6 bc (W .i64 (Va+1)))) (none)) (none)) (none)) (some (bc,(0:Int)))
def cI.No(N:Nat):Nat→cI.GH
 |0,_,_,_,_,_=>none
 |n+1,x2,x4,x6,bc,Va=>cI.Ky N (cI.No N n) x2 x4 x6 bc Va
def cI.NU(N:Nat)(Yy:cI.GH)(mJ:cI.tR)(x2:Int)(x4:aD)(x5:ae)(x6:aq)(bc:bK)(mQ:Int):Option (bK×(Int)):=
 cond (aY mQ (List.length x6.1:Int)) (cond (ba mQ (List.length x6.1)) ((XO N (((List.getD x6.1 mQ.toNat cA).2).1)).bind λOA=>cond (!OA) (mJ x2 x4 x5 x6 bc (W .i64 (mQ+1))) (cond (aO ((List.getD x6.1 mQ.toNat cA).1) x2) (mJ x2 x4 x5 x6 bc (W .i64 (mQ+1))) ((jV N x5.2.2.1).bind λLb=>(uI N x6.2.2.1 (6:Int) ((List.getD x6.1 mQ.toNat cA).1)).bind λCZ=>(jV N CZ).bind λLA=>(jS N Lb LA).bind λHa=>(wE N Ha).bind λC1=>cond (!C1.2) (some ([],(2:Int))) (cond (aY 0 C1.1) (cond (small (List.length bc+List.length ([((8:Int),((7:Int),((List.getD x6.1 mQ.toNat cA).1,(C1.1,((0:Int),())))))]))) (mJ x2 x4 x5 x6 (bc++([((8:Int),((7:Int),((List.getD x6.1 mQ.toNat cA).1,(C1.1,((0:Int),())))))])) (W .i64 (mQ+1))) (none)) (mJ x2 x4 x5 x6 bc (W .i64 (mQ+1))))))) (none)) (Yy x2 x4 x6 bc (0:Int))
def cI.HQ(N:Nat):Nat→cI.tR
 |0,_,_,_,_,_,_=>none
 |n+1,x2,x4,x5,x6,bc,mQ=>cI.NU N (cI.No N N) (cI.HQ N n) x2 x4 x5 x6 bc mQ
def cI.pF(N:Nat)(GF:cI.mF)(YJ:cI.tR)(lI:cI.jx)(x2:Int)(x3:aD)(x4:aD)(x5:ae)(x6:aq)(bc:bK)(cw:Int):Option (bK×(Int)):=
 cond (dk cw 4) ((rC N x5 x6 x3 x2 cw).bind λnV=>GF x2 x3 x4 x5 x6 bc cw nV.1 (0:Int)) (YJ x2 x4 x5 x6 bc (0:Int))
def cI.p8(N:Nat):Nat→cI.jx
 |0,_,_,_,_,_,_,_=>none
 |n+1,x2,x3,x4,x5,x6,bc,cw=>cI.pF N (cI.wN N (cI.p8 N n) N) (cI.HQ N N) (cI.p8 N n) x2 x3 x4 x5 x6 bc cw
def cI.Nd(N:Nat)(xd:cI.jx)(x2:Int)(x3:aD)(x4:aD)(x5:ae)(x6:aq)(bc:bK):Option (bK×(Int)):=
 (KU N bc x6 (2:Int) (6:Int) x2).bind λr8=>(KU N r8 x6 (3:Int) (3:Int) (0:Int)).bind λr9=>xd x2 x3 x4 x5 x6 r9 (1:Int)
def cI.j9(N:Nat)(x2:Int)(x3:aD)(x4:aD)(x5:ae)(x6:aq)(bc:bK):Option (bK×(Int)):=cI.Nd N (cI.p8 N N) x2 x3 x4 x5 x6 bc
def cI.b(N:Nat)(GJ:cI.Rg)(a0:ae)(a1:aq)(a2:Int)(a3:aD)(a4:aD):Option (bK×(Int)):=
 (fZ N a0 a1).bind λr1=>cond (!r1) (some ([],(1:Int))) ((pj N a3).bind λr2=>cond (!r2) (some ([],(1:Int))) ((qc N a4).bind λr3=>cond (!r3) (some ([],(1:Int))) ((R8 N a1.1 a2).bind λr4=>cond (aO r4 0) (some ([],(3:Int))) ((mh N a1.2.1 a2).bind λr5=>cond (!aO r5 0) ((KU N ([]) a1 (1:Int) (5:Int) r5).bind λr6=>GJ a2 a3 a4 a0 a1 r6) (GJ a2 a3 a4 a0 a1 ([]))))))
def cI(N:Nat)(a0:ae)(a1:aq)(a2:Int)(a3:aD)(a4:aD):Option (bK×(Int)):=cI.b N (cI.j9 N) a0 a1 a2 a3 a4
def aa3(N:Nat)(a0:ae)(a1:aq):Option ((Int)×(Int)):=
 (fZ N a0 a1).bind λr1=>cond (!r1) (some ((0:Int),(1:Int))) ((uI N a1.2.2.1 (2:Int) (0:Int)).bind λr2=>cond (aO r2 (-9223372036854775808)) (some ((0:Int),(2:Int))) (some ((mx (W .i64 (0-r2)) (0:Int)),(0:Int))))
abbrev rD.bE:=bK→Int→Option (Bool)
def rD.dw(N:Nat)(cr:rD.bE)(x0:bK)(x3:Int):Option (Bool):=
 cond (aY x3 (List.length x0:Int)) (cond (ba x3 (List.length x0)) (cond (aY ((List.getD x0 x3.toNat mK).1) (1:Int)) (some false) (cond (aY 9 ((List.getD x0 x3.toNat mK).1)) (some false) ((Qm N (((List.getD x0 x3.toNat mK).2).1) ((((List.getD x0 x3.toNat mK).2).2).1)).bind λr2=>cond (!r2) (some false) (cond (aY (((((List.getD x0 x3.toNat mK).2).2).2).1) (1:Int)) (some false) (cond (aY ((((((List.getD x0 x3.toNat mK).2).2).2).2).1) (0:Int)) (some false) (cond (aY (((((List.getD x0 x3.toNat mK).2).2).2).1) ((((((List.getD x0 x3.toNat mK).2).2).2).2).1)) (some false) (cond (aY 0 x3) (let v3:Int:=W .i64 (x3-1);cond (ba v3 (List.length x0)) (cond (aY ((List.getD x0 x3.toNat mK).1) ((List.getD x0 v3.toNat mK).1)) (some false) (let v4:Int:=W .i64 (x3-1);cond (ba v4 (List.length x0)) (cond (aO ((List.getD x0 x3.toNat mK).1) ((List.getD x0 v4.toNat mK).1)) (let v5:Int:=W .i64 (x3-1);cond (ba v5 (List.length x0)) (cond (!aO (((List.getD x0 x3.toNat mK).2).1) (((List.getD x0 v5.toNat mK).2).1)) (some false) (let v6:Int:=W .i64 (x3-1);cond (ba v6 (List.length x0)) (cond (dk ((((List.getD x0 x3.toNat mK).2).2).1) ((((List.getD x0 v6.toNat mK).2).2).1)) (some false) (cr x0 (W .i64 (x3+1)))) (none))) (none)) (cr x0 (W .i64 (x3+1)))) (none))) (none)) (cr x0 (W .i64 (x3+1)))))))))) (none)) (some true)
def rD.l4(N:Nat):Nat→rD.bE
 |0,_,_=>none
 |n+1,x0,x3=>rD.dw N (rD.l4 N n) x0 x3
def rD.b(N:Nat)(eH:rD.bE)(a0:bK):Option (Bool):=
 cond (aY 64 (List.length a0:Int)) (some false) (eH a0 (0:Int))
def rD(N:Nat)(a0:bK):Option (Bool):=rD.b N (rD.l4 N N) a0
abbrev dD.xf:=bK→Int→Int→Int→(List (Int))→Int→Option (bK×(Int)×(Int))
abbrev dD.Ou:=bK→Int→Int→Int→(List (Int))→Option (bK×(Int)×(Int))
abbrev dD.gQ:=bK→Int→Int→Int→(List (Int))→Option (bK×(Int)×(Int))
abbrev dD.bM:=bK→Int→Int→Option (bK×(Int)×(Int))
def dD.DD(N:Nat)(bQ:dD.bM)(GN:dD.xf)(x7:bK)(x8:Int)(x9:Int)(bw:Int)(cw:List (Int))(eR:Int):Option (bK×(Int)×(Int)):=
 cond (aY eR bw) (let v13:Int:=W .i64 (eR-x9);cond (ba v13 (List.length cw)) (cond (ba eR (List.length x7)) (let v15:Int:=W .i64 (eR-x9);cond (ba v15 (List.length cw)) (GN (List.set x7 eR.toNat ((List.getD x7 eR.toNat mK).1,(((List.getD x7 eR.toNat mK).2).1,((((List.getD x7 eR.toNat mK).2).2).1,(((((List.getD x7 eR.toNat mK).2).2).2).1,(List.getD cw v13.toNat (0:Int),(((((List.getD x7 eR.toNat mK).2).2).2).2).2)))))) (W .i64 (x8-(List.getD cw v15.toNat (0:Int)))) x9 bw cw (W .i64 (eR+1))) (none)) (none)) (none)) (bQ x7 x8 bw)
def dD.G8(N:Nat)(bQ:dD.bM):Nat→dD.xf
 |0,_,_,_,_,_,_=>none
 |n+1,x7,x8,x9,bw,cw,eR=>dD.DD N bQ (dD.G8 N bQ n) x7 x8 x9 bw cw eR
def dD.BN(N:Nat)(Ow:dD.xf)(bQ:dD.bM)(x7:bK)(x8:Int)(x9:Int)(bw:Int)(a6:List (Int)):Option (bK×(Int)×(Int)):=
 (pB N a6).bind λr8=>(wE N r8).bind λr9=>cond (!r9.2) (some ([],(0:Int),(2:Int))) ((fN N (mn r9.1 x8) a6).bind λnV=>cond (!aO nV.2 0) (some ([],(0:Int),nV.2)) (Ow x7 x8 x9 bw nV.1 x9))
def dD.Je(N:Nat)(bQ:dD.bM)(x7:bK)(x8:Int)(x9:Int)(bw:Int)(a6:List (Int)):Option (bK×(Int)×(Int)):=dD.BN N (dD.G8 N bQ N) bQ x7 x8 x9 bw a6
def dD.yc(N:Nat)(C2:dD.Ou)(bQ:dD.bM)(e7:dD.gQ)(x7:bK)(x8:Int)(x9:Int)(bw:Int)(a6:List (Int)):Option (bK×(Int)×(Int)):=
 cond (aY bw (List.length x7:Int)) (cond (ba bw (List.length x7)) (cond (ba x9 (List.length x7)) (cond (aO ((List.getD x7 bw.toNat mK).1) ((List.getD x7 x9.toNat mK).1)) (cond (ba bw (List.length x7)) (cond (small (List.length a6+List.length ([((((List.getD x7 bw.toNat mK).2).2).2).1]))) (e7 x7 x8 x9 (W .i64 (bw+1)) (a6++([((((List.getD x7 bw.toNat mK).2).2).2).1]))) (none)) (none)) (C2 x7 x8 x9 bw a6)) (none)) (none)) (C2 x7 x8 x9 bw a6)
def dD.l8(N:Nat)(bQ:dD.bM):Nat→dD.gQ
 |0,_,_,_,_,_=>none
 |n+1,x7,x8,x9,bw,a6=>dD.yc N (dD.Je N bQ) bQ (dD.l8 N bQ n) x7 x8 x9 bw a6
def dD.ei(N:Nat)(B1:dD.gQ)(bQ:dD.bM)(x7:bK)(x8:Int)(x9:Int):Option (bK×(Int)×(Int)):=
 cond (aY x9 (List.length x7:Int)) (B1 x7 x8 x9 x9 ([])) (some (x7,x8,(0:Int)))
def dD.l5(N:Nat):Nat→dD.bM
 |0,_,_,_=>none
 |n+1,x7,x8,x9=>dD.ei N (dD.l8 N (dD.l5 N n) N) (dD.l5 N n) x7 x8 x9
def dD.b(N:Nat)(eW:dD.bM)(a0:bK)(a1:Int):Option (bK×(Int)×(Int)):=
 (rD N a0).bind λr1=>cond (!r1) (some ([],(0:Int),(1:Int))) (cond (aY a1 0) (some ([],(0:Int),(1:Int))) (cond (small (List.length C8+List.length a0)) (eW (C8++a0) a1 (0:Int)) (none)))
def dD(N:Nat)(a0:bK)(a1:Int):Option (bK×(Int)×(Int)):=dD.b N (dD.l5 N N) a0 a1
def aa4(N:Nat)(a0:ae)(a1:aq):Option ((Int)×(Int)):=
 (fZ N a0 a1).bind λr1=>cond (!r1) (some ((0:Int),(1:Int))) ((uI N a1.2.2.1 (2:Int) (0:Int)).bind λr2=>some ((mx r2 0),(0:Int)))
abbrev ik.anB:=aq→aq→dL→bF→dL→bK→Int→Int→Int→Option (aq×dL×(Int))
abbrev ik.GM:=Int→ae→aq→aq→dL→bK→Int→bF→dL→bK→Int→Option (aq×dL×(Int))
def ik.aa6(N:Nat)(x6:aq)(bw:aq)(a6:dL)(mQ:bF)(nP:dL)(GO:bK)(x21:Int)(x23:Int)(x24:Int):Option (aq×dL×(Int)):=
 (jV N x21).bind λA9=>(ye N (2:Int) (0:Int) x23 x24 A9).bind λvj=>cond (small (List.length mQ+List.length vj)) ((yd N x6 bH (mQ++vj)).bind λOt=>cond (!aO Ot.2 0) (some ((ck,(c9,(bH,(bH,(dC,(dT,())))))),((0:Int),((0:Int),(C8,((0:Int),())))),Ot.2)) (some (Ot.1,(nP.1,(nP.2.1,(GO,nP.2.2.2))),(0:Int)))) (none)
def ik.j26(N:Nat)(x6:aq)(bw:aq)(a6:dL)(mQ:bF)(nP:dL)(GO:bK)(x21:Int)(x23:Int)(x24:Int):Option (aq×dL×(Int)):=ik.aa6 N x6 bw a6 mQ nP GO x21 x23 x24
def ik.HG(N:Nat)(agu:ik.anB)(JD:ik.GM)(x2:Int)(x5:ae)(x6:aq)(bw:aq)(a6:dL)(bZ:bK)(fy:Int)(mQ:bF)(nP:dL)(GO:bK)(DG:Int):Option (aq×dL×(Int)):=
 cond (aY DG (List.length bZ:Int)) (cond (ba DG (List.length bZ)) (cond (aY 0 ((((((List.getD bZ DG.toNat mK).2).2).2).2).1)) (cond (ba DG (List.length bZ)) (cond (small (List.length GO+List.length ([List.getD bZ DG.toNat mK]))) (cond (ba DG (List.length bZ)) (cond (ba DG (List.length bZ)) (cond (ba DG (List.length bZ)) ((jV N ((((((List.getD bZ DG.toNat mK).2).2).2).2).1)).bind λr6=>(ye N (((List.getD bZ DG.toNat mK).2).1) ((((List.getD bZ DG.toNat mK).2).2).1) (2:Int) (0:Int) r6).bind λr7=>cond (small (List.length mQ+List.length r7)) (JD x2 x5 x6 bw a6 bZ fy (mQ++r7) (nP.1,(nP.2.1,(C8,nP.2.2.2))) (GO++([List.getD bZ DG.toNat mK])) (W .i64 (DG+1))) (none)) (none)) (none)) (none)) (none)) (none)) (JD x2 x5 x6 bw a6 bZ fy mQ nP GO (W .i64 (DG+1)))) (none)) ((jV N fy).bind λnV=>(ye N (4:Int) (0:Int) (2:Int) (0:Int) nV).bind λoR=>cond (small (List.length mQ+List.length oR)) (let v13:List ((Int)×((Int)×(((Bool)×((List (Int))×(Unit)))×(Unit)))):=mQ++oR;(aa4 N x5 x6).bind λyf=>(mh N x6.2.1 x2).bind λw8=>cond (!aO w8 0) (agu x6 bw a6 v13 nP GO yf.1 (5:Int) w8) (agu x6 bw a6 v13 nP GO yf.1 (6:Int) x2)) (none))
def ik.IG(N:Nat):Nat→ik.GM
 |0,_,_,_,_,_,_,_,_,_,_,_=>none
 |n+1,x2,x5,x6,bw,a6,bZ,fy,mQ,nP,GO,DG=>ik.HG N (ik.j26 N) (ik.IG N n) x2 x5 x6 bw a6 bZ fy mQ nP GO DG
def ik.b(N:Nat)(YG:ik.GM)(a0:ae)(a1:aq)(a2:Int)(a3:aD)(a4:aD):Option (aq×dL×(Int)):=
 (cI N a0 a1 a2 a3 a4).bind λr1=>cond (aO r1.2 1) (some ((ck,(c9,(bH,(bH,(dC,(dT,())))))),((0:Int),((0:Int),(C8,((0:Int),())))),r1.2)) (cond (aO r1.2 3) (some ((ck,(c9,(bH,(bH,(dC,(dT,())))))),((0:Int),((0:Int),(C8,((0:Int),())))),r1.2)) ((aa3 N a0 a1).bind λr2=>cond (!aO r2.2 0) (some ((ck,(c9,(bH,(bH,(dC,(dT,())))))),((0:Int),((0:Int),(C8,((0:Int),())))),r2.2)) (cond (!aO r1.2 0) (some ((ck,(c9,(bH,(bH,(dC,(dT,())))))),((0:Int),((0:Int),(C8,((0:Int),())))),r1.2)) ((dD N r1.1 r2.1).bind λr3=>cond (!aO r3.2.2 0) (some ((ck,(c9,(bH,(bH,(dC,(dT,())))))),((0:Int),((0:Int),(C8,((0:Int),())))),r3.2.2)) (YG a2 a0 a1 (ck,(c9,(bH,(bH,(dC,(dT,())))))) ((0:Int),((0:Int),(C8,((0:Int),())))) r3.1 r3.2.1 ([]) (a2,(r2.1,(C8,(r3.2.1,())))) C8 (0:Int))))))
def ik(N:Nat)(a0:ae)(a1:aq)(a2:Int)(a3:aD)(a4:aD):Option (aq×dL×(Int)):=ik.b N (ik.IG N N) a0 a1 a2 a3 a4
abbrev eL.GG:=(List (Int))→(List (Int))→(List (Int))→Int→Int→(List (Int))→Int→Option ((List (Int))×(Int)×(Int))
abbrev eL.jx:=(List (Int))→(List (Int))→(List (Int))→Int→Int→(List (Int))→Bool→Int→Option ((List (Int))×(Int)×(Int))
abbrev eL.gQ:=(List (Int))→(List (Int))→(List (Int))→Int→Int→Option ((List (Int))×(Int)×(Int))
def eL.Qy(N:Nat)(e7:eL.gQ)(Yx:eL.GG)(x1:List (Int))(x2:List (Int))(a6:List (Int))(bc:Int)(bZ:Int)(fy:List (Int))(nP:Int):Option ((List (Int))×(Int)×(Int)):=
 cond (aY nP (List.length x1:Int)) (cond (ba nP (List.length fy)) (cond (ba nP (List.length x2)) (cond (ba nP (List.length a6)) (let YC:Int:=mn (List.getD fy nP.toNat (0:Int)) (W .i64 ((List.getD x2 nP.toNat (0:Int))-(List.getD a6 nP.toNat (0:Int))));cond (ba nP (List.length a6)) (cond (ba nP (List.length a6)) (Yx x1 x2 (List.set a6 nP.toNat (W .i64 ((List.getD a6 nP.toNat (0:Int))+YC))) (W .i64 (bc-YC)) bZ fy (W .i64 (nP+1))) (none)) (none)) (none)) (none)) (none)) (e7 x1 x2 a6 bc (W .i64 (bZ+1)))
def eL.T7(N:Nat)(e7:eL.gQ):Nat→eL.GG
 |0,_,_,_,_,_,_,_=>none
 |n+1,x1,x2,a6,bc,bZ,fy,nP=>eL.Qy N e7 (eL.T7 N e7 n) x1 x2 a6 bc bZ fy nP
def eL.pF(N:Nat)(Yz:eL.GG)(e7:eL.gQ)(lI:eL.jx)(x1:List (Int))(x2:List (Int))(a6:List (Int))(bc:Int)(bZ:Int)(cw:List (Int))(dQ:Bool)(eR:Int):Option ((List (Int))×(Int)×(Int)):=
 cond (aY eR (List.length x1:Int)) (cond (ba eR (List.length x1)) (cond (aY 0 (List.getD x1 eR.toNat (0:Int))) (cond (ba eR (List.length a6)) (cond (ba eR (List.length x2)) (cond (aY (List.getD a6 eR.toNat (0:Int)) (List.getD x2 eR.toNat (0:Int))) (cond (ba eR (List.length x1)) (cond (ba eR (List.length cw)) (lI x1 x2 a6 bc bZ (List.set cw eR.toNat (List.getD x1 eR.toNat (0:Int))) true (W .i64 (eR+1))) (none)) (none)) (lI x1 x2 a6 bc bZ cw dQ (W .i64 (eR+1)))) (none)) (none)) (lI x1 x2 a6 bc bZ cw dQ (W .i64 (eR+1)))) (none)) (cond (aO bc 0) (some (a6,bc,(0:Int))) (cond (!dQ) (some (a6,bc,(0:Int))) ((fN N bc cw).bind λqw=>Yz x1 x2 a6 bc bZ qw.1 (0:Int))))
def eL.p8(N:Nat)(e7:eL.gQ):Nat→eL.jx
 |0,_,_,_,_,_,_,_,_=>none
 |n+1,x1,x2,a6,bc,bZ,cw,dQ,eR=>eL.pF N (eL.T7 N e7 N) e7 (eL.p8 N e7 n) x1 x2 a6 bc bZ cw dQ eR
def eL.yc(N:Nat)(xd:eL.jx)(e7:eL.gQ)(x1:List (Int))(x2:List (Int))(a6:List (Int))(bc:Int)(bZ:Int):Option ((List (Int))×(Int)×(Int)):=
 cond (dk bZ (List.length x1:Int)) (cond (jZ (List.length x1:Int) (List.length x1:Int)) (xd x1 x2 a6 bc bZ (List.replicate (List.length x1:Int).toNat (0:Int)) false (0:Int)) (none)) (some (a6,bc,(0:Int)))
def eL.l8(N:Nat):Nat→eL.gQ
 |0,_,_,_,_,_=>none
 |n+1,x1,x2,a6,bc,bZ=>eL.yc N (eL.p8 N (eL.l8 N n) N) (eL.l8 N n) x1 x2 a6 bc bZ
def eL.b(N:Nat)(B1:eL.gQ)(a0:Int)(a1:List (Int))(a2:List (Int)):Option ((List (Int))×(Int)×(Int)):=
 (pI N a0 a1).bind λr1=>cond (r1) (some ([],(0:Int),(1:Int))) (cond (!aO (List.length a2:Int) (List.length a1:Int)) (some ([],(0:Int),(1:Int))) ((pI N (0:Int) a2).bind λr2=>cond (r2) (some ([],(0:Int),(1:Int))) ((pB N a1).bind λr3=>(wE N r3).bind λr4=>cond (!r4.2) (some ([],(0:Int),(2:Int))) (cond (jZ (List.length a1:Int) (List.length a1:Int)) (B1 a1 a2 (List.replicate (List.length a1:Int).toNat (0:Int)) a0 (0:Int)) (none)))))
def eL(N:Nat)(a0:Int)(a1:List (Int))(a2:List (Int)):Option ((List (Int))×(Int)×(Int)):=eL.b N (eL.l8 N N) a0 a1 a2
abbrev fC.YK:=Int→Int→(List (Int))→(List (Int))→au→Int→Option (au×(Int))
abbrev fC.xh:=Int→aq→Int→(List (Int))→(List (Int))→Int→Option (au×(Int))
def fC.XP(N:Nat)(SY:fC.YK)(x2:Int)(x8:Int)(x9:List (Int))(bZ:List (Int))(eR:au)(fy:Int):Option (au×(Int)):=
 cond (aY fy (List.length bZ:Int)) (cond (ba fy (List.length bZ)) (cond (aY x8 0) (let v17:Int:=W .i64 (0-(List.getD bZ fy.toNat (0:Int)));cond (!aO v17 0) (cond (ba fy (List.length x9)) (cond (small (List.length eR+List.length ([(List.getD x9 fy.toNat (0:Int),(x2,(v17,())))]))) (SY x2 x8 x9 bZ (eR++([(List.getD x9 fy.toNat (0:Int),(x2,(v17,())))])) (W .i64 (fy+1))) (none)) (none)) (SY x2 x8 x9 bZ eR (W .i64 (fy+1)))) (cond (!aO (List.getD bZ fy.toNat (0:Int)) (0:Int)) (cond (ba fy (List.length x9)) (cond (small (List.length eR+List.length ([(List.getD x9 fy.toNat (0:Int),(x2,(List.getD bZ fy.toNat (0:Int),())))]))) (SY x2 x8 x9 bZ (eR++([(List.getD x9 fy.toNat (0:Int),(x2,(List.getD bZ fy.toNat (0:Int),())))])) (W .i64 (fy+1))) (none)) (none)) (SY x2 x8 x9 bZ eR (W .i64 (fy+1))))) (none)) (some (eR,(0:Int)))
def fC.UF(N:Nat):Nat→fC.YK
 |0,_,_,_,_,_,_=>none
 |n+1,x2,x8,x9,bZ,eR,fy=>fC.XP N (fC.UF N n) x2 x8 x9 bZ eR fy
def fC.yZ(N:Nat)(anC:fC.YK)(A2:fC.xh)(x2:Int)(x4:aq)(x8:Int)(x9:List (Int))(bw:List (Int))(a6:Int):Option (au×(Int)):=
 cond (aY a6 (List.length x4.2.2.2.1:Int)) (cond (ba a6 (List.length x4.2.2.2.1)) (cond (!aO ((List.getD x4.2.2.2.1 a6.toNat bh).1) (0:Int)) (cond (aO (((List.getD x4.2.2.2.1 a6.toNat bh).2).1) x2) (cond (!(pt .bool (aY 0 ((((List.getD x4.2.2.2.1 a6.toNat bh).2).2).1)) (aY 0 x8))) (cond (small (List.length x9+List.length ([(List.getD x4.2.2.2.1 a6.toNat bh).1]))) (let v6:Int:=mx ((((List.getD x4.2.2.2.1 a6.toNat bh).2).2).1) (W .i64 (0-((((List.getD x4.2.2.2.1 a6.toNat bh).2).2).1)));cond (small (List.length bw+List.length ([v6]))) (A2 x2 x4 x8 (x9++([(List.getD x4.2.2.2.1 a6.toNat bh).1])) (bw++([v6])) (W .i64 (a6+1))) (none)) (none)) (A2 x2 x4 x8 x9 bw (W .i64 (a6+1)))) (A2 x2 x4 x8 x9 bw (W .i64 (a6+1)))) (A2 x2 x4 x8 x9 bw (W .i64 (a6+1)))) (none)) ((eL N (mx x8 (W .i64 (0-x8))) bw bw).bind λyf=>cond (!aO yf.2.2 0) (some ([],yf.2.2)) (anC x2 x8 x9 yf.1 ([((0:Int),(x2,((W .i64 (0-x8)),())))]) (0:Int)))
def fC.BM(N:Nat):Nat→fC.xh
 |0,_,_,_,_,_,_=>none
 |n+1,x2,x4,x8,x9,bw,a6=>fC.yZ N (fC.UF N N) (fC.BM N n) x2 x4 x8 x9 bw a6
def fC.b(N:Nat)(Oy:fC.xh)(a0:ae)(a1:aq)(a2:Int):Option (au×(Int)):=
 (fZ N a0 a1).bind λr1=>cond (!r1) (some ([],(1:Int))) (cond (aY a2 0) (some ([],(3:Int))) (cond (dk (List.length a0.1:Int) a2) (some ([],(3:Int))) ((BC N a1.2.2.2.1 (0:Int) a2).bind λr2=>cond (aO r2 0) (some ([],(0:Int))) (Oy a2 a1 r2 ([]) ([]) (0:Int)))))
def fC(N:Nat)(a0:ae)(a1:aq)(a2:Int):Option (au×(Int)):=fC.b N (fC.BM N N) a0 a1 a2
abbrev nJ.bM:=ae→aq→aq→au→Int→Option (aq×(Int))
def nJ.ei(N:Nat)(bQ:nJ.bM)(x2:ae)(x3:aq)(x4:aq)(x6:au)(x7:Int):Option (aq×(Int)):=
 cond (aY x7 (List.length x2.1:Int)) ((fC N x2 x3 x7).bind λr3=>cond (!aO r3.2 0) (some ((ck,(c9,(bH,(bH,(dC,(dT,())))))),r3.2)) (cond (small (List.length x6+List.length r3.1)) (bQ x2 x3 x4 (x6++r3.1) (W .i64 (x7+1))) (none))) ((yd N x3 x6 ([]:List ((Int)×((Int)×(((Bool)×((List (Int))×(Unit)))×(Unit)))))).bind λr6=>some (r6.1,r6.2))
def nJ.l5(N:Nat):Nat→nJ.bM
 |0,_,_,_,_,_=>none
 |n+1,x2,x3,x4,x6,x7=>nJ.ei N (nJ.l5 N n) x2 x3 x4 x6 x7
def nJ.b(N:Nat)(eW:nJ.bM)(a0:ae)(a1:aq):Option (aq×(Int)):=
 (fZ N a0 a1).bind λr1=>cond (!r1) (some ((ck,(c9,(bH,(bH,(dC,(dT,())))))),(1:Int))) (eW a0 a1 (ck,(c9,(bH,(bH,(dC,(dT,())))))) ([]) (0:Int))
def nJ(N:Nat)(a0:ae)(a1:aq):Option (aq×(Int)):=nJ.b N (nJ.l5 N N) a0 a1
abbrev nL.YL:=aQ→aQ→db→bz→Int→Int→Option (aQ×db)
def nL.aa8(N:Nat)(agv:nL.YL)(x4:aQ)(x6:aQ)(x7:db)(cw:bz)(eR:Int)(fy:Int):Option (aQ×db):=
 cond (aY fy (List.length cw:Int)) (cond (ba fy (List.length cw)) (cond (aO (((((List.getD cw fy.toNat ((0:Int),(ck,aV))).2).2).2).1) (2:Int)) (agv x4 x6 x7 cw (W .i64 (eR+1)) (W .i64 (fy+1))) (agv x4 x6 x7 cw eR (W .i64 (fy+1)))) (none)) (some (x4,((0:Int),(eR,((0:Int),())))))
def nL.l41(N:Nat):Nat→nL.YL
 |0,_,_,_,_,_,_=>none
 |n+1,x4,x6,x7,cw,eR,fy=>nL.aa8 N (nL.l41 N n) x4 x6 x7 cw eR fy
def nL.b(N:Nat)(anD:nL.YL)(a0:ae)(a1:aQ)(a2:gP):Option (aQ×db):=
 cond (aO a2.1 14) ((Uw N a0 a1.2.2.1 a1.2.2.2.1.1 a2.2.1 a2.2.2.1).bind λr1=>(fx N r1.2).bind λr2=>some ((a1.1,(a1.2.1,(r1.1,a1.2.2.2))),r2)) (cond (aO a2.1 15) ((mU N a0 a1.2.2.1 a1.2.2.2.1.1).bind λr3=>(fx N r3.2).bind λr4=>some ((a1.1,(a1.2.1,(r3.1,((a1.2.2.2.1.1,((2:Int),((0:Int),a1.2.2.2.1.2.2.2))),a1.2.2.2.2)))),r4)) (cond (aO a2.1 16) ((iS N a0 a1.2.2.1 a1.2.1).bind λr5=>some ((a1.1,((W .i64 (a1.2.1+(List.length r5.1:Int))),(a1.2.2.1,((a1.2.2.2.1.1,(a1.2.2.2.1.2.1,(a1.2.2.2.1.2.2.1,(a1.2.2.2.1.2.2.2.1,(r5.1,a1.2.2.2.1.2.2.2.2.2))))),a1.2.2.2.2)))),(r5.2,((List.length r5.1:Int),((0:Int),()))))) (cond (aO a2.1 17) ((nK N a0 a1 a2).bind λr7=>some (r7.1,r7.2)) (cond (aO a2.1 18) (cond (aO a1.2.2.2.1.2.2.2.1 3) ((fx N (5:Int)).bind λr8=>some (a1,r8)) ((bT N a0 a1.2.2.1 a1.2.1).bind λr9=>cond (!aO r9.2 0) ((fx N r9.2).bind λkB=>some (a1,kB)) ((UH N a1 a0.2.2.2.2.1).bind λnV=>cond (!nV.2) ((fx N (2:Int)).bind λoR=>some (a1,oR)) ((rz N a0 a1.2.2.1).bind λyf=>some ((a1.1,((W .i64 (a1.2.1+(List.length r9.1:Int))),(a1.2.2.1,((a1.2.2.2.1.1,((3:Int),(nV.1,((W .i64 (a1.2.2.2.1.2.2.2.1+1)),(c9,(r9.1,(c9,(yf.1,a1.2.2.2.1.2.2.2.2.2.2.2.2)))))))),a1.2.2.2.2)))),((0:Int),((List.length r9.1:Int),((0:Int),())))))))) (cond (aO a2.1 19) ((aa1 N a0 a1.2.2.1 a1.2.2.2.1.2.2.2.2.2.1 a1.2.2.2.1.2.2.2.2.2.2.1 (a1.2.1,(a2.2.2.2.2.2.1,(a2.2.1,(a2.2.2.2.2.2.2.2.1,()))))).bind λxP=>let v17:Int:=W .i64 (a1.2.1+1);some ((a1.1,(v17,(a1.2.2.1,((a1.2.2.2.1.1,(a1.2.2.2.1.2.1,(a1.2.2.2.1.2.2.1,(a1.2.2.2.1.2.2.2.1,(a1.2.2.2.1.2.2.2.2.1,(a1.2.2.2.1.2.2.2.2.2.1,(xP.1,a1.2.2.2.1.2.2.2.2.2.2.2))))))),a1.2.2.2.2)))),(xP.2,((W .i64 (v17-1)),((0:Int),()))))) (cond (aO a2.1 20) ((fJ N a0 a1.2.2.1 a1.2.2.2.1.2.2.2.2.2.1 a1.2.2.2.1.2.2.2.2.2.2.1).bind λOA=>cond (!aO OA.2.2 0) ((fx N OA.2.2).bind λOt=>some (a1,Ot)) ((dv N a0 a1.2.2.2.1.2.2.2.2.2.2.2.2.1 a1.2.2.2.1.2.2.2.2.2.2.2.1 OA.2.1 a1.2.2.2.1.2.2.2.2.2.2.1).bind λEa=>anD (a1.1,(a1.2.1,(OA.1,((a1.2.2.2.1.1,((2:Int),((0:Int),(a1.2.2.2.1.2.2.2.1,(a1.2.2.2.1.2.2.2.2.1,(OA.2.1,(a1.2.2.2.1.2.2.2.2.2.2.1,(a1.2.2.2.1.2.2.2.2.2.2.2.1,(Ea.1,a1.2.2.2.1.2.2.2.2.2.2.2.2.2))))))))),a1.2.2.2.2)))) ((0:Int),((0:Int),((ck,(c9,(bH,(bH,(dC,(dT,())))))),(((0:Int),((0:Int),((0:Int),((0:Int),(c9,(([]:List ((Int)×((List ((Int)×((Int)×(Unit))))×((Int)×((Int)×((Int)×((Int)×(Unit)))))))),(c9,(dC,(ck,(ck,())))))))))),(((0:Int),((0:Int),(C8,((0:Int),())))),()))))) bh OA.2.1 (0:Int) (0:Int))) (cond (aO a2.1 21) ((ik N a0 a1.2.2.1 a1.2.2.2.1.1 a1.2.2.2.1.2.2.2.2.2.2.2.2.1 a1.2.2.2.1.2.2.2.2.2.2.2.2.2.1).bind λC1=>cond (!aO C1.2.2 0) ((fx N C1.2.2).bind λOq=>some (a1,Oq)) ((nJ N a0 C1.1).bind λr28=>cond (!aO r28.2 0) ((fx N r28.2).bind λEb=>some (a1,Eb)) ((lH N r28.1.1 a1.2.2.2.1.1 a2.1).bind λRf=>some ((a1.1,(a1.2.1,((Rf.1,r28.1.2),(((0:Int),((0:Int),((0:Int),((0:Int),(c9,(([]:List ((Int)×((List ((Int)×((Int)×(Unit))))×((Int)×((Int)×((Int)×((Int)×(Unit)))))))),(c9,(dC,(ck,(ck,())))))))))),(C1.2.1,a1.2.2.2.2.2))))),(Rf.2,((0:Int),(C1.2.1.2.1,()))))))) ((fx N (0:Int)).bind λHb=>some (a1,Hb)))))))))
def nL(N:Nat)(a0:ae)(a1:aQ)(a2:gP):Option (aQ×db):=nL.b N (nL.l41 N N) a0 a1 a2
abbrev pN.YI:=ae→aQ→gP→aQ→db→Option (aQ×db)
def pN.NV(N:Nat)(x3:ae)(x4:aQ)(x5:gP)(x6:aQ)(x7:db):Option (aQ×db):=
 (aa9 N x4 x5.1).bind λOq=>cond (!Oq) ((fx N (6:Int)).bind λr28=>some (x4,r28)) ((nL N x3 x4 x5).bind λEb=>some (Eb.1,Eb.2))
def pN.UA(N:Nat)(x3:ae)(x4:aQ)(x5:gP)(x6:aQ)(x7:db):Option (aQ×db):=pN.NV N x3 x4 x5 x6 x7
def pN.b(N:Nat)(OB:pN.YI)(a0:ae)(a1:aQ)(a2:gP):Option (aQ×db):=
 cond (aO a2.1 11) ((lH N a1.2.2.1.1 a2.2.1 a2.1).bind λr1=>cond (aO r1.2 0) (cond (aO a2.1 11) ((KR N a0 (r1.1,a1.2.2.1.2) a2.2.1).bind λr2=>cond (aO a1.2.2.2.1.2.1 3) ((ph N a1.2.2.2.1.2.2.2.2.2.2.1 a2.2.1).bind λr3=>(fx N r1.2).bind λr4=>some ((a1.1,(a1.2.1,(r2.1,((a1.2.2.2.1.1,(a1.2.2.2.1.2.1,(a1.2.2.2.1.2.2.1,(a1.2.2.2.1.2.2.2.1,(a1.2.2.2.1.2.2.2.2.1,(a1.2.2.2.1.2.2.2.2.2.1,(r3,a1.2.2.2.1.2.2.2.2.2.2.2))))))),a1.2.2.2.2)))),r4)) ((fx N r1.2).bind λr5=>some ((a1.1,(a1.2.1,(r2.1,a1.2.2.2))),r5))) ((fx N r1.2).bind λr6=>some ((a1.1,(a1.2.1,((r1.1,a1.2.2.1.2),a1.2.2.2))),r6))) ((fx N r1.2).bind λr7=>some ((a1.1,(a1.2.1,((r1.1,a1.2.2.1.2),a1.2.2.2))),r7))) (cond (aO a2.1 12) ((lH N a1.2.2.1.1 a2.2.1 a2.1).bind λr8=>cond (aO r8.2 0) (cond (aO a2.1 11) ((KR N a0 (r8.1,a1.2.2.1.2) a2.2.1).bind λr9=>cond (aO a1.2.2.2.1.2.1 3) ((ph N a1.2.2.2.1.2.2.2.2.2.2.1 a2.2.1).bind λkB=>(fx N r8.2).bind λnV=>some ((a1.1,(a1.2.1,(r9.1,((a1.2.2.2.1.1,(a1.2.2.2.1.2.1,(a1.2.2.2.1.2.2.1,(a1.2.2.2.1.2.2.2.1,(a1.2.2.2.1.2.2.2.2.1,(a1.2.2.2.1.2.2.2.2.2.1,(kB,a1.2.2.2.1.2.2.2.2.2.2.2))))))),a1.2.2.2.2)))),nV)) ((fx N r8.2).bind λoR=>some ((a1.1,(a1.2.1,(r9.1,a1.2.2.2))),oR))) ((fx N r8.2).bind λqw=>some ((a1.1,(a1.2.1,((r8.1,a1.2.2.1.2),a1.2.2.2))),qw))) ((fx N r8.2).bind λyf=>some ((a1.1,(a1.2.1,((r8.1,a1.2.2.1.2),a1.2.2.2))),yf))) (cond (aO a2.1 13) ((Ge N a1 a2.2.1).bind λw8=>cond (aO w8 0) ((fx N (3:Int)).bind λxP=>some (a1,xP)) (cond (!aO a1.2.2.2.1.2.1 0) ((fx N (6:Int)).bind λA9=>some (a1,A9)) ((lH N a1.2.2.1.1 a2.2.1 a2.1).bind λvj=>cond (!aO vj.2 0) ((fx N vj.2).bind λOA=>some ((a1.1,(a1.2.1,((vj.1,a1.2.2.1.2),a1.2.2.2))),OA)) ((UH N (a1.1,(a1.2.1,((vj.1,a1.2.2.1.2),a1.2.2.2))) a0.2.2.2.1).bind λOt=>cond (!Ot.2) ((fx N (2:Int)).bind λEa=>some ((a1.1,(a1.2.1,((vj.1,a1.2.2.1.2),a1.2.2.2))),Ea)) (some ((a1.1,(a1.2.1,((vj.1,a1.2.2.1.2),((a2.2.1,((1:Int),(Ot.1,((0:Int),(c9,(([]:List ((Int)×((List ((Int)×((Int)×(Unit))))×((Int)×((Int)×((Int)×((Int)×(Unit)))))))),(c9,(dC,(ck,(ck,())))))))))),a1.2.2.2.2)))),bh)))))) (cond (aO a2.1 19) ((Ge N a1 a2.2.1).bind λLb=>cond (aO Lb 0) ((fx N (3:Int)).bind λCZ=>some (a1,CZ)) ((Ge N a1 a2.2.1).bind λLA=>cond (!aO LA 1) ((fx N (7:Int)).bind λHa=>some (a1,Ha)) (OB a0 a1 a2 ((0:Int),((0:Int),((ck,(c9,(bH,(bH,(dC,(dT,())))))),(((0:Int),((0:Int),((0:Int),((0:Int),(c9,(([]:List ((Int)×((List ((Int)×((Int)×(Unit))))×((Int)×((Int)×((Int)×((Int)×(Unit)))))))),(c9,(dC,(ck,(ck,())))))))))),(((0:Int),((0:Int),(C8,((0:Int),())))),()))))) bh))) (OB a0 a1 a2 ((0:Int),((0:Int),((ck,(c9,(bH,(bH,(dC,(dT,())))))),(((0:Int),((0:Int),((0:Int),((0:Int),(c9,(([]:List ((Int)×((List ((Int)×((Int)×(Unit))))×((Int)×((Int)×((Int)×((Int)×(Unit)))))))),(c9,(dC,(ck,(ck,())))))))))),(((0:Int),((0:Int),(C8,((0:Int),())))),()))))) bh))))
def pN(N:Nat)(a0:ae)(a1:aQ)(a2:gP):Option (aQ×db):=pN.b N (pN.UA N) a0 a1 a2
def UJ(N:Nat)(a0:ae)(a1:aQ)(a2:gP):Option (aQ×db):=
 cond (aO a2.1 1) ((ig N a1.2.2.1.1 a2.2.1).bind λr1=>(fx N r1.2).bind λr2=>some ((a1.1,(a1.2.1,((r1.1,a1.2.2.1.2),a1.2.2.2))),r2)) (cond (aO a2.1 2) ((fe N a1.2.2.1.1 a1.2.2.1.2.1 (a2.2.2.1,(a2.2.1,(a2.2.2.2.2.1,((0:Int),()))))).bind λr3=>(fx N r3.2).bind λr4=>some ((a1.1,(a1.2.1,((a1.2.2.1.1,(r3.1,a1.2.2.1.2.2)),a1.2.2.2))),r4)) (cond (aO a2.1 3) ((QW N a1 a2.2.2.1).bind λr5=>cond (!r5) ((fx N (3:Int)).bind λr6=>some (a1,r6)) ((N1 N a1 (1:Int) (0:Int) (5:Int) a2.2.2.1 a2.2.2.2.2.2.2.1).bind λr7=>some (r7.1,r7.2))) (cond (aO a2.1 4) ((Uv N a0 a1.2.2.1 a2.2.2.1 a2.2.2.2.2.2.2.1).bind λr8=>(fx N r8.2).bind λr9=>some ((a1.1,(a1.2.1,(r8.1,a1.2.2.2))),r9)) (cond (aO a2.1 5) ((Ge N a1 a2.2.1).bind λkB=>cond (aO kB 0) ((fx N (3:Int)).bind λnV=>some (a1,nV)) ((Ge N a1 a2.2.1).bind λoR=>cond (!aO oR 1) ((fx N (7:Int)).bind λqw=>some (a1,qw)) ((N1 N a1 (1:Int) (0:Int) (6:Int) a2.2.1 a2.2.2.2.2.2.2.1).bind λyf=>some (yf.1,yf.2)))) (cond (aO a2.1 22) ((Ge N a1 a2.2.1).bind λw8=>cond (aO w8 0) ((fx N (3:Int)).bind λxP=>some (a1,xP)) ((uI N a1.2.2.1.2.2.1 (7:Int) a2.2.1).bind λA9=>(jV N A9).bind λvj=>(TQ N vj).bind λOA=>(jV N a2.2.2.2.2.2.2.1).bind λOt=>(PW N Ot OA).bind λEa=>cond (aY 0 Ea) ((fx N (9:Int)).bind λLb=>some (a1,Lb)) ((N1 N a1 (1:Int) (0:Int) (7:Int) a2.2.1 a2.2.2.2.2.2.2.1).bind λCZ=>some (CZ.1,CZ.2)))) (cond (aO a2.1 6) ((nF N a1.2.2.1.2.1 a2.2.2.1 a2.2.2.2.2.2.2.1).bind λLA=>(fx N LA.2).bind λHa=>some ((a1.1,(a1.2.1,((a1.2.2.1.1,(LA.1,a1.2.2.1.2.2)),a1.2.2.2))),Ha)) (cond (aO a2.1 7) ((jj N a0 a1.2.2.1 (a1.2.1,(a2.2.2.1,(a2.2.2.2.1,(a2.2.2.2.2.1,(a2.2.2.2.2.2.2.1,(a2.2.2.2.2.2.2.2.1,()))))))).bind λC1=>let v27:Int:=W .i64 (a1.2.1+1);some ((a1.1,(v27,(C1.1,a1.2.2.2))),(C1.2.2.2,((W .i64 (v27-1)),((W .i64 (a2.2.2.2.2.2.2.1-C1.2.2.1)),()))))) (cond (aO a2.1 8) ((QW N a1 a2.2.2.1).bind λRf=>cond (!Rf) ((fx N (3:Int)).bind λHb=>some (a1,Hb)) ((nH N a1.2.2.1.2.2.2.2.2.1 a2.2.2.1 a2.2.2.2.2.2.1).bind λr32=>(fx N r32.2).bind λr33=>some ((a1.1,(a1.2.1,((a1.2.2.1.1,(a1.2.2.1.2.1,(a1.2.2.1.2.2.1,(a1.2.2.1.2.2.2.1,(a1.2.2.1.2.2.2.2.1,(r32.1,a1.2.2.1.2.2.2.2.2.2)))))),a1.2.2.2))),r33))) (cond (aO a2.1 9) ((Uu N a0 a1.2.2.1 a2.2.2.2.1 a2.2.2.2.2.2.2.2.1).bind λYw=>cond (aO Yw.2.2 0) (cond (!aO a1.2.2.2.1.2.1 0) ((eP N a1.2.2.2.1.2.2.2.2.2.2.2.2.2.1 Yw.2.1).bind λr35=>(fx N r35.2).bind λr36=>some ((a1.1,(a1.2.1,(Yw.1,((a1.2.2.2.1.1,(a1.2.2.2.1.2.1,(a1.2.2.2.1.2.2.1,(a1.2.2.2.1.2.2.2.1,(a1.2.2.2.1.2.2.2.2.1,(a1.2.2.2.1.2.2.2.2.2.1,(a1.2.2.2.1.2.2.2.2.2.2.1,(a1.2.2.2.1.2.2.2.2.2.2.2.1,(a1.2.2.2.1.2.2.2.2.2.2.2.2.1,(r35.1,a1.2.2.2.1.2.2.2.2.2.2.2.2.2.2)))))))))),a1.2.2.2.2)))),r36)) ((fx N Yw.2.2).bind λr37=>some ((a1.1,(a1.2.1,(Yw.1,a1.2.2.2))),r37))) ((fx N Yw.2.2).bind λr38=>some ((a1.1,(a1.2.1,(Yw.1,a1.2.2.2))),r38))) (cond (aO a2.1 10) ((UH N a1 a2.2.2.2.2.2.2.1).bind λr39=>cond (!r39.2) ((fx N (2:Int)).bind λr40=>some (a1,r40)) (some ((r39.1,a1.2),bh))) ((pN N a0 a1 a2).bind λr41=>some (r41.1,r41.2))))))))))))
def QX(N:Nat)(a0:ae)(a1:aQ)(a2:gP):Option (aQ×db):=
 (me N a0).bind λr1=>cond (!r1) (some (a1,((1:Int),cA))) ((rr N a2).bind λr2=>cond (!r2) (some (a1,((1:Int),cA))) ((UJ N a0 a1 a2).bind λr3=>cond (!aO r3.2.1 0) (some (a1,(r3.2.1,cA))) (some (r3.1,r3.2))))
abbrev qg.aiz:=cE→cS→aQ→Option (aQ×cE×cS)
def qg.l1b(N:Nat)(asK:qg.aiz)(x0:cE)(x1:cS)(x4:aQ):Option (aQ×cE×cS):=
 cond (aY x0.2.2.1 (List.length x1:Int)) (cond (ba x0.2.2.1 (List.length x1)) ((QX N x0.1 x0.2.1 (List.getD x1 x0.2.2.1.toNat zz8)).bind λr2=>asK (x0.1,(r2.1,((W .i64 (x0.2.2.1+1)),x0.2.2.2))) x1 x4) (none)) (some (x0.2.1,x0,x1))
def qg.l1(N:Nat):Nat→qg.aiz
 |0,_,_,_=>none
 |n+1,x0,x1,x4=>qg.l1b N (qg.l1 N n) x0 x1 x4
def qg.b(N:Nat)(asL:qg.aiz)(a0:cE)(a1:cS):Option (aQ×cE×cS):=
 asL a0 a1 ((0:Int),((0:Int),((ck,(c9,(bH,(bH,(dC,(dT,())))))),(((0:Int),((0:Int),((0:Int),((0:Int),(c9,(([]:List ((Int)×((List ((Int)×((Int)×(Unit))))×((Int)×((Int)×((Int)×((Int)×(Unit)))))))),(c9,(dC,(ck,(ck,())))))))))),(((0:Int),((0:Int),(C8,((0:Int),())))),())))))
def qg(N:Nat)(a0:cE)(a1:cS):Option (aQ×cE×cS):=qg.b N (qg.l1 N N) a0 a1
abbrev dZ.xc:=aM→cE→cS→aQ→Int→ir→Int→Option (cS×aM×cE)
abbrev dZ.fX:=aM→cE→cS→aQ→Int→Option (cS×aM×cE)
abbrev dZ.JF:=aM→cE→cS→Option (cS×aM×cE)
abbrev dZ.bM:=aM→cE→cS→aQ→Int→Option (cS×aM×cE)
def dZ.Dv(N:Nat)(gO:dZ.fX)(JE:dZ.xc)(x0:aM)(x1:cE)(x2:cS)(bw:aQ)(a6:Int)(bc:ir)(bZ:Int):Option (cS×aM×cE):=
 cond (dk bZ 4) ((QP N x0 (3:Int)).bind λEa=>cond (!Ea.1) ((pS N Ea.2 (41:Int)).bind λLb=>let v26:Int:=mx (mn (W .i64 ((W .i64 (bc.2.2.1+Lb.1))-20)) (1152921504606846976:Int)) (-1152921504606846976:Int);cond (small (List.length x2+List.length ([((19:Int),(bZ,((0:Int),((0:Int),((0:Int),(bc.1,((0:Int),(v26,()))))))))]))) (JE Lb.2 x1 (x2++([((19:Int),(bZ,((0:Int),((0:Int),((0:Int),(bc.1,((0:Int),(v26,()))))))))])) bw a6 bc (W .i64 (bZ+1))) (none)) (JE Ea.2 x1 x2 bw a6 bc (W .i64 (bZ+1)))) (gO x0 x1 x2 bw (W .i64 (a6+1)))
def dZ.DZ(N:Nat)(gO:dZ.fX):Nat→dZ.xc
 |0,_,_,_,_,_,_,_=>none
 |n+1,x0,x1,x2,bw,a6,bc,bZ=>dZ.Dv N gO (dZ.DZ N gO n) x0 x1 x2 bw a6 bc bZ
def dZ.mP(N:Nat)(Ov:dZ.xc)(gO:dZ.fX)(x0:aM)(x1:cE)(x2:cS)(bw:aQ)(a6:Int):Option (cS×aM×cE):=
 cond (aY a6 (List.length bw.2.2.2.1.2.2.2.2.2.1:Int)) (cond (ba a6 (List.length bw.2.2.2.1.2.2.2.2.2.1)) (Ov x0 x1 x2 bw a6 (List.getD bw.2.2.2.1.2.2.2.2.2.1 a6.toNat ((0:Int),(ck,aV))) (1:Int)) (none)) ((nE N x0 x1.1).bind λHb=>cond (small (List.length x2+List.length Hb.1)) (let v32:List ((Int)×((Int)×((Int)×((Int)×((Int)×((Int)×((Int)×((Int)×(Unit))))))))):=x2++Hb.1;cond (small (List.length v32+List.length ([((10:Int),((0:Int),((0:Int),((0:Int),((0:Int),((0:Int),((2:Int),((0:Int),())))))))),((20:Int),Lo)]))) (some ((v32++([((10:Int),((0:Int),((0:Int),((0:Int),((0:Int),((0:Int),((2:Int),((0:Int),())))))))),((20:Int),Lo)])),Hb.2,x1)) (none)) (none))
def dZ.nT(N:Nat):Nat→dZ.fX
 |0,_,_,_,_,_=>none
 |n+1,x0,x1,x2,bw,a6=>dZ.mP N (dZ.DZ N (dZ.nT N n) N) (dZ.nT N n) x0 x1 x2 bw a6
def dZ.BO(N:Nat)(tQ:dZ.fX)(x0:aM)(x1:cE)(x2:cS):Option (cS×aM×cE):=
 cond (small (List.length x2+List.length ([((18:Int),Lo)]))) ((qg N x1 (x2++([((18:Int),Lo)]))).bind λvj=>tQ x0 vj.2.1 vj.2.2 vj.1 (0:Int)) (none)
def dZ.HN(N:Nat)(x0:aM)(x1:cE)(x2:cS):Option (cS×aM×cE):=dZ.BO N (dZ.nT N N) x0 x1 x2
def dZ.ei(N:Nat)(xg:dZ.JF)(bQ:dZ.bM)(x0:aM)(x1:cE)(x2:cS)(x7:aQ)(x8:Int):Option (cS×aM×cE):=
 cond (aY x8 (List.length x7.2.2.2.1.2.2.2.2.1:Int)) (cond (ba x8 (List.length x7.2.2.2.1.2.2.2.2.1)) ((QP N x0 (2:Int)).bind λr5=>cond (r5.1) ((pS N r5.2 (7:Int)).bind λr6=>let v7:Int:=W .i64 ((1:Int)+r6.1);(F62 N r6.2).bind λr8=>let v9:Int:=W .u64 (((((List.getD x7.2.2.2.1.2.2.2.2.1 x8.toNat aV).2).2).2).1);cond (aO v9 0) (none) (let YE:Int:=W .i64 ((1:Int)+(W .i64 (rem r8.1 v9)));cond (ba (((List.getD x7.2.2.2.1.2.2.2.2.1 x8.toNat aV).2).1) (List.length x7.2.2.1.2.2.2.2.1)) (cond (small (List.length x2+List.length ([((17:Int),((0:Int),(v7,((0:Int),((0:Int),((List.getD x7.2.2.2.1.2.2.2.2.1 x8.toNat aV).1,(YE,(List.getD x7.2.2.1.2.2.2.2.1 (((List.getD x7.2.2.2.1.2.2.2.2.1 x8.toNat aV).2).1).toNat (0:Int),()))))))))]))) (bQ r8.2 x1 (x2++([((17:Int),((0:Int),(v7,((0:Int),((0:Int),((List.getD x7.2.2.2.1.2.2.2.2.1 x8.toNat aV).1,(YE,(List.getD x7.2.2.1.2.2.2.2.1 (((List.getD x7.2.2.2.1.2.2.2.2.1 x8.toNat aV).2).1).toNat (0:Int),()))))))))])) x7 (W .i64 (x8+1))) (none)) (none))) (bQ r5.2 x1 x2 x7 (W .i64 (x8+1)))) (none)) (xg x0 x1 x2)
def dZ.l5(N:Nat):Nat→dZ.bM
 |0,_,_,_,_,_=>none
 |n+1,x0,x1,x2,x7,x8=>dZ.ei N (dZ.HN N) (dZ.l5 N n) x0 x1 x2 x7 x8
def dZ.b(N:Nat)(eW:dZ.bM)(xg:dZ.JF)(a0:aM)(a1:cE)(a2:cS):Option (cS×aM×cE):=
 (QP N a0 (2:Int)).bind λr1=>cond (r1.1) (cond (small (List.length a2+List.length ([((16:Int),Lo)]))) ((qg N a1 (a2++([((16:Int),Lo)]))).bind λr3=>eW r1.2 r3.2.1 r3.2.2 r3.1 (0:Int)) (none)) (xg r1.2 a1 a2)
def dZ(N:Nat)(a0:aM)(a1:cE)(a2:cS):Option (cS×aM×cE):=dZ.b N (dZ.l5 N N) (dZ.HN N) a0 a1 a2
abbrev jm.xc:=aM→ae→cE→cS→Int→Option (cS×aM)
abbrev jm.mw:=aM→ae→cE→cS→Int→Option (cS×aM)
def jm.Dv(N:Nat)(JE:jm.xc)(x0:aM)(x4:ae)(x9:cE)(bw:cS)(bZ:Int):Option (cS×aM):=
 cond (aY 0 bZ) ((dZ N x0 x9 bw).bind λHa=>JE Ha.2.1 x4 Ha.2.2 Ha.1 (W .i64 (bZ-1))) ((QP N x0 (4:Int)).bind λOq=>cond (!Oq.1) (cond (small (List.length bw+List.length ([((21:Int),Lo)]))) (let v28:List ((Int)×((Int)×((Int)×((Int)×((Int)×((Int)×((Int)×((Int)×(Unit))))))))):=bw++([((21:Int),Lo)]);(nE N Oq.2 x4).bind λEb=>cond (small (List.length v28+List.length Eb.1)) (some ((v28++Eb.1),Eb.2)) (none)) (none)) ((nE N Oq.2 x4).bind λHb=>cond (small (List.length bw+List.length Hb.1)) (some ((bw++Hb.1),Hb.2)) (none)))
def jm.DZ(N:Nat):Nat→jm.xc
 |0,_,_,_,_,_=>none
 |n+1,x0,x4,x9,bw,bZ=>jm.Dv N (jm.DZ N n) x0 x4 x9 bw bZ
def jm.xy(N:Nat)(Ov:jm.xc)(rN:jm.mw)(x0:aM)(x4:ae)(x9:cE)(bw:cS)(bc:Int):Option (cS×aM):=
 cond (dk bc 7) ((QP N x0 (3:Int)).bind λkB=>cond (kB.1) ((pS N kB.2 (2:Int)).bind λnV=>let YE:Int:=W .i64 ((3:Int)+nV.1);cond (small (List.length bw+List.length ([((14:Int),(YE,(bc,mK)))]))) (rN nV.2 x4 x9 (bw++([((14:Int),(YE,(bc,mK)))])) (W .i64 (bc+1))) (none)) (rN kB.2 x4 x9 bw (W .i64 (bc+1)))) ((nE N x0 x4).bind λxP=>cond (small (List.length bw+List.length xP.1)) (let v17:List ((Int)×((Int)×((Int)×((Int)×((Int)×((Int)×((Int)×((Int)×(Unit))))))))):=bw++xP.1;(pS N xP.2 (2:Int)).bind λvj=>let v19:Int:=W .i64 ((2:Int)+vj.1);cond (small (List.length v17+List.length ([((10:Int),((0:Int),((0:Int),((0:Int),((0:Int),((0:Int),(v19,((0:Int),())))))))),((15:Int),Lo)]))) (let v20:List ((Int)×((Int)×((Int)×((Int)×((Int)×((Int)×((Int)×((Int)×(Unit))))))))):=v17++([((10:Int),((0:Int),((0:Int),((0:Int),((0:Int),((0:Int),(v19,((0:Int),())))))))),((15:Int),Lo)]);(nE N vj.2 x4).bind λEa=>cond (small (List.length v20+List.length Ea.1)) ((pS N Ea.2 (3:Int)).bind λCZ=>Ov CZ.2 x4 x9 (v20++Ea.1) CZ.1) (none)) (none)) (none))
def jm.l9(N:Nat):Nat→jm.mw
 |0,_,_,_,_,_=>none
 |n+1,x0,x4,x9,bw,bc=>jm.xy N (jm.DZ N N) (jm.l9 N n) x0 x4 x9 bw bc
def jm.b(N:Nat)(y8:jm.mw)(a0:aM)(a1:ae)(a2:Int):Option (cS×aM):=
 (Ym N a1).bind λr1=>(pM N a0 a1 a2).bind λr2=>(pS N r2.2 (2:Int)).bind λr3=>let v4:Int:=W .i64 ((1:Int)+r3.1);cond (small (List.length r2.1+List.length ([((11:Int),(v4,fa))]))) (let v5:List ((Int)×((Int)×((Int)×((Int)×((Int)×((Int)×((Int)×((Int)×(Unit))))))))):=r2.1++([((11:Int),(v4,fa))]);(nE N r3.2 a1).bind λr6=>cond (small (List.length v5+List.length r6.1)) (let v7:List ((Int)×((Int)×((Int)×((Int)×((Int)×((Int)×((Int)×((Int)×(Unit))))))))):=v5++r6.1;cond (small (List.length v7+List.length ([((13:Int),(v4,fa))]))) (y8 r6.2 a1 (a1,(r1.1,((0:Int),()))) (v7++([((13:Int),(v4,fa))])) (5:Int)) (none)) (none)) (none)
def jm(N:Nat)(a0:aM)(a1:ae)(a2:Int):Option (cS×aM):=jm.b N (jm.l9 N N) a0 a1 a2
abbrev Gw.bM:=aM→ae→cS→Int→Option (cS×aM)
def Gw.ei(N:Nat)(bQ:Gw.bM)(x0:aM)(x4:ae)(x7:cS)(x8:Int):Option (cS×aM):=
 cond (aY 0 x8) ((Uo N x0 x4).bind λr5=>cond (small (List.length x7+List.length ([r5.1]))) (bQ r5.2 x4 (x7++([r5.1])) (W .i64 (x8-1))) (none)) (some (x7,x0))
def Gw.l5(N:Nat):Nat→Gw.bM
 |0,_,_,_,_=>none
 |n+1,x0,x4,x7,x8=>Gw.ei N (Gw.l5 N n) x0 x4 x7 x8
def Gw.b(N:Nat)(eW:Gw.bM)(a0:aM)(a1:ae)(a2:Int):Option (cS×aM):=
 (pS N a0 (5:Int)).bind λr1=>cond (aO r1.1 0) ((pS N r1.2 (W .i64 (a2+1))).bind λr3=>eW r3.2 a1 ([]) r3.1) (cond (aO r1.1 1) ((pM N r1.2 a1 a2).bind λr8=>some (r8.1,r8.2)) ((jm N r1.2 a1 a2).bind λr9=>some (r9.1,r9.2)))
def Gw(N:Nat)(a0:aM)(a1:ae)(a2:Int):Option (cS×aM):=Gw.b N (Gw.l5 N N) a0 a1 a2
abbrev Gv.jE:=cS→ae→aQ→aQ→au→Int→Option (aQ×au)
def Gv.uu(N:Nat)(kC:Gv.jE)(x1:cS)(x2:ae)(x4:aQ)(x6:aQ)(x8:au)(x9:Int):Option (aQ×au):=
 cond (aY x9 (List.length x1:Int)) (cond (ba x9 (List.length x1)) ((QX N x2 x6 (List.getD x1 x9.toNat zz8)).bind λr3=>cond (small (List.length x8+List.length ([r3.2]))) (kC x1 x2 x4 r3.1 (x8++([r3.2])) (W .i64 (x9+1))) (none)) (none)) (some (x6,x8))
def Gv.l6(N:Nat):Nat→Gv.jE
 |0,_,_,_,_,_,_=>none
 |n+1,x1,x2,x4,x6,x8,x9=>Gv.uu N (Gv.l6 N n) x1 x2 x4 x6 x8 x9
def Gv.b(N:Nat)(xb:Gv.jE)(a0:ae)(a1:cS):Option (aQ×au):=
 (Ym N a0).bind λr1=>cond (!aO r1.2 0) (some (((0:Int),((0:Int),((ck,(c9,(bH,(bH,(dC,(dT,())))))),(((0:Int),((0:Int),((0:Int),((0:Int),(c9,(([]:List ((Int)×((List ((Int)×((Int)×(Unit))))×((Int)×((Int)×((Int)×((Int)×(Unit)))))))),(c9,(dC,(ck,(ck,())))))))))),(((0:Int),((0:Int),(C8,((0:Int),())))),()))))),[])) (xb a1 a0 ((0:Int),((0:Int),((ck,(c9,(bH,(bH,(dC,(dT,())))))),(((0:Int),((0:Int),((0:Int),((0:Int),(c9,(([]:List ((Int)×((List ((Int)×((Int)×(Unit))))×((Int)×((Int)×((Int)×((Int)×(Unit)))))))),(c9,(dC,(ck,(ck,())))))))))),(((0:Int),((0:Int),(C8,((0:Int),())))),()))))) r1.1 ([]) (0:Int))
def Gv(N:Nat)(a0:ae)(a1:cS):Option (aQ×au):=Gv.b N (Gv.l6 N N) a0 a1
def F18(N:Nat)(a0:aM)(a1:ae)(a2:Int):Option (aQ×aM):=
 (Gw N a0 a1 a2).bind λr1=>(Gv N a1 r1.1).bind λr2=>some (r2.1,r1.2)
abbrev Dx.bE:=aD→aD→Int→Option (Bool)
def Dx.dw(N:Nat)(cr:Dx.bE)(x0:aD)(x1:aD)(x5:Int):Option (Bool):=
 cond (aY x5 (List.length x0:Int)) (cond (ba x5 (List.length x0)) (cond (ba x5 (List.length x1)) (cond (!(pt (.pair (.int .i64) (.pair (.int .i64) .unit)) (List.getD x0 x5.toNat cA) (List.getD x1 x5.toNat cA))) (some false) (cr x0 x1 (W .i64 (x5+1)))) (none)) (none)) (some true)
def Dx.l4(N:Nat):Nat→Dx.bE
 |0,_,_,_=>none
 |n+1,x0,x1,x5=>Dx.dw N (Dx.l4 N n) x0 x1 x5
def Dx.b(N:Nat)(eH:Dx.bE)(a0:aD)(a1:aD):Option (Bool):=
 cond (!aO (List.length a0:Int) (List.length a1:Int)) (some false) (eH a0 a1 (0:Int))
def Dx(N:Nat)(a0:aD)(a1:aD):Option (Bool):=Dx.b N (Dx.l4 N N) a0 a1
abbrev Dy.bE:=aK→aK→Int→Option (Bool)
def Dy.dw(N:Nat)(cr:Dy.bE)(x0:aK)(x1:aK)(x5:Int):Option (Bool):=
 cond (aY x5 (List.length x0:Int)) (cond (ba x5 (List.length x0)) (cond (ba x5 (List.length x1)) (cond (!(pt (.pair (.int .i64) (.pair (.int .i64) (.pair (.int .i64) (.pair (.int .i64) .unit)))) (List.getD x0 x5.toNat aV) (List.getD x1 x5.toNat aV))) (some false) (cr x0 x1 (W .i64 (x5+1)))) (none)) (none)) (some true)
def Dy.l4(N:Nat):Nat→Dy.bE
 |0,_,_,_=>none
 |n+1,x0,x1,x5=>Dy.dw N (Dy.l4 N n) x0 x1 x5
def Dy.b(N:Nat)(eH:Dy.bE)(a0:aK)(a1:aK):Option (Bool):=
 cond (!aO (List.length a0:Int) (List.length a1:Int)) (some false) (eH a0 a1 (0:Int))
def Dy(N:Nat)(a0:aK)(a1:aK):Option (Bool):=Dy.b N (Dy.l4 N N) a0 a1
abbrev Dz.bE:=au→au→Int→Option (Bool)
def Dz.dw(N:Nat)(cr:Dz.bE)(x0:au)(x1:au)(x5:Int):Option (Bool):=
 cond (aY x5 (List.length x0:Int)) (cond (ba x5 (List.length x0)) (cond (ba x5 (List.length x1)) (cond (!(pt (.pair (.int .i64) (.pair (.int .i64) (.pair (.int .i64) .unit))) (List.getD x0 x5.toNat bh) (List.getD x1 x5.toNat bh))) (some false) (cr x0 x1 (W .i64 (x5+1)))) (none)) (none)) (some true)
def Dz.l4(N:Nat):Nat→Dz.bE
 |0,_,_,_=>none
 |n+1,x0,x1,x5=>Dz.dw N (Dz.l4 N n) x0 x1 x5
def Dz.b(N:Nat)(eH:Dz.bE)(a0:au)(a1:au):Option (Bool):=
 cond (!aO (List.length a0:Int) (List.length a1:Int)) (some false) (eH a0 a1 (0:Int))
def Dz(N:Nat)(a0:au)(a1:au):Option (Bool):=Dz.b N (Dz.l4 N N) a0 a1
abbrev DA.bE:=au→au→Int→Option (Bool)
def DA.dw(N:Nat)(cr:DA.bE)(x0:au)(x1:au)(x5:Int):Option (Bool):=
 cond (aY x5 (List.length x0:Int)) (cond (ba x5 (List.length x0)) (cond (ba x5 (List.length x1)) (cond (!(pt (.pair (.int .i64) (.pair (.int .i64) (.pair (.int .i64) .unit))) (List.getD x0 x5.toNat bh) (List.getD x1 x5.toNat bh))) (some false) (cr x0 x1 (W .i64 (x5+1)))) (none)) (none)) (some true)
def DA.l4(N:Nat):Nat→DA.bE
 |0,_,_,_=>none
 |n+1,x0,x1,x5=>DA.dw N (DA.l4 N n) x0 x1 x5
def DA.b(N:Nat)(eH:DA.bE)(a0:au)(a1:au):Option (Bool):=
 cond (!aO (List.length a0:Int) (List.length a1:Int)) (some false) (eH a0 a1 (0:Int))
def DA(N:Nat)(a0:au)(a1:au):Option (Bool):=DA.b N (DA.l4 N N) a0 a1
abbrev DC.bE:=(List (Int))→(List (Int))→Int→Option (Bool)
def DC.dw(N:Nat)(cr:DC.bE)(x0:List (Int))(x1:List (Int))(x5:Int):Option (Bool):=
 cond (aY x5 (List.length x0:Int)) (cond (ba x5 (List.length x0)) (cond (ba x5 (List.length x1)) (cond (!aO (List.getD x0 x5.toNat (0:Int)) (List.getD x1 x5.toNat (0:Int))) (some false) (cr x0 x1 (W .i64 (x5+1)))) (none)) (none)) (some true)
def DC.l4(N:Nat):Nat→DC.bE
 |0,_,_,_=>none
 |n+1,x0,x1,x5=>DC.dw N (DC.l4 N n) x0 x1 x5
def DC.b(N:Nat)(eH:DC.bE)(a0:List (Int))(a1:List (Int)):Option (Bool):=
 cond (!aO (List.length a0:Int) (List.length a1:Int)) (some false) (eH a0 a1 (0:Int))
def DC(N:Nat)(a0:List (Int))(a1:List (Int)):Option (Bool):=DC.b N (DC.l4 N N) a0 a1
abbrev DB.bE:=bq→bq→Int→Option (Bool)
def DB.dw(N:Nat)(cr:DB.bE)(x0:bq)(x1:bq)(x5:Int):Option (Bool):=
 cond (aY x5 (List.length x0:Int)) (cond (ba x5 (List.length x0)) (cond (ba x5 (List.length x1)) (cond (!(pt (.pair (.int .i64) (.pair (.int .i64) (.pair (.int .i64) (.pair (.int .i64) (.pair (.int .i64) (.pair (.int .i64) .unit)))))) (List.getD x0 x5.toNat fa) (List.getD x1 x5.toNat fa))) (some false) (cr x0 x1 (W .i64 (x5+1)))) (none)) (none)) (some true)
def DB.l4(N:Nat):Nat→DB.bE
 |0,_,_,_=>none
 |n+1,x0,x1,x5=>DB.dw N (DB.l4 N n) x0 x1 x5
def DB.b(N:Nat)(eH:DB.bE)(a0:bq)(a1:bq):Option (Bool):=
 cond (!aO (List.length a0:Int) (List.length a1:Int)) (some false) (eH a0 a1 (0:Int))
def DB(N:Nat)(a0:bq)(a1:bq):Option (Bool):=DB.b N (DB.l4 N N) a0 a1
def F35(N:Nat)(a0:aq)(a1:aq):Option (Bool):=
 (Dx N a0.1 a1.1).bind λr1=>cond (r1) ((Dy N a0.2.1 a1.2.1).bind λr2=>cond (r2) ((Dz N a0.2.2.1 a1.2.2.1).bind λr3=>cond (r3) ((DA N a0.2.2.2.1 a1.2.2.2.1).bind λr4=>cond (r4) ((DC N a0.2.2.2.2.1 a1.2.2.2.2.1).bind λr5=>cond (r5) ((DB N a0.2.2.2.2.2.1 a1.2.2.2.2.2.1).bind λr6=>some r6) (some false)) (some false)) (some false)) (some false)) (some false)
def F6(N:Nat)(a0:List (Int))(a1:Int):Option (Bool):=
 (F15 N).bind λr1=>cond (!r1) (some false) ((F16 N a0).bind λr2=>(uW N r2).bind λr3=>(F18 N r3.2 r3.1 (30:Int)).bind λr4=>cond (aO 5 0) (none) (let v7:Int:=W .i64 ((1:Int)+(W .i64 (rem a1 5)));(sO N r3.1 r4.1.2.2.1 v7).bind λr8=>cond (!aO r8.2 0) (some (aO (List.length r8.1.2.1:Int) 0)) ((sO N r3.1 r8.1 v7).bind λr9=>cond (aO r9.2 0) ((F35 N r9.1 r8.1).bind λkB=>some kB) (some false))))
end
end VM.F
