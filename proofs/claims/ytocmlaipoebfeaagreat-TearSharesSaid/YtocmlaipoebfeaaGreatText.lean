/- A part of the proof of TearShares of layer 29: the functions as equations between values, printed by a program. -/
import Derived.Test.YtocmlaipoebfeaaGreatVm0
set_option linter.all false
namespace VM.F
open Go VM
set_option maxRecDepth 100000
noncomputable section
abbrev pX:Ty:=(.pair .str .unit)
abbrev g7:Ty:=(.pair .str (.pair (.int .u64) .unit))
abbrev gP:Ty:=(.pair (.int .i64) (.pair (.int .i64) .unit))
abbrev eI:Ty:=(.pair (.int .i64) (.pair (.int .u64) .unit))
abbrev bL:Ty:=(.pair .bool (.pair (.slice (.int .u64)) .unit))
abbrev dw:Ty:=(.pair (.slice (.int .u64)) (.pair (.int .i64) .unit))
abbrev fG:Ty:=(.pair (.int .i64) gP)
abbrev pY:Ty:=(.pair (.int .i64) (.pair (.int .i64) (.pair .bool (.pair (.int .u8) .unit))))
abbrev db:Ty:=(.pair (.int .i64) fG)
abbrev vX:Ty:=(.pair (.int .i64) (.pair (.int .i64) (.pair eI .unit)))
abbrev oV:Ty:=(.pair (.int .i64) db)
abbrev m9:Ty:=(.pair (.int .i64) (.pair (.int .i64) (.pair bL .unit)))
abbrev jU:Ty:=(.pair (.int .i64) oV)
abbrev lZ:Ty:=(.pair (.int .i64) (.pair (.int .i64) jU))
abbrev gb:Ty:=(.pair (.int .i64) (.pair (.slice gP) db))
abbrev dQ:Ty:=(.pair (.int .i64) (.pair (.int .i64) (.pair (.slice oV) (.pair (.int .i64) .unit))))
abbrev aq:Ty:=(.pair (.slice db) jU)
abbrev aA:Ty:=(.pair (.slice gP) (.pair (.slice db) (.pair (.slice fG) (.pair (.slice fG) (.pair (.slice (.int .i64)) (.pair (.slice jU) .unit))))))
abbrev kV:Ty:=(.pair (.int .i64) (.pair (.int .i64) (.pair (.int .i64) (.pair (.int .i64) (.pair (.slice db) (.pair (.slice gb) (.pair (.slice db) (.pair (.slice (.int .i64)) (.pair (.slice gP) (.pair (.slice gP) .unit))))))))))
abbrev cC:Ty:=(.pair (.int .i64) (.pair (.int .i64) (.pair aA (.pair kV (.pair dQ .unit)))))
abbrev QC:=Ty.den pX
abbrev QD:=List (Ty.den pX)
abbrev F1:=Ty.den g7
abbrev F2:=List (Ty.den g7)
abbrev Oh:=Ty.den gP
abbrev ax:=List (Ty.den gP)
abbrev bH:=Ty.den eI
abbrev g8:=List (Ty.den eI)
abbrev au:=Ty.den bL
abbrev kS:=List (Ty.den bL)
abbrev aN:=Ty.den dw
abbrev akK:=List (Ty.den dw)
abbrev cm:=Ty.den fG
abbrev aj:=List (Ty.den fG)
abbrev QE:=Ty.den pY
abbrev QF:=List (Ty.den pY)
abbrev bQ:=Ty.den db
abbrev aF:=List (Ty.den db)
abbrev pK:=Ty.den vX
abbrev cH:=List (Ty.den vX)
abbrev uI:=Ty.den oV
abbrev bc:=List (Ty.den oV)
abbrev akL:=Ty.den m9
abbrev bk:=List (Ty.den m9)
abbrev fZ:=Ty.den jU
abbrev ba:=List (Ty.den jU)
abbrev fy:=Ty.den lZ
abbrev fQ:=List (Ty.den lZ)
abbrev fX:=Ty.den gb
abbrev aX:=List (Ty.den gb)
abbrev cS:=Ty.den dQ
abbrev afi:=List (Ty.den dQ)
abbrev ae:=Ty.den aq
abbrev afj:=List (Ty.den aq)
abbrev ah:=Ty.den aA
abbrev akM:=List (Ty.den aA)
abbrev ado:=Ty.den kV
abbrev adp:=List (Ty.den kV)
abbrev aP:=Ty.den cC
abbrev aiX:=List (Ty.den cC)
def F86(N:Nat):Option (ae×ah):=
 some (([((0:Int),((100:Int),ch))],((0:Int),((0:Int),((0:Int),((0:Int),((1:Int),((0:Int),()))))))),([((1:Int),((1:Int),()))],([((1:Int),((1:Int),((1:Int),((0:Int),())))),((2:Int),((1:Int),((2:Int),((0:Int),())))),((3:Int),((1:Int),((2:Int),((0:Int),()))))],(br,([((0:Int),((0:Int),((3:Int),()))),((1:Int),((0:Int),((-4:Int),()))),((2:Int),((0:Int),((-2:Int),()))),((3:Int),((0:Int),((3:Int),())))],([(100:Int)],(de,())))))))
def xv(N:Nat)(a0:Int)(a1:Int)(a2:Int):Option (Bool):=
 cond (bR a1 a0) (some (bR a0 a2)) (some false)
abbrev xw.bb:=ae→aF→Int→Int→Option (Bool)
def xw.cT(N:Nat)(bD:xw.bb)(x1:ae)(aE:aF)(aJ:Int)(bf:Int):Option (Bool):=
 cond (aH bf aJ) (cond (aK bf (List.length aE)) ((xv N ((List.getD aE bf.toNat aO).1) (0:Int) (3:Int)).bind fun r3=>cond (!r3) (some false) ((xv N (((List.getD aE bf.toNat aO).2).1) (1:Int) (1000000000000:Int)).bind fun r4=>cond (!r4) (some false) ((xv N ((((List.getD aE bf.toNat aO).2).2).1) (0:Int) (1000000000:Int)).bind fun r5=>cond (!r5) (some false) ((xv N (((((List.getD aE bf.toNat aO).2).2).2).1) (0:Int) (1000000000:Int)).bind fun r6=>cond (!r6) (some false) (bD x1 aE aJ (W .i64 (bf+1))))))) (none)) (cond (bR 0 x1.2.1) ((xv N x1.2.2.1 (0:Int) (4:Int)).bind fun r8=>cond (r8) ((xv N x1.2.2.2.1 (0:Int) (1000000:Int)).bind fun r9=>cond (r9) ((xv N x1.2.2.2.2.1 (0:Int) (1000000:Int)).bind fun iX=>cond (iX) ((xv N x1.2.2.2.2.2.1 (1:Int) (4611686018427387904:Int)).bind fun kB=>cond (kB) (some (bR 0 x1.2.2.2.2.2.2.1)) (some false)) (some false)) (some false)) (some false)) (some false))
def xw.l4(N:Nat):Nat→xw.bb
 |0,_,_,_,_=>none
 |n+1,x1,aE,aJ,bf=>xw.cT N (xw.l4 N n) x1 aE aJ bf
def xw.b(N:Nat)(dq:xw.bb)(a0:ae):Option (Bool):=
 (xv N (List.length a0.1:Int) (1:Int) (6:Int)).bind fun r1=>cond (!r1) (some false) (dq a0 a0.1 (List.length a0.1:Int) (0:Int))
def xw(N:Nat)(a0:ae):Option (Bool):=xw.b N (xw.l4 N N) a0
abbrev kJ.bY:=ax→ax→Int→Int→Option (Bool)
def kJ.ei(N:Nat)(cZ:kJ.bY)(x0:ax)(x5:ax)(x6:Int)(x7:Int):Option (Bool):=
 cond (aH x7 x6) (cond (aK x7 (List.length x5)) (cond (aH ((List.getD x5 x7.toNat ch).1) (1:Int)) (some false) (cond (aH 12 ((List.getD x5 x7.toNat ch).1)) (some false) (cond (aH (((List.getD x5 x7.toNat ch).2).1) (1:Int)) (some false) (cond (aH 4 (((List.getD x5 x7.toNat ch).2).1)) (some false) (cond (aH 0 x7) (let v2:Int:=W .i64 (x7-1);cond (aK v2 (List.length x0)) (cond (bR ((List.getD x5 x7.toNat ch).1) ((List.getD x0 v2.toNat ch).1)) (some false) (cZ x0 x5 x6 (W .i64 (x7+1)))) (none)) (cZ x0 x5 x6 (W .i64 (x7+1)))))))) (none)) (some true)
def kJ.l2(N:Nat):Nat→kJ.bY
 |0,_,_,_,_=>none
 |n+1,x0,x5,x6,x7=>kJ.ei N (kJ.l2 N n) x0 x5 x6 x7
def kJ.b(N:Nat)(fA:kJ.bY)(a0:ax):Option (Bool):=
 fA a0 a0 (List.length a0:Int) (0:Int)
def kJ(N:Nat)(a0:ax):Option (Bool):=kJ.b N (kJ.l2 N N) a0
abbrev je.cg:=aF→(List (Bool))→aF→Int→Int→Option (Bool)
def je.ix(N:Nat)(bV:je.cg)(x0:aF)(x3:List (Bool))(x6:aF)(x7:Int)(x8:Int):Option (Bool):=
 cond (aH x8 x7) (cond (aK x8 (List.length x6)) (cond (aH ((List.getD x6 x8.toNat aO).1) (1:Int)) (some false) (cond (aH 24 ((List.getD x6 x8.toNat aO).1)) (some false) (cond (aH (((List.getD x6 x8.toNat aO).2).1) (1:Int)) (some false) (cond (aH 12 (((List.getD x6 x8.toNat aO).2).1)) (some false) (cond (!ay ((((List.getD x6 x8.toNat aO).2).2).1) (1:Int)) (cond (!ay ((((List.getD x6 x8.toNat aO).2).2).1) (2:Int)) (some false) (cond (aH (((((List.getD x6 x8.toNat aO).2).2).2).1) (0:Int)) (some false) (cond (aH 1000000000000 (((((List.getD x6 x8.toNat aO).2).2).2).1)) (some false) (cond (aH 0 x8) (let v2:Int:=W .i64 (x8-1);cond (aK v2 (List.length x0)) (cond (bR ((List.getD x6 x8.toNat aO).1) ((List.getD x0 v2.toNat aO).1)) (some false) (cond (ay ((((List.getD x6 x8.toNat aO).2).2).1) (1:Int)) (cond (aK (((List.getD x6 x8.toNat aO).2).1) 13) (cond (List.getD x3 (((List.getD x6 x8.toNat aO).2).1).toNat false) (some false) (cond (aK (((List.getD x6 x8.toNat aO).2).1) 13) (bV x0 (List.set x3 (((List.getD x6 x8.toNat aO).2).1).toNat true) x6 x7 (W .i64 (x8+1))) (none))) (none)) (bV x0 x3 x6 x7 (W .i64 (x8+1))))) (none)) (cond (ay ((((List.getD x6 x8.toNat aO).2).2).1) (1:Int)) (cond (aK (((List.getD x6 x8.toNat aO).2).1) 13) (cond (List.getD x3 (((List.getD x6 x8.toNat aO).2).1).toNat false) (some false) (cond (aK (((List.getD x6 x8.toNat aO).2).1) 13) (bV x0 (List.set x3 (((List.getD x6 x8.toNat aO).2).1).toNat true) x6 x7 (W .i64 (x8+1))) (none))) (none)) (bV x0 x3 x6 x7 (W .i64 (x8+1)))))))) (cond (aH (((((List.getD x6 x8.toNat aO).2).2).2).1) (0:Int)) (some false) (cond (aH 1000000000000 (((((List.getD x6 x8.toNat aO).2).2).2).1)) (some false) (cond (aH 0 x8) (let v7:Int:=W .i64 (x8-1);cond (aK v7 (List.length x0)) (cond (bR ((List.getD x6 x8.toNat aO).1) ((List.getD x0 v7.toNat aO).1)) (some false) (cond (ay ((((List.getD x6 x8.toNat aO).2).2).1) (1:Int)) (cond (aK (((List.getD x6 x8.toNat aO).2).1) 13) (cond (List.getD x3 (((List.getD x6 x8.toNat aO).2).1).toNat false) (some false) (cond (aK (((List.getD x6 x8.toNat aO).2).1) 13) (bV x0 (List.set x3 (((List.getD x6 x8.toNat aO).2).1).toNat true) x6 x7 (W .i64 (x8+1))) (none))) (none)) (bV x0 x3 x6 x7 (W .i64 (x8+1))))) (none)) (cond (ay ((((List.getD x6 x8.toNat aO).2).2).1) (1:Int)) (cond (aK (((List.getD x6 x8.toNat aO).2).1) 13) (cond (List.getD x3 (((List.getD x6 x8.toNat aO).2).1).toNat false) (some false) (cond (aK (((List.getD x6 x8.toNat aO).2).1) 13) (bV x0 (List.set x3 (((List.getD x6 x8.toNat aO).2).1).toNat true) x6 x7 (W .i64 (x8+1))) (none))) (none)) (bV x0 x3 x6 x7 (W .i64 (x8+1)))))))))))) (none)) (some true)
def je.l3(N:Nat):Nat→je.cg
 |0,_,_,_,_,_=>none
 |n+1,x0,x3,x6,x7,x8=>je.ix N (je.l3 N n) x0 x3 x6 x7 x8
def je.b(N:Nat)(iM:je.cg)(a0:aF):Option (Bool):=
 iM a0 (List.replicate 13 false) a0 (List.length a0:Int) (0:Int)
def je(N:Nat)(a0:aF):Option (Bool):=je.b N (je.l3 N N) a0
abbrev vd.bb:=Int→ax→Int→Int→Option (Int)
def vd.cT(N:Nat)(bD:vd.bb)(x1:Int)(aR:ax)(aE:Int)(aJ:Int):Option (Int):=
 cond (aH aJ aE) (cond (aK aJ (List.length aR)) (cond (ay ((List.getD aR aJ.toNat ch).1) x1) (some (((List.getD aR aJ.toNat ch).2).1)) (bD x1 aR aE (W .i64 (aJ+1)))) (none)) (some (0:Int))
def vd.l4(N:Nat):Nat→vd.bb
 |0,_,_,_,_=>none
 |n+1,x1,aR,aE,aJ=>vd.cT N (vd.l4 N n) x1 aR aE aJ
def vd.b(N:Nat)(dq:vd.bb)(a0:ax)(a1:Int):Option (Int):=
 (kJ N a0).bind fun r1=>cond (!r1) (some (0:Int)) (dq a1 a0 (List.length a0:Int) (0:Int))
def vd(N:Nat)(a0:ax)(a1:Int):Option (Int):=vd.b N (vd.l4 N N) a0 a1
abbrev xz.bb:=ax→aF→Int→Int→Option (Bool)
def xz.cT(N:Nat)(bD:xz.bb)(x0:ax)(bM:aF)(cq:Int)(cM:Int):Option (Bool):=
 cond (aH cM cq) (cond (aK cM (List.length bM)) ((vd N x0 (((List.getD bM cM.toNat aO).2).1)).bind fun r4=>cond (ay r4 0) (some false) (bD x0 bM cq (W .i64 (cM+1)))) (none)) (some true)
def xz.l4(N:Nat):Nat→xz.bb
 |0,_,_,_,_=>none
 |n+1,x0,bM,cq,cM=>xz.cT N (xz.l4 N n) x0 bM cq cM
def xz.b(N:Nat)(dq:xz.bb)(a0:ax)(a1:aF):Option (Bool):=
 (kJ N a0).bind fun r1=>cond (!r1) (some false) ((je N a1).bind fun r2=>cond (!r2) (some false) (dq a0 a1 (List.length a1:Int) (0:Int)))
def xz(N:Nat)(a0:ax)(a1:aF):Option (Bool):=xz.b N (xz.l4 N N) a0 a1
def Io(N:Nat)(a0:Int)(a1:Int):Option (Bool):=
 cond (ay a0 1) (some (ay a1 0)) (cond (ay a0 2) (some (ay a1 0)) (cond (ay a0 3) (some (ay a1 0)) (cond (ay a0 4) (some (ay a1 0)) (cond (ay a0 5) (cond (bR 1 a1) (some (bR a1 24)) (some false)) (cond (ay a0 6) (cond (bR 1 a1) (some (bR a1 12)) (some false)) (cond (ay a0 7) (cond (bR 1 a1) (some (bR a1 12)) (some false)) (some false)))))))
def Iq(N:Nat)(a0:Int)(a1:Int)(a2:cm):Option (Int):=
 cond (!ay a0 a2.1) (some (W .i64 (a0-a2.1))) (some (W .i64 (a1-a2.2.1)))
abbrev vA.bY:=aj→aj→Int→Int→Option (Bool)
def vA.ei(N:Nat)(cZ:vA.bY)(x0:aj)(x5:aj)(x6:Int)(x7:Int):Option (Bool):=
 cond (aH x7 x6) (cond (aK x7 (List.length x5)) ((Io N ((List.getD x5 x7.toNat aW).1) (((List.getD x5 x7.toNat aW).2).1)).bind fun r2=>cond (!r2) (some false) (cond (ay ((((List.getD x5 x7.toNat aW).2).2).1) (0:Int)) (some false) (cond (aH 0 x7) (let v3:Int:=W .i64 (x7-1);cond (aK v3 (List.length x0)) ((Iq N ((List.getD x5 x7.toNat aW).1) (((List.getD x5 x7.toNat aW).2).1) (List.getD x0 v3.toNat aW)).bind fun r4=>cond (bR r4 0) (some false) (cZ x0 x5 x6 (W .i64 (x7+1)))) (none)) (cZ x0 x5 x6 (W .i64 (x7+1)))))) (none)) (some true)
def vA.l2(N:Nat):Nat→vA.bY
 |0,_,_,_,_=>none
 |n+1,x0,x5,x6,x7=>vA.ei N (vA.l2 N n) x0 x5 x6 x7
def vA.b(N:Nat)(fA:vA.bY)(a0:aj):Option (Bool):=
 fA a0 a0 (List.length a0:Int) (0:Int)
def vA(N:Nat)(a0:aj):Option (Bool):=vA.b N (vA.l2 N N) a0
def RO(N:Nat)(a0:Int):Option bH:=
 cond (aH 63 0) (none) (some ((shr .i64 a0 63),((W .u64 a0),())))
abbrev jt.cg:=bH→Int→Int→Int→g8→Int→Int→Option (bH×(Bool))
def jt.ix(N:Nat)(bV:jt.cg)(x2:bH)(x4:Int)(x5:Int)(x6:Int)(aR:g8)(aE:Int)(aJ:Int):Option (bH×(Bool)):=
 cond (aH aJ aE) (cond (aK aJ (List.length aR)) ((p6 N x6 (((List.getD aR aJ.toNat ch).2).1) (0:Int)).bind fun r2=>(p6 N x5 (W .u64 ((List.getD aR aJ.toNat ch).1)) r2.2).bind fun r4=>cond (aH 63 0) (none) (bV x2 (W .i64 ((W .i64 (x4+(shr .i64 ((List.getD aR aJ.toNat ch).1) (63:Int))))+(W .i64 r4.2))) r4.1 r2.1 aR aE (W .i64 (aJ+1)))) (none)) (cond (aH 63 0) (none) (cond (!ay x4 (shr .i64 (W .i64 x5) 63)) (some (ch,false)) (some (((W .i64 x5),(x6,())),true))))
def jt.l3(N:Nat):Nat→jt.cg
 |0,_,_,_,_,_,_,_=>none
 |n+1,x2,x4,x5,x6,aR,aE,aJ=>jt.ix N (jt.l3 N n) x2 x4 x5 x6 aR aE aJ
def jt.b(N:Nat)(iM:jt.cg)(a0:g8):Option (bH×(Bool)):=
 iM ch (0:Int) (0:Int) (0:Int) a0 (List.length a0:Int) (0:Int)
def jt(N:Nat)(a0:g8):Option (bH×(Bool)):=jt.b N (jt.l3 N N) a0
abbrev wS.bl:=bH→g8→aj→Int→Int→Option bH
def wS.du(N:Nat)(bg:wS.bl)(x2:bH)(x3:g8)(aJ:aj)(bf:Int)(bo:Int):Option bH:=
 cond (aH bo bf) (cond (aK bo (List.length aJ)) ((RO N ((((List.getD aJ bo.toNat aW).2).2).1)).bind fun r3=>cond (small (List.length x3+List.length ([r3]))) (bg x2 (x3++([r3])) aJ bf (W .i64 (bo+1))) (none)) (none)) ((jt N x3).bind fun r6=>some r6.1)
def wS.l5(N:Nat):Nat→wS.bl
 |0,_,_,_,_,_=>none
 |n+1,x2,x3,aJ,bf,bo=>wS.du N (wS.l5 N n) x2 x3 aJ bf bo
def wS.b(N:Nat)(dL:wS.bl)(a0:aj):Option bH:=
 (vA N a0).bind fun r1=>cond (!r1) (some ch) (dL ch ([]) a0 (List.length a0:Int) (0:Int))
def wS(N:Nat)(a0:aj):Option bH:=wS.b N (wS.l5 N N) a0
def RX(N:Nat)(a0:bH)(a1:bH):Option (Int):=
 cond (aH a0.1 a1.1) (some (-1:Int)) (cond (ay a0.1 a1.1) (cond (aH a0.2.1 a1.2.1) (some (-1:Int)) (cond (lR (.pair (.int .i64) (.pair (.int .u64) .unit)) a0 a1) (some (0:Int)) (some (1:Int)))) (cond (lR (.pair (.int .i64) (.pair (.int .u64) .unit)) a0 a1) (some (0:Int)) (some (1:Int))))
def ZA(N:Nat)(a0:bH):Option (Int):=
 (RX N a0 ch).bind fun r1=>some r1
def Og(N:Nat)(a0:Int)(a1:Int):Option (Bool):=
 cond (bR 0 a0) (cond (bR a0 24) (cond (bR 0 a1) (some (aH a1 6)) (some false)) (some false)) (some false)
def Lv(N:Nat)(a0:Int):Option (Bool):=
 some (!ay a0 (-9223372036854775808))
def Lu(N:Nat)(a0:Int)(a1:Int)(a2:cm):Option (Int):=
 cond (!ay a0 a2.1) (some (W .i64 (a0-a2.1))) (some (W .i64 (a1-a2.2.1)))
abbrev jS.bY:=aj→aj→Int→Int→Option (Bool)
def jS.ei(N:Nat)(cZ:jS.bY)(x0:aj)(x5:aj)(x6:Int)(x7:Int):Option (Bool):=
 cond (aH x7 x6) (cond (aK x7 (List.length x5)) ((Og N ((List.getD x5 x7.toNat aW).1) (((List.getD x5 x7.toNat aW).2).1)).bind fun r2=>cond (!r2) (some false) (cond (ay ((((List.getD x5 x7.toNat aW).2).2).1) (0:Int)) (some false) ((Lv N ((((List.getD x5 x7.toNat aW).2).2).1)).bind fun r3=>cond (!r3) (some false) (cond (aH 0 x7) (let v4:Int:=W .i64 (x7-1);cond (aK v4 (List.length x0)) ((Lu N ((List.getD x5 x7.toNat aW).1) (((List.getD x5 x7.toNat aW).2).1) (List.getD x0 v4.toNat aW)).bind fun r5=>cond (bR r5 0) (some false) (cZ x0 x5 x6 (W .i64 (x7+1)))) (none)) (cZ x0 x5 x6 (W .i64 (x7+1))))))) (none)) (some true)
def jS.l2(N:Nat):Nat→jS.bY
 |0,_,_,_,_=>none
 |n+1,x0,x5,x6,x7=>jS.ei N (jS.l2 N n) x0 x5 x6 x7
def jS.b(N:Nat)(fA:jS.bY)(a0:aj):Option (Bool):=
 fA a0 a0 (List.length a0:Int) (0:Int)
def jS(N:Nat)(a0:aj):Option (Bool):=jS.b N (jS.l2 N N) a0
abbrev kM.bl:=Int→bH→g8→aj→Int→Int→Option bH
def kM.du(N:Nat)(bg:kM.bl)(x1:Int)(x4:bH)(x5:g8)(bo:aj)(bM:Int)(cq:Int):Option bH:=
 cond (aH cq bM) (cond (aK cq (List.length bo)) (cond (ay (((List.getD bo cq.toNat aW).2).1) x1) ((RO N ((((List.getD bo cq.toNat aW).2).2).1)).bind fun r3=>cond (small (List.length x5+List.length ([r3]))) (bg x1 x4 (x5++([r3])) bo bM (W .i64 (cq+1))) (none)) (bg x1 x4 x5 bo bM (W .i64 (cq+1)))) (none)) ((jt N x5).bind fun r7=>some r7.1)
def kM.l5(N:Nat):Nat→kM.bl
 |0,_,_,_,_,_,_=>none
 |n+1,x1,x4,x5,bo,bM,cq=>kM.du N (kM.l5 N n) x1 x4 x5 bo bM cq
def kM.b(N:Nat)(dL:kM.bl)(a0:aj)(a1:Int):Option bH:=
 (jS N a0).bind fun r1=>cond (!r1) (some ch) (dL a1 ch ([]) a0 (List.length a0:Int) (0:Int))
def kM(N:Nat)(a0:aj)(a1:Int):Option bH:=kM.b N (kM.l5 N N) a0 a1
abbrev xA.bY:=aj→Int→Option (Bool)
def xA.ei(N:Nat)(cZ:xA.bY)(x0:aj)(x4:Int):Option (Bool):=
 cond (aH x4 6) ((kM N x0 x4).bind fun r2=>(ZA N r2).bind fun r3=>cond (!ay r3 0) (some false) (cZ x0 (W .i64 (x4+1)))) ((jS N x0).bind fun r5=>some r5)
def xA.l2(N:Nat):Nat→xA.bY
 |0,_,_=>none
 |n+1,x0,x4=>xA.ei N (xA.l2 N n) x0 x4
def xA.b(N:Nat)(fA:xA.bY)(a0:aj):Option (Bool):=
 fA a0 (0:Int)
def xA(N:Nat)(a0:aj):Option (Bool):=xA.b N (xA.l2 N N) a0
def RT(N:Nat)(a0:fZ):Option (Bool):=
 cond (bR 1 a0.1) (cond (bR a0.1 1099511627776) (cond (bR 1 a0.2.1) (cond (bR a0.2.1 24) (cond (bR 0 a0.2.2.1) (cond (aH a0.2.2.1 6) (cond (ay a0.2.2.2.1 1) (cond (bR 1 a0.2.2.2.2.1) (cond (bR a0.2.2.2.2.1 1000000000) (cond (bR 1 a0.2.2.2.2.2.1) (some (bR a0.2.2.2.2.2.1 1000000000000)) (some false)) (some false)) (some false)) (cond (ay a0.2.2.2.1 2) (cond (bR 1 a0.2.2.2.2.1) (cond (bR a0.2.2.2.2.1 1000000000) (cond (bR 1 a0.2.2.2.2.2.1) (some (bR a0.2.2.2.2.2.1 1000000000000)) (some false)) (some false)) (some false)) (some false))) (some false)) (some false)) (some false)) (some false)) (some false)) (some false)
abbrev xy.bY:=ba→ba→Int→Int→Option (Bool)
def xy.ei(N:Nat)(cZ:xy.bY)(x0:ba)(x5:ba)(x6:Int)(x7:Int):Option (Bool):=
 cond (aH x7 x6) (cond (aK x7 (List.length x5)) ((RT N (List.getD x5 x7.toNat eK)).bind fun r2=>cond (!r2) (some false) (cond (aH 0 x7) (let v3:Int:=W .i64 (x7-1);cond (aK v3 (List.length x0)) (cond (bR ((List.getD x5 x7.toNat eK).1) ((List.getD x0 v3.toNat eK).1)) (some false) (cZ x0 x5 x6 (W .i64 (x7+1)))) (none)) (cZ x0 x5 x6 (W .i64 (x7+1))))) (none)) (some (bR (List.length x0:Int) 32))
def xy.l2(N:Nat):Nat→xy.bY
 |0,_,_,_,_=>none
 |n+1,x0,x5,x6,x7=>xy.ei N (xy.l2 N n) x0 x5 x6 x7
def xy.b(N:Nat)(fA:xy.bY)(a0:ba):Option (Bool):=
 fA a0 a0 (List.length a0:Int) (0:Int)
def xy(N:Nat)(a0:ba):Option (Bool):=xy.b N (xy.l2 N N) a0
abbrev kK.bb:=Int→bQ→aF→Int→Int→Option (bQ×(Bool))
def kK.cT(N:Nat)(bD:kK.bb)(x1:Int)(x4:bQ)(aJ:aF)(bf:Int)(bo:Int):Option (bQ×(Bool)):=
 cond (aH bo bf) (cond (aK bo (List.length aJ)) (cond (ay ((List.getD aJ bo.toNat aO).1) x1) (some (List.getD aJ bo.toNat aO,true)) (bD x1 x4 aJ bf (W .i64 (bo+1)))) (none)) (some (aO,false))
def kK.l4(N:Nat):Nat→kK.bb
 |0,_,_,_,_,_=>none
 |n+1,x1,x4,aJ,bf,bo=>kK.cT N (kK.l4 N n) x1 x4 aJ bf bo
def kK.b(N:Nat)(dq:kK.bb)(a0:aF)(a1:Int):Option (bQ×(Bool)):=
 (je N a0).bind fun r1=>cond (!r1) (some (aO,false)) (dq a1 aO a0 (List.length a0:Int) (0:Int))
def kK(N:Nat)(a0:aF)(a1:Int):Option (bQ×(Bool)):=kK.b N (kK.l4 N N) a0 a1
def F82(N:Nat)(a0:ah)(a1:Int):Option (Bool):=
 (kK N a0.2.1 a1).bind fun r1=>some r1.2
def F85(N:Nat)(a0:Int):Option (Bool):=
 cond (bR 1 a0) (some (bR a0 1000000000000)) (some false)
def F84(N:Nat)(a0:Int):Option (Bool):=
 (F85 N a0).bind fun r1=>some (!r1)
abbrev ny.bY:=(List (Int))→Unit→Int→Int→Option (Int)
def ny.ei(N:Nat)(cZ:ny.bY)(x0:List (Int))(x1:Unit)(x7:Int)(x8:Int):Option (Int):=
 cond (aH x8 x7) (cond (aK x8 (List.length x0)) ((F84 N (List.getD x0 x8.toNat (0:Int))).bind fun r2=>cond (r2) (some x8) (cZ x0 () x7 (W .i64 (x8+1)))) (none)) (some (-1:Int))
def ny.l2(N:Nat):Nat→ny.bY
 |0,_,_,_,_=>none
 |n+1,x0,x1,x7,x8=>ny.ei N (ny.l2 N n) x0 x1 x7 x8
def ny.b(N:Nat)(fA:ny.bY)(a0:List (Int))(a1:Unit):Option (Int):=
 fA a0 () (List.length a0:Int) (0:Int)
def ny(N:Nat)(a0:List (Int))(a1:Unit):Option (Int):=ny.b N (ny.l2 N N) a0 a1
def F83(N:Nat)(a0:List (Int))(a1:Unit):Option (Bool):=
 (ny N a0 ()).bind fun r1=>some (bR 0 r1)
abbrev ik.gY:=ae→ah→ba→Int→Int→Option (Bool)
abbrev ik.iT:=ae→ah→aj→Int→Int→Option (Bool)
abbrev ik.bb:=ae→ah→aj→Int→Int→Option (Bool)
def ik.ob(N:Nat)(nc:ik.gY)(x2:ae)(x3:ah)(nA:ba)(S9:Int)(Je:Int):Option (Bool):=
 cond (aH Je S9) (cond (aK Je (List.length nA)) ((F82 N x3 (((List.getD nA Je.toNat eK).2).1)).bind fun Cd=>cond (!Cd) (some false) (cond (bR (List.length x2.1:Int) ((((List.getD nA Je.toNat eK).2).2).1)) (some false) (nc x2 x3 nA S9 (W .i64 (Je+1))))) (none)) ((F83 N x3.2.2.2.2.1 ()).bind fun Aa=>some (!Aa))
def ik.oa(N:Nat):Nat→ik.gY
 |0,_,_,_,_,_=>none
 |n+1,x2,x3,nA,S9,Je=>ik.ob N (ik.oa N n) x2 x3 nA S9 Je
def ik.q5(N:Nat)(uX:ik.gY)(jX:ik.iT)(x2:ae)(x3:ah)(Ta:aj)(PN:Int)(Jf:Int):Option (Bool):=
 cond (aH Jf PN) (cond (aK Jf (List.length Ta)) (cond (!ay ((List.getD Ta Jf.toNat aW).1) (0:Int)) ((F82 N x3 ((List.getD Ta Jf.toNat aW).1)).bind fun vf=>cond (!vf) (some false) (cond (bR (List.length x2.1:Int) (((List.getD Ta Jf.toNat aW).2).1)) (some false) (jX x2 x3 Ta PN (W .i64 (Jf+1))))) (cond (bR (List.length x2.1:Int) (((List.getD Ta Jf.toNat aW).2).1)) (some false) (jX x2 x3 Ta PN (W .i64 (Jf+1))))) (none)) (uX x2 x3 x3.2.2.2.2.2.1 (List.length x3.2.2.2.2.2.1:Int) (0:Int))
def ik.sx(N:Nat):Nat→ik.iT
 |0,_,_,_,_,_=>none
 |n+1,x2,x3,Ta,PN,Jf=>ik.q5 N (ik.oa N N) (ik.sx N n) x2 x3 Ta PN Jf
def ik.cT(N:Nat)(Ab:ik.iT)(bD:ik.bb)(x2:ae)(x3:ah)(Mz:aj)(Z8:Int)(KE:Int):Option (Bool):=
 cond (aH KE Z8) (cond (aK KE (List.length Mz)) (cond (ay ((List.getD Mz KE.toNat aW).1) (5:Int)) ((F82 N x3 (((List.getD Mz KE.toNat aW).2).1)).bind fun r9=>cond (!r9) (some false) (bD x2 x3 Mz Z8 (W .i64 (KE+1)))) (cond (ay ((List.getD Mz KE.toNat aW).1) (6:Int)) ((vd N x3.1 (((List.getD Mz KE.toNat aW).2).1)).bind fun kB=>cond (ay kB 0) (some false) (bD x2 x3 Mz Z8 (W .i64 (KE+1)))) (cond (ay ((List.getD Mz KE.toNat aW).1) (7:Int)) ((vd N x3.1 (((List.getD Mz KE.toNat aW).2).1)).bind fun nf=>cond (ay nf 0) (some false) (bD x2 x3 Mz Z8 (W .i64 (KE+1)))) (bD x2 x3 Mz Z8 (W .i64 (KE+1)))))) (none)) (Ab x2 x3 x3.2.2.2.1 (List.length x3.2.2.2.1:Int) (0:Int))
def ik.l4(N:Nat):Nat→ik.bb
 |0,_,_,_,_,_=>none
 |n+1,x2,x3,Mz,Z8,KE=>ik.cT N (ik.sx N N) (ik.l4 N n) x2 x3 Mz Z8 KE
def ik.b(N:Nat)(dq:ik.bb)(a0:ae)(a1:ah):Option (Bool):=
 (xw N a0).bind fun r1=>cond (!r1) (some false) ((xz N a1.1 a1.2.1).bind fun r2=>cond (!r2) (some false) ((vA N a1.2.2.1).bind fun r3=>cond (!r3) (some false) ((wS N a1.2.2.1).bind fun r4=>(ZA N r4).bind fun r5=>cond (!ay r5 0) (some false) ((xA N a1.2.2.2.1).bind fun r6=>cond (!r6) (some false) ((xy N a1.2.2.2.2.2.1).bind fun r7=>cond (!r7) (some false) (cond (!ay (List.length a1.2.2.2.2.1:Int) (List.length a0.1:Int)) (some false) (dq a0 a1 a1.2.2.1 (List.length a1.2.2.1:Int) (0:Int))))))))
def ik(N:Nat)(a0:ae)(a1:ah):Option (Bool):=ik.b N (ik.l4 N N) a0 a1
abbrev xE.bb:=Int→Int→aj→Int→Int→Option (Int)
def xE.cT(N:Nat)(bD:xE.bb)(x1:Int)(x2:Int)(aJ:aj)(bf:Int)(bo:Int):Option (Int):=
 cond (aH bo bf) (cond (aK bo (List.length aJ)) (cond (ay ((List.getD aJ bo.toNat aW).1) x1) (cond (ay (((List.getD aJ bo.toNat aW).2).1) x2) (some ((((List.getD aJ bo.toNat aW).2).2).1)) (bD x1 x2 aJ bf (W .i64 (bo+1)))) (bD x1 x2 aJ bf (W .i64 (bo+1)))) (none)) (some (0:Int))
def xE.l4(N:Nat):Nat→xE.bb
 |0,_,_,_,_,_=>none
 |n+1,x1,x2,aJ,bf,bo=>xE.cT N (xE.l4 N n) x1 x2 aJ bf bo
def xE.b(N:Nat)(dq:xE.bb)(a0:aj)(a1:Int)(a2:Int):Option (Int):=
 (jS N a0).bind fun r1=>cond (!r1) (some (0:Int)) (dq a1 a2 a0 (List.length a0:Int) (0:Int))
def xE(N:Nat)(a0:aj)(a1:Int)(a2:Int):Option (Int):=xE.b N (xE.l4 N N) a0 a1 a2
def Zw(N:Nat)(a0:Int):Option (Int):=
 cond (aH a0 0) (some (W .u64 (0-(W .u64 a0)))) (some (W .u64 a0))
def ZI(N:Nat)(a0:Int):Option (Bool):=
 some (aH a0 0)
abbrev gX.bY:=(List (Int))→Unit→Int→Int→Option (Int)
def gX.ei(N:Nat)(cZ:gX.bY)(x0:List (Int))(x1:Unit)(x7:Int)(x8:Int):Option (Int):=
 cond (aH x8 x7) (cond (aK x8 (List.length x0)) ((ZI N (List.getD x0 x8.toNat (0:Int))).bind fun r2=>cond (r2) (some x8) (cZ x0 () x7 (W .i64 (x8+1)))) (none)) (some (-1:Int))
def gX.l2(N:Nat):Nat→gX.bY
 |0,_,_,_,_=>none
 |n+1,x0,x1,x7,x8=>gX.ei N (gX.l2 N n) x0 x1 x7 x8
def gX.b(N:Nat)(fA:gX.bY)(a0:List (Int))(a1:Unit):Option (Int):=
 fA a0 () (List.length a0:Int) (0:Int)
def gX(N:Nat)(a0:List (Int))(a1:Unit):Option (Int):=gX.b N (gX.l2 N N) a0 a1
def ZJ(N:Nat)(a0:List (Int))(a1:Unit):Option (Bool):=
 (gX N a0 ()).bind fun r1=>some (bR 0 r1)
def LX(N:Nat)(a0:List (Int)):Option (Bool):=
 cond (bR (List.length a0:Int) 64) ((ZJ N a0 ()).bind fun r1=>some (!r1)) (some false)
abbrev lF.cg:=Int→Int→(List (Int))→Int→Int→Option ((Int)×(Bool))
def lF.ix(N:Nat)(bV:lF.cg)(x4:Int)(x5:Int)(aR:List (Int))(aE:Int)(aJ:Int):Option ((Int)×(Bool)):=
 cond (aH aJ aE) (cond (aK aJ (List.length aR)) ((p6 N x5 (W .u64 (List.getD aR aJ.toNat (0:Int))) (0:Int)).bind fun r3=>cond (aH 63 0) (none) (bV (W .i64 ((W .i64 (x4+(shr .i64 (List.getD aR aJ.toNat (0:Int)) (63:Int))))+(W .i64 r3.2))) r3.1 aR aE (W .i64 (aJ+1)))) (none)) (cond (aH 63 0) (none) (cond (!ay x4 (shr .i64 (W .i64 x5) 63)) (some ((0:Int),false)) (some ((W .i64 x5),true))))
def lF.l3(N:Nat):Nat→lF.cg
 |0,_,_,_,_,_=>none
 |n+1,x4,x5,aR,aE,aJ=>lF.ix N (lF.l3 N n) x4 x5 aR aE aJ
def lF.b(N:Nat)(iM:lF.cg)(a0:List (Int)):Option ((Int)×(Bool)):=
 iM (0:Int) (0:Int) a0 (List.length a0:Int) (0:Int)
def lF(N:Nat)(a0:List (Int)):Option ((Int)×(Bool)):=lF.b N (lF.l3 N N) a0
def Rz(N:Nat)(a0:Int)(a1:Int):Option ((Int)×(Int)):=
 let v1:Int:=iZ .and .u64 a0 4294967295;cond (aH 32 0) (none) (let v2:Int:=shr .u64 a0 32;let v3:Int:=iZ .and .u64 a1 4294967295;cond (aH 32 0) (none) (let v4:Int:=shr .u64 a1 32;cond (aH 32 0) (none) (let v8:Int:=W .u64 ((W .u64 (v2*v3))+(shr .u64 (W .u64 (v1*v3)) (32:Int)));cond (aH 32 0) (none) (cond (aH 32 0) (none) (some ((W .u64 ((W .u64 ((W .u64 (v2*v4))+(shr .u64 v8 32)))+(shr .u64 (W .u64 ((iZ .and .u64 v8 4294967295)+(W .u64 (v1*v4)))) (32:Int)))),(W .u64 (a0*a1))))))))
abbrev mD.Jg:=Int→Int→bH→Option (bH×(Bool))
def mD.Ig(N:Nat)(x1:Int)(x2:Int)(x6:bH):Option (bH×(Bool)):=
 (p7 N (0:Int) x2 (0:Int)).bind fun r3=>(p7 N (0:Int) x1 r3.2).bind fun r4=>some (((W .i64 r4.1),(r3.1,())),true)
def mD.j7(N:Nat)(x1:Int)(x2:Int)(x6:bH):Option (bH×(Bool)):=mD.Ig N x1 x2 x6
def mD.b(N:Nat)(vY:mD.Jg)(a0:Bool)(a1:Int)(a2:Int):Option (bH×(Bool)):=
 cond (!a0) (cond (bR 9223372036854775808 a1) (some (ch,false)) (some (((W .i64 a1),(a2,())),true))) (cond (aH 9223372036854775808 a1) (some (ch,false)) (cond (ay a1 9223372036854775808) (cond (aH 0 a2) (some (ch,false)) (vY a1 a2 ch)) (vY a1 a2 ch)))
def mD(N:Nat)(a0:Bool)(a1:Int)(a2:Int):Option (bH×(Bool)):=mD.b N (mD.j7 N) a0 a1 a2
def RK(N:Nat)(a0:Int)(a1:Int):Option bH:=
 (Zw N a0).bind fun r1=>(Zw N a1).bind fun r2=>(Rz N r1 r2).bind fun r3=>(mD N (!(lR .bool (aH a0 0) (aH a1 0))) r3.1 r3.2).bind fun r4=>some r4.1
def RL(N:Nat)(a0:bH):Option ((Int)×(Int)):=
 cond (bR 0 a0.1) (some ((W .u64 a0.1),a0.2.1)) ((p7 N (0:Int) a0.2.1 (0:Int)).bind fun r2=>(p7 N (0:Int) (W .u64 a0.1) r2.2).bind fun r4=>some (r4.1,r2.1))
abbrev jb.Jg:=Int→Int→Option (Int)
abbrev jb.akN:=Int→Int→Option (Int)
def jb.Ig(N:Nat)(x0:Int)(x2:Int):Option (Int):=
 cond (bR 256 x0) (cond (aH 8 0) (none) (let v8:Int:=W .u8 (shr .u64 x0 8);cond (aK v8 (ByteArray.size (strOf [0,1,2,2,3,3,3,3,4,4,4,4,4,4,4,4,5,5,5,5,5,5,5,5,5,5,5,5,5,5,5,5,6,6,6,6,6,6,6,6,6,6,6,6,6,6,6,6,6,6,6,6,6,6,6,6,6,6,6,6,6,6,6,6,7,7,7,7,7,7,7,7,7,7,7,7,7,7,7,7,7,7,7,7,7,7,7,7,7,7,7,7,7,7,7,7,7,7,7,7,7,7,7,7,7,7,7,7,7,7,7,7,7,7,7,7,7,7,7,7,7,7,7,7,7,7,7,7,8,8,8,8,8,8,8,8,8,8,8,8,8,8,8,8,8,8,8,8,8,8,8,8,8,8,8,8,8,8,8,8,8,8,8,8,8,8,8,8,8,8,8,8,8,8,8,8,8,8,8,8,8,8,8,8,8,8,8,8,8,8,8,8,8,8,8,8,8,8,8,8,8,8,8,8,8,8,8,8,8,8,8,8,8,8,8,8,8,8,8,8,8,8,8,8,8,8,8,8,8,8,8,8,8,8,8,8,8,8,8,8,8,8,8,8,8,8,8,8,8,8,8,8,8,8,8,8]))) (some (W .i64 ((W .i64 (x2+8))+(W .i64 (((strOf [0,1,2,2,3,3,3,3,4,4,4,4,4,4,4,4,5,5,5,5,5,5,5,5,5,5,5,5,5,5,5,5,6,6,6,6,6,6,6,6,6,6,6,6,6,6,6,6,6,6,6,6,6,6,6,6,6,6,6,6,6,6,6,6,7,7,7,7,7,7,7,7,7,7,7,7,7,7,7,7,7,7,7,7,7,7,7,7,7,7,7,7,7,7,7,7,7,7,7,7,7,7,7,7,7,7,7,7,7,7,7,7,7,7,7,7,7,7,7,7,7,7,7,7,7,7,7,7,8,8,8,8,8,8,8,8,8,8,8,8,8,8,8,8,8,8,8,8,8,8,8,8,8,8,8,8,8,8,8,8,8,8,8,8,8,8,8,8,8,8,8,8,8,8,8,8,8,8,8,8,8,8,8,8,8,8,8,8,8,8,8,8,8,8,8,8,8,8,8,8,8,8,8,8,8,8,8,8,8,8,8,8,8,8,8,8,8,8,8,8,8,8,8,8,8,8,8,8,8,8,8,8,8,8,8,8,8,8,8,8,8,8,8,8,8,8,8,8,8,8,8,8,8,8,8,8]).data.getD v8.toNat 0).toNat:Int))))) (none))) (let v11:Int:=W .u8 x0;cond (aK v11 (ByteArray.size (strOf [0,1,2,2,3,3,3,3,4,4,4,4,4,4,4,4,5,5,5,5,5,5,5,5,5,5,5,5,5,5,5,5,6,6,6,6,6,6,6,6,6,6,6,6,6,6,6,6,6,6,6,6,6,6,6,6,6,6,6,6,6,6,6,6,7,7,7,7,7,7,7,7,7,7,7,7,7,7,7,7,7,7,7,7,7,7,7,7,7,7,7,7,7,7,7,7,7,7,7,7,7,7,7,7,7,7,7,7,7,7,7,7,7,7,7,7,7,7,7,7,7,7,7,7,7,7,7,7,8,8,8,8,8,8,8,8,8,8,8,8,8,8,8,8,8,8,8,8,8,8,8,8,8,8,8,8,8,8,8,8,8,8,8,8,8,8,8,8,8,8,8,8,8,8,8,8,8,8,8,8,8,8,8,8,8,8,8,8,8,8,8,8,8,8,8,8,8,8,8,8,8,8,8,8,8,8,8,8,8,8,8,8,8,8,8,8,8,8,8,8,8,8,8,8,8,8,8,8,8,8,8,8,8,8,8,8,8,8,8,8,8,8,8,8,8,8,8,8,8,8,8,8,8,8,8,8]))) (some (W .i64 (x2+(W .i64 (((strOf [0,1,2,2,3,3,3,3,4,4,4,4,4,4,4,4,5,5,5,5,5,5,5,5,5,5,5,5,5,5,5,5,6,6,6,6,6,6,6,6,6,6,6,6,6,6,6,6,6,6,6,6,6,6,6,6,6,6,6,6,6,6,6,6,7,7,7,7,7,7,7,7,7,7,7,7,7,7,7,7,7,7,7,7,7,7,7,7,7,7,7,7,7,7,7,7,7,7,7,7,7,7,7,7,7,7,7,7,7,7,7,7,7,7,7,7,7,7,7,7,7,7,7,7,7,7,7,7,8,8,8,8,8,8,8,8,8,8,8,8,8,8,8,8,8,8,8,8,8,8,8,8,8,8,8,8,8,8,8,8,8,8,8,8,8,8,8,8,8,8,8,8,8,8,8,8,8,8,8,8,8,8,8,8,8,8,8,8,8,8,8,8,8,8,8,8,8,8,8,8,8,8,8,8,8,8,8,8,8,8,8,8,8,8,8,8,8,8,8,8,8,8,8,8,8,8,8,8,8,8,8,8,8,8,8,8,8,8,8,8,8,8,8,8,8,8,8,8,8,8,8,8,8,8,8,8]).data.getD v11.toNat 0).toNat:Int))))) (none))
def jb.j7(N:Nat)(x0:Int)(x2:Int):Option (Int):=jb.Ig N x0 x2
def jb.j4b(N:Nat)(vY:jb.Jg)(x0:Int)(x2:Int):Option (Int):=
 cond (bR 65536 x0) (cond (aH 16 0) (none) (vY (shr .u64 x0 16) (W .i64 (x2+16)))) (vY x0 x2)
def jb.j4(N:Nat)(x0:Int)(x2:Int):Option (Int):=jb.j4b N (jb.j7 N) x0 x2
def jb.b(N:Nat)(afk:jb.akN)(a0:Int):Option (Int):=
 cond (bR 4294967296 a0) (cond (aH 32 0) (none) (afk (shr .u64 a0 32) (32:Int))) (afk a0 (0:Int))
def jb(N:Nat)(a0:Int):Option (Int):=jb.b N (jb.j4 N) a0
def RB(N:Nat)(a0:Int):Option (Int):=
 (jb N a0).bind fun r1=>some (W .i64 ((64:Int)-r1))
abbrev cN.PO:=Int→Int→Int→Int→Int→Int→Option ((Int)×(Int))
abbrev cN.ng:=Int→Int→Int→Int→Int→Int→Int→Int→Int→Option ((Int)×(Int))
abbrev cN.PQ:=Int→Int→Int→Int→Int→Int→Int→Int→Option ((Int)×(Int))
abbrev cN.Ac:=Int→Int→Int→Int→Int→Int→Int→Int→Int→Option ((Int)×(Int))
def cN.Ii(N:Nat)(x2:Int)(x8:Int)(bo:Int)(bM:Int)(cM:Int)(gd:Int):Option ((Int)×(Int)):=
 cond (aH x8 0) (none) (some ((W .u64 ((W .u64 (bM*4294967296))+gd)),(shr .u64 (W .u64 ((W .u64 ((W .u64 (cM*4294967296))+bo))-(W .u64 (gd*x2)))) x8)))
def cN.J5(N:Nat)(x2:Int)(x8:Int)(bo:Int)(bM:Int)(cM:Int)(gd:Int):Option ((Int)×(Int)):=cN.Ii N x2 x8 bo bM cM gd
def cN.y9(N:Nat)(Ad:cN.PO)(nh:cN.ng)(x2:Int)(x8:Int)(x9:Int)(aR:Int)(bo:Int)(bM:Int)(cq:Int)(cM:Int)(gd:Int):Option ((Int)×(Int)):=
 cond (bR 4294967296 gd) (let v30:Int:=W .u64 (gd-1);let v31:Int:=W .u64 (cq+x9);cond (bR 4294967296 v31) (Ad x2 x8 bo bM cM v30) (nh x2 x8 x9 aR bo bM v31 cM v30)) (cond (aH (W .u64 ((W .u64 ((4294967296:Int)*cq))+bo)) (W .u64 (gd*aR))) (let v43:Int:=W .u64 (gd-1);let v44:Int:=W .u64 (cq+x9);cond (bR 4294967296 v44) (Ad x2 x8 bo bM cM v43) (nh x2 x8 x9 aR bo bM v44 cM v43)) (Ad x2 x8 bo bM cM gd))
def cN.xX(N:Nat):Nat→cN.ng
 |0,_,_,_,_,_,_,_,_,_=>none
 |n+1,x2,x8,x9,aR,bo,bM,cq,cM,gd=>cN.y9 N (cN.J5 N) (cN.xX N n) x2 x8 x9 aR bo bM cq cM gd
def cN.Ih(N:Nat)(F3:cN.ng)(x2:Int)(x8:Int)(x9:Int)(aR:Int)(aE:Int)(bf:Int)(bo:Int)(bM:Int):Option ((Int)×(Int)):=
 let v25:Int:=W .u64 ((W .u64 ((W .u64 (aE*4294967296))+bf))-(W .u64 (bM*x2)));cond (ay x9 0) (none) (let v26:Int:=W .u64 (quo v25 x9);F3 x2 x8 x9 aR bo bM (W .u64 (v25-(W .u64 (v26*x9)))) v25 v26)
def cN.MQ(N:Nat)(x2:Int)(x8:Int)(x9:Int)(aR:Int)(aE:Int)(bf:Int)(bo:Int)(bM:Int):Option ((Int)×(Int)):=cN.Ih N (cN.xX N N) x2 x8 x9 aR aE bf bo bM
def cN.EX(N:Nat)(Ce:cN.PQ)(KF:cN.Ac)(x2:Int)(x8:Int)(x9:Int)(aR:Int)(aE:Int)(bf:Int)(bo:Int)(bM:Int)(cq:Int):Option ((Int)×(Int)):=
 cond (bR 4294967296 bM) (let v19:Int:=W .u64 (bM-1);let v20:Int:=W .u64 (cq+x9);cond (bR 4294967296 v20) (Ce x2 x8 x9 aR aE bf bo v19) (KF x2 x8 x9 aR aE bf bo v19 v20)) (cond (aH (W .u64 ((W .u64 ((4294967296:Int)*cq))+bf)) (W .u64 (bM*aR))) (let v48:Int:=W .u64 (bM-1);let v49:Int:=W .u64 (cq+x9);cond (bR 4294967296 v49) (Ce x2 x8 x9 aR aE bf bo v48) (KF x2 x8 x9 aR aE bf bo v48 v49)) (Ce x2 x8 x9 aR aE bf bo bM))
def cN.EW(N:Nat):Nat→cN.Ac
 |0,_,_,_,_,_,_,_,_,_=>none
 |n+1,x2,x8,x9,aR,aE,bf,bo,bM,cq=>cN.EX N (cN.MQ N) (cN.EW N n) x2 x8 x9 aR aE bf bo bM cq
def cN.b(N:Nat)(PS:cN.Ac)(a0:Int)(a1:Int)(a2:Int):Option ((Int)×(Int)):=
 cond (ay a2 0) (none) (cond (bR a2 a0) (none) (cond (ay a0 0) (cond (ay a2 0) (none) (cond (ay a2 0) (none) (some ((W .u64 (quo a1 a2)),(rem a1 a2))))) ((RB N a2).bind fun r3=>let v4:Int:=W .u64 r3;cond (aH v4 0) (none) (let v5:Int:=W .u64 (shl .u64 a2 v4);cond (aH 32 0) (none) (let v6:Int:=shr .u64 v5 32;cond (aH v4 0) (none) (let v9:Int:=W .u64 ((64:Int)-v4);cond (aH v9 0) (none) (let v11:Int:=iZ .or .u64 (W .u64 (shl .u64 a0 v4)) (shr .u64 a1 v9);cond (aH v4 0) (none) (let XV:Int:=W .u64 (shl .u64 a1 v4);cond (aH 32 0) (none) (cond (ay v6 0) (none) (let MU:Int:=W .u64 (quo v11 v6);PS v5 v4 v6 (iZ .and .u64 v5 4294967295) v11 (shr .u64 XV 32) (iZ .and .u64 XV 4294967295) MU (W .u64 (v11-(W .u64 (MU*v6))))))))))))))
def cN(N:Nat)(a0:Int)(a1:Int)(a2:Int):Option ((Int)×(Int)):=cN.b N (cN.EW N N) a0 a1 a2
abbrev oN.F4:=bH→Int→Int→Int→Option (bH×(Int)×(Bool))
def oN.xu(N:Nat)(x4:bH)(aR:Int)(aE:Int)(aJ:Int):Option (bH×(Int)×(Bool)):=
 (mD N true aR aJ).bind fun kB=>some (kB.1,(W .i64 aE),true)
def oN.HG(N:Nat)(x4:bH)(aR:Int)(aE:Int)(aJ:Int):Option (bH×(Int)×(Bool)):=oN.xu N x4 aR aE aJ
def oN.b(N:Nat)(qd:oN.F4)(a0:bH)(a1:Int):Option (bH×(Int)×(Bool)):=
 cond (aH a1 1) (some (ch,(0:Int),false)) ((RL N a0).bind fun r1=>let v2:Int:=W .u64 a1;(cN N (0:Int) r1.1 v2).bind fun r3=>(cN N r3.2 r1.2 v2).bind fun r4=>cond (bR 0 a0.1) (some (((W .i64 r3.1),(r4.1,())),(W .i64 r4.2),true)) (cond (aH 0 r4.2) ((p6 N r4.1 (1:Int) (0:Int)).bind fun r7=>qd ch (W .u64 (r3.1+r7.2)) (W .u64 (v2-r4.2)) r7.1) (qd ch r3.1 r4.2 r4.1)))
def oN(N:Nat)(a0:bH)(a1:Int):Option (bH×(Int)×(Bool)):=oN.b N (oN.HG N) a0 a1
def C2(N:Nat)(a0:bH):Option ((Int)×(Bool)):=
 cond (aH 63 0) (none) (cond (!ay a0.1 (shr .i64 (W .i64 a0.2.1) 63)) (some ((0:Int),false)) (some ((W .i64 a0.2.1),true)))
def ZH(N:Nat)(a0:List (Int)):Option (List (Int)):=
 cond (fD 0 (List.length a0:Int) (List.length a0:Int) (List.length a0:Int)) (some (List.drop (0:Int).toNat (List.take (List.length a0:Int).toNat a0))) (none)
abbrev e8.fe:=(List (Int))→(List (Int))→Int→Int→Int→Int→Option (List (Int))
abbrev e8.cg:=(List (Int))→(List (Int))→Int→Int→Option (List (Int))
def e8.ov(N:Nat)(bV:e8.cg)(fR:e8.fe)(x0:List (Int))(x3:List (Int))(x4:Int)(x5:Int)(aR:Int)(aE:Int):Option (List (Int)):=
 cond (aH 0 x5) (let v4:Int:=W .i64 (x5-1);cond (aK v4 (List.length x3)) (cond (aK (List.getD x3 v4.toNat (0:Int)) (List.length x0)) (cond (aK x4 (List.length x0)) (cond (aH (List.getD x0 (List.getD x3 v4.toNat (0:Int)).toNat (0:Int)) (List.getD x0 x4.toNat (0:Int))) (fR x0 x3 x4 (W .i64 (x5-1)) aR aE) ((gB N x3 x5 ([x4])).bind fun r6=>bV x0 r6 aR (W .i64 (aE+1)))) (none)) (none)) (none)) ((gB N x3 x5 ([x4])).bind fun r8=>bV x0 r8 aR (W .i64 (aE+1)))
def e8.l6(N:Nat)(bV:e8.cg):Nat→e8.fe
 |0,_,_,_,_,_,_=>none
 |n+1,x0,x3,x4,x5,aR,aE=>e8.ov N bV (e8.l6 N bV n) x0 x3 x4 x5 aR aE
def e8.ix(N:Nat)(pZ:e8.fe)(bV:e8.cg)(x0:List (Int))(x3:List (Int))(aR:Int)(aE:Int):Option (List (Int)):=
 cond (aH aE aR) (pZ x0 x3 aE (List.length x3:Int) aR aE) ((ZH N x3).bind fun iX=>some iX)
def e8.l3(N:Nat):Nat→e8.cg
 |0,_,_,_,_=>none
 |n+1,x0,x3,aR,aE=>e8.ix N (e8.l6 N (e8.l3 N n) N) (e8.l3 N n) x0 x3 aR aE
def e8.b(N:Nat)(iM:e8.cg)(a0:List (Int)):Option (List (Int)):=
 cond (dX 0 (List.length a0:Int)) (iM a0 (List.replicate (0:Int).toNat (0:Int)) (List.length a0:Int) (0:Int)) (none)
def e8(N:Nat)(a0:List (Int)):Option (List (Int)):=e8.b N (e8.l3 N N) a0
abbrev dN.rr:=(List (Int))→(List (Int))→Int→Int→Option ((List (Int))×(Int))
abbrev dN.dv:=Int→Int→(List (Int))→(List (Int))→Int→(List (Int))→Int→Int→Option ((List (Int))×(Int))
abbrev dN.Jh:=Int→(List (Int))→Int→Option ((List (Int))×(Int))
def dN.xD(N:Nat)(ru:dN.rr)(x8:List (Int))(XW:List (Int))(x89:Int)(Tb:Int):Option ((List (Int))×(Int)):=
 cond (aH Tb x89) (cond (aK Tb (List.length XW)) (cond (aK (List.getD XW Tb.toNat (0:Int)) (List.length x8)) (cond (aK (List.getD XW Tb.toNat (0:Int)) (List.length x8)) (ru (List.set x8 (List.getD XW Tb.toNat (0:Int)).toNat (W .i64 ((List.getD x8 (List.getD XW Tb.toNat (0:Int)).toNat (0:Int))+1))) XW x89 (W .i64 (Tb+1))) (none)) (none)) (none)) (some (x8,(0:Int)))
def dN.xC(N:Nat):Nat→dN.rr
 |0,_,_,_,_=>none
 |n+1,x8,XW,x89,Tb=>dN.xD N (dN.xC N n) x8 XW x89 Tb
def dN.il(N:Nat)(F5:dN.rr)(eu:dN.dv)(x0:Int)(x6:Int)(x8:List (Int))(x9:List (Int))(aR:Int)(x50:List (Int))(x51:Int)(MV:Int):Option ((List (Int))×(Int)):=
 cond (aH MV x51) (cond (aK MV (List.length x50)) ((RK N x0 (List.getD x50 MV.toNat (0:Int))).bind fun r7=>(oN N r7 x6).bind fun r8=>(C2 N r8.1).bind fun r9=>cond (aK MV (List.length x8)) (let v10:List (Int):=List.set x8 MV.toNat r9.1;cond (aK MV (List.length x9)) (cond (aK MV (List.length v10)) (eu x0 x6 v10 (List.set x9 MV.toNat r8.2.1) (W .i64 (aR-(List.getD v10 MV.toNat (0:Int)))) x50 x51 (W .i64 (MV+1))) (none)) (none)) (none)) (none)) ((e8 N x9).bind fun ow=>cond (fD 0 aR (List.length ow:Int) (List.length ow:Int)) (let MU:List (Int):=List.drop (0:Int).toNat (List.take aR.toNat ow);F5 x8 MU (List.length MU:Int) (0:Int)) (none))
def dN.jB(N:Nat):Nat→dN.dv
 |0,_,_,_,_,_,_,_,_=>none
 |n+1,x0,x6,x8,x9,aR,x50,x51,MV=>dN.il N (dN.xC N N) (dN.jB N n) x0 x6 x8 x9 aR x50 x51 MV
def dN.HH(N:Nat)(ni:dN.dv)(x0:Int)(x1:List (Int))(x6:Int):Option ((List (Int))×(Int)):=
 cond (dX (List.length x1:Int) (List.length x1:Int)) (let v4:List (Int):=List.replicate (List.length x1:Int).toNat (0:Int);cond (dX (List.length x1:Int) (List.length x1:Int)) (cond (ay x0 0) (some (v4,(0:Int))) (ni x0 x6 v4 (List.replicate (List.length x1:Int).toNat (0:Int)) x0 x1 (List.length x1:Int) (0:Int))) (none)) (none)
def dN.j8(N:Nat)(x0:Int)(x1:List (Int))(x6:Int):Option ((List (Int))×(Int)):=dN.HH N (dN.jB N N) x0 x1 x6
def dN.b(N:Nat)(Ae:dN.Jh)(a0:Int)(a1:List (Int)):Option ((List (Int))×(Int)):=
 cond (aH a0 0) (some ([],(1:Int))) ((LX N a1).bind fun r1=>cond (!r1) (some ([],(1:Int))) ((lF N a1).bind fun r2=>cond (!r2.2) (some ([],(2:Int))) (cond (ay r2.1 0) (cond (aH 0 a0) (some ([],(1:Int))) (Ae a0 a1 r2.1)) (Ae a0 a1 r2.1))))
def dN(N:Nat)(a0:Int)(a1:List (Int)):Option ((List (Int))×(Int)):=dN.b N (dN.j8 N) a0 a1
abbrev jJ.nj:=(List (Int))→(List (Int))→(List (Int))→Int→(List (Int))→Int→Int→Option ((List (Int))×(Int)×(Int))
abbrev jJ.PT:=(List (Int))→(List (Int))→(List (Int))→Int→(List (Int))→Int→Int→Option ((List (Int))×(Int)×(Int))
abbrev jJ.c0:=(List (Int))→(List (Int))→(List (Int))→Int→Option ((List (Int))×(Int)×(Int))
def jJ.th(N:Nat)(cF:jJ.c0)(uY:jJ.nj)(x1:List (Int))(x2:List (Int))(aE:List (Int))(aJ:Int)(PN:List (Int))(Jf:Int)(KG:Int):Option ((List (Int))×(Int)×(Int)):=
 cond (aH KG Jf) (cond (aK KG (List.length PN)) (cond (aK KG (List.length x2)) (cond (aK KG (List.length aE)) (let QG:Int:=mn (List.getD PN KG.toNat (0:Int)) (W .i64 ((List.getD x2 KG.toNat (0:Int))-(List.getD aE KG.toNat (0:Int))));cond (aK KG (List.length aE)) (cond (aK KG (List.length aE)) (uY x1 x2 (List.set aE KG.toNat (W .i64 ((List.getD aE KG.toNat (0:Int))+QG))) (W .i64 (aJ-QG)) PN Jf (W .i64 (KG+1))) (none)) (none)) (none)) (none)) (none)) (cF x1 x2 aE aJ)
def jJ.vN(N:Nat)(cF:jJ.c0):Nat→jJ.nj
 |0,_,_,_,_,_,_,_=>none
 |n+1,x1,x2,aE,aJ,PN,Jf,KG=>jJ.th N cF (jJ.vN N cF n) x1 x2 aE aJ PN Jf KG
def jJ.ZL(N:Nat)(Af:jJ.nj)(cF:jJ.c0)(XX:jJ.PT)(x1:List (Int))(x2:List (Int))(aE:List (Int))(aJ:Int)(bf:List (Int))(AB:Int)(sM:Int):Option ((List (Int))×(Int)×(Int)):=
 cond (aH sM AB) (cond (aK sM (List.length aE)) (cond (aK sM (List.length x2)) (cond (aH (List.getD aE sM.toNat (0:Int)) (List.getD x2 sM.toNat (0:Int))) (cond (aK sM (List.length x1)) (cond (aK sM (List.length bf)) (XX x1 x2 aE aJ (List.set bf sM.toNat (List.getD x1 sM.toNat (0:Int))) AB (W .i64 (sM+1))) (none)) (none)) (XX x1 x2 aE aJ bf AB (W .i64 (sM+1)))) (none)) (none)) ((dN N aJ bf).bind fun kB=>cond (!ay kB.2 0) (some (aE,aJ,(0:Int))) (Af x1 x2 aE aJ kB.1 (List.length kB.1:Int) (0:Int)))
def jJ.l10(N:Nat)(cF:jJ.c0):Nat→jJ.PT
 |0,_,_,_,_,_,_,_=>none
 |n+1,x1,x2,aE,aJ,bf,AB,sM=>jJ.ZL N (jJ.vN N cF N) cF (jJ.l10 N cF n) x1 x2 aE aJ bf AB sM
def jJ.n9(N:Nat)(afm:jJ.PT)(cF:jJ.c0)(x1:List (Int))(x2:List (Int))(aE:List (Int))(aJ:Int):Option ((List (Int))×(Int)×(Int)):=
 cond (aH 0 aJ) (cond (dX (List.length x1:Int) (List.length x1:Int)) (afm x1 x2 aE aJ (List.replicate (List.length x1:Int).toNat (0:Int)) (List.length x1:Int) (0:Int)) (none)) (some (aE,aJ,(0:Int)))
def jJ.l7(N:Nat):Nat→jJ.c0
 |0,_,_,_,_=>none
 |n+1,x1,x2,aE,aJ=>jJ.n9 N (jJ.l10 N (jJ.l7 N n) N) (jJ.l7 N n) x1 x2 aE aJ
def jJ.b(N:Nat)(oj:jJ.c0)(a0:Int)(a1:List (Int))(a2:List (Int)):Option ((List (Int))×(Int)×(Int)):=
 cond (aH a0 0) (some ([],(0:Int),(1:Int))) ((LX N a1).bind fun r1=>cond (!r1) (some ([],(0:Int),(1:Int))) (cond (!ay (List.length a2:Int) (List.length a1:Int)) (some ([],(0:Int),(1:Int))) ((LX N a2).bind fun r2=>cond (!r2) (some ([],(0:Int),(1:Int))) ((lF N a1).bind fun r3=>cond (!r3.2) (some ([],(0:Int),(2:Int))) (cond (dX (List.length a1:Int) (List.length a1:Int)) (oj a1 a2 (List.replicate (List.length a1:Int).toNat (0:Int)) a0) (none))))))
def jJ(N:Nat)(a0:Int)(a1:List (Int))(a2:List (Int)):Option ((List (Int))×(Int)×(Int)):=jJ.b N (jJ.l7 N N) a0 a1 a2
abbrev lz.rr:=Int→Int→(List (Int))→aj→(List (Int))→Int→Int→Option (aj×(Int))
abbrev lz.nk:=Int→Int→(List (Int))→(List (Int))→aj→Int→Int→Option (aj×(Int))
def lz.xD(N:Nat)(ru:lz.rr)(x2:Int)(x8:Int)(x9:List (Int))(cq:aj)(PU:List (Int))(Z9:Int)(DX:Int):Option (aj×(Int)):=
 cond (aH DX Z9) (cond (aK DX (List.length PU)) (cond (aH x8 0) (let QH:Int:=W .i64 (0-(List.getD PU DX.toNat (0:Int)));cond (!ay QH 0) (cond (aK DX (List.length x9)) (cond (small (List.length cq+List.length ([(List.getD x9 DX.toNat (0:Int),(x2,(QH,())))]))) (ru x2 x8 x9 (cq++([(List.getD x9 DX.toNat (0:Int),(x2,(QH,())))])) PU Z9 (W .i64 (DX+1))) (none)) (none)) (ru x2 x8 x9 cq PU Z9 (W .i64 (DX+1)))) (cond (!ay (List.getD PU DX.toNat (0:Int)) (0:Int)) (cond (aK DX (List.length x9)) (cond (small (List.length cq+List.length ([(List.getD x9 DX.toNat (0:Int),(x2,(List.getD PU DX.toNat (0:Int),())))]))) (ru x2 x8 x9 (cq++([(List.getD x9 DX.toNat (0:Int),(x2,(List.getD PU DX.toNat (0:Int),())))])) PU Z9 (W .i64 (DX+1))) (none)) (none)) (ru x2 x8 x9 cq PU Z9 (W .i64 (DX+1))))) (none)) (some (cq,(0:Int)))
def lz.xC(N:Nat):Nat→lz.rr
 |0,_,_,_,_,_,_,_=>none
 |n+1,x2,x8,x9,cq,PU,Z9,DX=>lz.xD N (lz.xC N n) x2 x8 x9 cq PU Z9 DX
def lz.sy(N:Nat)(F5:lz.rr)(n4:lz.nk)(x2:Int)(x8:Int)(x9:List (Int))(aR:List (Int))(MA:aj)(x42:Int)(KH:Int):Option (aj×(Int)):=
 cond (aH KH x42) (cond (aK KH (List.length MA)) (cond (!ay ((List.getD MA KH.toNat aW).1) (0:Int)) (cond (ay (((List.getD MA KH.toNat aW).2).1) x2) (cond (!(lR .bool (aH ((((List.getD MA KH.toNat aW).2).2).1) (0:Int)) (aH x8 0))) (cond (small (List.length x9+List.length ([(List.getD MA KH.toNat aW).1]))) ((Zw N ((((List.getD MA KH.toNat aW).2).2).1)).bind fun r5=>let v6:Int:=W .i64 r5;cond (small (List.length aR+List.length ([v6]))) (n4 x2 x8 (x9++([(List.getD MA KH.toNat aW).1])) (aR++([v6])) MA x42 (W .i64 (KH+1))) (none)) (none)) (n4 x2 x8 x9 aR MA x42 (W .i64 (KH+1)))) (n4 x2 x8 x9 aR MA x42 (W .i64 (KH+1)))) (n4 x2 x8 x9 aR MA x42 (W .i64 (KH+1)))) (none)) ((Zw N x8).bind fun lA=>(jJ N (W .i64 lA) aR aR).bind fun ow=>cond (!ay ow.2.2 0) (some ([],ow.2.2)) (F5 x2 x8 x9 ([((0:Int),(x2,((W .i64 (0-x8)),())))]) ow.1 (List.length ow.1:Int) (0:Int)))
def lz.ve(N:Nat):Nat→lz.nk
 |0,_,_,_,_,_,_,_=>none
 |n+1,x2,x8,x9,aR,MA,x42,KH=>lz.sy N (lz.xC N N) (lz.ve N n) x2 x8 x9 aR MA x42 KH
def lz.b(N:Nat)(Ah:lz.nk)(a0:ae)(a1:ah)(a2:Int):Option (aj×(Int)):=
 (ik N a0 a1).bind fun r1=>cond (!r1) (some ([],(1:Int))) (cond (aH a2 0) (some ([],(3:Int))) (cond (bR (List.length a0.1:Int) a2) (some ([],(3:Int))) ((xE N a1.2.2.2.1 (0:Int) a2).bind fun r2=>cond (ay r2 0) (some ([],(0:Int))) (Ah a2 r2 ([]) ([]) a1.2.2.2.1 (List.length a1.2.2.2.1:Int) (0:Int)))))
def lz(N:Nat)(a0:ae)(a1:ah)(a2:Int):Option (aj×(Int)):=lz.b N (lz.ve N N) a0 a1 a2
def R9(N:Nat)(a0:ah):Option ah:=
 (j1 N a0.1).bind fun r1=>(j1 N a0.2.1).bind fun r2=>(j1 N a0.2.2.1).bind fun r3=>(j1 N a0.2.2.2.1).bind fun r4=>(j1 N a0.2.2.2.2.1).bind fun r5=>(j1 N a0.2.2.2.2.2.1).bind fun r6=>some (r1,(r2,(r3,(r4,(r5,(r6,()))))))
abbrev dW.fe:=aj→Int→g8→Int→aj→Int→Int→Option (Bool)
abbrev dW.bY:=aj→Int→Option (Bool)
def dW.ov(N:Nat)(cZ:dW.bY)(fR:dW.fe)(x0:aj)(x3:Int)(x4:g8)(x9:Int)(aJ:aj)(bf:Int)(bo:Int):Option (Bool):=
 cond (aH bo bf) (cond (aK bo (List.length aJ)) (cond (ay (((List.getD aJ bo.toNat aW).2).1) x3) ((RO N ((((List.getD aJ bo.toNat aW).2).2).1)).bind fun r3=>cond (small (List.length x4+List.length ([r3]))) (fR x0 x3 (x4++([r3])) x9 aJ bf (W .i64 (bo+1))) (none)) (fR x0 x3 x4 x9 aJ bf (W .i64 (bo+1)))) (none)) ((jt N x4).bind fun r7=>cond (!r7.2) (some false) ((ZA N r7.1).bind fun r8=>cond (!ay r8 0) (some false) (cZ x0 (W .i64 (x9+1)))))
def dW.l6(N:Nat)(cZ:dW.bY):Nat→dW.fe
 |0,_,_,_,_,_,_,_=>none
 |n+1,x0,x3,x4,x9,aJ,bf,bo=>dW.ov N cZ (dW.l6 N cZ n) x0 x3 x4 x9 aJ bf bo
def dW.ei(N:Nat)(pZ:dW.fe)(cZ:dW.bY)(x0:aj)(x9:Int):Option (Bool):=
 cond (aH x9 6) (pZ x0 x9 ([]) x9 x0 (List.length x0:Int) (0:Int)) (some true)
def dW.l2(N:Nat):Nat→dW.bY
 |0,_,_=>none
 |n+1,x0,x9=>dW.ei N (dW.l6 N (dW.l2 N n) N) (dW.l2 N n) x0 x9
def dW.b(N:Nat)(fA:dW.bY)(a0:aj):Option (Bool):=
 fA a0 (0:Int)
def dW(N:Nat)(a0:aj):Option (Bool):=dW.b N (dW.l2 N N) a0
def R1(N:Nat)(a0:aj):Option aj:=
 cond (fD 0 (List.length a0:Int) (List.length a0:Int) (List.length a0:Int)) (some (List.drop (0:Int).toNat (List.take (List.length a0:Int).toNat a0))) (none)
abbrev bu.afn:=aj→aj→cm→Int→aj→Int→Int→Option (aj×(Int))
abbrev bu.iT:=aj→aj→cm→Int→aj→Int→Int→Option (aj×(Int))
abbrev bu.PV:=aj→aj→cm→g8→aj→Int→Int→aj→Int→Int→Option (aj×(Int))
abbrev bu.BP:=aj→aj→aj→Int→Int→Option (aj×(Int))
abbrev bu.dv:=aj→aj→aj→Int→Int→Option (aj×(Int))
abbrev bu.bb:=aj→aj→aj→Int→Int→Option (aj×(Int))
def bu.ZC(N:Nat)(eu:bu.dv)(x1:aj)(x8:aj)(aR:cm)(aE:Int)(F6:aj)(AB:Int)(sM:Int):Option (aj×(Int)):=
 cond (ay aE (List.length x8:Int)) ((gB N x8 aE ([(aR.1,(aR.2.1,((0:Int),())))])).bind fun nf=>eu x1 nf F6 AB (W .i64 (sM+1))) (cond (aK aE (List.length x8)) ((Lu N aR.1 aR.2.1 (List.getD x8 aE.toNat aW)).bind fun sN=>cond (!ay sN 0) ((gB N x8 aE ([(aR.1,(aR.2.1,((0:Int),())))])).bind fun vZ=>eu x1 vZ F6 AB (W .i64 (sM+1))) (eu x1 x8 F6 AB (W .i64 (sM+1)))) (none))
def bu.j18(N:Nat)(eu:bu.dv)(x1:aj)(x8:aj)(aR:cm)(aE:Int)(F6:aj)(AB:Int)(sM:Int):Option (aj×(Int)):=bu.ZC N eu x1 x8 aR aE F6 AB sM
def bu.q5(N:Nat)(XY:bu.afn)(eu:bu.dv)(jX:bu.iT)(x1:aj)(x8:aj)(aR:cm)(aE:Int)(F6:aj)(AB:Int)(sM:Int):Option (aj×(Int)):=
 cond (aH aE (List.length x8:Int)) (cond (aK aE (List.length x8)) ((Lu N aR.1 aR.2.1 (List.getD x8 aE.toNat aW)).bind fun iX=>cond (aH 0 iX) (jX x1 x8 aR (W .i64 (aE+1)) F6 AB sM) (XY x1 x8 aR aE F6 AB sM)) (none)) (XY x1 x8 aR aE F6 AB sM)
def bu.sx(N:Nat)(eu:bu.dv):Nat→bu.iT
 |0,_,_,_,_,_,_,_=>none
 |n+1,x1,x8,aR,aE,F6,AB,sM=>bu.q5 N (bu.j18 N eu) eu (bu.sx N eu n) x1 x8 aR aE F6 AB sM
def bu.R2(N:Nat)(Cg:bu.BP)(PW:bu.PV)(x1:aj)(aJ:aj)(bo:cm)(bM:g8)(uZ:aj)(xH:Int)(nA:Int)(DC:aj)(MB:Int)(Be:Int):Option (aj×(Int)):=
 cond (aH Be MB) (cond (aK Be (List.length DC)) (cond (ay ((List.getD DC Be.toNat aW).1) bo.1) (cond (ay (((List.getD DC Be.toNat aW).2).1) bo.2.1) ((RO N ((((List.getD DC Be.toNat aW).2).2).1)).bind fun Aa=>cond (small (List.length bM+List.length ([Aa]))) (PW x1 aJ bo (bM++([Aa])) uZ xH nA DC MB (W .i64 (Be+1))) (none)) (PW x1 aJ bo bM uZ xH nA DC MB (W .i64 (Be+1)))) (PW x1 aJ bo bM uZ xH nA DC MB (W .i64 (Be+1)))) (none)) ((jt N bM).bind fun QI=>(C2 N QI.1).bind fun AD=>cond (!AD.2) (some (br,(2:Int))) ((Lv N AD.1).bind fun F7=>cond (!F7) (some (br,(2:Int))) (cond (!ay AD.1 0) (cond (small (List.length aJ+List.length ([(bo.1,(bo.2.1,(AD.1,())))]))) (Cg x1 (aJ++([(bo.1,(bo.2.1,(AD.1,())))])) uZ xH (W .i64 (nA+1))) (none)) (Cg x1 aJ uZ xH (W .i64 (nA+1))))))
def bu.XJ(N:Nat)(Cg:bu.BP):Nat→bu.PV
 |0,_,_,_,_,_,_,_,_,_,_=>none
 |n+1,x1,aJ,bo,bM,uZ,xH,nA,DC,MB,Be=>bu.R2 N Cg (bu.XJ N Cg n) x1 aJ bo bM uZ xH nA DC MB Be
def bu.R4(N:Nat)(afo:bu.PV)(Cg:bu.BP)(x1:aj)(aJ:aj)(uZ:aj)(xH:Int)(nA:Int):Option (aj×(Int)):=
 cond (aH nA xH) (cond (aK nA (List.length uZ)) ((RO N ((((List.getD uZ nA.toNat aW).2).2).1)).bind fun Cd=>afo x1 aJ (List.getD uZ nA.toNat aW) ([Cd]) uZ xH nA x1 (List.length x1:Int) (0:Int)) (none)) ((R1 N aJ).bind fun Jc=>some (Jc,(0:Int)))
def bu.R3(N:Nat):Nat→bu.BP
 |0,_,_,_,_,_=>none
 |n+1,x1,aJ,uZ,xH,nA=>bu.R4 N (bu.XJ N (bu.R3 N n) N) (bu.R3 N n) x1 aJ uZ xH nA
def bu.il(N:Nat)(Ab:bu.iT)(afp:bu.BP)(eu:bu.dv)(x1:aj)(x8:aj)(F6:aj)(AB:Int)(sM:Int):Option (aj×(Int)):=
 cond (aH sM AB) (cond (aK sM (List.length F6)) (Ab x1 x8 (List.getD F6 sM.toNat aW) (0:Int) F6 AB sM) (none)) (cond (dX 0 (List.length x8:Int)) (afp x1 (List.replicate (0:Int).toNat aW) x8 (List.length x8:Int) (0:Int)) (none))
def bu.jB(N:Nat):Nat→bu.dv
 |0,_,_,_,_,_=>none
 |n+1,x1,x8,F6,AB,sM=>bu.il N (bu.sx N (bu.jB N n) N) (bu.R3 N N) (bu.jB N n) x1 x8 F6 AB sM
def bu.cT(N:Nat)(ni:bu.dv)(bD:bu.bb)(x0:aj)(x1:aj)(x30:aj)(x31:Int)(XZ:Int):Option (aj×(Int)):=
 cond (aH XZ x31) (cond (aK XZ (List.length x30)) ((Og N ((List.getD x30 XZ.toNat aW).1) (((List.getD x30 XZ.toNat aW).2).1)).bind fun r3=>cond (!r3) (some (br,(1:Int))) ((Lv N ((((List.getD x30 XZ.toNat aW).2).2).1)).bind fun r4=>cond (!r4) (some (br,(1:Int))) (bD x0 x1 x30 x31 (W .i64 (XZ+1))))) (none)) ((dW N x1).bind fun r6=>cond (!r6) (some (br,(1:Int))) ((j1 N x0).bind fun r7=>ni x1 r7 x1 (List.length x1:Int) (0:Int)))
def bu.l4(N:Nat):Nat→bu.bb
 |0,_,_,_,_,_=>none
 |n+1,x0,x1,x30,x31,XZ=>bu.cT N (bu.jB N N) (bu.l4 N n) x0 x1 x30 x31 XZ
def bu.b(N:Nat)(dq:bu.bb)(a0:aj)(a1:aj):Option (aj×(Int)):=
 (jS N a0).bind fun r1=>cond (!r1) (some (br,(1:Int))) (cond (aH 400 (List.length a1:Int)) (some (br,(1:Int))) (dq a0 a1 a1 (List.length a1:Int) (0:Int)))
def bu(N:Nat)(a0:aj)(a1:aj):Option (aj×(Int)):=bu.b N (bu.l4 N N) a0 a1
def ZE(N:Nat)(a0:aj):Option aj:=
 cond (fD 0 (List.length a0:Int) (List.length a0:Int) (List.length a0:Int)) (some (List.drop (0:Int).toNat (List.take (List.length a0:Int).toNat a0))) (none)
abbrev bw.PQ:=cH→aj→pK→Int→cH→Int→Int→Option (aj×(Int))
abbrev bw.Ai:=cH→aj→pK→Int→cH→Int→Int→Option (aj×(Int))
abbrev bw.Aj:=cH→aj→cm→g8→aj→Int→Int→cH→Int→Int→Option (aj×(Int))
abbrev bw.BU:=cH→aj→aj→Int→Int→Option (aj×(Int))
abbrev bw.iT:=cH→aj→cH→Int→Int→Option (aj×(Int))
abbrev bw.bl:=aj→cH→g8→cH→Int→Int→Option (aj×(Int))
def bw.Ih(N:Nat)(jX:bw.iT)(x1:cH)(aE:aj)(bf:pK)(bo:Int)(F9:cH)(HK:Int)(DY:Int):Option (aj×(Int)):=
 cond (ay bo (List.length aE:Int)) ((gB N aE bo ([(bf.1,(bf.2.1,((0:Int),())))])).bind fun sN=>jX x1 sN F9 HK (W .i64 (DY+1))) (cond (aK bo (List.length aE)) ((Iq N bf.1 bf.2.1 (List.getD aE bo.toNat aW)).bind fun vf=>cond (!ay vf 0) ((gB N aE bo ([(bf.1,(bf.2.1,((0:Int),())))])).bind fun vg=>jX x1 vg F9 HK (W .i64 (DY+1))) (jX x1 aE F9 HK (W .i64 (DY+1)))) (none))
def bw.MQ(N:Nat)(jX:bw.iT)(x1:cH)(aE:aj)(bf:pK)(bo:Int)(F9:cH)(HK:Int)(DY:Int):Option (aj×(Int)):=bw.Ih N jX x1 aE bf bo F9 HK DY
def bw.IB(N:Nat)(Ce:bw.PQ)(jX:bw.iT)(PX:bw.Ai)(x1:cH)(aE:aj)(bf:pK)(bo:Int)(F9:cH)(HK:Int)(DY:Int):Option (aj×(Int)):=
 cond (aH bo (List.length aE:Int)) (cond (aK bo (List.length aE)) ((Iq N bf.1 bf.2.1 (List.getD aE bo.toNat aW)).bind fun lA=>cond (aH 0 lA) (PX x1 aE bf (W .i64 (bo+1)) F9 HK DY) (Ce x1 aE bf bo F9 HK DY)) (none)) (Ce x1 aE bf bo F9 HK DY)
def bw.LO(N:Nat)(jX:bw.iT):Nat→bw.Ai
 |0,_,_,_,_,_,_,_=>none
 |n+1,x1,aE,bf,bo,F9,HK,DY=>bw.IB N (bw.MQ N jX) jX (bw.LO N jX n) x1 aE bf bo F9 HK DY
def bw.Fk(N:Nat)(Ch:bw.BU)(w5:bw.Aj)(x1:cH)(bM:aj)(cM:cm)(gd:g8)(u2:aj)(xI:Int)(tq:Int)(Bf:cH)(MC:Int)(Ak:Int):Option (aj×(Int)):=
 cond (aH Ak MC) (cond (aK Ak (List.length Bf)) (cond (ay ((List.getD Bf Ak.toNat ((0:Int),((0:Int),(ch,())))).1) cM.1) (cond (ay (((List.getD Bf Ak.toNat ((0:Int),((0:Int),(ch,())))).2).1) cM.2.1) (cond (small (List.length gd+List.length ([(((List.getD Bf Ak.toNat ((0:Int),((0:Int),(ch,())))).2).2).1]))) (w5 x1 bM cM (gd++([(((List.getD Bf Ak.toNat ((0:Int),((0:Int),(ch,())))).2).2).1])) u2 xI tq Bf MC (W .i64 (Ak+1))) (none)) (w5 x1 bM cM gd u2 xI tq Bf MC (W .i64 (Ak+1)))) (w5 x1 bM cM gd u2 xI tq Bf MC (W .i64 (Ak+1)))) (none)) ((jt N gd).bind fun AD=>(C2 N AD.1).bind fun F7=>cond (!AD.2) (some (br,(2:Int))) (cond (!F7.2) (some (br,(2:Int))) (cond (!ay F7.1 0) (cond (small (List.length bM+List.length ([(cM.1,(cM.2.1,(F7.1,())))]))) (Ch x1 (bM++([(cM.1,(cM.2.1,(F7.1,())))])) u2 xI (W .i64 (tq+1))) (none)) (Ch x1 bM u2 xI (W .i64 (tq+1))))))
def bw.IA(N:Nat)(Ch:bw.BU):Nat→bw.Aj
 |0,_,_,_,_,_,_,_,_,_,_=>none
 |n+1,x1,bM,cM,gd,u2,xI,tq,Bf,MC,Ak=>bw.Fk N Ch (bw.IA N Ch n) x1 bM cM gd u2 xI tq Bf MC Ak
def bw.R8(N:Nat)(PY:bw.Aj)(Ch:bw.BU)(x1:cH)(bM:aj)(u2:aj)(xI:Int)(tq:Int):Option (aj×(Int)):=
 cond (aH tq xI) (cond (aK tq (List.length u2)) ((RO N ((((List.getD u2 tq.toNat aW).2).2).1)).bind fun Aa=>PY x1 bM (List.getD u2 tq.toNat aW) ([Aa]) u2 xI tq x1 (List.length x1:Int) (0:Int)) (none)) ((ZE N bM).bind fun Jc=>some (Jc,(0:Int)))
def bw.R7(N:Nat):Nat→bw.BU
 |0,_,_,_,_,_=>none
 |n+1,x1,bM,u2,xI,tq=>bw.R8 N (bw.IA N (bw.R7 N n) N) (bw.R7 N n) x1 bM u2 xI tq
def bw.q5(N:Nat)(PZ:bw.Ai)(afq:bw.BU)(jX:bw.iT)(x1:cH)(aE:aj)(F9:cH)(HK:Int)(DY:Int):Option (aj×(Int)):=
 cond (aH DY HK) (cond (aK DY (List.length F9)) (PZ x1 aE (List.getD F9 DY.toNat ((0:Int),((0:Int),(ch,())))) (0:Int) F9 HK DY) (none)) (cond (dX 0 (List.length aE:Int)) (afq x1 (List.replicate (0:Int).toNat aW) aE (List.length aE:Int) (0:Int)) (none))
def bw.sx(N:Nat):Nat→bw.iT
 |0,_,_,_,_,_=>none
 |n+1,x1,aE,F9,HK,DY=>bw.q5 N (bw.LO N (bw.sx N n) N) (bw.R7 N N) (bw.sx N n) x1 aE F9 HK DY
def bw.du(N:Nat)(Ab:bw.iT)(bg:bw.bl)(x0:aj)(x1:cH)(x6:g8)(X0:cH)(x37:Int)(Tc:Int):Option (aj×(Int)):=
 cond (aH Tc x37) (cond (aK Tc (List.length X0)) ((Io N ((List.getD X0 Tc.toNat ((0:Int),((0:Int),(ch,())))).1) (((List.getD X0 Tc.toNat ((0:Int),((0:Int),(ch,())))).2).1)).bind fun r4=>cond (!r4) (some (br,(1:Int))) (cond (small (List.length x6+List.length ([(((List.getD X0 Tc.toNat ((0:Int),((0:Int),(ch,())))).2).2).1]))) (bg x0 x1 (x6++([(((List.getD X0 Tc.toNat ((0:Int),((0:Int),(ch,())))).2).2).1])) X0 x37 (W .i64 (Tc+1))) (none))) (none)) ((jt N x6).bind fun r7=>cond (!r7.2) (some (br,(1:Int))) ((ZA N r7.1).bind fun r8=>cond (!ay r8 0) (some (br,(1:Int))) ((j1 N x0).bind fun r9=>Ab x1 r9 x1 (List.length x1:Int) (0:Int))))
def bw.l5(N:Nat):Nat→bw.bl
 |0,_,_,_,_,_,_=>none
 |n+1,x0,x1,x6,X0,x37,Tc=>bw.du N (bw.sx N N) (bw.l5 N n) x0 x1 x6 X0 x37 Tc
def bw.b(N:Nat)(dL:bw.bl)(a0:aj)(a1:cH):Option (aj×(Int)):=
 (vA N a0).bind fun r1=>cond (!r1) (some (br,(1:Int))) (cond (aH 400 (List.length a1:Int)) (some (br,(1:Int))) (cond (dX 0 (List.length a1:Int)) (dL a0 a1 (List.replicate (0:Int).toNat ch) a1 (List.length a1:Int) (0:Int)) (none)))
def bw(N:Nat)(a0:aj)(a1:cH):Option (aj×(Int)):=bw.b N (bw.l5 N N) a0 a1
def F65(N:Nat)(a0:ah)(a1:aj)(a2:cH):Option (ah×(Int)):=
 (R9 N a0).bind fun r1=>(bu N a0.2.2.2.1 a1).bind fun r2=>cond (!ay r2.2 0) (some ((bN,(cL,(br,(br,(c5,(de,())))))),r2.2)) ((bw N a0.2.2.1 a2).bind fun r3=>cond (!ay r3.2 0) (some ((bN,(cL,(br,(br,(c5,(de,())))))),r3.2)) (some ((r1.1,(r1.2.1,(r3.1,(r2.1,r1.2.2.2.2)))),(0:Int))))
abbrev yp.bl:=ae→ah→ah→aj→Int→Int→Option (ah×(Int))
def yp.du(N:Nat)(bg:yp.bl)(x2:ae)(x3:ah)(x4:ah)(x6:aj)(cM:Int)(gd:Int):Option (ah×(Int)):=
 cond (aH gd cM) ((lz N x2 x3 gd).bind fun r3=>cond (!ay r3.2 0) (some ((bN,(cL,(br,(br,(c5,(de,())))))),r3.2)) (cond (small (List.length x6+List.length r3.1)) (bg x2 x3 x4 (x6++r3.1) cM (W .i64 (gd+1))) (none))) ((F65 N x3 x6 ([]:List ((Int)×((Int)×(((Int)×((Int)×(Unit)))×(Unit)))))).bind fun r6=>some (r6.1,r6.2))
def yp.l5(N:Nat):Nat→yp.bl
 |0,_,_,_,_,_,_=>none
 |n+1,x2,x3,x4,x6,cM,gd=>yp.du N (yp.l5 N n) x2 x3 x4 x6 cM gd
def yp.b(N:Nat)(dL:yp.bl)(a0:ae)(a1:ah):Option (ah×(Int)):=
 (ik N a0 a1).bind fun r1=>cond (!r1) (some ((bN,(cL,(br,(br,(c5,(de,())))))),(1:Int))) (dL a0 a1 (bN,(cL,(br,(br,(c5,(de,())))))) ([]) (List.length a0.1:Int) (0:Int))
def yp(N:Nat)(a0:ae)(a1:ah):Option (ah×(Int)):=yp.b N (yp.l5 N N) a0 a1
abbrev vU.bb:=aj→aj→Int→Option (Bool)
def vU.cT(N:Nat)(bD:vU.bb)(x0:aj)(x1:aj)(x5:Int):Option (Bool):=
 cond (aH x5 (List.length x0:Int)) (cond (aK x5 (List.length x0)) (cond (aK x5 (List.length x1)) (cond (!(lR (.pair (.int .i64) (.pair (.int .i64) (.pair (.int .i64) .unit))) (List.getD x0 x5.toNat aW) (List.getD x1 x5.toNat aW))) (some false) (bD x0 x1 (W .i64 (x5+1)))) (none)) (none)) (some true)
def vU.l4(N:Nat):Nat→vU.bb
 |0,_,_,_=>none
 |n+1,x0,x1,x5=>vU.cT N (vU.l4 N n) x0 x1 x5
def vU.b(N:Nat)(dq:vU.bb)(a0:aj)(a1:aj):Option (Bool):=
 cond (!ay (List.length a0:Int) (List.length a1:Int)) (some false) (dq a0 a1 (0:Int))
def vU(N:Nat)(a0:aj)(a1:aj):Option (Bool):=vU.b N (vU.l4 N N) a0 a1
abbrev vJ.bb:=aj→aj→Int→Option (Bool)
def vJ.cT(N:Nat)(bD:vJ.bb)(x0:aj)(x1:aj)(x5:Int):Option (Bool):=
 cond (aH x5 (List.length x0:Int)) (cond (aK x5 (List.length x0)) (cond (aK x5 (List.length x1)) (cond (!(lR (.pair (.int .i64) (.pair (.int .i64) (.pair (.int .i64) .unit))) (List.getD x0 x5.toNat aW) (List.getD x1 x5.toNat aW))) (some false) (bD x0 x1 (W .i64 (x5+1)))) (none)) (none)) (some true)
def vJ.l4(N:Nat):Nat→vJ.bb
 |0,_,_,_=>none
 |n+1,x0,x1,x5=>vJ.cT N (vJ.l4 N n) x0 x1 x5
def vJ.b(N:Nat)(dq:vJ.bb)(a0:aj)(a1:aj):Option (Bool):=
 cond (!ay (List.length a0:Int) (List.length a1:Int)) (some false) (dq a0 a1 (0:Int))
def vJ(N:Nat)(a0:aj)(a1:aj):Option (Bool):=vJ.b N (vJ.l4 N N) a0 a1
def F26(N:Nat):Option (Bool):=
 (F86 N).bind fun r1=>(lz N r1.1 r1.2 (0:Int)).bind fun r2=>(yp N r1.1 r1.2).bind fun r3=>(lz N r1.1 r1.2 (1:Int)).bind fun r4=>cond (ay r2.2 0) ((vU N r2.1 ([((0:Int),((0:Int),((-3:Int),()))),((1:Int),((0:Int),((2:Int),()))),((2:Int),((0:Int),((1:Int),())))])).bind fun r5=>cond (r5) (cond (ay r3.2 0) ((vJ N r3.1.2.2.2.1 ([((1:Int),((0:Int),((-2:Int),()))),((2:Int),((0:Int),((-1:Int),()))),((3:Int),((0:Int),((3:Int),())))])).bind fun r6=>cond (r6) (some (ay r4.2 3)) (some false)) (some false)) (some false)) (some false)
def F13(N:Nat)(a0:List (Int)):Option aN:=
 some (a0,((0:Int),()))
def F42(N:Nat)(a0:aN):Option ((Int)×aN):=
 cond (aH a0.2.1 (List.length a0.1:Int)) (cond (aK a0.2.1 (List.length a0.1)) (some (List.getD a0.1 a0.2.1.toNat (0:Int),(a0.1,((W .i64 (a0.2.1+1)),a0.2.2)))) (none)) (some ((0:Int),(a0.1,((W .i64 (a0.2.1+1)),a0.2.2))))
def oh(N:Nat)(a0:aN)(a1:Int):Option ((Int)×aN):=
 (F42 N a0).bind fun r1=>let v2:Int:=W .u64 a1;cond (ay v2 0) (none) (some ((W .i64 (rem r1.1 v2)),r1.2))
def QA(N:Nat)(a0:aN)(a1:Int):Option ((Bool)×aN):=
 (oh N a0 a1).bind fun r1=>some (ay r1.1 (W .i64 (a1-1)),r1.2)
def HI(N:Nat)(a0:aN):Option ((Int)×aN):=
 (F42 N a0).bind fun r1=>cond (ay 8 0) (none) (let v2:Int:=rem r1.1 8;cond (ay v2 0) (cond (aH 1 0) (none) (some ((W .i64 (shr .u64 r1.1 1)),r1.2))) (cond (ay v2 1) (cond (aH 3 0) (none) (cond (ay 1000000000000 0) (none) (some ((W .i64 (rem (shr .u64 r1.1 3) 1000000000000)),r1.2)))) (cond (ay v2 2) (cond (aH 3 0) (none) (cond (ay 2 0) (none) (some ((W .i64 (rem (shr .u64 r1.1 3) 2)),r1.2)))) (cond (aH 3 0) (none) (cond (ay 5000 0) (none) (some ((W .i64 (rem (shr .u64 r1.1 3) 5000)),r1.2)))))))
abbrev pU.Jh:=aN→ae→ae→aF→Int→bQ→Option (ae×aN)
abbrev pU.cg:=aN→ae→ae→aF→Int→Option (ae×aN)
def pU.HH(N:Nat)(bV:pU.cg)(x0:aN)(x2:ae)(x3:ae)(MD:aF)(x4:Int)(x5:bQ):Option (ae×aN):=
 (QA N x0 (12:Int)).bind fun ow=>cond (ow.1) ((HI N ow.2).bind fun sN=>cond (ay 1000000001 0) (none) (let P0:Int:=rem sN.1 1000000001;(HI N sN.2).bind fun vf=>cond (ay 1000000001 0) (none) (let v18:Int:=rem vf.1 1000000001;cond (small (List.length MD+List.length ([(x5.1,(x5.2.1,(P0,(v18,x5.2.2.2.2))))]))) (bV vf.2 x2 (cL,x3.2) (MD++([(x5.1,(x5.2.1,(P0,(v18,x5.2.2.2.2))))])) (W .i64 (x4-1))) (none)))) (cond (small (List.length MD+List.length ([x5]))) (bV ow.2 x2 (cL,x3.2) (MD++([x5])) (W .i64 (x4-1))) (none))
def pU.j8(N:Nat)(bV:pU.cg)(x0:aN)(x2:ae)(x3:ae)(MD:aF)(x4:Int)(x5:bQ):Option (ae×aN):=pU.HH N bV x0 x2 x3 MD x4 x5
def pU.ix(N:Nat)(Ae:pU.Jh)(bV:pU.cg)(x0:aN)(x2:ae)(x3:ae)(MD:aF)(x4:Int):Option (ae×aN):=
 cond (aH 0 x4) ((oh N x0 (3:Int)).bind fun r4=>(oh N r4.2 (300:Int)).bind fun r5=>(oh N r5.2 (12:Int)).bind fun r7=>(oh N r7.2 (6:Int)).bind fun r8=>(QA N r8.2 (12:Int)).bind fun r9=>cond (r9.1) ((HI N r9.2).bind fun iX=>cond (ay 1000000000000 0) (none) (Ae iX.2 x2 x3 MD x4 (r4.1,((W .i64 ((1:Int)+(rem iX.1 1000000000000))),(r7.1,(r8.1,())))))) (Ae r9.2 x2 x3 MD x4 (r4.1,((W .i64 ((1:Int)+r5.1)),(r7.1,(r8.1,())))))) ((oh N x0 (300:Int)).bind fun Aa=>(oh N Aa.2 (5:Int)).bind fun Ci=>(oh N Ci.2 (3:Int)).bind fun Cj=>(oh N Cj.2 (3:Int)).bind fun vh=>(oh N vh.2 (20:Int)).bind fun Ji=>let v28:Int:=W .i64 ((1:Int)+Ji.1);(oh N Ji.2 (100:Int)).bind fun AD=>(QA N AD.2 (15:Int)).bind fun F7=>cond (F7.1) ((HI N F7.2).bind fun HL=>some ((MD,(HL.1,(Ci.1,(Cj.1,(vh.1,(v28,(AD.1,x3.2.2.2.2.2.2.2))))))),HL.2)) (some ((MD,(Aa.1,(Ci.1,(Cj.1,(vh.1,(v28,(AD.1,x3.2.2.2.2.2.2.2))))))),F7.2)))
def pU.l3(N:Nat):Nat→pU.cg
 |0,_,_,_,_,_=>none
 |n+1,x0,x2,x3,MD,x4=>pU.ix N (pU.j8 N (pU.l3 N n)) (pU.l3 N n) x0 x2 x3 MD x4
def pU.b(N:Nat)(iM:pU.cg)(a0:aN):Option (ae×aN):=
 (oh N a0 (4:Int)).bind fun r1=>iM r1.2 (cL,eK) (cL,eK) cL (W .i64 ((1:Int)+r1.1))
def pU(N:Nat)(a0:aN):Option (ae×aN):=pU.b N (pU.l3 N N) a0
abbrev dD.dv:=aN→fQ→Int→Option (fQ×aN)
abbrev dD.ko:=aN→fQ→Int→Option (fQ×aN)
abbrev dD.cg:=aN→fQ→Int→Option (fQ×aN)
def dD.il(N:Nat)(eu:dD.dv)(x0:aN)(x5:fQ)(x8:Int):Option (fQ×aN):=
 cond (bR x8 7) ((oh N x0 (3000:Int)).bind fun sN=>let P0:Int:=W .i64 ((200:Int)+sN.1);(oh N sN.2 (200:Int)).bind fun vf=>let v18:Int:=W .i64 ((20:Int)+vf.1);cond (small (List.length x5+List.length ([((3:Int),((0:Int),(x8,((0:Int),((0:Int),((0:Int),(P0,((0:Int),())))))))),((6:Int),((0:Int),(x8,((0:Int),((0:Int),((0:Int),(v18,((0:Int),()))))))))]))) (eu vf.2 (x5++([((3:Int),((0:Int),(x8,((0:Int),((0:Int),((0:Int),(P0,((0:Int),())))))))),((6:Int),((0:Int),(x8,((0:Int),((0:Int),((0:Int),(v18,((0:Int),()))))))))])) (W .i64 (x8+1))) (none)) (some (x5,x0))
def dD.jB(N:Nat):Nat→dD.dv
 |0,_,_,_=>none
 |n+1,x0,x5,x8=>dD.il N (dD.jB N n) x0 x5 x8
def dD.vb(N:Nat)(ni:dD.dv)(oX:dD.ko)(x0:aN)(x5:fQ)(x7:Int):Option (fQ×aN):=
 cond (bR x7 7) ((oh N x0 (2:Int)).bind fun iX=>let v11:Int:=W .i64 ((1:Int)+iX.1);cond (small (List.length x5+List.length ([((2:Int),(v11,(x7,((0:Int),((2:Int),aW)))))]))) (oX iX.2 (x5++([((2:Int),(v11,(x7,((0:Int),((2:Int),aW)))))])) (W .i64 (x7+1))) (none)) (ni x0 x5 (1:Int))
def dD.l9(N:Nat):Nat→dD.ko
 |0,_,_,_=>none
 |n+1,x0,x5,x7=>dD.vb N (dD.jB N N) (dD.l9 N n) x0 x5 x7
def dD.ix(N:Nat)(wa:dD.ko)(bV:dD.cg)(x0:aN)(x5:fQ)(x6:Int):Option (fQ×aN):=
 cond (bR x6 4) (cond (small (List.length x5+List.length ([((1:Int),(x6,eK)),((2:Int),(x6,(x6,((0:Int),((1:Int),aW)))))]))) (let v2:List ((Int)×((Int)×((Int)×((Int)×((Int)×((Int)×((Int)×((Int)×(Unit))))))))):=x5++([((1:Int),(x6,eK)),((2:Int),(x6,(x6,((0:Int),((1:Int),aW)))))]);(QA N x0 (5:Int)).bind fun r3=>cond (!r3.1) ((oh N r3.2 (400:Int)).bind fun r4=>let v5:Int:=W .i64 ((1:Int)+r4.1);cond (small (List.length v2+List.length ([((5:Int),(x6,((0:Int),((0:Int),((0:Int),((0:Int),(v5,((0:Int),()))))))))]))) (bV r4.2 (v2++([((5:Int),(x6,((0:Int),((0:Int),((0:Int),((0:Int),(v5,((0:Int),()))))))))])) (W .i64 (x6+1))) (none)) (bV r3.2 v2 (W .i64 (x6+1)))) (none)) (wa x0 x5 (5:Int))
def dD.l3(N:Nat):Nat→dD.cg
 |0,_,_,_=>none
 |n+1,x0,x5,x6=>dD.ix N (dD.l9 N N) (dD.l3 N n) x0 x5 x6
def dD.b(N:Nat)(iM:dD.cg)(a0:aN)(a1:ae):Option (fQ×aN):=
 iM a0 ([]) (1:Int)
def dD(N:Nat)(a0:aN)(a1:ae):Option (fQ×aN):=dD.b N (dD.l3 N N) a0 a1
def L8(N:Nat)(a0:aN)(a1:ae)(a2:Int):Option (fy×aN):=
 cond (aK a2 (List.length a1.1)) ((oh N a0 (61:Int)).bind fun r1=>(QA N r1.2 (20:Int)).bind fun r6=>cond (r6.1) ((HI N r6.2).bind fun r7=>cond (ay 1000000000000 0) (none) (some (((9:Int),((0:Int),((0:Int),(a2,((0:Int),((0:Int),((0:Int),((W .i64 ((1:Int)+(rem r7.1 1000000000000))),())))))))),r7.2))) (some (((9:Int),((0:Int),((0:Int),(a2,((0:Int),((0:Int),((0:Int),((mx 1 (mn 1000000000000 (W .i64 ((W .i64 ((((List.getD a1.1 a2.toNat aO).2).1)+r1.1))-30)))),())))))))),r6.2))) (none)
def O3(N:Nat)(a0:aN)(a1:ae):Option (fy×aN):=
 (oh N a0 (List.length a1.1:Int)).bind fun r1=>(oh N r1.2 (7:Int)).bind fun r2=>let v3:Int:=W .i64 ((1:Int)+r2.1);(oh N r2.2 (2:Int)).bind fun r4=>let v5:Int:=W .i64 ((1:Int)+r4.1);(oh N r4.2 (30:Int)).bind fun r6=>cond (aK r1.1 (List.length a1.1)) ((oh N r6.2 (21:Int)).bind fun r8=>(QA N r8.2 (30:Int)).bind fun nf=>cond (nf.1) ((HI N nf.2).bind fun ow=>cond (ay 1000000000 0) (none) ((HI N ow.2).bind fun vf=>cond (ay 1000000000000 0) (none) (some (((7:Int),((0:Int),(v3,(r1.1,(v5,((0:Int),((W .i64 ((1:Int)+(rem ow.1 1000000000))),((W .i64 ((1:Int)+(rem vf.1 1000000000000))),())))))))),vf.2)))) (some (((7:Int),((0:Int),(v3,(r1.1,(v5,((0:Int),((W .i64 ((1:Int)+r6.1)),((mx 1 (mn 1000000000000 (W .i64 ((W .i64 ((((List.getD a1.1 r1.1.toNat aO).2).1)+r8.1))-10)))),())))))))),nf.2))) (none)
def O4(N:Nat)(a0:aN)(a1:ae):Option (fy×aN):=
 (oh N a0 (4:Int)).bind fun r1=>let v2:Int:=W .i64 ((1:Int)+r1.1);(oh N r1.2 (7:Int)).bind fun r3=>let v4:Int:=W .i64 ((1:Int)+r3.1);(oh N r3.2 (List.length a1.1:Int)).bind fun r5=>(oh N r5.2 (36:Int)).bind fun r6=>let v7:Int:=W .i64 ((1:Int)+r6.1);cond (ay v7 1) (some ((v7,(v2,eK)),r6.2)) (cond (ay v7 11) (some ((v7,(v2,eK)),r6.2)) (cond (ay v7 12) (some ((v7,(v2,eK)),r6.2)) (cond (ay v7 13) (some ((v7,(v2,eK)),r6.2)) (cond (ay v7 2) ((oh N r6.2 (2:Int)).bind fun r8=>some ((v7,(v2,(v4,((0:Int),((W .i64 ((1:Int)+r8.1)),aW))))),r8.2)) (cond (ay v7 3) ((HI N r6.2).bind fun iX=>some ((v7,((0:Int),(v4,((0:Int),((0:Int),((0:Int),((mx iX.1 1),((0:Int),())))))))),iX.2)) (cond (ay v7 4) ((HI N r6.2).bind fun lA=>some ((v7,((0:Int),(v4,((0:Int),((0:Int),((0:Int),((mx lA.1 1),((0:Int),())))))))),lA.2)) (cond (ay v7 5) ((HI N r6.2).bind fun ow=>some ((v7,(v2,((0:Int),((0:Int),((0:Int),((0:Int),((mx ow.1 1),((0:Int),())))))))),ow.2)) (cond (ay v7 22) ((HI N r6.2).bind fun vZ=>some ((v7,(v2,((0:Int),((0:Int),((0:Int),((0:Int),((mx vZ.1 1),((0:Int),())))))))),vZ.2)) (cond (ay v7 6) ((HI N r6.2).bind fun vg=>cond (ay 1000000000001 0) (none) (some ((v7,((0:Int),(v4,((0:Int),((0:Int),((0:Int),((rem vg.1 1000000000001),((0:Int),())))))))),vg.2))) (cond (ay v7 8) ((oh N r6.2 (40:Int)).bind fun Ga=>some ((v7,((0:Int),(v4,((0:Int),((0:Int),((W .i64 ((1:Int)+Ga.1)),ch)))))),Ga.2)) (cond (ay v7 9) ((L8 N r6.2 a1 r5.1).bind fun HM=>some (HM.1,HM.2)) (cond (ay v7 10) ((oh N r6.2 (3:Int)).bind fun Aa=>some ((v7,((0:Int),((0:Int),((0:Int),((0:Int),((0:Int),((W .i64 ((1:Int)+Aa.1)),((0:Int),())))))))),Aa.2)) (cond (ay v7 14) (some ((v7,(v2,(v4,j2))),r6.2)) (cond (ay v7 15) (some ((v7,Xs),r6.2)) (cond (ay v7 16) (some ((v7,Xs),r6.2)) (cond (ay v7 18) (some ((v7,Xs),r6.2)) (cond (ay v7 20) (some ((v7,Xs),r6.2)) (cond (ay v7 21) (some ((v7,Xs),r6.2)) (cond (ay v7 17) ((oh N r6.2 (60:Int)).bind fun Cj=>(oh N Cj.2 (20:Int)).bind fun Ji=>cond (aK r5.1 (List.length a1.1)) (some ((v7,((0:Int),(v4,((0:Int),((0:Int),((W .i64 ((1:Int)+Cj.1)),((W .i64 ((1:Int)+Ji.1)),(((List.getD a1.1 r5.1.toNat aO).2).1,())))))))),Ji.2)) (none)) (cond (ay v7 19) ((oh N r6.2 (60:Int)).bind fun AD=>(oh N AD.2 (80:Int)).bind fun HL=>some ((v7,(v2,((0:Int),((0:Int),((0:Int),((W .i64 ((1:Int)+AD.1)),((0:Int),((W .i64 (HL.1-60)),())))))))),HL.2)) ((O3 N r6.2 a1).bind fun r33=>some (r33.1,r33.2))))))))))))))))))))))
abbrev yl.cg:=aN→ae→fQ→Int→Option (fQ×aN)
def yl.ix(N:Nat)(bV:yl.cg)(x0:aN)(x4:ae)(x7:fQ)(x8:Int):Option (fQ×aN):=
 cond (aH 0 x8) ((oh N x0 (8:Int)).bind fun r5=>cond (ay r5.1 0) ((O4 N r5.2 x4).bind fun r6=>cond (small (List.length x7+List.length ([r6.1]))) (bV r6.2 x4 (x7++([r6.1])) (W .i64 (x8-1))) (none)) (cond (ay r5.1 1) ((oh N r5.2 (List.length x4.1:Int)).bind fun r9=>(L8 N r9.2 x4 r9.1).bind fun iX=>cond (small (List.length x7+List.length ([iX.1]))) (bV iX.2 x4 (x7++([iX.1])) (W .i64 (x8-1))) (none)) ((O3 N r5.2 x4).bind fun nf=>cond (small (List.length x7+List.length ([nf.1]))) (bV nf.2 x4 (x7++([nf.1])) (W .i64 (x8-1))) (none)))) (some (x7,x0))
def yl.l3(N:Nat):Nat→yl.cg
 |0,_,_,_,_=>none
 |n+1,x0,x4,x7,x8=>yl.ix N (yl.l3 N n) x0 x4 x7 x8
def yl.b(N:Nat)(iM:yl.cg)(a0:aN)(a1:ae)(a2:Int):Option (fQ×aN):=
 (dD N a0 a1).bind fun r1=>(oh N r1.2 (W .i64 (a2+1))).bind fun r3=>iM r3.2 a1 r1.1 r3.1
def yl(N:Nat)(a0:aN)(a1:ae)(a2:Int):Option (fQ×aN):=yl.b N (yl.l3 N N) a0 a1 a2
abbrev xG.cg:=aN→ae→fQ→Int→Option (fQ×aN)
def xG.ix(N:Nat)(bV:xG.cg)(x0:aN)(x3:ae)(x5:fQ)(x6:Int):Option (fQ×aN):=
 cond (aH 0 x6) ((QA N x0 (2:Int)).bind fun r3=>cond (r3.1) ((oh N r3.2 (List.length x3.1:Int)).bind fun r4=>(L8 N r4.2 x3 r4.1).bind fun r5=>cond (small (List.length x5+List.length ([r5.1]))) (bV r5.2 x3 (x5++([r5.1])) (W .i64 (x6-1))) (none)) ((O4 N r3.2 x3).bind fun r8=>cond (small (List.length x5+List.length ([r8.1]))) (bV r8.2 x3 (x5++([r8.1])) (W .i64 (x6-1))) (none))) (some (x5,x0))
def xG.l3(N:Nat):Nat→xG.cg
 |0,_,_,_,_=>none
 |n+1,x0,x3,x5,x6=>xG.ix N (xG.l3 N n) x0 x3 x5 x6
def xG.b(N:Nat)(iM:xG.cg)(a0:aN)(a1:ae):Option (fQ×aN):=
 (oh N a0 (3:Int)).bind fun r1=>iM r1.2 a1 ([]) r1.1
def xG(N:Nat)(a0:aN)(a1:ae):Option (fQ×aN):=xG.b N (xG.l3 N N) a0 a1
def A4(N:Nat)(a0:Int)(a1:Int)(a2:Int):Option (Bool):=
 cond (bR a1 a0) (some (bR a0 a2)) (some false)
abbrev iG.bb:=ae→Int→Option (Bool)
def iG.cT(N:Nat)(bD:iG.bb)(x1:ae)(x3:Int):Option (Bool):=
 cond (aH x3 (List.length x1.1:Int)) (cond (aK x3 (List.length x1.1)) ((A4 N ((List.getD x1.1 x3.toNat aO).1) (0:Int) (3:Int)).bind fun r2=>cond (!r2) (some false) ((A4 N (((List.getD x1.1 x3.toNat aO).2).1) (1:Int) (1000000000000:Int)).bind fun r3=>cond (!r3) (some false) ((A4 N ((((List.getD x1.1 x3.toNat aO).2).2).1) (0:Int) (1000000000:Int)).bind fun r4=>cond (!r4) (some false) ((A4 N (((((List.getD x1.1 x3.toNat aO).2).2).2).1) (0:Int) (1000000000:Int)).bind fun r5=>cond (!r5) (some false) (bD x1 (W .i64 (x3+1))))))) (none)) (cond (bR 0 x1.2.1) ((A4 N x1.2.2.1 (0:Int) (4:Int)).bind fun r7=>cond (r7) ((A4 N x1.2.2.2.1 (0:Int) (1000000:Int)).bind fun r8=>cond (r8) ((A4 N x1.2.2.2.2.1 (0:Int) (1000000:Int)).bind fun r9=>cond (r9) ((A4 N x1.2.2.2.2.2.1 (1:Int) (4611686018427387904:Int)).bind fun iX=>cond (iX) (some (bR 0 x1.2.2.2.2.2.2.1)) (some false)) (some false)) (some false)) (some false)) (some false))
def iG.l4(N:Nat):Nat→iG.bb
 |0,_,_=>none
 |n+1,x1,x3=>iG.cT N (iG.l4 N n) x1 x3
def iG.b(N:Nat)(dq:iG.bb)(a0:ae):Option (Bool):=
 cond (aH (List.length a0.1:Int) 1) (some false) (cond (aH 6 (List.length a0.1:Int)) (some false) (dq a0 (0:Int)))
def iG(N:Nat)(a0:ae):Option (Bool):=iG.b N (iG.l4 N N) a0
abbrev gy.c0:=ae→ah→ah→(List (Int))→Int→Option (ah×(Int))
abbrev gy.P1:=ae→ah→ah→(List (Int))→Option (ah×(Int))
def gy.n9(N:Nat)(cF:gy.c0)(x1:ae)(x2:ah)(x4:ah)(Td:List (Int))(x5:Int):Option (ah×(Int)):=
 cond (aH x5 (List.length x1.1:Int)) (cond (aK x5 (List.length x1.1)) (cond (small (List.length Td+List.length ([((List.getD x1.1 x5.toNat aO).2).1]))) (cF x1 x2 (x4.1,(x4.2.1,(x4.2.2.1,(x4.2.2.2.1,(c5,x4.2.2.2.2.2))))) (Td++([((List.getD x1.1 x5.toNat aO).2).1])) (W .i64 (x5+1))) (none)) (none)) (some ((x4.1,(x4.2.1,(x4.2.2.1,(x4.2.2.2.1,(Td,x4.2.2.2.2.2))))),(0:Int)))
def gy.l7(N:Nat):Nat→gy.c0
 |0,_,_,_,_,_=>none
 |n+1,x1,x2,x4,Td,x5=>gy.n9 N (gy.l7 N n) x1 x2 x4 Td x5
def gy.MR(N:Nat)(oj:gy.c0)(x1:ae)(x2:ah)(x4:ah)(Td:List (Int)):Option (ah×(Int)):=
 oj x1 x2 x4 Td (0:Int)
def gy.j6(N:Nat)(x1:ae)(x2:ah)(x4:ah)(Td:List (Int)):Option (ah×(Int)):=gy.MR N (gy.l7 N N) x1 x2 x4 Td
def gy.b(N:Nat)(DD:gy.P1)(a0:ae):Option (ah×(Int)):=
 (iG N a0).bind fun r1=>cond (!r1) (some ((bN,(cL,(br,(br,(c5,(de,())))))),(1:Int))) (cond (!ay a0.2.1 0) (DD a0 (bN,(cL,(br,(br,(c5,(de,())))))) (bN,(cL,([((1:Int),((0:Int),((W .i64 (0-a0.2.1)),()))),((3:Int),((0:Int),(a0.2.1,())))],(br,(c5,(de,())))))) c5) (DD a0 (bN,(cL,(br,(br,(c5,(de,())))))) (bN,(cL,(br,(br,(c5,(de,())))))) c5))
def gy(N:Nat)(a0:ae):Option (ah×(Int)):=gy.b N (gy.j6 N) a0
def Z1(N:Nat)(a0:ae):Option (aP×(Int)):=
 (gy N a0).bind fun r1=>cond (!ay r1.2 0) (some (((0:Int),((0:Int),((bN,(cL,(br,(br,(c5,(de,())))))),(((0:Int),((0:Int),((0:Int),((0:Int),(cL,(([]:List ((Int)×((List ((Int)×((Int)×(Unit))))×((Int)×((Int)×((Int)×((Int)×(Unit)))))))),(cL,(c5,(bN,(bN,())))))))))),(((0:Int),((0:Int),(xQ,((0:Int),())))),()))))),r1.2)) (some (((0:Int),((1:Int),(r1.1,(((0:Int),((0:Int),((0:Int),((0:Int),(cL,(([]:List ((Int)×((List ((Int)×((Int)×(Unit))))×((Int)×((Int)×((Int)×((Int)×(Unit)))))))),(cL,(c5,(bN,(bN,())))))))))),(((0:Int),((0:Int),(xQ,((0:Int),())))),()))))),(0:Int)))
def ZR(N:Nat)(a0:Int):Option (Bool):=
 cond (bR 1 a0) (some (bR a0 22)) (some false)
def Sr(N:Nat)(a0:Int):Option (ByteArray):=
 cond (ay a0 1) (some (strOf [77])) (cond (ay a0 11) (some (strOf [77])) (cond (ay a0 12) (some (strOf [77])) (cond (ay a0 13) (some (strOf [77])) (cond (ay a0 2) (some (strOf [77,65,83])) (cond (ay a0 3) (some (strOf [65,81])) (cond (ay a0 4) (some (strOf [65,81])) (cond (ay a0 6) (some (strOf [65,81])) (cond (ay a0 5) (some (strOf [77,81])) (cond (ay a0 22) (some (strOf [77,81])) (cond (ay a0 7) (some (strOf [65,73,83,81,80])) (cond (ay a0 8) (some (strOf [65,68])) (cond (ay a0 9) (some (strOf [73,80])) (cond (ay a0 10) (some (strOf [81])) (cond (ay a0 14) (some (strOf [77,65])) (cond (ay a0 17) (some (strOf [65,68,81,80])) (cond (ay a0 19) (some (strOf [77,68,80])) (some (strOf []))))))))))))))))))
def ZP(N:Nat)(a0:Int):Option ((Int)×(Int)):=
 cond (ay a0 6) (some ((0:Int),(1000000000000:Int))) (cond (ay a0 7) (some ((1:Int),(1000000000:Int))) (cond (ay a0 17) (some ((1:Int),(1000000000:Int))) (cond (ay a0 10) (some ((1:Int),(1000000:Int))) (some ((1:Int),(9223372036854775807:Int))))))
def ZQ(N:Nat)(a0:Int):Option ((Int)×(Int)):=
 cond (ay a0 19) (some ((-1152921504606846976:Int),(1152921504606846976:Int))) (some ((1:Int),(1000000000000:Int)))
def Ss(N:Nat)(a0:Int)(a1:Int):Option ((Int)×(Int)):=
 cond (ay a1 77) (some ((1:Int),(12:Int))) (cond (ay a1 65) (some ((1:Int),(24:Int))) (cond (ay a1 73) (some ((0:Int),(5:Int))) (cond (ay a1 83) (some ((1:Int),(2:Int))) (cond (ay a1 68) (some ((1:Int),(1099511627776:Int))) (cond (ay a1 81) ((ZP N a0).bind fun r1=>some (r1.1,r1.2)) ((ZQ N a0).bind fun r2=>some (r2.1,r2.2)))))))
def Su(N:Nat)(a0:fy)(a1:Int):Option (Int):=
 cond (ay a1 77) (some a0.2.1) (cond (ay a1 65) (some a0.2.2.1) (cond (ay a1 73) (some a0.2.2.2.1) (cond (ay a1 83) (some a0.2.2.2.2.1) (cond (ay a1 68) (some a0.2.2.2.2.2.1) (cond (ay a1 81) (some a0.2.2.2.2.2.2.1) (some a0.2.2.2.2.2.2.2.1))))))
def Sv(N:Nat)(a0:fy)(a1:Int)(a2:Int):Option fy:=
 cond (ay a1 77) (some (a0.1,(a2,a0.2.2))) (cond (ay a1 65) (some (a0.1,(a0.2.1,(a2,a0.2.2.2)))) (cond (ay a1 73) (some (a0.1,(a0.2.1,(a0.2.2.1,(a2,a0.2.2.2.2))))) (cond (ay a1 83) (some (a0.1,(a0.2.1,(a0.2.2.1,(a0.2.2.2.1,(a2,a0.2.2.2.2.2)))))) (cond (ay a1 68) (some (a0.1,(a0.2.1,(a0.2.2.1,(a0.2.2.2.1,(a0.2.2.2.2.1,(a2,a0.2.2.2.2.2.2))))))) (cond (ay a1 81) (some (a0.1,(a0.2.1,(a0.2.2.1,(a0.2.2.2.1,(a0.2.2.2.2.1,(a0.2.2.2.2.2.1,(a2,a0.2.2.2.2.2.2.2)))))))) (some (a0.1,(a0.2.1,(a0.2.2.1,(a0.2.2.2.1,(a0.2.2.2.2.1,(a0.2.2.2.2.2.1,(a0.2.2.2.2.2.2.1,(a2,a0.2.2.2.2.2.2.2.2))))))))))))))
abbrev mS.fe:=fy→ByteArray→fy→Int→Option (Bool)
def mS.ov(N:Nat)(fR:mS.fe)(x1:fy)(x3:ByteArray)(x4:fy)(x5:Int):Option (Bool):=
 cond (aH x5 (ByteArray.size x3:Int)) (cond (aK x5 (ByteArray.size x3)) ((Ss N x1.1 ((x3.data.getD x5.toNat 0).toNat:Int)).bind fun r4=>cond (aK x5 (ByteArray.size x3)) ((Su N x1 ((x3.data.getD x5.toNat 0).toNat:Int)).bind fun r5=>cond (aH r5 r4.1) (some false) (cond (aH r4.2 r5) (some false) (cond (aK x5 (ByteArray.size x3)) ((Sv N x4 ((x3.data.getD x5.toNat 0).toNat:Int) r5).bind fun r6=>fR x1 x3 r6 (W .i64 (x5+1))) (none)))) (none)) (none)) (some (lR (.pair (.int .i64) (.pair (.int .i64) (.pair (.int .i64) (.pair (.int .i64) (.pair (.int .i64) (.pair (.int .i64) (.pair (.int .i64) (.pair (.int .i64) .unit)))))))) x4 x1))
def mS.l6(N:Nat):Nat→mS.fe
 |0,_,_,_,_=>none
 |n+1,x1,x3,x4,x5=>mS.ov N (mS.l6 N n) x1 x3 x4 x5
def mS.b(N:Nat)(pZ:mS.fe)(a0:fy):Option (Bool):=
 (ZR N a0.1).bind fun r1=>cond (!r1) (some false) ((Sr N a0.1).bind fun r2=>pZ a0 r2 (a0.1,Xs) (0:Int))
def mS(N:Nat)(a0:fy):Option (Bool):=mS.b N (mS.l6 N N) a0
abbrev jR.bY:=ax→Int→Option (Bool)
def jR.ei(N:Nat)(cZ:jR.bY)(x0:ax)(x3:Int):Option (Bool):=
 cond (aH x3 (List.length x0:Int)) (cond (aK x3 (List.length x0)) (cond (aH ((List.getD x0 x3.toNat ch).1) (1:Int)) (some false) (cond (aK x3 (List.length x0)) (cond (aH 12 ((List.getD x0 x3.toNat ch).1)) (some false) (cond (aK x3 (List.length x0)) (cond (aH (((List.getD x0 x3.toNat ch).2).1) (1:Int)) (some false) (cond (aK x3 (List.length x0)) (cond (aH 4 (((List.getD x0 x3.toNat ch).2).1)) (some false) (cond (aH 0 x3) (cond (aK x3 (List.length x0)) (let v2:Int:=W .i64 (x3-1);cond (aK v2 (List.length x0)) (cond (bR ((List.getD x0 x3.toNat ch).1) ((List.getD x0 v2.toNat ch).1)) (some false) (cZ x0 (W .i64 (x3+1)))) (none)) (none)) (cZ x0 (W .i64 (x3+1))))) (none))) (none))) (none))) (none)) (some true)
def jR.l2(N:Nat):Nat→jR.bY
 |0,_,_=>none
 |n+1,x0,x3=>jR.ei N (jR.l2 N n) x0 x3
def jR.b(N:Nat)(fA:jR.bY)(a0:ax):Option (Bool):=
 fA a0 (0:Int)
def jR(N:Nat)(a0:ax):Option (Bool):=jR.b N (jR.l2 N N) a0
abbrev jd.bY:=ax→Int→Int→Option (Int)
def jd.ei(N:Nat)(cZ:jd.bY)(x0:ax)(x1:Int)(x5:Int):Option (Int):=
 cond (aH x5 (List.length x0:Int)) (cond (aK x5 (List.length x0)) (cond (ay ((List.getD x0 x5.toNat ch).1) x1) (cond (aK x5 (List.length x0)) (some (((List.getD x0 x5.toNat ch).2).1)) (none)) (cZ x0 x1 (W .i64 (x5+1)))) (none)) (some (0:Int))
def jd.l2(N:Nat):Nat→jd.bY
 |0,_,_,_=>none
 |n+1,x0,x1,x5=>jd.ei N (jd.l2 N n) x0 x1 x5
def jd.b(N:Nat)(fA:jd.bY)(a0:ax)(a1:Int):Option (Int):=
 fA a0 a1 (0:Int)
def jd(N:Nat)(a0:ax)(a1:Int):Option (Int):=jd.b N (jd.l2 N N) a0 a1
abbrev gR.Jj:=ax→Int→ax→Int→Option (ax×(Int))
abbrev gR.c0:=ax→Int→ax→Int→Option (ax×(Int))
def gR.Ik(N:Nat)(x0:ax)(x1:Int)(x6:ax)(x7:Int):Option (ax×(Int)):=
 cond (fD 0 x7 (List.length x0:Int) (List.length x0:Int)) (let v6:List ((Int)×((Int)×(Unit))):=List.drop (0:Int).toNat (List.take x7.toNat x0);cond (small (List.length x6+List.length v6)) (let v7:List ((Int)×((Int)×(Unit))):=x6++v6;cond (small (List.length v7+List.length ([(x1,((1:Int),()))]))) (let v8:List ((Int)×((Int)×(Unit))):=v7++([(x1,((1:Int),()))]);cond (fD x7 (List.length x0:Int) (List.length x0:Int) (List.length x0:Int)) (let v9:List ((Int)×((Int)×(Unit))):=List.drop x7.toNat (List.take (List.length x0:Int).toNat x0);cond (small (List.length v8+List.length v9)) (some ((v8++v9),(0:Int))) (none)) (none)) (none)) (none)) (none)
def gR.j9(N:Nat)(x0:ax)(x1:Int)(x6:ax)(x7:Int):Option (ax×(Int)):=gR.Ik N x0 x1 x6 x7
def gR.n9(N:Nat)(Al:gR.Jj)(cF:gR.c0)(x0:ax)(x1:Int)(x6:ax)(x7:Int):Option (ax×(Int)):=
 cond (aH x7 (List.length x0:Int)) (cond (aK x7 (List.length x0)) (cond (aH ((List.getD x0 x7.toNat ch).1) x1) (cF x0 x1 x6 (W .i64 (x7+1))) (Al x0 x1 x6 x7)) (none)) (Al x0 x1 x6 x7)
def gR.l7(N:Nat):Nat→gR.c0
 |0,_,_,_,_=>none
 |n+1,x0,x1,x6,x7=>gR.n9 N (gR.j9 N) (gR.l7 N n) x0 x1 x6 x7
def gR.b(N:Nat)(oj:gR.c0)(a0:ax)(a1:Int):Option (ax×(Int)):=
 (jR N a0).bind fun r1=>cond (!r1) (some ([],(1:Int))) (cond (aH a1 1) (some ([],(1:Int))) (cond (aH 12 a1) (some ([],(1:Int))) ((jd N a0 a1).bind fun r2=>cond (!ay r2 0) (some ([],(4:Int))) (oj a0 a1 ([]) (0:Int)))))
def gR(N:Nat)(a0:ax)(a1:Int):Option (ax×(Int)):=gR.b N (gR.l7 N N) a0 a1
def dR(N:Nat)(a0:Int):Option cm:=
 some (a0,ch)
abbrev iz.fB:=aF→Int→bQ→Int→Option (Bool)
abbrev iz.Jg:=aF→Int→bQ→Option (Bool)
abbrev iz.bY:=aF→Int→Option (Bool)
def iz.yb(N:Nat)(cZ:iz.bY)(dG:iz.fB)(x0:aF)(x3:Int)(x4:bQ)(x5:Int):Option (Bool):=
 cond (aH x5 x3) (cond (ay x4.2.2.1 1) (cond (aK x5 (List.length x0)) (cond (ay ((((List.getD x0 x5.toNat aO).2).2).1) (1:Int)) (cond (aK x5 (List.length x0)) (cond (ay (((List.getD x0 x5.toNat aO).2).1) x4.2.1) (some false) (dG x0 x3 x4 (W .i64 (x5+1)))) (none)) (dG x0 x3 x4 (W .i64 (x5+1)))) (none)) (dG x0 x3 x4 (W .i64 (x5+1)))) (cZ x0 (W .i64 (x3+1)))
def iz.l8(N:Nat)(cZ:iz.bY):Nat→iz.fB
 |0,_,_,_,_=>none
 |n+1,x0,x3,x4,x5=>iz.yb N cZ (iz.l8 N cZ n) x0 x3 x4 x5
def iz.Ig(N:Nat)(Am:iz.fB)(cZ:iz.bY)(x0:aF)(x3:Int)(x4:bQ):Option (Bool):=
 Am x0 x3 x4 (0:Int)
def iz.j7(N:Nat)(cZ:iz.bY)(x0:aF)(x3:Int)(x4:bQ):Option (Bool):=iz.Ig N (iz.l8 N cZ N) cZ x0 x3 x4
def iz.ei(N:Nat)(vY:iz.Jg)(cZ:iz.bY)(x0:aF)(x3:Int):Option (Bool):=
 cond (aH x3 (List.length x0:Int)) (cond (aK x3 (List.length x0)) (cond (aH ((List.getD x0 x3.toNat aO).1) (1:Int)) (some false) (cond (aH 24 ((List.getD x0 x3.toNat aO).1)) (some false) (cond (aH (((List.getD x0 x3.toNat aO).2).1) (1:Int)) (some false) (cond (aH 12 (((List.getD x0 x3.toNat aO).2).1)) (some false) (cond (!ay ((((List.getD x0 x3.toNat aO).2).2).1) (1:Int)) (cond (!ay ((((List.getD x0 x3.toNat aO).2).2).1) (2:Int)) (some false) (cond (aH (((((List.getD x0 x3.toNat aO).2).2).2).1) (0:Int)) (some false) (cond (aH 1000000000000 (((((List.getD x0 x3.toNat aO).2).2).2).1)) (some false) (cond (aH 0 x3) (let v2:Int:=W .i64 (x3-1);cond (aK v2 (List.length x0)) (cond (bR ((List.getD x0 x3.toNat aO).1) ((List.getD x0 v2.toNat aO).1)) (some false) (vY x0 x3 (List.getD x0 x3.toNat aO))) (none)) (vY x0 x3 (List.getD x0 x3.toNat aO)))))) (cond (aH (((((List.getD x0 x3.toNat aO).2).2).2).1) (0:Int)) (some false) (cond (aH 1000000000000 (((((List.getD x0 x3.toNat aO).2).2).2).1)) (some false) (cond (aH 0 x3) (let v9:Int:=W .i64 (x3-1);cond (aK v9 (List.length x0)) (cond (bR ((List.getD x0 x3.toNat aO).1) ((List.getD x0 v9.toNat aO).1)) (some false) (vY x0 x3 (List.getD x0 x3.toNat aO))) (none)) (vY x0 x3 (List.getD x0 x3.toNat aO)))))))))) (none)) (some true)
def iz.l2(N:Nat):Nat→iz.bY
 |0,_,_=>none
 |n+1,x0,x3=>iz.ei N (iz.j7 N (iz.l2 N n)) (iz.l2 N n) x0 x3
def iz.b(N:Nat)(fA:iz.bY)(a0:aF):Option (Bool):=
 fA a0 (0:Int)
def iz(N:Nat)(a0:aF):Option (Bool):=iz.b N (iz.l2 N N) a0
abbrev kj.bb:=ax→aF→Int→Option (Bool)
def kj.cT(N:Nat)(bD:kj.bb)(x0:ax)(x1:aF)(x5:Int):Option (Bool):=
 cond (aH x5 (List.length x1:Int)) (cond (aK x5 (List.length x1)) ((jd N x0 (((List.getD x1 x5.toNat aO).2).1)).bind fun r4=>cond (ay r4 0) (some false) (bD x0 x1 (W .i64 (x5+1)))) (none)) (some true)
def kj.l4(N:Nat):Nat→kj.bb
 |0,_,_,_=>none
 |n+1,x0,x1,x5=>kj.cT N (kj.l4 N n) x0 x1 x5
def kj.b(N:Nat)(dq:kj.bb)(a0:ax)(a1:aF):Option (Bool):=
 (jR N a0).bind fun r1=>cond (!r1) (some false) ((iz N a1).bind fun r2=>cond (!r2) (some false) (dq a0 a1 (0:Int)))
def kj(N:Nat)(a0:ax)(a1:aF):Option (Bool):=kj.b N (kj.l4 N N) a0 a1
abbrev jT.bY:=aF→Int→bQ→Int→Option (bQ×(Bool))
def jT.ei(N:Nat)(cZ:jT.bY)(x0:aF)(x1:Int)(x4:bQ)(x6:Int):Option (bQ×(Bool)):=
 cond (aH x6 (List.length x0:Int)) (cond (aK x6 (List.length x0)) (cond (ay ((List.getD x0 x6.toNat aO).1) x1) (cond (aK x6 (List.length x0)) (some (List.getD x0 x6.toNat aO,true)) (none)) (cZ x0 x1 x4 (W .i64 (x6+1)))) (none)) (some (aO,false))
def jT.l2(N:Nat):Nat→jT.bY
 |0,_,_,_,_=>none
 |n+1,x0,x1,x4,x6=>jT.ei N (jT.l2 N n) x0 x1 x4 x6
def jT.b(N:Nat)(fA:jT.bY)(a0:aF)(a1:Int):Option (bQ×(Bool)):=
 fA a0 a1 aO (0:Int)
def jT(N:Nat)(a0:aF)(a1:Int):Option (bQ×(Bool)):=jT.b N (jT.l2 N N) a0 a1
abbrev tc.bb:=aF→Int→Int→Option (Int)
def tc.cT(N:Nat)(bD:tc.bb)(x0:aF)(x1:Int)(x5:Int):Option (Int):=
 cond (aH x5 (List.length x0:Int)) (cond (aK x5 (List.length x0)) (cond (ay (((List.getD x0 x5.toNat aO).2).1) x1) (cond (aK x5 (List.length x0)) (cond (ay ((((List.getD x0 x5.toNat aO).2).2).1) (1:Int)) (cond (aK x5 (List.length x0)) (some ((List.getD x0 x5.toNat aO).1)) (none)) (bD x0 x1 (W .i64 (x5+1)))) (none)) (bD x0 x1 (W .i64 (x5+1)))) (none)) (some (0:Int))
def tc.l4(N:Nat):Nat→tc.bb
 |0,_,_,_=>none
 |n+1,x0,x1,x5=>tc.cT N (tc.l4 N n) x0 x1 x5
def tc.b(N:Nat)(dq:tc.bb)(a0:aF)(a1:Int):Option (Int):=
 (iz N a0).bind fun r1=>cond (!r1) (some (0:Int)) (dq a0 a1 (0:Int))
def tc(N:Nat)(a0:aF)(a1:Int):Option (Int):=tc.b N (tc.l4 N N) a0 a1
abbrev ew.An:=aF→bQ→aF→Int→Option (aF×(Int))
abbrev ew.dv:=aF→bQ→aF→Int→Option (aF×(Int))
abbrev ew.Gb:=aF→bQ→Option (aF×(Int))
def ew.tk(N:Nat)(x1:aF)(x5:bQ)(aE:aF)(aJ:Int):Option (aF×(Int)):=
 cond (fD 0 aJ (List.length x1:Int) (List.length x1:Int)) (let v10:List ((Int)×((Int)×((Int)×((Int)×(Unit))))):=List.drop (0:Int).toNat (List.take aJ.toNat x1);cond (small (List.length aE+List.length v10)) (let v11:List ((Int)×((Int)×((Int)×((Int)×(Unit))))):=aE++v10;cond (small (List.length v11+List.length ([x5]))) (let XV:List ((Int)×((Int)×((Int)×((Int)×(Unit))))):=v11++([x5]);cond (fD aJ (List.length x1:Int) (List.length x1:Int) (List.length x1:Int)) (let X1:List ((Int)×((Int)×((Int)×((Int)×(Unit))))):=List.drop aJ.toNat (List.take (List.length x1:Int).toNat x1);cond (small (List.length XV+List.length X1)) (some ((XV++X1),(0:Int))) (none)) (none)) (none)) (none)) (none)
def ew.Bc(N:Nat)(x1:aF)(x5:bQ)(aE:aF)(aJ:Int):Option (aF×(Int)):=ew.tk N x1 x5 aE aJ
def ew.il(N:Nat)(qf:ew.An)(eu:ew.dv)(x1:aF)(x5:bQ)(aE:aF)(aJ:Int):Option (aF×(Int)):=
 cond (aH aJ (List.length x1:Int)) (cond (aK aJ (List.length x1)) (cond (aH ((List.getD x1 aJ.toNat aO).1) x5.1) (eu x1 x5 aE (W .i64 (aJ+1))) (qf x1 x5 aE aJ)) (none)) (qf x1 x5 aE aJ)
def ew.jB(N:Nat):Nat→ew.dv
 |0,_,_,_,_=>none
 |n+1,x1,x5,aE,aJ=>ew.il N (ew.Bc N) (ew.jB N n) x1 x5 aE aJ
def ew.zU(N:Nat)(ni:ew.dv)(x1:aF)(x5:bQ):Option (aF×(Int)):=
 ni x1 x5 ([]) (0:Int)
def ew.HJ(N:Nat)(x1:aF)(x5:bQ):Option (aF×(Int)):=ew.zU N (ew.jB N N) x1 x5
def ew.b(N:Nat)(w6:ew.Gb)(a0:ax)(a1:aF)(a2:bQ):Option (aF×(Int)):=
 (kj N a0 a1).bind fun r1=>cond (!r1) (some ([],(1:Int))) ((iz N ([a2])).bind fun r2=>cond (!r2) (some ([],(1:Int))) ((jd N a0 a2.2.1).bind fun r3=>cond (ay r3 0) (some ([],(3:Int))) (cond (!ay r3 1) (some ([],(7:Int))) ((jT N a1 a2.1).bind fun r4=>cond (r4.2) (some ([],(4:Int))) (cond (ay a2.2.2.1 1) ((tc N a1 a2.2.1).bind fun r5=>cond (!ay r5 0) (some ([],(4:Int))) (w6 a1 a2)) (w6 a1 a2))))))
def ew(N:Nat)(a0:ax)(a1:aF)(a2:bQ):Option (aF×(Int)):=ew.b N (ew.HJ N) a0 a1 a2
def zk(N:Nat)(a0:aF)(a1:Int):Option (bQ×(Bool)):=
 (iz N a0).bind fun r1=>cond (!r1) (some (aO,false)) ((jT N a0 a1).bind fun r2=>some (r2.1,r2.2))
def PE(N:Nat)(a0:aP)(a1:Int):Option (Bool):=
 (zk N a0.2.2.1.2.1 a1).bind fun r1=>some r1.2
abbrev kf.bY:=(List (Int))→Int→Option (List (Int))
def kf.ei(N:Nat)(cZ:kf.bY)(x0:List (Int))(x3:Int):Option (List (Int)):=
 cond (aH 0 x3) (let v2:Int:=W .i64 (x3-1);cond (aK v2 (List.length x0)) (cond (ay (List.getD x0 v2.toNat (0:Int)) (0:Int)) (cZ x0 (W .i64 (x3-1))) (cond (fD 0 x3 x3 (List.length x0:Int)) (some (List.drop (0:Int).toNat (List.take x3.toNat x0))) (none))) (none)) (cond (fD 0 x3 x3 (List.length x0:Int)) (some (List.drop (0:Int).toNat (List.take x3.toNat x0))) (none))
def kf.l2(N:Nat):Nat→kf.bY
 |0,_,_=>none
 |n+1,x0,x3=>kf.ei N (kf.l2 N n) x0 x3
def kf.b(N:Nat)(fA:kf.bY)(a0:List (Int)):Option (List (Int)):=
 fA a0 (List.length a0:Int)
def kf(N:Nat)(a0:List (Int)):Option (List (Int)):=kf.b N (kf.l2 N N) a0
def F67(N:Nat)(a0:Int):Option (List (Int)):=
 cond (aH 32 0) (none) ((kf N ([(iZ .and .u64 a0 4294967295),(shr .u64 a0 32)])).bind fun r3=>some r3)
def Oa(N:Nat)(a0:Bool)(a1:List (Int)):Option au:=
 (kf N a1).bind fun r1=>cond (a0) (some (aH 0 (List.length r1:Int),(r1,()))) (some (false,(r1,())))
def fM(N:Nat)(a0:Int):Option au:=
 let v1:Int:=W .u64 a0;cond (aH a0 0) ((F67 N (W .u64 (0-v1))).bind fun r3=>(Oa N (aH a0 0) r3).bind fun r4=>some r4) ((F67 N v1).bind fun r5=>(Oa N (aH a0 0) r5).bind fun r6=>some r6)
def MS(N:Nat)(a0:au):Option au:=
 (Oa N (!a0.1) a0.2.1).bind fun r1=>some r1
def zV(N:Nat)(a0:Int)(a1:Int)(a2:Int)(a3:Int)(a4:au):Option bk:=
 (MS N a4).bind fun r1=>some ([(a0,(a1,(r1,()))),(a2,(a3,(a4,())))])
def RC(N:Nat)(a0:List (Int))(a1:Int):Option (Int):=
 cond (aH a1 (List.length a0:Int)) (cond (aK a1 (List.length a0)) (some (List.getD a0 a1.toNat (0:Int))) (none)) (some (0:Int))
abbrev qc.P1:=(List (Int))→(List (Int))→(List (Int))→Int→Int→Option (List (Int))
abbrev qc.bb:=(List (Int))→(List (Int))→(List (Int))→Int→Int→Option (List (Int))
def qc.MR(N:Nat)(bD:qc.bb)(x0:List (Int))(x1:List (Int))(x5:List (Int))(x6:Int)(x7:Int):Option (List (Int)):=
 (RC N x0 x7).bind fun r3=>(RC N x1 x7).bind fun r4=>let v6:Int:=W .u64 (x6+(W .u64 (r3+r4)));let v7:Int:=iZ .and .u64 v6 4294967295;cond (small (List.length x5+List.length ([v7]))) (cond (aH 32 0) (none) (bD x0 x1 (x5++([v7])) (shr .u64 v6 32) (W .i64 (x7+1)))) (none)
def qc.j6(N:Nat)(bD:qc.bb)(x0:List (Int))(x1:List (Int))(x5:List (Int))(x6:Int)(x7:Int):Option (List (Int)):=qc.MR N bD x0 x1 x5 x6 x7
def qc.cT(N:Nat)(DD:qc.P1)(bD:qc.bb)(x0:List (Int))(x1:List (Int))(x5:List (Int))(x6:Int)(x7:Int):Option (List (Int)):=
 cond (aH x7 (List.length x0:Int)) (DD x0 x1 x5 x6 x7) (cond (aH x7 (List.length x1:Int)) (DD x0 x1 x5 x6 x7) (cond (aH 0 x6) (DD x0 x1 x5 x6 x7) (some x5)))
def qc.l4(N:Nat):Nat→qc.bb
 |0,_,_,_,_,_=>none
 |n+1,x0,x1,x5,x6,x7=>qc.cT N (qc.j6 N (qc.l4 N n)) (qc.l4 N n) x0 x1 x5 x6 x7
def qc.b(N:Nat)(dq:qc.bb)(a0:List (Int))(a1:List (Int)):Option (List (Int)):=
 dq a0 a1 ([]) (0:Int) (0:Int)
def qc(N:Nat)(a0:List (Int))(a1:List (Int)):Option (List (Int)):=qc.b N (qc.l4 N N) a0 a1
abbrev xr.fe:=(List (Int))→(List (Int))→Int→Option (Int)
def xr.ov(N:Nat)(fR:xr.fe)(x0:List (Int))(x1:List (Int))(x5:Int):Option (Int):=
 cond (bR 0 x5) (cond (aK x5 (List.length x0)) (cond (aK x5 (List.length x1)) (cond (aH (List.getD x0 x5.toNat (0:Int)) (List.getD x1 x5.toNat (0:Int))) (some (-1:Int)) (cond (aK x5 (List.length x0)) (cond (aK x5 (List.length x1)) (cond (aH (List.getD x1 x5.toNat (0:Int)) (List.getD x0 x5.toNat (0:Int))) (some (1:Int)) (fR x0 x1 (W .i64 (x5-1)))) (none)) (none))) (none)) (none)) (some (0:Int))
def xr.l6(N:Nat):Nat→xr.fe
 |0,_,_,_=>none
 |n+1,x0,x1,x5=>xr.ov N (xr.l6 N n) x0 x1 x5
def xr.b(N:Nat)(pZ:xr.fe)(a0:List (Int))(a1:List (Int)):Option (Int):=
 cond (!ay (List.length a0:Int) (List.length a1:Int)) (cond (aH (List.length a0:Int) (List.length a1:Int)) (some (-1:Int)) (some (1:Int))) (pZ a0 a1 (W .i64 ((List.length a0:Int)-1)))
def xr(N:Nat)(a0:List (Int))(a1:List (Int)):Option (Int):=xr.b N (xr.l6 N N) a0 a1
abbrev xY.bb:=(List (Int))→(List (Int))→(List (Int))→Int→Int→Option (List (Int))
def xY.cT(N:Nat)(bD:xY.bb)(x0:List (Int))(x1:List (Int))(x5:List (Int))(x6:Int)(x7:Int):Option (List (Int)):=
 cond (aH x7 (List.length x0:Int)) (cond (aK x7 (List.length x0)) ((RC N x1 x7).bind fun r2=>let v3:Int:=W .u64 (r2+x6);cond (aH (List.getD x0 x7.toNat (0:Int)) v3) (let v5:Int:=W .u64 ((W .u64 ((List.getD x0 x7.toNat (0:Int))+4294967296))-v3);cond (small (List.length x5+List.length ([v5]))) (bD x0 x1 (x5++([v5])) (1:Int) (W .i64 (x7+1))) (none)) (let v8:Int:=W .u64 ((List.getD x0 x7.toNat (0:Int))-v3);cond (small (List.length x5+List.length ([v8]))) (bD x0 x1 (x5++([v8])) (0:Int) (W .i64 (x7+1))) (none))) (none)) (some x5)
def xY.l4(N:Nat):Nat→xY.bb
 |0,_,_,_,_,_=>none
 |n+1,x0,x1,x5,x6,x7=>xY.cT N (xY.l4 N n) x0 x1 x5 x6 x7
def xY.b(N:Nat)(dq:xY.bb)(a0:List (Int))(a1:List (Int)):Option (List (Int)):=
 dq a0 a1 ([]) (0:Int) (0:Int)
def xY(N:Nat)(a0:List (Int))(a1:List (Int)):Option (List (Int)):=xY.b N (xY.l4 N N) a0 a1
def ud(N:Nat)(a0:au)(a1:au):Option au:=
 cond (lR .bool a0.1 a1.1) ((qc N a0.2.1 a1.2.1).bind fun r1=>(Oa N a0.1 r1).bind fun r2=>some r2) ((xr N a0.2.1 a1.2.1).bind fun r3=>cond (bR 0 r3) ((xY N a0.2.1 a1.2.1).bind fun r4=>(Oa N a0.1 r4).bind fun r5=>some r5) ((xY N a1.2.1 a0.2.1).bind fun r6=>(Oa N a1.1 r6).bind fun r7=>some r7))
def qX(N:Nat)(a0:au):Option ((Int)×(Bool)):=
 cond (aH 2 (List.length a0.2.1:Int)) (some ((0:Int),false)) ((RC N a0.2.1 (0:Int)).bind fun r1=>(RC N a0.2.1 (1:Int)).bind fun r2=>cond (aH 32 0) (none) (let v4:Int:=iZ .or .u64 r1 (W .u64 (shl .u64 r2 32));cond (a0.1) (cond (aH 9223372036854775808 v4) (some ((0:Int),false)) (some ((W .i64 (W .u64 (0-v4))),true))) (cond (aH 9223372036854775807 v4) (some ((0:Int),false)) (some ((W .i64 v4),true)))))
def OY(N:Nat)(a0:au):Option ((Int)×(Bool)):=
 (qX N a0).bind fun r1=>cond (!r1.2) (some ((0:Int),false)) (cond (ay r1.1 (-9223372036854775808)) (some ((0:Int),false)) (some (r1.1,true)))
abbrev bZ.Ao:=aj→aj→aj→Int→Int→Int→Int→Bool→au→Int→Option (aj×(Bool))
abbrev bZ.F4:=aj→aj→aj→Int→Int→Int→Int→Bool→Option (aj×(Bool))
abbrev bZ.c0:=aj→aj→aj→Int→Int→Int→Option (aj×(Bool))
abbrev bZ.bb:=aj→aj→aj→Int→Int→Option (aj×(Bool))
def bZ.IS(N:Nat)(bD:bZ.bb)(cF:bZ.c0)(Ck:bZ.Ao)(x0:aj)(x1:aj)(x6:aj)(x7:Int)(x8:Int)(x9:Int)(aR:Int)(aE:Bool)(aJ:au)(bf:Int):Option (aj×(Bool)):=
 cond (aH bf (List.length x1:Int)) (cond (aK bf (List.length x1)) (cond (ay ((List.getD x1 bf.toNat aW).1) x8) (cond (aK bf (List.length x1)) (cond (ay (((List.getD x1 bf.toNat aW).2).1) x9) (cond (aK bf (List.length x1)) ((fM N ((((List.getD x1 bf.toNat aW).2).2).1)).bind fun r6=>(ud N aJ r6).bind fun r7=>Ck x0 x1 x6 x7 x8 x9 aR true r7 (W .i64 (bf+1))) (none)) (Ck x0 x1 x6 x7 x8 x9 aR aE aJ (W .i64 (bf+1)))) (none)) (Ck x0 x1 x6 x7 x8 x9 aR aE aJ (W .i64 (bf+1)))) (none)) (cond (aE) ((fM N aR).bind fun kB=>(ud N aJ kB).bind fun lA=>(OY N lA).bind fun nf=>cond (!nf.2) (some ([],false)) (cond (!ay nf.1 0) (cond (small (List.length x6+List.length ([(x8,(x9,(nf.1,())))]))) (cF x0 x1 (x6++([(x8,(x9,(nf.1,())))])) x7 x8 (W .i64 (x9+1))) (none)) (cF x0 x1 x6 x7 x8 (W .i64 (x9+1))))) (cond (!ay aR 0) (cond (small (List.length x6+List.length ([(x8,(x9,(aR,())))]))) (cF x0 x1 (x6++([(x8,(x9,(aR,())))])) x7 x8 (W .i64 (x9+1))) (none)) (cF x0 x1 x6 x7 x8 (W .i64 (x9+1)))))
def bZ.L1(N:Nat)(bD:bZ.bb)(cF:bZ.c0):Nat→bZ.Ao
 |0,_,_,_,_,_,_,_,_,_,_=>none
 |n+1,x0,x1,x6,x7,x8,x9,aR,aE,aJ,bf=>bZ.IS N bD cF (bZ.L1 N bD cF n) x0 x1 x6 x7 x8 x9 aR aE aJ bf
def bZ.xu(N:Nat)(P2:bZ.Ao)(bD:bZ.bb)(cF:bZ.c0)(x0:aj)(x1:aj)(x6:aj)(x7:Int)(x8:Int)(x9:Int)(aR:Int)(aE:Bool):Option (aj×(Bool)):=
 P2 x0 x1 x6 x7 x8 x9 aR aE (false,kX) (0:Int)
def bZ.HG(N:Nat)(bD:bZ.bb)(cF:bZ.c0)(x0:aj)(x1:aj)(x6:aj)(x7:Int)(x8:Int)(x9:Int)(aR:Int)(aE:Bool):Option (aj×(Bool)):=bZ.xu N (bZ.L1 N bD cF N) bD cF x0 x1 x6 x7 x8 x9 aR aE
def bZ.n9(N:Nat)(qd:bZ.F4)(bD:bZ.bb)(cF:bZ.c0)(x0:aj)(x1:aj)(x6:aj)(x7:Int)(x8:Int)(x9:Int):Option (aj×(Bool)):=
 cond (aH x9 6) (cond (aH x7 (List.length x0:Int)) (cond (aK x7 (List.length x0)) (cond (ay ((List.getD x0 x7.toNat aW).1) x8) (cond (aK x7 (List.length x0)) (cond (ay (((List.getD x0 x7.toNat aW).2).1) x9) (cond (aK x7 (List.length x0)) (qd x0 x1 x6 (W .i64 (x7+1)) x8 x9 ((((List.getD x0 x7.toNat aW).2).2).1) false) (none)) (qd x0 x1 x6 x7 x8 x9 (0:Int) false)) (none)) (qd x0 x1 x6 x7 x8 x9 (0:Int) false)) (none)) (qd x0 x1 x6 x7 x8 x9 (0:Int) false)) (bD x0 x1 x6 x7 (W .i64 (x8+1)))
def bZ.l7(N:Nat)(bD:bZ.bb):Nat→bZ.c0
 |0,_,_,_,_,_,_=>none
 |n+1,x0,x1,x6,x7,x8,x9=>bZ.n9 N (bZ.HG N bD (bZ.l7 N bD n)) bD (bZ.l7 N bD n) x0 x1 x6 x7 x8 x9
def bZ.cT(N:Nat)(oj:bZ.c0)(bD:bZ.bb)(x0:aj)(x1:aj)(x6:aj)(x7:Int)(x8:Int):Option (aj×(Bool)):=
 cond (bR x8 24) (oj x0 x1 x6 x7 x8 (0:Int)) (some (x6,true))
def bZ.l4(N:Nat):Nat→bZ.bb
 |0,_,_,_,_,_=>none
 |n+1,x0,x1,x6,x7,x8=>bZ.cT N (bZ.l7 N (bZ.l4 N n) N) (bZ.l4 N n) x0 x1 x6 x7 x8
def bZ.b(N:Nat)(dq:bZ.bb)(a0:aj)(a1:aj):Option (aj×(Bool)):=
 dq a0 a1 ([]) (0:Int) (0:Int)
def bZ(N:Nat)(a0:aj)(a1:aj):Option (aj×(Bool)):=bZ.b N (bZ.l4 N N) a0 a1
abbrev og.cg:=Int→Int→Int→bk→au→Bool→Int→Option ((Int)×(Bool))
def og.ix(N:Nat)(bV:og.cg)(x0:Int)(x1:Int)(x2:Int)(x3:bk)(aR:au)(aE:Bool)(aJ:Int):Option ((Int)×(Bool)):=
 cond (aH aJ (List.length x3:Int)) (cond (aK aJ (List.length x3)) (cond (ay ((List.getD x3 aJ.toNat ((0:Int),((0:Int),((false,kX),())))).1) x1) (cond (aK aJ (List.length x3)) (cond (ay (((List.getD x3 aJ.toNat ((0:Int),((0:Int),((false,kX),())))).2).1) x2) (cond (aK aJ (List.length x3)) ((ud N aR ((((List.getD x3 aJ.toNat ((0:Int),((0:Int),((false,kX),())))).2).2).1)).bind fun r2=>bV x0 x1 x2 x3 r2 true (W .i64 (aJ+1))) (none)) (bV x0 x1 x2 x3 aR aE (W .i64 (aJ+1)))) (none)) (bV x0 x1 x2 x3 aR aE (W .i64 (aJ+1)))) (none)) (cond (!aE) (some (x0,true)) ((fM N x0).bind fun r6=>(ud N aR r6).bind fun r7=>(qX N r7).bind fun r8=>some (r8.1,r8.2)))
def og.l3(N:Nat):Nat→og.cg
 |0,_,_,_,_,_,_,_=>none
 |n+1,x0,x1,x2,x3,aR,aE,aJ=>og.ix N (og.l3 N n) x0 x1 x2 x3 aR aE aJ
def og.b(N:Nat)(iM:og.cg)(a0:Int)(a1:Int)(a2:Int)(a3:bk):Option ((Int)×(Bool)):=
 iM a0 a1 a2 a3 (false,kX) false (0:Int)
def og(N:Nat)(a0:Int)(a1:Int)(a2:Int)(a3:bk):Option ((Int)×(Bool)):=og.b N (og.l3 N N) a0 a1 a2 a3
abbrev da.F4:=aj→bk→aj→Int→Int→Int→Int→Option (aj×(Bool))
abbrev da.c0:=aj→bk→aj→Int→Int→Int→Option (aj×(Bool))
abbrev da.bb:=aj→bk→aj→Int→Int→Option (aj×(Bool))
def da.xu(N:Nat)(bD:da.bb)(cF:da.c0)(x0:aj)(x1:bk)(x6:aj)(x7:Int)(x8:Int)(x9:Int)(aR:Int):Option (aj×(Bool)):=
 (og N aR x8 x9 x1).bind fun r5=>cond (!r5.2) (some ([],false)) (cond (!ay r5.1 0) (cond (small (List.length x6+List.length ([(x8,(x9,(r5.1,())))]))) (cF x0 x1 (x6++([(x8,(x9,(r5.1,())))])) x7 x8 (W .i64 (x9+1))) (none)) (cF x0 x1 x6 x7 x8 (W .i64 (x9+1))))
def da.HG(N:Nat)(bD:da.bb)(cF:da.c0)(x0:aj)(x1:bk)(x6:aj)(x7:Int)(x8:Int)(x9:Int)(aR:Int):Option (aj×(Bool)):=da.xu N bD cF x0 x1 x6 x7 x8 x9 aR
def da.n9(N:Nat)(qd:da.F4)(bD:da.bb)(cF:da.c0)(x0:aj)(x1:bk)(x6:aj)(x7:Int)(x8:Int)(x9:Int):Option (aj×(Bool)):=
 cond (bR x9 24) (cond (aH x7 (List.length x0:Int)) (cond (aK x7 (List.length x0)) (cond (ay ((List.getD x0 x7.toNat aW).1) x8) (cond (aK x7 (List.length x0)) (cond (ay (((List.getD x0 x7.toNat aW).2).1) x9) (cond (aK x7 (List.length x0)) (qd x0 x1 x6 (W .i64 (x7+1)) x8 x9 ((((List.getD x0 x7.toNat aW).2).2).1)) (none)) (qd x0 x1 x6 x7 x8 x9 (0:Int))) (none)) (qd x0 x1 x6 x7 x8 x9 (0:Int))) (none)) (qd x0 x1 x6 x7 x8 x9 (0:Int))) (bD x0 x1 x6 x7 (W .i64 (x8+1)))
def da.l7(N:Nat)(bD:da.bb):Nat→da.c0
 |0,_,_,_,_,_,_=>none
 |n+1,x0,x1,x6,x7,x8,x9=>da.n9 N (da.HG N bD (da.l7 N bD n)) bD (da.l7 N bD n) x0 x1 x6 x7 x8 x9
def da.cT(N:Nat)(oj:da.c0)(bD:da.bb)(x0:aj)(x1:bk)(x6:aj)(x7:Int)(x8:Int):Option (aj×(Bool)):=
 cond (bR x8 7) (oj x0 x1 x6 x7 x8 (0:Int)) (some (x6,true))
def da.l4(N:Nat):Nat→da.bb
 |0,_,_,_,_,_=>none
 |n+1,x0,x1,x6,x7,x8=>da.cT N (da.l7 N (da.l4 N n) N) (da.l4 N n) x0 x1 x6 x7 x8
def da.b(N:Nat)(dq:da.bb)(a0:aj)(a1:bk):Option (aj×(Bool)):=
 dq a0 a1 ([]) (0:Int) (1:Int)
def da(N:Nat)(a0:aj)(a1:bk):Option (aj×(Bool)):=da.b N (da.l4 N N) a0 a1
def zS(N:Nat)(a0:ah)(a1:aj)(a2:bk):Option (ah×(Int)):=
 (bZ N a0.2.2.2.1 a1).bind fun r1=>cond (!r1.2) (some ((bN,(cL,(br,(br,(c5,(de,())))))),(2:Int))) ((da N a0.2.2.1 a2).bind fun r2=>cond (!r2.2) (some ((bN,(cL,(br,(br,(c5,(de,())))))),(2:Int))) (some ((a0.1,(a0.2.1,(r2.1,(r1.1,a0.2.2.2.2)))),(0:Int))))
def Ms(N:Nat)(a0:aP)(a1:Int)(a2:Int)(a3:Int)(a4:Int)(a5:Int):Option (aP×cm):=
 (fM N a5).bind fun r1=>(zV N a1 a2 a3 a4 r1).bind fun r2=>(zS N a0.2.2.1 br r2).bind fun r3=>some ((a0.1,(a0.2.1,(r3.1,a0.2.2.2))),(r3.2,ch))
def Ip(N:Nat)(a0:Int)(a1:Int):Option (Bool):=
 cond (ay a0 1) (some (ay a1 0)) (cond (ay a0 2) (some (ay a1 0)) (cond (ay a0 3) (some (ay a1 0)) (cond (ay a0 4) (some (ay a1 0)) (cond (ay a0 5) (cond (bR 1 a1) (some (bR a1 24)) (some false)) (cond (ay a0 6) (cond (bR 1 a1) (some (bR a1 12)) (some false)) (cond (ay a0 7) (cond (bR 1 a1) (some (bR a1 12)) (some false)) (some false)))))))
abbrev vB.bY:=aj→Int→Option (Bool)
def vB.ei(N:Nat)(cZ:vB.bY)(x0:aj)(x3:Int):Option (Bool):=
 cond (aH x3 (List.length x0:Int)) (cond (aK x3 (List.length x0)) (cond (aK x3 (List.length x0)) ((Ip N ((List.getD x0 x3.toNat aW).1) (((List.getD x0 x3.toNat aW).2).1)).bind fun r2=>cond (!r2) (some false) (cond (aK x3 (List.length x0)) (cond (ay ((((List.getD x0 x3.toNat aW).2).2).1) (0:Int)) (some false) (cond (aH 0 x3) (cond (aK x3 (List.length x0)) (let v3:Int:=W .i64 (x3-1);cond (aK v3 (List.length x0)) (cond (aH ((List.getD x0 x3.toNat aW).1) ((List.getD x0 v3.toNat aW).1)) (some false) (cond (aK x3 (List.length x0)) (let v4:Int:=W .i64 (x3-1);cond (aK v4 (List.length x0)) (cond (ay ((List.getD x0 x3.toNat aW).1) ((List.getD x0 v4.toNat aW).1)) (cond (aK x3 (List.length x0)) (let v5:Int:=W .i64 (x3-1);cond (aK v5 (List.length x0)) (cond (bR (((List.getD x0 x3.toNat aW).2).1) (((List.getD x0 v5.toNat aW).2).1)) (some false) (cZ x0 (W .i64 (x3+1)))) (none)) (none)) (cZ x0 (W .i64 (x3+1)))) (none)) (none))) (none)) (none)) (cZ x0 (W .i64 (x3+1))))) (none))) (none)) (none)) (some true)
def vB.l2(N:Nat):Nat→vB.bY
 |0,_,_=>none
 |n+1,x0,x3=>vB.ei N (vB.l2 N n) x0 x3
def vB.b(N:Nat)(fA:vB.bY)(a0:aj):Option (Bool):=
 fA a0 (0:Int)
def vB(N:Nat)(a0:aj):Option (Bool):=vB.b N (vB.l2 N N) a0
abbrev tw.bY:=aj→Int→Option (Bool)
def tw.ei(N:Nat)(cZ:tw.bY)(x0:aj)(x3:Int):Option (Bool):=
 cond (aH x3 (List.length x0:Int)) (cond (aK x3 (List.length x0)) (cond (aH ((List.getD x0 x3.toNat aW).1) (0:Int)) (some false) (cond (aH 24 ((List.getD x0 x3.toNat aW).1)) (some false) (cond (aH (((List.getD x0 x3.toNat aW).2).1) (0:Int)) (some false) (cond (bR 6 (((List.getD x0 x3.toNat aW).2).1)) (some false) (cond (ay ((((List.getD x0 x3.toNat aW).2).2).1) (0:Int)) (some false) (cond (ay ((((List.getD x0 x3.toNat aW).2).2).1) (-9223372036854775808:Int)) (some false) (cond (aH 0 x3) (let v2:Int:=W .i64 (x3-1);cond (aK v2 (List.length x0)) (cond (aH ((List.getD x0 x3.toNat aW).1) ((List.getD x0 v2.toNat aW).1)) (some false) (let v3:Int:=W .i64 (x3-1);cond (aK v3 (List.length x0)) (cond (ay ((List.getD x0 x3.toNat aW).1) ((List.getD x0 v3.toNat aW).1)) (let v4:Int:=W .i64 (x3-1);cond (aK v4 (List.length x0)) (cond (bR (((List.getD x0 x3.toNat aW).2).1) (((List.getD x0 v4.toNat aW).2).1)) (some false) (cZ x0 (W .i64 (x3+1)))) (none)) (cZ x0 (W .i64 (x3+1)))) (none))) (none)) (cZ x0 (W .i64 (x3+1)))))))))) (none)) (some true)
def tw.l2(N:Nat):Nat→tw.bY
 |0,_,_=>none
 |n+1,x0,x3=>tw.ei N (tw.l2 N n) x0 x3
def tw.b(N:Nat)(fA:tw.bY)(a0:aj):Option (Bool):=
 fA a0 (0:Int)
def tw(N:Nat)(a0:aj):Option (Bool):=tw.b N (tw.l2 N N) a0
abbrev kN.bl:=aj→Int→au→au→Int→Option au
def kN.du(N:Nat)(bg:kN.bl)(x0:aj)(x1:Int)(x4:au)(x5:au)(x6:Int):Option au:=
 cond (aH x6 (List.length x0:Int)) (cond (aK x6 (List.length x0)) (cond (ay (((List.getD x0 x6.toNat aW).2).1) x1) (cond (aK x6 (List.length x0)) ((fM N ((((List.getD x0 x6.toNat aW).2).2).1)).bind fun r3=>(ud N x5 r3).bind fun r4=>bg x0 x1 x4 r4 (W .i64 (x6+1))) (none)) (bg x0 x1 x4 x5 (W .i64 (x6+1)))) (none)) (some x5)
def kN.l5(N:Nat):Nat→kN.bl
 |0,_,_,_,_,_=>none
 |n+1,x0,x1,x4,x5,x6=>kN.du N (kN.l5 N n) x0 x1 x4 x5 x6
def kN.b(N:Nat)(dL:kN.bl)(a0:aj)(a1:Int):Option au:=
 (tw N a0).bind fun r1=>cond (!r1) (some (false,kX)) (dL a0 a1 (false,kX) (false,kX) (0:Int))
def kN(N:Nat)(a0:aj)(a1:Int):Option au:=kN.b N (kN.l5 N N) a0 a1
def J7(N:Nat)(a0:au):Option (Int):=
 cond (ay (List.length a0.2.1:Int) 0) (some (0:Int)) (cond (a0.1) (some (-1:Int)) (some (1:Int)))
abbrev lh.bY:=aj→Int→Option (Bool)
def lh.ei(N:Nat)(cZ:lh.bY)(x0:aj)(x3:Int):Option (Bool):=
 cond (aH x3 6) ((kN N x0 x3).bind fun r2=>(J7 N r2).bind fun r3=>cond (!ay r3 0) (some false) (cZ x0 (W .i64 (x3+1)))) ((tw N x0).bind fun r5=>some r5)
def lh.l2(N:Nat):Nat→lh.bY
 |0,_,_=>none
 |n+1,x0,x3=>lh.ei N (lh.l2 N n) x0 x3
def lh.b(N:Nat)(fA:lh.bY)(a0:aj):Option (Bool):=
 fA a0 (0:Int)
def lh(N:Nat)(a0:aj):Option (Bool):=lh.b N (lh.l2 N N) a0
def xx(N:Nat)(a0:Int):Option (Bool):=
 cond (bR 1 a0) (some (bR a0 1000000000000)) (some false)
def Is(N:Nat)(a0:fZ):Option (Bool):=
 cond (bR 1 a0.1) (cond (bR a0.1 1099511627776) (cond (bR 1 a0.2.1) (cond (bR a0.2.1 24) (cond (bR 0 a0.2.2.1) (cond (aH a0.2.2.1 6) (cond (ay a0.2.2.2.1 1) (cond (bR 1 a0.2.2.2.2.1) (cond (bR a0.2.2.2.2.1 1000000000) ((xx N a0.2.2.2.2.2.1).bind fun r1=>some r1) (some false)) (some false)) (cond (ay a0.2.2.2.1 2) (cond (bR 1 a0.2.2.2.2.1) (cond (bR a0.2.2.2.2.1 1000000000) ((xx N a0.2.2.2.2.2.1).bind fun r2=>some r2) (some false)) (some false)) (some false))) (some false)) (some false)) (some false)) (some false)) (some false)) (some false)
abbrev jc.bb:=ba→Int→Option (Bool)
def jc.cT(N:Nat)(bD:jc.bb)(x0:ba)(x3:Int):Option (Bool):=
 cond (aH x3 (List.length x0:Int)) (cond (aK x3 (List.length x0)) ((Is N (List.getD x0 x3.toNat eK)).bind fun r2=>cond (!r2) (some false) (cond (aH 0 x3) (cond (aK x3 (List.length x0)) (let v3:Int:=W .i64 (x3-1);cond (aK v3 (List.length x0)) (cond (bR ((List.getD x0 x3.toNat eK).1) ((List.getD x0 v3.toNat eK).1)) (some false) (bD x0 (W .i64 (x3+1)))) (none)) (none)) (bD x0 (W .i64 (x3+1))))) (none)) (some true)
def jc.l4(N:Nat):Nat→jc.bb
 |0,_,_=>none
 |n+1,x0,x3=>jc.cT N (jc.l4 N n) x0 x3
def jc.b(N:Nat)(dq:jc.bb)(a0:ba):Option (Bool):=
 cond (aH 32 (List.length a0:Int)) (some false) (dq a0 (0:Int))
def jc(N:Nat)(a0:ba):Option (Bool):=jc.b N (jc.l4 N N) a0
abbrev kL.bl:=aj→au→au→Int→Option au
def kL.du(N:Nat)(bg:kL.bl)(x0:aj)(x2:au)(x3:au)(x4:Int):Option au:=
 cond (aH x4 (List.length x0:Int)) (cond (aK x4 (List.length x0)) ((fM N ((((List.getD x0 x4.toNat aW).2).2).1)).bind fun r3=>(ud N x3 r3).bind fun r4=>bg x0 x2 r4 (W .i64 (x4+1))) (none)) (some x3)
def kL.l5(N:Nat):Nat→kL.bl
 |0,_,_,_,_=>none
 |n+1,x0,x2,x3,x4=>kL.du N (kL.l5 N n) x0 x2 x3 x4
def kL.b(N:Nat)(dL:kL.bl)(a0:aj):Option au:=
 (vB N a0).bind fun r1=>cond (!r1) (some (false,kX)) (dL a0 (false,kX) (false,kX) (0:Int))
def kL(N:Nat)(a0:aj):Option au:=kL.b N (kL.l5 N N) a0
def C8(N:Nat)(a0:ah)(a1:Int):Option (Bool):=
 (zk N a0.2.1 a1).bind fun r1=>cond (r1.2) (some true) (some (ay a1 0))
def uq(N:Nat)(a0:ax)(a1:Int):Option (Int):=
 (jR N a0).bind fun r1=>cond (!r1) (some (0:Int)) ((jd N a0 a1).bind fun r2=>some r2)
abbrev bE.gY:=ae→ah→Int→Option (Bool)
abbrev bE.Ac:=ae→ah→Int→Option (Bool)
abbrev bE.fJ:=ae→ah→Int→Option (Bool)
abbrev bE.fe:=ae→ah→Int→Option (Bool)
def bE.ob(N:Nat)(nc:bE.gY)(x2:ae)(x3:ah)(x9:Int):Option (Bool):=
 cond (aH x9 (List.length x3.2.2.2.2.2.1:Int)) (cond (aK x9 (List.length x3.2.2.2.2.2.1)) ((C8 N x3 (((List.getD x3.2.2.2.2.2.1 x9.toNat eK).2).1)).bind fun Ji=>cond (!Ji) (some false) (cond (aK x9 (List.length x3.2.2.2.2.2.1)) (cond (bR (List.length x2.1:Int) ((((List.getD x3.2.2.2.2.2.1 x9.toNat eK).2).2).1)) (some false) (nc x2 x3 (W .i64 (x9+1)))) (none))) (none)) (some true)
def bE.oa(N:Nat):Nat→bE.gY
 |0,_,_,_=>none
 |n+1,x2,x3,x9=>bE.ob N (bE.oa N n) x2 x3 x9
def bE.EX(N:Nat)(uX:bE.gY)(KF:bE.Ac)(x2:ae)(x3:ah)(x8:Int):Option (Bool):=
 cond (aH x8 (List.length x3.2.2.2.2.1:Int)) (cond (aK x8 (List.length x3.2.2.2.2.1)) ((xx N (List.getD x3.2.2.2.2.1 x8.toNat (0:Int))).bind fun Ci=>cond (!Ci) (some false) (KF x2 x3 (W .i64 (x8+1)))) (none)) (uX x2 x3 (0:Int))
def bE.EW(N:Nat):Nat→bE.Ac
 |0,_,_,_=>none
 |n+1,x2,x3,x8=>bE.EX N (bE.oa N N) (bE.EW N n) x2 x3 x8
def bE.lH(N:Nat)(PS:bE.Ac)(ir:bE.fJ)(x2:ae)(x3:ah)(x7:Int):Option (Bool):=
 cond (aH x7 (List.length x3.2.2.2.1:Int)) (cond (aK x7 (List.length x3.2.2.2.1)) ((C8 N x3 ((List.getD x3.2.2.2.1 x7.toNat aW).1)).bind fun Cd=>cond (!Cd) (some false) (cond (aK x7 (List.length x3.2.2.2.1)) (cond (bR (List.length x2.1:Int) (((List.getD x3.2.2.2.1 x7.toNat aW).2).1)) (some false) (ir x2 x3 (W .i64 (x7+1)))) (none))) (none)) (PS x2 x3 (0:Int))
def bE.nq(N:Nat):Nat→bE.fJ
 |0,_,_,_=>none
 |n+1,x2,x3,x7=>bE.lH N (bE.EW N N) (bE.nq N n) x2 x3 x7
def bE.ov(N:Nat)(ry:bE.fJ)(fR:bE.fe)(x2:ae)(x3:ah)(x5:Int):Option (Bool):=
 cond (aH x5 (List.length x3.2.2.1:Int)) (cond (aK x5 (List.length x3.2.2.1)) (cond (ay ((List.getD x3.2.2.1 x5.toNat aW).1) (5:Int)) ((C8 N x3 (((List.getD x3.2.2.1 x5.toNat aW).2).1)).bind fun r9=>cond (!r9) (some false) (cond (ay ((List.getD x3.2.2.1 x5.toNat aW).1) (6:Int)) ((uq N x3.1 (((List.getD x3.2.2.1 x5.toNat aW).2).1)).bind fun iX=>cond (ay iX 0) (some false) (fR x2 x3 (W .i64 (x5+1)))) (cond (ay ((List.getD x3.2.2.1 x5.toNat aW).1) (7:Int)) ((uq N x3.1 (((List.getD x3.2.2.1 x5.toNat aW).2).1)).bind fun lA=>cond (ay lA 0) (some false) (fR x2 x3 (W .i64 (x5+1)))) (fR x2 x3 (W .i64 (x5+1)))))) (cond (ay ((List.getD x3.2.2.1 x5.toNat aW).1) (6:Int)) ((uq N x3.1 (((List.getD x3.2.2.1 x5.toNat aW).2).1)).bind fun sN=>cond (ay sN 0) (some false) (fR x2 x3 (W .i64 (x5+1)))) (cond (ay ((List.getD x3.2.2.1 x5.toNat aW).1) (7:Int)) ((uq N x3.1 (((List.getD x3.2.2.1 x5.toNat aW).2).1)).bind fun vf=>cond (ay vf 0) (some false) (fR x2 x3 (W .i64 (x5+1)))) (fR x2 x3 (W .i64 (x5+1)))))) (none)) (ry x2 x3 (0:Int))
def bE.l6(N:Nat):Nat→bE.fe
 |0,_,_,_=>none
 |n+1,x2,x3,x5=>bE.ov N (bE.nq N N) (bE.l6 N n) x2 x3 x5
def bE.b(N:Nat)(pZ:bE.fe)(a0:ae)(a1:ah):Option (Bool):=
 (iG N a0).bind fun r1=>cond (!r1) (some false) ((kj N a1.1 a1.2.1).bind fun r2=>cond (!r2) (some false) ((vB N a1.2.2.1).bind fun r3=>cond (!r3) (some false) ((lh N a1.2.2.2.1).bind fun r4=>cond (!r4) (some false) ((jc N a1.2.2.2.2.2.1).bind fun r5=>cond (!r5) (some false) (cond (!ay (List.length a1.2.2.2.2.1:Int) (List.length a0.1:Int)) (some false) ((kL N a1.2.2.1).bind fun r6=>(J7 N r6).bind fun r7=>cond (!ay r7 0) (some false) (pZ a0 a1 (0:Int))))))))
def bE(N:Nat)(a0:ae)(a1:ah):Option (Bool):=bE.b N (bE.l6 N N) a0 a1
abbrev qv.bb:=aj→Int→Int→Int→Option (Int)
def qv.cT(N:Nat)(bD:qv.bb)(x0:aj)(x1:Int)(x2:Int)(x7:Int):Option (Int):=
 cond (aH x7 (List.length x0:Int)) (cond (aK x7 (List.length x0)) (cond (ay ((List.getD x0 x7.toNat aW).1) x1) (cond (aK x7 (List.length x0)) (cond (ay (((List.getD x0 x7.toNat aW).2).1) x2) (cond (aK x7 (List.length x0)) (some ((((List.getD x0 x7.toNat aW).2).2).1)) (none)) (bD x0 x1 x2 (W .i64 (x7+1)))) (none)) (bD x0 x1 x2 (W .i64 (x7+1)))) (none)) (some (0:Int))
def qv.l4(N:Nat):Nat→qv.bb
 |0,_,_,_,_=>none
 |n+1,x0,x1,x2,x7=>qv.cT N (qv.l4 N n) x0 x1 x2 x7
def qv.b(N:Nat)(dq:qv.bb)(a0:aj)(a1:Int)(a2:Int):Option (Int):=
 (vB N a0).bind fun r1=>cond (!r1) (some (0:Int)) (dq a0 a1 a2 (0:Int))
def qv(N:Nat)(a0:aj)(a1:Int)(a2:Int):Option (Int):=qv.b N (qv.l4 N N) a0 a1 a2
def Ij(N:Nat)(a0:au)(a1:au):Option au:=
 (MS N a1).bind fun r1=>(ud N a0 r1).bind fun r2=>some r2
abbrev sL.bl:=aj→Int→ax→Int→Option ax
def sL.du(N:Nat)(bg:sL.bl)(x0:aj)(x1:Int)(x5:ax)(x6:Int):Option ax:=
 cond (aH x6 (List.length x0:Int)) (cond (aK x6 (List.length x0)) (cond (ay ((List.getD x0 x6.toNat aW).1) x1) (cond (aK x6 (List.length x0)) (cond (aK x6 (List.length x0)) (cond (small (List.length x5+List.length ([(((List.getD x0 x6.toNat aW).2).1,((((List.getD x0 x6.toNat aW).2).2).1,()))]))) (bg x0 x1 (x5++([(((List.getD x0 x6.toNat aW).2).1,((((List.getD x0 x6.toNat aW).2).2).1,()))])) (W .i64 (x6+1))) (none)) (none)) (none)) (bg x0 x1 x5 (W .i64 (x6+1)))) (none)) (some x5)
def sL.l5(N:Nat):Nat→sL.bl
 |0,_,_,_,_=>none
 |n+1,x0,x1,x5,x6=>sL.du N (sL.l5 N n) x0 x1 x5 x6
def sL.b(N:Nat)(dL:sL.bl)(a0:aj)(a1:Int):Option ax:=
 (tw N a0).bind fun r1=>cond (!r1) (some ([])) (dL a0 a1 ([]) (0:Int))
def sL(N:Nat)(a0:aj)(a1:Int):Option ax:=sL.b N (sL.l5 N N) a0 a1
abbrev eG.c0:=ba→Int→aj→Int→cm→Int→Option aj
abbrev eG.cg:=ba→Int→aj→Int→Option aj
def eG.n9(N:Nat)(bV:eG.cg)(cF:eG.c0)(x0:ba)(x1:Int)(x5:aj)(x6:Int)(x7:cm)(x8:Int):Option aj:=
 cond (aH x8 (List.length x0:Int)) (cond (aK x8 (List.length x0)) (cond (!ay (((List.getD x0 x8.toNat eK).2).1) x1) (cF x0 x1 x5 x6 x7 (W .i64 (x8+1))) (cond (aK x8 (List.length x0)) (cond (!ay ((((List.getD x0 x8.toNat eK).2).2).1) x6) (cF x0 x1 x5 x6 x7 (W .i64 (x8+1))) (cond (aK x8 (List.length x0)) (cond (ay (((((List.getD x0 x8.toNat eK).2).2).2).1) (1:Int)) (cond (aK x8 (List.length x0)) (cF x0 x1 x5 x6 (x7.1,((W .i64 (x7.2.1+((((((List.getD x0 x8.toNat eK).2).2).2).2).1))),x7.2.2)) (W .i64 (x8+1))) (none)) (cond (aK x8 (List.length x0)) (cF x0 x1 x5 x6 (x7.1,(x7.2.1,((W .i64 (x7.2.2.1+((((((List.getD x0 x8.toNat eK).2).2).2).2).1))),x7.2.2.2))) (W .i64 (x8+1))) (none))) (none))) (none))) (none)) (cond (aH 0 x7.2.1) (cond (small (List.length x5+List.length ([x7]))) (bV x0 x1 (x5++([x7])) (W .i64 (x6+1))) (none)) (cond (aH 0 x7.2.2.1) (cond (small (List.length x5+List.length ([x7]))) (bV x0 x1 (x5++([x7])) (W .i64 (x6+1))) (none)) (bV x0 x1 x5 (W .i64 (x6+1)))))
def eG.l7(N:Nat)(bV:eG.cg):Nat→eG.c0
 |0,_,_,_,_,_,_=>none
 |n+1,x0,x1,x5,x6,x7,x8=>eG.n9 N bV (eG.l7 N bV n) x0 x1 x5 x6 x7 x8
def eG.ix(N:Nat)(oj:eG.c0)(bV:eG.cg)(x0:ba)(x1:Int)(x5:aj)(x6:Int):Option aj:=
 cond (aH x6 6) (oj x0 x1 x5 x6 (x6,ch) (0:Int)) (some x5)
def eG.l3(N:Nat):Nat→eG.cg
 |0,_,_,_,_=>none
 |n+1,x0,x1,x5,x6=>eG.ix N (eG.l7 N (eG.l3 N n) N) (eG.l3 N n) x0 x1 x5 x6
def eG.b(N:Nat)(iM:eG.cg)(a0:ba)(a1:Int):Option aj:=
 iM a0 a1 ([]) (0:Int)
def eG(N:Nat)(a0:ba)(a1:Int):Option aj:=eG.b N (eG.l3 N N) a0 a1
abbrev jy.bb:=ax→ae→Int→Option (Bool)
def jy.cT(N:Nat)(bD:jy.bb)(x1:ax)(x2:ae)(x5:Int):Option (Bool):=
 cond (aH x5 (List.length x1:Int)) (cond (aK x5 (List.length x1)) (cond (aH ((List.getD x1 x5.toNat ch).1) (0:Int)) (some false) (cond (aK x5 (List.length x1)) (cond (bR (List.length x2.1:Int) ((List.getD x1 x5.toNat ch).1)) (some false) (cond (aK x5 (List.length x1)) (cond (ay (((List.getD x1 x5.toNat ch).2).1) (0:Int)) (some false) (cond (aK x5 (List.length x1)) (cond (ay (((List.getD x1 x5.toNat ch).2).1) (-9223372036854775808:Int)) (some false) (cond (aH 0 x5) (cond (aK x5 (List.length x1)) (let v3:Int:=W .i64 (x5-1);cond (aK v3 (List.length x1)) (cond (bR ((List.getD x1 x5.toNat ch).1) ((List.getD x1 v3.toNat ch).1)) (some false) (bD x1 x2 (W .i64 (x5+1)))) (none)) (none)) (bD x1 x2 (W .i64 (x5+1))))) (none))) (none))) (none))) (none)) (some true)
def jy.l4(N:Nat):Nat→jy.bb
 |0,_,_,_=>none
 |n+1,x1,x2,x5=>jy.cT N (jy.l4 N n) x1 x2 x5
def jy.b(N:Nat)(dq:jy.bb)(a0:ae)(a1:ax):Option (Bool):=
 (iG N a0).bind fun r1=>cond (!r1) (some false) (dq a1 a0 (0:Int))
def jy(N:Nat)(a0:ae)(a1:ax):Option (Bool):=jy.b N (jy.l4 N N) a0 a1
abbrev lI.bl:=aj→ae→Int→Int→Option (Bool)
def lI.du(N:Nat)(bg:lI.bl)(x1:aj)(x2:ae)(x5:Int)(x6:Int):Option (Bool):=
 cond (aH x6 (List.length x1:Int)) (cond (aK x6 (List.length x1)) (cond (aH ((List.getD x1 x6.toNat aW).1) (0:Int)) (some false) (cond (bR (List.length x2.1:Int) ((List.getD x1 x6.toNat aW).1)) (some false) (cond (aH (((List.getD x1 x6.toNat aW).2).1) (0:Int)) (some false) (cond (aH x5 (((List.getD x1 x6.toNat aW).2).1)) (some false) (cond (aH ((((List.getD x1 x6.toNat aW).2).2).1) (0:Int)) (some false) (cond (aH x5 ((((List.getD x1 x6.toNat aW).2).2).1)) (some false) (cond (ay (((List.getD x1 x6.toNat aW).2).1) (0:Int)) (cond (ay ((((List.getD x1 x6.toNat aW).2).2).1) (0:Int)) (some false) (cond (aH 0 x6) (let v3:Int:=W .i64 (x6-1);cond (aK v3 (List.length x1)) (cond (bR ((List.getD x1 x6.toNat aW).1) ((List.getD x1 v3.toNat aW).1)) (some false) (bg x1 x2 x5 (W .i64 (x6+1)))) (none)) (bg x1 x2 x5 (W .i64 (x6+1))))) (cond (aH 0 x6) (let v6:Int:=W .i64 (x6-1);cond (aK v6 (List.length x1)) (cond (bR ((List.getD x1 x6.toNat aW).1) ((List.getD x1 v6.toNat aW).1)) (some false) (bg x1 x2 x5 (W .i64 (x6+1)))) (none)) (bg x1 x2 x5 (W .i64 (x6+1))))))))))) (none)) (some true)
def lI.l5(N:Nat):Nat→lI.bl
 |0,_,_,_,_=>none
 |n+1,x1,x2,x5,x6=>lI.du N (lI.l5 N n) x1 x2 x5 x6
def lI.b(N:Nat)(dL:lI.bl)(a0:ae)(a1:aj):Option (Bool):=
 (iG N a0).bind fun r1=>cond (!r1) (some false) (dL a1 a0 (33000000000:Int) (0:Int))
def lI(N:Nat)(a0:ae)(a1:aj):Option (Bool):=lI.b N (lI.l5 N N) a0 a1
def HF(N:Nat)(a0:au):Option au:=
 (Oa N false a0.2.1).bind fun r1=>some r1
def CY(N:Nat)(a0:au)(a1:au):Option (Int):=
 (Ij N a0 a1).bind fun r1=>(J7 N r1).bind fun r2=>some r2
abbrev fx.fJ:=aj→Int→au→au→au→au→Int→Option (au×(Int))
abbrev fx.c0:=ax→aj→Int→au→au→au→au→Int→Option (au×(Int))
def fx.lH(N:Nat)(ir:fx.fJ)(x2:aj)(x3:Int)(x8:au)(aR:au)(aE:au)(aJ:au)(bo:Int):Option (au×(Int)):=
 cond (aH bo (List.length x2:Int)) (cond (aK bo (List.length x2)) (cond (ay ((List.getD x2 bo.toNat aW).1) x3) (cond (aK bo (List.length x2)) ((fM N (((List.getD x2 bo.toNat aW).2).1)).bind fun r8=>cond (aK bo (List.length x2)) ((fM N ((((List.getD x2 bo.toNat aW).2).2).1)).bind fun r9=>ir x2 x3 x8 aR r8 r9 (W .i64 (bo+1))) (none)) (none)) (ir x2 x3 x8 aR aE aJ (W .i64 (bo+1)))) (none)) ((ud N aR aE).bind fun lA=>(HF N lA).bind fun nf=>(Ij N aR aJ).bind fun ow=>(HF N ow).bind fun sN=>(CY N sN nf).bind fun vZ=>cond (aH 0 vZ) (some (sN,(0:Int))) (some (nf,(0:Int))))
def fx.nq(N:Nat):Nat→fx.fJ
 |0,_,_,_,_,_,_,_=>none
 |n+1,x2,x3,x8,aR,aE,aJ,bo=>fx.lH N (fx.nq N n) x2 x3 x8 aR aE aJ bo
def fx.n9(N:Nat)(ry:fx.fJ)(cF:fx.c0)(x1:ax)(x2:aj)(x3:Int)(x8:au)(aR:au)(aE:au)(aJ:au)(bf:Int):Option (au×(Int)):=
 cond (aH bf (List.length x1:Int)) (cond (aK bf (List.length x1)) (cond (ay ((List.getD x1 bf.toNat ch).1) x3) (cond (aK bf (List.length x1)) ((fM N (((List.getD x1 bf.toNat ch).2).1)).bind fun r4=>cF x1 x2 x3 x8 r4 aE aJ (W .i64 (bf+1))) (none)) (cF x1 x2 x3 x8 aR aE aJ (W .i64 (bf+1)))) (none)) (ry x2 x3 x8 aR aE aJ (0:Int))
def fx.l7(N:Nat):Nat→fx.c0
 |0,_,_,_,_,_,_,_,_=>none
 |n+1,x1,x2,x3,x8,aR,aE,aJ,bf=>fx.n9 N (fx.nq N N) (fx.l7 N n) x1 x2 x3 x8 aR aE aJ bf
def fx.b(N:Nat)(oj:fx.c0)(a0:ae)(a1:ax)(a2:aj)(a3:Int):Option (au×(Int)):=
 (jy N a0 a1).bind fun r1=>cond (!r1) (some ((false,kX),(1:Int))) ((lI N a0 a2).bind fun r2=>cond (!r2) (some ((false,kX),(1:Int))) (cond (aH a3 0) (some ((false,kX),(3:Int))) (cond (bR (List.length a0.1:Int) a3) (some ((false,kX),(3:Int))) (oj a1 a2 a3 (false,kX) (false,kX) (false,kX) (false,kX) (0:Int)))))
def fx(N:Nat)(a0:ae)(a1:ax)(a2:aj)(a3:Int):Option (au×(Int)):=fx.b N (fx.l7 N N) a0 a1 a2 a3
abbrev fN.Jj:=au→au→au→(List (Int))→Int→Int→Int→Option au
abbrev fN.c0:=au→au→au→(List (Int))→Int→Int→Int→Option au
abbrev fN.cg:=au→au→au→(List (Int))→Int→Option au
def fN.Ik(N:Nat)(bV:fN.cg)(cF:fN.c0)(x2:au)(x3:au)(x4:au)(x5:List (Int))(x6:Int)(x7:Int)(x8:Int):Option au:=
 let v7:Int:=W .i64 (x6+x8);cond (aK v7 (List.length x5)) (cond (aK x6 (List.length x2.2.1)) ((RC N x3.2.1 x8).bind fun r8=>let v11:Int:=W .u64 (x7+(W .u64 ((List.getD x5 v7.toNat (0:Int))+(W .u64 ((List.getD x2.2.1 x6.toNat (0:Int))*r8)))));let XV:Int:=W .i64 (x6+x8);cond (aK XV (List.length x5)) (cond (aH 32 0) (none) (cF x2 x3 x4 (List.set x5 XV.toNat (iZ .and .u64 v11 4294967295)) x6 (shr .u64 v11 32) (W .i64 (x8+1)))) (none)) (none)) (none)
def fN.j9(N:Nat)(bV:fN.cg)(cF:fN.c0)(x2:au)(x3:au)(x4:au)(x5:List (Int))(x6:Int)(x7:Int)(x8:Int):Option au:=fN.Ik N bV cF x2 x3 x4 x5 x6 x7 x8
def fN.n9(N:Nat)(Al:fN.Jj)(bV:fN.cg)(cF:fN.c0)(x2:au)(x3:au)(x4:au)(x5:List (Int))(x6:Int)(x7:Int)(x8:Int):Option au:=
 cond (aH x8 (List.length x3.2.1:Int)) (Al x2 x3 x4 x5 x6 x7 x8) (cond (aH 0 x7) (Al x2 x3 x4 x5 x6 x7 x8) (bV x2 x3 x4 x5 (W .i64 (x6+1))))
def fN.l7(N:Nat)(bV:fN.cg):Nat→fN.c0
 |0,_,_,_,_,_,_,_=>none
 |n+1,x2,x3,x4,x5,x6,x7,x8=>fN.n9 N (fN.j9 N bV (fN.l7 N bV n)) bV (fN.l7 N bV n) x2 x3 x4 x5 x6 x7 x8
def fN.ix(N:Nat)(oj:fN.c0)(bV:fN.cg)(x2:au)(x3:au)(x4:au)(x5:List (Int))(x6:Int):Option au:=
 cond (aH x6 (List.length x2.2.1:Int)) (oj x2 x3 x4 x5 x6 (0:Int) (0:Int)) ((Oa N (!(lR .bool x2.1 x3.1)) x5).bind fun vg=>some vg)
def fN.l3(N:Nat):Nat→fN.cg
 |0,_,_,_,_,_=>none
 |n+1,x2,x3,x4,x5,x6=>fN.ix N (fN.l7 N (fN.l3 N n) N) (fN.l3 N n) x2 x3 x4 x5 x6
def fN.b(N:Nat)(iM:fN.cg)(a0:au)(a1:au):Option au:=
 let v2:Int:=W .i64 ((W .i64 ((List.length a0.2.1:Int)+(List.length a1.2.1:Int)))+1);cond (dX v2 v2) (iM a0 a1 (false,kX) (List.replicate v2.toNat (0:Int)) (0:Int)) (none)
def fN(N:Nat)(a0:au)(a1:au):Option au:=fN.b N (fN.l3 N N) a0 a1
abbrev lJ.bl:=ax→aj→ae→au→au→Int→Option (au×(Int))
def lJ.du(N:Nat)(bg:lJ.bl)(x1:ax)(x2:aj)(x3:ae)(x6:au)(x8:au)(x9:Int):Option (au×(Int)):=
 cond (aH x9 (List.length x3.1:Int)) ((fx N x3 x1 x2 x9).bind fun r4=>cond (aK x9 (List.length x3.1)) ((fM N ((((List.getD x3.1 x9.toNat aO).2).2).1)).bind fun r5=>(fN N r4.1 r5).bind fun r6=>(ud N x8 r6).bind fun r7=>bg x1 x2 x3 x6 r7 (W .i64 (x9+1))) (none)) (some (x8,(0:Int)))
def lJ.l5(N:Nat):Nat→lJ.bl
 |0,_,_,_,_,_,_=>none
 |n+1,x1,x2,x3,x6,x8,x9=>lJ.du N (lJ.l5 N n) x1 x2 x3 x6 x8 x9
def lJ.b(N:Nat)(dL:lJ.bl)(a0:ae)(a1:ax)(a2:aj):Option (au×(Int)):=
 (jy N a0 a1).bind fun r1=>cond (!r1) (some ((false,kX),(1:Int))) ((lI N a0 a2).bind fun r2=>cond (!r2) (some ((false,kX),(1:Int))) (dL a1 a2 a0 (false,kX) (false,kX) (0:Int)))
def lJ(N:Nat)(a0:ae)(a1:ax)(a2:aj):Option (au×(Int)):=lJ.b N (lJ.l5 N N) a0 a1 a2
def O1(N:Nat)(a0:ae)(a1:ah)(a2:Int)(a3:ba):Option au:=
 cond (small (List.length de+List.length a1.2.2.2.2.2.1)) (let v1:List ((Int)×((Int)×((Int)×((Int)×((Int)×((Int)×(Unit))))))):=de++a1.2.2.2.2.2.1;cond (small (List.length v1+List.length a3)) ((sL N a1.2.2.2.1 a2).bind fun r3=>(eG N (v1++a3) a2).bind fun r4=>(lJ N a0 r3 r4).bind fun r5=>some r5.1) (none)) (none)
def SC(N:Nat)(a0:ae)(a1:ah)(a2:Int)(a3:Int):Option (ah×(Int)):=
 (bE N a0 a1).bind fun r1=>cond (!r1) (some ((bN,(cL,(br,(br,(c5,(de,())))))),(1:Int))) (cond (aH a3 1) (some ((bN,(cL,(br,(br,(c5,(de,())))))),(1:Int))) ((zk N a1.2.1 a2).bind fun r2=>cond (!r2.2) (some ((bN,(cL,(br,(br,(c5,(de,())))))),(3:Int))) ((uq N a1.1 r2.1.2.1).bind fun r3=>cond (!ay r3 1) (some ((bN,(cL,(br,(br,(c5,(de,())))))),(7:Int))) ((qv N a1.2.2.1 (5:Int) a2).bind fun r4=>(fM N r4).bind fun r5=>(fM N a3).bind fun r6=>(Ij N r5 r6).bind fun r7=>(O1 N a0 a1 a2 de).bind fun r8=>(CY N r7 r8).bind fun r9=>cond (aH r9 0) (some ((bN,(cL,(br,(br,(c5,(de,())))))),(10:Int))) ((fM N a3).bind fun iX=>(zV N (5:Int) a2 (1:Int) (0:Int) iX).bind fun kB=>(zS N a1 br kB).bind fun lA=>some (lA.1,lA.2))))))
def Dy(N:Nat)(a0:aP)(a1:Int):Option (Int):=
 (uq N a0.2.2.1.1 a1).bind fun r1=>some r1
abbrev mT.fB:=Int→Int→aF→Int→Option (aF×(Int))
def mT.yb(N:Nat)(dG:mT.fB)(x1:Int)(x2:Int)(aR:aF)(aE:Int):Option (aF×(Int)):=
 cond (aH aE (List.length aR:Int)) (cond (aK aE (List.length aR)) (cond (ay ((List.getD aR aE.toNat aO).1) x1) (cond (aK aE (List.length aR)) (dG x1 x2 (List.set aR aE.toNat ((List.getD aR aE.toNat aO).1,(((List.getD aR aE.toNat aO).2).1,((((List.getD aR aE.toNat aO).2).2).1,(x2,((((List.getD aR aE.toNat aO).2).2).2).2))))) (W .i64 (aE+1))) (none)) (dG x1 x2 aR (W .i64 (aE+1)))) (none)) (some (aR,(0:Int)))
def mT.l8(N:Nat):Nat→mT.fB
 |0,_,_,_,_=>none
 |n+1,x1,x2,aR,aE=>mT.yb N (mT.l8 N n) x1 x2 aR aE
def mT.b(N:Nat)(Am:mT.fB)(a0:aF)(a1:Int)(a2:Int):Option (aF×(Int)):=
 (iz N a0).bind fun r1=>cond (!r1) (some ([],(1:Int))) (cond (aH a2 0) (some ([],(1:Int))) (cond (aH 1000000000000 a2) (some ([],(1:Int))) ((jT N a0 a1).bind fun r2=>cond (!r2.2) (some ([],(3:Int))) (cond (small (List.length cL+List.length a0)) (Am a1 a2 (cL++a0) (0:Int)) (none)))))
def mT(N:Nat)(a0:aF)(a1:Int)(a2:Int):Option (aF×(Int)):=mT.b N (mT.l8 N N) a0 a1 a2
def So(N:Nat)(a0:fZ)(a1:Int):Option (au×(Int)):=
 (Is N a0).bind fun r1=>cond (!r1) (some ((false,kX),(1:Int))) ((xx N a1).bind fun r2=>cond (!r2) (some ((false,kX),(1:Int))) (let v3:Int:=W .i64 (a0.2.2.2.2.2.1-a1);cond (ay a0.2.2.2.1 2) (let v4:Int:=W .i64 (a1-a0.2.2.2.2.2.1);cond (aH v4 0) (some ((false,kX),(0:Int))) ((fM N a0.2.2.2.2.1).bind fun r5=>(fM N v4).bind fun r6=>(fN N r5 r6).bind fun r7=>some (r7,(0:Int)))) (cond (aH v3 0) (some ((false,kX),(0:Int))) ((fM N a0.2.2.2.2.1).bind fun r8=>(fM N v3).bind fun r9=>(fN N r8 r9).bind fun iX=>some (iX,(0:Int))))))
def O2(N:Nat)(a0:ae)(a1:ah)(a2:fZ):Option (Int):=
 (bE N a0 a1).bind fun r1=>cond (!r1) (some (1:Int)) ((Is N a2).bind fun r2=>cond (!r2) (some (1:Int)) ((zk N a1.2.1 a2.2.1).bind fun r3=>cond (!r3.2) (some (3:Int)) ((uq N a1.1 r3.1.2.1).bind fun r4=>cond (!ay r4 1) (some (7:Int)) (cond (bR (List.length a0.1:Int) a2.2.2.1) (some (3:Int)) (cond (small (List.length de+List.length a1.2.2.2.2.2.1)) (let v5:List ((Int)×((Int)×((Int)×((Int)×((Int)×((Int)×(Unit))))))):=de++a1.2.2.2.2.2.1;cond (small (List.length v5+List.length ([a2]))) ((sL N a1.2.2.2.1 a2.2.1).bind fun r7=>(eG N (v5++([a2])) a2.2.1).bind fun r8=>(fx N a0 r7 r8 a2.2.2.1).bind fun r9=>(fM N r3.1.2.2.2.1).bind fun iX=>(CY N r9.1 iX).bind fun kB=>cond (aH 0 kB) (some (9:Int)) (cond (aK a2.2.2.1 (List.length a1.2.2.2.2.1)) ((So N a2 (List.getD a1.2.2.2.2.1 a2.2.2.1.toNat (0:Int))).bind fun lA=>(qv N a1.2.2.1 (5:Int) a2.2.1).bind fun nf=>(fM N nf).bind fun ow=>(Ij N ow lA.1).bind fun sN=>(O1 N a0 a1 a2.2.1 ([a2])).bind fun vZ=>(CY N sN vZ).bind fun vf=>cond (aH vf 0) (some (10:Int)) (some (0:Int))) (none))) (none)) (none))))))
def Sz(N:Nat)(a0:fZ)(a1:fZ):Option (Bool):=
 cond (!ay a0.2.2.2.2.2.1 a1.2.2.2.2.2.1) (some (lR .bool (aH a1.2.2.2.2.2.1 a0.2.2.2.2.2.1) (ay a0.2.2.2.1 1))) (some (aH a0.1 a1.1))
abbrev dd.Gb:=ba→Int→Int→ba→Int→Int→Option ba
abbrev dd.ko:=ba→Int→Int→ba→Int→Int→Option ba
abbrev dd.bl:=ba→Int→Int→ba→Int→Option ba
def dd.zU(N:Nat)(bg:dd.bl)(x0:ba)(x1:Int)(x2:Int)(x7:ba)(x8:Int)(x9:Int):Option ba:=
 cond (fD 0 x9 (List.length x7:Int) (List.length x7:Int)) (let v9:List ((Int)×((Int)×((Int)×((Int)×((Int)×((Int)×(Unit))))))):=List.drop (0:Int).toNat (List.take x9.toNat x7);cond (small (List.length v9)) (cond (aK x8 (List.length x0)) (cond (small (List.length v9+List.length ([List.getD x0 x8.toNat eK]))) (let v10:List ((Int)×((Int)×((Int)×((Int)×((Int)×((Int)×(Unit))))))):=v9++([List.getD x0 x8.toNat eK]);cond (fD x9 (List.length x7:Int) (List.length x7:Int) (List.length x7:Int)) (let v11:List ((Int)×((Int)×((Int)×((Int)×((Int)×((Int)×(Unit))))))):=List.drop x9.toNat (List.take (List.length x7:Int).toNat x7);cond (small (List.length v10+List.length v11)) (bg x0 x1 x2 (v10++v11) (W .i64 (x8+1))) (none)) (none)) (none)) (none)) (none)) (none)
def dd.HJ(N:Nat)(bg:dd.bl)(x0:ba)(x1:Int)(x2:Int)(x7:ba)(x8:Int)(x9:Int):Option ba:=dd.zU N bg x0 x1 x2 x7 x8 x9
def dd.vb(N:Nat)(w6:dd.Gb)(bg:dd.bl)(oX:dd.ko)(x0:ba)(x1:Int)(x2:Int)(x7:ba)(x8:Int)(x9:Int):Option ba:=
 cond (aH x9 (List.length x7:Int)) (cond (aK x9 (List.length x7)) (cond (aK x8 (List.length x0)) ((Sz N (List.getD x7 x9.toNat eK) (List.getD x0 x8.toNat eK)).bind fun r6=>cond (r6) (oX x0 x1 x2 x7 x8 (W .i64 (x9+1))) (w6 x0 x1 x2 x7 x8 x9)) (none)) (none)) (w6 x0 x1 x2 x7 x8 x9)
def dd.l9(N:Nat)(bg:dd.bl):Nat→dd.ko
 |0,_,_,_,_,_,_=>none
 |n+1,x0,x1,x2,x7,x8,x9=>dd.vb N (dd.HJ N bg) bg (dd.l9 N bg n) x0 x1 x2 x7 x8 x9
def dd.du(N:Nat)(wa:dd.ko)(bg:dd.bl)(x0:ba)(x1:Int)(x2:Int)(x7:ba)(x8:Int):Option ba:=
 cond (aH x8 (List.length x0:Int)) (cond (aK x8 (List.length x0)) (cond (!ay ((((List.getD x0 x8.toNat eK).2).2).1) x1) (bg x0 x1 x2 x7 (W .i64 (x8+1))) (cond (aK x8 (List.length x0)) (cond (!ay (((((List.getD x0 x8.toNat eK).2).2).2).1) x2) (bg x0 x1 x2 x7 (W .i64 (x8+1))) (wa x0 x1 x2 x7 x8 (0:Int))) (none))) (none)) (some x7)
def dd.l5(N:Nat):Nat→dd.bl
 |0,_,_,_,_,_=>none
 |n+1,x0,x1,x2,x7,x8=>dd.du N (dd.l9 N (dd.l5 N n) N) (dd.l5 N n) x0 x1 x2 x7 x8
def dd.b(N:Nat)(dL:dd.bl)(a0:ba)(a1:Int)(a2:Int):Option ba:=
 (jc N a0).bind fun r1=>cond (!r1) (some ([])) (dL a0 a1 a2 ([]) (0:Int))
def dd(N:Nat)(a0:ba)(a1:Int)(a2:Int):Option ba:=dd.b N (dd.l5 N N) a0 a1 a2
abbrev bK.ng:=ba→Int→bc→ba→Int→Option (ba×bc×(Int)×(Int))
abbrev bK.afs:=ba→Int→bc→Option (ba×bc×(Int)×(Int))
abbrev bK.nj:=fZ→ba→Int→bc→ba→Int→Int→Int→Option (ba×bc×(Int)×(Int))
abbrev bK.An:=fZ→ba→Int→bc→ba→Int→Int→uI→Option (ba×bc×(Int)×(Int))
abbrev bK.P3:=fZ→ba→Int→bc→ba→Int→Option (ba×bc×(Int)×(Int))
abbrev bK.c0:=fZ→ba→Int→bc→ba→Int→Option (ba×bc×(Int)×(Int))
def bK.y9(N:Nat)(nh:bK.ng)(x8:ba)(x9:Int)(aR:bc)(cq:ba)(cM:Int):Option (ba×bc×(Int)×(Int)):=
 cond (aH cM (List.length x8:Int)) (cond (aK cM (List.length x8)) (cond (aH 0 ((((((List.getD x8 cM.toNat eK).2).2).2).2).1)) (cond (aK cM (List.length x8)) (cond (small (List.length cq+List.length ([List.getD x8 cM.toNat eK]))) (nh x8 x9 aR (cq++([List.getD x8 cM.toNat eK])) (W .i64 (cM+1))) (none)) (none)) (nh x8 x9 aR cq (W .i64 (cM+1)))) (none)) (some (cq,aR,x9,(0:Int)))
def bK.xX(N:Nat):Nat→bK.ng
 |0,_,_,_,_,_=>none
 |n+1,x8,x9,aR,cq,cM=>bK.y9 N (bK.xX N n) x8 x9 aR cq cM
def bK.ZS(N:Nat)(F3:bK.ng)(x8:ba)(x9:Int)(aR:bc):Option (ba×bc×(Int)×(Int)):=
 F3 x8 x9 aR ([]) (0:Int)
def bK.j22(N:Nat)(x8:ba)(x9:Int)(aR:bc):Option (ba×bc×(Int)×(Int)):=bK.ZS N (bK.xX N N) x8 x9 aR
def bK.th(N:Nat)(cF:bK.c0)(uY:bK.nj)(x3:fZ)(x8:ba)(x9:Int)(aR:bc)(aE:ba)(aJ:Int)(bf:Int)(bM:Int):Option (ba×bc×(Int)×(Int)):=
 cond (aH bM (List.length x8:Int)) (cond (aK bM (List.length x8)) (cond (aK aJ (List.length aE)) (cond (ay ((List.getD x8 bM.toNat eK).1) ((List.getD aE aJ.toNat eK).1)) (cond (aK bM (List.length x8)) (cond (aK bM (List.length x8)) (uY x3 (List.set x8 bM.toNat ((List.getD x8 bM.toNat eK).1,(((List.getD x8 bM.toNat eK).2).1,((((List.getD x8 bM.toNat eK).2).2).1,(((((List.getD x8 bM.toNat eK).2).2).2).1,((W .i64 (((((((List.getD x8 bM.toNat eK).2).2).2).2).1)-bf)),(((((List.getD x8 bM.toNat eK).2).2).2).2).2)))))) x9 aR aE aJ bf (W .i64 (bM+1))) (none)) (none)) (uY x3 x8 x9 aR aE aJ bf (W .i64 (bM+1)))) (none)) (none)) (cF x3 x8 x9 aR aE (W .i64 (aJ+1)))
def bK.vN(N:Nat)(cF:bK.c0):Nat→bK.nj
 |0,_,_,_,_,_,_,_,_=>none
 |n+1,x3,x8,x9,aR,aE,aJ,bf,bM=>bK.th N cF (bK.vN N cF n) x3 x8 x9 aR aE aJ bf bM
def bK.tk(N:Nat)(Af:bK.nj)(cF:bK.c0)(x3:fZ)(x8:ba)(x9:Int)(aR:bc)(aE:ba)(aJ:Int)(bf:Int)(bo:uI):Option (ba×bc×(Int)×(Int)):=
 cond (small (List.length aR+List.length ([bo]))) (Af x3 x8 (W .i64 (x9-bf)) (aR++([bo])) aE aJ bf (0:Int)) (none)
def bK.Bc(N:Nat)(cF:bK.c0)(x3:fZ)(x8:ba)(x9:Int)(aR:bc)(aE:ba)(aJ:Int)(bf:Int)(bo:uI):Option (ba×bc×(Int)×(Int)):=bK.tk N (bK.vN N cF N) cF x3 x8 x9 aR aE aJ bf bo
def bK.IW(N:Nat)(qf:bK.An)(cF:bK.c0)(x3:fZ)(x8:ba)(x9:Int)(aR:bc)(aE:ba)(aJ:Int):Option (ba×bc×(Int)×(Int)):=
 cond (aK aJ (List.length aE)) (cond (ay (((List.getD aE aJ.toNat eK).2).1) x3.2.1) (cF x3 x8 x9 aR aE (W .i64 (aJ+1))) (cond (aK aJ (List.length aE)) (let QG:Int:=mn x9 ((((((List.getD aE aJ.toNat eK).2).2).2).2).1);cond (aK aJ (List.length aE)) (cond (aK aJ (List.length aE)) (cond (ay x3.2.2.2.1 2) (cond (aK aJ (List.length aE)) (qf x3 x8 x9 aR aE aJ QG (((List.getD aE aJ.toNat eK).2).1,(x3.2.1,(x3.2.2.1,(QG,(((((((List.getD aE aJ.toNat eK).2).2).2).2).2).1,())))))) (none)) (qf x3 x8 x9 aR aE aJ QG (x3.2.1,(((List.getD aE aJ.toNat eK).2).1,(x3.2.2.1,(QG,(((((((List.getD aE aJ.toNat eK).2).2).2).2).2).1,()))))))) (none)) (none)) (none))) (none)
def bK.Ph(N:Nat)(cF:bK.c0)(x3:fZ)(x8:ba)(x9:Int)(aR:bc)(aE:ba)(aJ:Int):Option (ba×bc×(Int)×(Int)):=bK.IW N (bK.Bc N cF) cF x3 x8 x9 aR aE aJ
def bK.n9(N:Nat)(Gc:bK.afs)(Ap:bK.P3)(cF:bK.c0)(x3:fZ)(x8:ba)(x9:Int)(aR:bc)(aE:ba)(aJ:Int):Option (ba×bc×(Int)×(Int)):=
 cond (aH aJ (List.length aE:Int)) (cond (aH 0 x9) (cond (ay x3.2.2.2.1 1) (cond (aK aJ (List.length aE)) (cond (aH x3.2.2.2.2.2.1 (((((((List.getD aE aJ.toNat eK).2).2).2).2).2).1)) (Gc x8 x9 aR) (cond (ay x3.2.2.2.1 2) (cond (aK aJ (List.length aE)) (cond (aH (((((((List.getD aE aJ.toNat eK).2).2).2).2).2).1) x3.2.2.2.2.2.1) (Gc x8 x9 aR) (Ap x3 x8 x9 aR aE aJ)) (none)) (Ap x3 x8 x9 aR aE aJ))) (none)) (cond (ay x3.2.2.2.1 2) (cond (aK aJ (List.length aE)) (cond (aH (((((((List.getD aE aJ.toNat eK).2).2).2).2).2).1) x3.2.2.2.2.2.1) (Gc x8 x9 aR) (Ap x3 x8 x9 aR aE aJ)) (none)) (Ap x3 x8 x9 aR aE aJ))) (Gc x8 x9 aR)) (Gc x8 x9 aR)
def bK.l7(N:Nat):Nat→bK.c0
 |0,_,_,_,_,_,_=>none
 |n+1,x3,x8,x9,aR,aE,aJ=>bK.n9 N (bK.j22 N) (bK.Ph N (bK.l7 N n)) (bK.l7 N n) x3 x8 x9 aR aE aJ
def bK.b(N:Nat)(oj:bK.c0)(a0:ba)(a1:fZ):Option (ba×bc×(Int)×(Int)):=
 (jc N a0).bind fun r1=>cond (!r1) (some ([],[],(0:Int),(1:Int))) ((Is N a1).bind fun r2=>cond (!r2) (some ([],[],(0:Int),(1:Int))) (cond (small (List.length de+List.length a0)) ((dd N a0 a1.2.2.1 (W .i64 ((3:Int)-a1.2.2.2.1))).bind fun r5=>oj a1 (de++a0) a1.2.2.2.2.1 ([]) r5 (0:Int)) (none)))
def bK(N:Nat)(a0:ba)(a1:fZ):Option (ba×bc×(Int)×(Int)):=bK.b N (bK.l7 N N) a0 a1
def OO(N:Nat)(a0:uI):Option (Bool):=
 cond (bR 0 a0.1) (cond (bR a0.1 24) (cond (bR 0 a0.2.1) (cond (bR a0.2.1 24) (cond (!ay a0.1 a0.2.1) (cond (bR 0 a0.2.2.1) (cond (aH a0.2.2.1 6) (cond (bR 1 a0.2.2.2.1) (cond (bR a0.2.2.2.1 1000000000) ((xx N a0.2.2.2.2.1).bind fun r1=>some r1) (some false)) (some false)) (some false)) (some false)) (some false)) (some false)) (some false)) (some false)) (some false)
def IT(N:Nat)(a0:Int):Option ((Int)×(Int)):=
 cond (ay a0 0) (some ((2:Int),(0:Int))) (some ((5:Int),a0))
def Sl(N:Nat)(a0:uI)(a1:Int):Option (bk×(Int)):=
 (OO N a0).bind fun r1=>cond (!r1) (some ([],(1:Int))) ((xx N a1).bind fun r2=>cond (!r2) (some ([],(1:Int))) ((fM N (W .i64 (a1-a0.2.2.2.2.1))).bind fun r4=>(fM N a0.2.2.2.1).bind fun r5=>(fN N r4 r5).bind fun r6=>(J7 N r6).bind fun r7=>cond (ay r7 0) (some ([],(0:Int))) ((IT N a0.1).bind fun r8=>(IT N a0.2.1).bind fun r9=>(MS N r6).bind fun iX=>some ([(r8.1,(r8.2,(r6,()))),(r9.1,(r9.2,(iX,())))],(0:Int)))))
abbrev fv.nk:=bc→ae→ah→ah→aj→bk→Int→Option (ah×(Int))
abbrev fv.bb:=bc→ae→ah→ah→Int→Option (ah×(Int))
def fv.sy(N:Nat)(n4:fv.nk)(x2:bc)(x3:ae)(x4:ah)(x6:ah)(x9:aj)(aR:bk)(aE:Int):Option (ah×(Int)):=
 cond (aH aE (List.length x2:Int)) (cond (aK aE (List.length x2)) ((C8 N x4 ((List.getD x2 aE.toNat j2).1)).bind fun r6=>cond (!r6) (some ((bN,(cL,(br,(br,(c5,(de,())))))),(3:Int))) ((C8 N x4 (((List.getD x2 aE.toNat j2).2).1)).bind fun r7=>cond (!r7) (some ((bN,(cL,(br,(br,(c5,(de,())))))),(3:Int))) (cond (bR (List.length x3.1:Int) ((((List.getD x2 aE.toNat j2).2).2).1)) (some ((bN,(cL,(br,(br,(c5,(de,())))))),(3:Int))) (let v8:Int:=W .i64 (0-(((((List.getD x2 aE.toNat j2).2).2).2).1));cond (small (List.length x9+List.length ([((List.getD x2 aE.toNat j2).1,((((List.getD x2 aE.toNat j2).2).2).1,(((((List.getD x2 aE.toNat j2).2).2).2).1,()))),(((List.getD x2 aE.toNat j2).2).1,((((List.getD x2 aE.toNat j2).2).2).1,(v8,())))]))) (cond (aK ((((List.getD x2 aE.toNat j2).2).2).1) (List.length x4.2.2.2.2.1)) ((Sl N (List.getD x2 aE.toNat j2) (List.getD x4.2.2.2.2.1 ((((List.getD x2 aE.toNat j2).2).2).1).toNat (0:Int))).bind fun iX=>cond (small (List.length aR+List.length iX.1)) (n4 x2 x3 x4 x6 (x9++([((List.getD x2 aE.toNat j2).1,((((List.getD x2 aE.toNat j2).2).2).1,(((((List.getD x2 aE.toNat j2).2).2).2).1,()))),(((List.getD x2 aE.toNat j2).2).1,((((List.getD x2 aE.toNat j2).2).2).1,(v8,())))])) (aR++iX.1) (W .i64 (aE+1))) (none)) (none)) (none))))) (none)) ((zS N x4 x9 aR).bind fun nf=>some (nf.1,nf.2))
def fv.ve(N:Nat):Nat→fv.nk
 |0,_,_,_,_,_,_,_=>none
 |n+1,x2,x3,x4,x6,x9,aR,aE=>fv.sy N (fv.ve N n) x2 x3 x4 x6 x9 aR aE
def fv.cT(N:Nat)(Ah:fv.nk)(bD:fv.bb)(x2:bc)(x3:ae)(x4:ah)(x6:ah)(x8:Int):Option (ah×(Int)):=
 cond (aH x8 (List.length x2:Int)) (cond (aK x8 (List.length x2)) ((OO N (List.getD x2 x8.toNat j2)).bind fun r3=>cond (!r3) (some ((bN,(cL,(br,(br,(c5,(de,())))))),(1:Int))) (bD x2 x3 x4 x6 (W .i64 (x8+1)))) (none)) (Ah x2 x3 x4 x6 ([]) ([]) (0:Int))
def fv.l4(N:Nat):Nat→fv.bb
 |0,_,_,_,_,_=>none
 |n+1,x2,x3,x4,x6,x8=>fv.cT N (fv.ve N N) (fv.l4 N n) x2 x3 x4 x6 x8
def fv.b(N:Nat)(dq:fv.bb)(a0:ae)(a1:ah)(a2:bc):Option (ah×(Int)):=
 (bE N a0 a1).bind fun r1=>cond (!r1) (some ((bN,(cL,(br,(br,(c5,(de,())))))),(1:Int))) (cond (aH 200 (List.length a2:Int)) (some ((bN,(cL,(br,(br,(c5,(de,())))))),(1:Int))) (dq a2 a0 a1 (bN,(cL,(br,(br,(c5,(de,())))))) (0:Int)))
def fv(N:Nat)(a0:ae)(a1:ah)(a2:bc):Option (ah×(Int)):=fv.b N (fv.l4 N N) a0 a1 a2
abbrev jf.P3:=ae→ah→fZ→ah→ba→bc→Int→Option (ah×bc×(Int)×(Int))
abbrev jf.Jg:=ae→ah→fZ→ah→Option (ah×bc×(Int)×(Int))
def jf.IW(N:Nat)(x3:ae)(x4:ah)(x5:fZ)(x6:ah)(aJ:ba)(bf:bc)(bo:Int):Option (ah×bc×(Int)×(Int)):=
 (fv N x3 x4 bf).bind fun r6=>cond (!ay r6.2 0) (some ((bN,(cL,(br,(br,(c5,(de,())))))),xQ,(0:Int),r6.2)) (cond (aH 0 bo) (cond (small (List.length aJ+List.length ([(x5.1,(x5.2.1,(x5.2.2.1,(x5.2.2.2.1,(bo,x5.2.2.2.2.2)))))]))) (some ((r6.1.1,(r6.1.2.1,(r6.1.2.2.1,(r6.1.2.2.2.1,(r6.1.2.2.2.2.1,((aJ++([(x5.1,(x5.2.1,(x5.2.2.1,(x5.2.2.2.1,(bo,x5.2.2.2.2.2)))))])),r6.1.2.2.2.2.2.2)))))),bf,bo,(0:Int))) (none)) (some ((r6.1.1,(r6.1.2.1,(r6.1.2.2.1,(r6.1.2.2.2.1,(r6.1.2.2.2.2.1,(aJ,r6.1.2.2.2.2.2.2)))))),bf,bo,(0:Int))))
def jf.Ph(N:Nat)(x3:ae)(x4:ah)(x5:fZ)(x6:ah)(aJ:ba)(bf:bc)(bo:Int):Option (ah×bc×(Int)×(Int)):=jf.IW N x3 x4 x5 x6 aJ bf bo
def jf.Ig(N:Nat)(Ap:jf.P3)(x3:ae)(x4:ah)(x5:fZ)(x6:ah):Option (ah×bc×(Int)×(Int)):=
 (bK N x4.2.2.2.2.2.1 x5).bind fun r4=>cond (aH 0 r4.2.2.1) (cond (ay (List.length r4.1:Int) 32) (some ((bN,(cL,(br,(br,(c5,(de,())))))),xQ,(0:Int),(5:Int))) (Ap x3 x4 x5 x6 r4.1 r4.2.1 r4.2.2.1)) (Ap x3 x4 x5 x6 r4.1 r4.2.1 r4.2.2.1)
def jf.j7(N:Nat)(x3:ae)(x4:ah)(x5:fZ)(x6:ah):Option (ah×bc×(Int)×(Int)):=jf.Ig N (jf.Ph N) x3 x4 x5 x6
def jf.b(N:Nat)(vY:jf.Jg)(a0:ae)(a1:ah)(a2:fZ):Option (ah×bc×(Int)×(Int)):=
 (O2 N a0 a1 a2).bind fun r1=>cond (!ay r1 0) (some ((bN,(cL,(br,(br,(c5,(de,())))))),xQ,(0:Int),r1)) (cond (aH 0 (List.length a1.2.2.2.2.2.1:Int)) (let v2:Int:=W .i64 ((List.length a1.2.2.2.2.2.1:Int)-1);cond (aK v2 (List.length a1.2.2.2.2.2.1)) (cond (bR a2.1 ((List.getD a1.2.2.2.2.2.1 v2.toNat eK).1)) (some ((bN,(cL,(br,(br,(c5,(de,())))))),xQ,(0:Int),(1:Int))) (vY a0 a1 a2 (bN,(cL,(br,(br,(c5,(de,())))))))) (none)) (vY a0 a1 a2 (bN,(cL,(br,(br,(c5,(de,()))))))))
def jf(N:Nat)(a0:ae)(a1:ah)(a2:fZ):Option (ah×bc×(Int)×(Int)):=jf.b N (jf.j7 N) a0 a1 a2
abbrev mW.bl:=ba→Int→Int→ba→Int→Option (ba×(Int))
def mW.du(N:Nat)(bg:mW.bl)(x0:ba)(x1:Int)(x2:Int)(x8:ba)(x9:Int):Option (ba×(Int)):=
 cond (aH x9 (List.length x0:Int)) (cond (aK x9 (List.length x0)) (cond (!ay ((List.getD x0 x9.toNat eK).1) x2) (cond (aK x9 (List.length x0)) (cond (small (List.length x8+List.length ([List.getD x0 x9.toNat eK]))) (bg x0 x1 x2 (x8++([List.getD x0 x9.toNat eK])) (W .i64 (x9+1))) (none)) (none)) (cond (aK x9 (List.length x0)) (cond (!ay (((List.getD x0 x9.toNat eK).2).1) x1) (cond (aK x9 (List.length x0)) (cond (small (List.length x8+List.length ([List.getD x0 x9.toNat eK]))) (bg x0 x1 x2 (x8++([List.getD x0 x9.toNat eK])) (W .i64 (x9+1))) (none)) (none)) (bg x0 x1 x2 x8 (W .i64 (x9+1)))) (none))) (none)) (cond (ay (List.length x8:Int) (List.length x0:Int)) (some ([],(3:Int))) (some (x8,(0:Int))))
def mW.l5(N:Nat):Nat→mW.bl
 |0,_,_,_,_,_=>none
 |n+1,x0,x1,x2,x8,x9=>mW.du N (mW.l5 N n) x0 x1 x2 x8 x9
def mW.b(N:Nat)(dL:mW.bl)(a0:ba)(a1:Int)(a2:Int):Option (ba×(Int)):=
 (jc N a0).bind fun r1=>cond (!r1) (some ([],(1:Int))) (dL a0 a1 a2 ([]) (0:Int))
def mW(N:Nat)(a0:ba)(a1:Int)(a2:Int):Option (ba×(Int)):=mW.b N (mW.l5 N N) a0 a1 a2
abbrev mX.fe:=aj→Int→bk→au→Int→Option (bk×(Int))
def mX.ov(N:Nat)(fR:mX.fe)(x0:aj)(x1:Int)(aR:bk)(aE:au)(aJ:Int):Option (bk×(Int)):=
 cond (aH aJ (List.length x0:Int)) (cond (aK aJ (List.length x0)) (cond (!ay (((List.getD x0 aJ.toNat aW).2).1) x1) (fR x0 x1 aR aE (W .i64 (aJ+1))) ((J7 N aE).bind fun r9=>cond (ay r9 0) (fR x0 x1 aR aE (W .i64 (aJ+1))) (cond (aK aJ (List.length x0)) ((IT N ((List.getD x0 aJ.toNat aW).1)).bind fun kB=>cond (aK aJ (List.length x0)) ((fM N ((((List.getD x0 aJ.toNat aW).2).2).1)).bind fun lA=>(fN N lA aE).bind fun nf=>cond (small (List.length aR+List.length ([(kB.1,(kB.2,(nf,())))]))) (fR x0 x1 (aR++([(kB.1,(kB.2,(nf,())))])) aE (W .i64 (aJ+1))) (none)) (none)) (none)))) (none)) (some (aR,(0:Int)))
def mX.l6(N:Nat):Nat→mX.fe
 |0,_,_,_,_,_=>none
 |n+1,x0,x1,aR,aE,aJ=>mX.ov N (mX.l6 N n) x0 x1 aR aE aJ
def mX.b(N:Nat)(pZ:mX.fe)(a0:aj)(a1:Int)(a2:Int)(a3:Int):Option (bk×(Int)):=
 (tw N a0).bind fun r1=>cond (!r1) (some ([],(1:Int))) ((xx N a2).bind fun r2=>cond (!r2) (some ([],(1:Int))) ((xx N a3).bind fun r3=>cond (!r3) (some ([],(1:Int))) ((fM N a3).bind fun r4=>(fM N a2).bind fun r5=>(Ij N r4 r5).bind fun r6=>pZ a0 a1 ([]) r6 (0:Int))))
def mX(N:Nat)(a0:aj)(a1:Int)(a2:Int)(a3:Int):Option (bk×(Int)):=mX.b N (mX.l6 N N) a0 a1 a2 a3
def SB(N:Nat)(a0:ae)(a1:ah)(a2:Int)(a3:Int):Option (ah×bk×(Int)):=
 (bE N a0 a1).bind fun r1=>cond (!r1) (some ((bN,(cL,(br,(br,(c5,(de,())))))),([]:List ((Int)×((Int)×(((Bool)×((List (Int))×(Unit)))×(Unit))))),(1:Int))) ((xx N a3).bind fun r2=>cond (!r2) (some ((bN,(cL,(br,(br,(c5,(de,())))))),([]:List ((Int)×((Int)×(((Bool)×((List (Int))×(Unit)))×(Unit))))),(1:Int))) (cond (aH a2 0) (some ((bN,(cL,(br,(br,(c5,(de,())))))),([]:List ((Int)×((Int)×(((Bool)×((List (Int))×(Unit)))×(Unit))))),(3:Int))) (cond (bR (List.length a0.1:Int) a2) (some ((bN,(cL,(br,(br,(c5,(de,())))))),([]:List ((Int)×((Int)×(((Bool)×((List (Int))×(Unit)))×(Unit))))),(3:Int))) (cond (aK a2 (List.length a1.2.2.2.2.1)) ((mX N a1.2.2.2.1 a2 (List.getD a1.2.2.2.2.1 a2.toNat (0:Int)) a3).bind fun r3=>(zS N a1 br r3.1).bind fun r4=>cond (!ay r4.2 0) (some ((bN,(cL,(br,(br,(c5,(de,())))))),([]:List ((Int)×((Int)×(((Bool)×((List (Int))×(Unit)))×(Unit))))),r4.2)) (cond (small (List.length c5+List.length a1.2.2.2.2.1)) (let v5:List (Int):=c5++a1.2.2.2.2.1;cond (aK a2 (List.length v5)) (some ((r4.1.1,(r4.1.2.1,(r4.1.2.2.1,(r4.1.2.2.2.1,((List.set v5 a2.toNat a3),r4.1.2.2.2.2.2))))),r3.1,(0:Int))) (none)) (none))) (none)))))
abbrev lK.bY:=ax→Int→Option (Bool)
def lK.ei(N:Nat)(cZ:lK.bY)(x0:ax)(x3:Int):Option (Bool):=
 cond (aH x3 (List.length x0:Int)) (cond (aK x3 (List.length x0)) (cond (aH ((List.getD x0 x3.toNat ch).1) (1:Int)) (some false) (cond (aK x3 (List.length x0)) (cond (aH 24 ((List.getD x0 x3.toNat ch).1)) (some false) (cond (aK x3 (List.length x0)) (cond (ay (((List.getD x0 x3.toNat ch).2).1) (0:Int)) (some false) (cond (aH 0 x3) (cond (aK x3 (List.length x0)) (let v2:Int:=W .i64 (x3-1);cond (aK v2 (List.length x0)) (cond (bR ((List.getD x0 x3.toNat ch).1) ((List.getD x0 v2.toNat ch).1)) (some false) (cZ x0 (W .i64 (x3+1)))) (none)) (none)) (cZ x0 (W .i64 (x3+1))))) (none))) (none))) (none)) (some true)
def lK.l2(N:Nat):Nat→lK.bY
 |0,_,_=>none
 |n+1,x0,x3=>lK.ei N (lK.l2 N n) x0 x3
def lK.b(N:Nat)(fA:lK.bY)(a0:ax):Option (Bool):=
 fA a0 (0:Int)
def lK(N:Nat)(a0:ax):Option (Bool):=lK.b N (lK.l2 N N) a0
abbrev c6.rz:=ax→bk→ax→Int→au→Int→Option (ax×(Int))
abbrev c6.ko:=ax→bk→ax→Int→au→Int→Option (ax×(Int))
abbrev c6.bl:=ax→bk→ax→Int→Option (ax×(Int))
def c6.zJ(N:Nat)(bg:c6.bl)(w7:c6.rz)(x0:ax)(x1:bk)(x6:ax)(x7:Int)(x8:au)(aR:Int):Option (ax×(Int)):=
 cond (aH aR (List.length x1:Int)) (cond (aK aR (List.length x1)) (cond (ay ((List.getD x1 aR.toNat ((0:Int),((0:Int),((false,kX),())))).1) (5:Int)) (cond (aK aR (List.length x1)) (cond (ay (((List.getD x1 aR.toNat ((0:Int),((0:Int),((false,kX),())))).2).1) x7) (cond (aK aR (List.length x1)) ((ud N x8 ((((List.getD x1 aR.toNat ((0:Int),((0:Int),((false,kX),())))).2).2).1)).bind fun r8=>w7 x0 x1 x6 x7 r8 (W .i64 (aR+1))) (none)) (w7 x0 x1 x6 x7 x8 (W .i64 (aR+1)))) (none)) (w7 x0 x1 x6 x7 x8 (W .i64 (aR+1)))) (none)) ((qX N x8).bind fun lA=>cond (!lA.2) (some ([],(2:Int))) (cond (!ay lA.1 0) (cond (small (List.length x6+List.length ([(x7,(lA.1,()))]))) (bg x0 x1 (x6++([(x7,(lA.1,()))])) (W .i64 (x7+1))) (none)) (bg x0 x1 x6 (W .i64 (x7+1)))))
def c6.BZ(N:Nat)(bg:c6.bl):Nat→c6.rz
 |0,_,_,_,_,_,_=>none
 |n+1,x0,x1,x6,x7,x8,aR=>c6.zJ N bg (c6.BZ N bg n) x0 x1 x6 x7 x8 aR
def c6.vb(N:Nat)(Gd:c6.rz)(bg:c6.bl)(oX:c6.ko)(x0:ax)(x1:bk)(x6:ax)(x7:Int)(x8:au)(x9:Int):Option (ax×(Int)):=
 cond (aH x9 (List.length x0:Int)) (cond (aK x9 (List.length x0)) (cond (ay ((List.getD x0 x9.toNat ch).1) x7) (cond (aK x9 (List.length x0)) ((fM N (((List.getD x0 x9.toNat ch).2).1)).bind fun r4=>oX x0 x1 x6 x7 r4 (W .i64 (x9+1))) (none)) (oX x0 x1 x6 x7 x8 (W .i64 (x9+1)))) (none)) (Gd x0 x1 x6 x7 x8 (0:Int))
def c6.l9(N:Nat)(bg:c6.bl):Nat→c6.ko
 |0,_,_,_,_,_,_=>none
 |n+1,x0,x1,x6,x7,x8,x9=>c6.vb N (c6.BZ N bg N) bg (c6.l9 N bg n) x0 x1 x6 x7 x8 x9
def c6.du(N:Nat)(wa:c6.ko)(bg:c6.bl)(x0:ax)(x1:bk)(x6:ax)(x7:Int):Option (ax×(Int)):=
 cond (bR x7 24) (wa x0 x1 x6 x7 (false,kX) (0:Int)) (some (x6,(0:Int)))
def c6.l5(N:Nat):Nat→c6.bl
 |0,_,_,_,_=>none
 |n+1,x0,x1,x6,x7=>c6.du N (c6.l9 N (c6.l5 N n) N) (c6.l5 N n) x0 x1 x6 x7
def c6.b(N:Nat)(dL:c6.bl)(a0:ax)(a1:bk):Option (ax×(Int)):=
 (lK N a0).bind fun r1=>cond (!r1) (some ([],(1:Int))) (dL a0 a1 ([]) (1:Int))
def c6(N:Nat)(a0:ax)(a1:bk):Option (ax×(Int)):=c6.b N (c6.l5 N N) a0 a1
def Mr(N:Nat)(a0:aP)(a1:Int):Option ((Int)×(Bool)):=
 (fM N a0.1).bind fun r1=>(fM N a1).bind fun r2=>(ud N r1 r2).bind fun r3=>(qX N r3).bind fun r4=>some (r4.1,r4.2)
def Sx(N:Nat)(a0:Int)(a1:Int):Option ((Int)×(Bool)):=
 cond (ay a0 0) (cond (ay a1 1) (some ((1:Int),true)) (cond (ay a0 1) (cond (ay a1 11) (some ((2:Int),true)) (cond (ay a0 2) (cond (ay a1 12) (some ((1:Int),true)) (cond (ay a0 2) (cond (ay a1 13) (some ((3:Int),true)) (cond (ay a0 3) (cond (ay a1 21) (some ((4:Int),true)) (some ((0:Int),false))) (some ((0:Int),false)))) (cond (ay a0 3) (cond (ay a1 21) (some ((4:Int),true)) (some ((0:Int),false))) (some ((0:Int),false))))) (cond (ay a0 2) (cond (ay a1 13) (some ((3:Int),true)) (cond (ay a0 3) (cond (ay a1 21) (some ((4:Int),true)) (some ((0:Int),false))) (some ((0:Int),false)))) (cond (ay a0 3) (cond (ay a1 21) (some ((4:Int),true)) (some ((0:Int),false))) (some ((0:Int),false)))))) (cond (ay a0 2) (cond (ay a1 12) (some ((1:Int),true)) (cond (ay a0 2) (cond (ay a1 13) (some ((3:Int),true)) (cond (ay a0 3) (cond (ay a1 21) (some ((4:Int),true)) (some ((0:Int),false))) (some ((0:Int),false)))) (cond (ay a0 3) (cond (ay a1 21) (some ((4:Int),true)) (some ((0:Int),false))) (some ((0:Int),false))))) (cond (ay a0 2) (cond (ay a1 13) (some ((3:Int),true)) (cond (ay a0 3) (cond (ay a1 21) (some ((4:Int),true)) (some ((0:Int),false))) (some ((0:Int),false)))) (cond (ay a0 3) (cond (ay a1 21) (some ((4:Int),true)) (some ((0:Int),false))) (some ((0:Int),false))))))) (cond (ay a0 1) (cond (ay a1 11) (some ((2:Int),true)) (cond (ay a0 2) (cond (ay a1 12) (some ((1:Int),true)) (cond (ay a0 2) (cond (ay a1 13) (some ((3:Int),true)) (cond (ay a0 3) (cond (ay a1 21) (some ((4:Int),true)) (some ((0:Int),false))) (some ((0:Int),false)))) (cond (ay a0 3) (cond (ay a1 21) (some ((4:Int),true)) (some ((0:Int),false))) (some ((0:Int),false))))) (cond (ay a0 2) (cond (ay a1 13) (some ((3:Int),true)) (cond (ay a0 3) (cond (ay a1 21) (some ((4:Int),true)) (some ((0:Int),false))) (some ((0:Int),false)))) (cond (ay a0 3) (cond (ay a1 21) (some ((4:Int),true)) (some ((0:Int),false))) (some ((0:Int),false)))))) (cond (ay a0 2) (cond (ay a1 12) (some ((1:Int),true)) (cond (ay a0 2) (cond (ay a1 13) (some ((3:Int),true)) (cond (ay a0 3) (cond (ay a1 21) (some ((4:Int),true)) (some ((0:Int),false))) (some ((0:Int),false)))) (cond (ay a0 3) (cond (ay a1 21) (some ((4:Int),true)) (some ((0:Int),false))) (some ((0:Int),false))))) (cond (ay a0 2) (cond (ay a1 13) (some ((3:Int),true)) (cond (ay a0 3) (cond (ay a1 21) (some ((4:Int),true)) (some ((0:Int),false))) (some ((0:Int),false)))) (cond (ay a0 3) (cond (ay a1 21) (some ((4:Int),true)) (some ((0:Int),false))) (some ((0:Int),false))))))
abbrev kT.nk:=Int→Int→ax→Int→Option (ax×(Int))
def kT.sy(N:Nat)(n4:kT.nk)(x1:Int)(x9:Int)(aE:ax)(aJ:Int):Option (ax×(Int)):=
 cond (aH aJ (List.length aE:Int)) (cond (aK aJ (List.length aE)) (cond (ay ((List.getD aE aJ.toNat ch).1) x1) (cond (aK aJ (List.length aE)) (n4 x1 x9 (List.set aE aJ.toNat ((List.getD aE aJ.toNat ch).1,(x9,((List.getD aE aJ.toNat ch).2).2))) (W .i64 (aJ+1))) (none)) (n4 x1 x9 aE (W .i64 (aJ+1)))) (none)) (some (aE,(0:Int)))
def kT.ve(N:Nat):Nat→kT.nk
 |0,_,_,_,_=>none
 |n+1,x1,x9,aE,aJ=>kT.sy N (kT.ve N n) x1 x9 aE aJ
def kT.b(N:Nat)(Ah:kT.nk)(a0:ax)(a1:Int)(a2:Int):Option (ax×(Int)):=
 (jR N a0).bind fun r1=>cond (!r1) (some ([],(1:Int))) ((jd N a0 a1).bind fun r2=>cond (ay r2 0) (some ([],(3:Int))) ((Sx N r2 a2).bind fun r3=>cond (!r3.2) (some ([],(8:Int))) (cond (small (List.length bN+List.length a0)) (Ah a1 r3.1 (bN++a0) (0:Int)) (none))))
def kT(N:Nat)(a0:ax)(a1:Int)(a2:Int):Option (ax×(Int)):=kT.b N (kT.ve N N) a0 a1 a2
abbrev mV.bl:=aF→Int→(List (Int))→Int→Option (List (Int))
def mV.du(N:Nat)(bg:mV.bl)(x0:aF)(x1:Int)(x5:List (Int))(x6:Int):Option (List (Int)):=
 cond (aH x6 (List.length x0:Int)) (cond (aK x6 (List.length x0)) (cond (ay (((List.getD x0 x6.toNat aO).2).1) x1) (cond (aK x6 (List.length x0)) (cond (small (List.length x5+List.length ([(List.getD x0 x6.toNat aO).1]))) (bg x0 x1 (x5++([(List.getD x0 x6.toNat aO).1])) (W .i64 (x6+1))) (none)) (none)) (bg x0 x1 x5 (W .i64 (x6+1)))) (none)) (some x5)
def mV.l5(N:Nat):Nat→mV.bl
 |0,_,_,_,_=>none
 |n+1,x0,x1,x5,x6=>mV.du N (mV.l5 N n) x0 x1 x5 x6
def mV.b(N:Nat)(dL:mV.bl)(a0:aF)(a1:Int):Option (List (Int)):=
 (iz N a0).bind fun r1=>cond (!r1) (some ([])) (dL a0 a1 ([]) (0:Int))
def mV(N:Nat)(a0:aF)(a1:Int):Option (List (Int)):=mV.b N (mV.l5 N N) a0 a1
abbrev eU.ko:=ba→(List (Int))→ba→Int→Bool→Int→Option ba
abbrev eU.bl:=ba→(List (Int))→ba→Int→Option ba
def eU.vb(N:Nat)(bg:eU.bl)(oX:eU.ko)(x0:ba)(x1:List (Int))(x5:ba)(x6:Int)(x7:Bool)(x8:Int):Option ba:=
 cond (aH x8 (List.length x1:Int)) (cond (x7) (oX x0 x1 x5 x6 true (W .i64 (x8+1))) (cond (aK x8 (List.length x1)) (cond (aK x6 (List.length x0)) (oX x0 x1 x5 x6 (ay (List.getD x1 x8.toNat (0:Int)) (((List.getD x0 x6.toNat eK).2).1)) (W .i64 (x8+1))) (none)) (none))) (cond (!x7) (cond (aK x6 (List.length x0)) (cond (small (List.length x5+List.length ([List.getD x0 x6.toNat eK]))) (bg x0 x1 (x5++([List.getD x0 x6.toNat eK])) (W .i64 (x6+1))) (none)) (none)) (bg x0 x1 x5 (W .i64 (x6+1))))
def eU.l9(N:Nat)(bg:eU.bl):Nat→eU.ko
 |0,_,_,_,_,_,_=>none
 |n+1,x0,x1,x5,x6,x7,x8=>eU.vb N bg (eU.l9 N bg n) x0 x1 x5 x6 x7 x8
def eU.du(N:Nat)(wa:eU.ko)(bg:eU.bl)(x0:ba)(x1:List (Int))(x5:ba)(x6:Int):Option ba:=
 cond (aH x6 (List.length x0:Int)) (wa x0 x1 x5 x6 false (0:Int)) (some x5)
def eU.l5(N:Nat):Nat→eU.bl
 |0,_,_,_,_=>none
 |n+1,x0,x1,x5,x6=>eU.du N (eU.l9 N (eU.l5 N n) N) (eU.l5 N n) x0 x1 x5 x6
def eU.b(N:Nat)(dL:eU.bl)(a0:ba)(a1:List (Int)):Option ba:=
 (jc N a0).bind fun r1=>cond (!r1) (some ([])) (dL a0 a1 ([]) (0:Int))
def eU(N:Nat)(a0:ba)(a1:List (Int)):Option ba:=eU.b N (eU.l5 N N) a0 a1
def Md(N:Nat)(a0:ae)(a1:ah)(a2:Int):Option (ah×(Int)):=
 (bE N a0 a1).bind fun r1=>cond (!r1) (some ((bN,(cL,(br,(br,(c5,(de,())))))),(1:Int))) ((uq N a1.1 a2).bind fun r2=>cond (ay r2 0) (some ((bN,(cL,(br,(br,(c5,(de,())))))),(3:Int))) ((mV N a1.2.1 a2).bind fun r3=>(eU N a1.2.2.2.2.2.1 r3).bind fun r4=>some ((a1.1,(a1.2.1,(a1.2.2.1,(a1.2.2.2.1,(a1.2.2.2.2.1,(r4,a1.2.2.2.2.2.2)))))),(0:Int))))
def Ou(N:Nat)(a0:bQ):Option (Bool):=
 cond (bR 1 a0.1) (cond (bR a0.1 1099511627776) (cond (bR 1 a0.2.1) (cond (bR a0.2.1 1099511627776) (cond (bR 1 a0.2.2.1) (cond (bR a0.2.2.1 12) (cond (bR (-1152921504606846976) a0.2.2.2.1) (some (bR a0.2.2.2.1 1152921504606846976)) (some false)) (some false)) (some false)) (some false)) (some false)) (some false)) (some false)
abbrev cY.ko:=aF→Int→Int→Option (Bool)
abbrev cY.Jh:=aF→Int→Option (Bool)
abbrev cY.bb:=aF→Int→Option (Bool)
def cY.vb(N:Nat)(bD:cY.bb)(oX:cY.ko)(x0:aF)(x3:Int)(x4:Int):Option (Bool):=
 cond (aH x4 x3) (cond (aK x4 (List.length x0)) (cond (aK x3 (List.length x0)) (cond (ay ((((List.getD x0 x4.toNat aO).2).2).1) ((((List.getD x0 x3.toNat aO).2).2).1)) (cond (aK x4 (List.length x0)) (cond (aK x3 (List.length x0)) (cond (ay (((List.getD x0 x4.toNat aO).2).1) (((List.getD x0 x3.toNat aO).2).1)) (some false) (oX x0 x3 (W .i64 (x4+1)))) (none)) (none)) (oX x0 x3 (W .i64 (x4+1)))) (none)) (none)) (bD x0 (W .i64 (x3+1)))
def cY.l9(N:Nat)(bD:cY.bb):Nat→cY.ko
 |0,_,_,_=>none
 |n+1,x0,x3,x4=>cY.vb N bD (cY.l9 N bD n) x0 x3 x4
def cY.HH(N:Nat)(wa:cY.ko)(bD:cY.bb)(x0:aF)(x3:Int):Option (Bool):=
 wa x0 x3 (0:Int)
def cY.j8(N:Nat)(bD:cY.bb)(x0:aF)(x3:Int):Option (Bool):=cY.HH N (cY.l9 N bD N) bD x0 x3
def cY.cT(N:Nat)(Ae:cY.Jh)(bD:cY.bb)(x0:aF)(x3:Int):Option (Bool):=
 cond (aH x3 (List.length x0:Int)) (cond (aK x3 (List.length x0)) ((Ou N (List.getD x0 x3.toNat aO)).bind fun r2=>cond (!r2) (some false) (cond (aH 0 x3) (cond (aK x3 (List.length x0)) (let v3:Int:=W .i64 (x3-1);cond (aK v3 (List.length x0)) (cond (bR ((List.getD x0 x3.toNat aO).1) ((List.getD x0 v3.toNat aO).1)) (some false) (Ae x0 x3)) (none)) (none)) (Ae x0 x3))) (none)) (some true)
def cY.l4(N:Nat):Nat→cY.bb
 |0,_,_=>none
 |n+1,x0,x3=>cY.cT N (cY.j8 N (cY.l4 N n)) (cY.l4 N n) x0 x3
def cY.b(N:Nat)(dq:cY.bb)(a0:aF):Option (Bool):=
 cond (aH 40 (List.length a0:Int)) (some false) (dq a0 (0:Int))
def cY(N:Nat)(a0:aF):Option (Bool):=cY.b N (cY.l4 N N) a0
abbrev ll.bl:=aF→Int→aF→Int→Option aF
def ll.du(N:Nat)(bg:ll.bl)(x0:aF)(x1:Int)(x5:aF)(x6:Int):Option aF:=
 cond (aH x6 (List.length x0:Int)) (cond (aK x6 (List.length x0)) (cond (!ay ((((List.getD x0 x6.toNat aO).2).2).1) x1) (cond (aK x6 (List.length x0)) (cond (small (List.length x5+List.length ([List.getD x0 x6.toNat aO]))) (bg x0 x1 (x5++([List.getD x0 x6.toNat aO])) (W .i64 (x6+1))) (none)) (none)) (bg x0 x1 x5 (W .i64 (x6+1)))) (none)) (some x5)
def ll.l5(N:Nat):Nat→ll.bl
 |0,_,_,_,_=>none
 |n+1,x0,x1,x5,x6=>ll.du N (ll.l5 N n) x0 x1 x5 x6
def ll.b(N:Nat)(dL:ll.bl)(a0:aF)(a1:Int):Option aF:=
 (cY N a0).bind fun r1=>cond (!r1) (some ([])) (dL a0 a1 ([]) (0:Int))
def ll(N:Nat)(a0:aF)(a1:Int):Option aF:=ll.b N (ll.l5 N N) a0 a1
def SS(N:Nat)(a0:aP)(a1:Int):Option (Bool):=
 cond (ay a1 14) (cond (ay a0.2.2.2.1.2.1 1) (some (aH a0.1 a0.2.2.2.1.2.2.1)) (some false)) (cond (ay a1 15) (cond (ay a0.2.2.2.1.2.1 1) (some (bR a0.2.2.2.1.2.2.1 a0.1)) (some false)) (cond (ay a1 19) (cond (ay a0.2.2.2.1.2.1 3) (some (aH a0.1 a0.2.2.2.1.2.2.1)) (some false)) (cond (ay a1 20) (cond (ay a0.2.2.2.1.2.1 3) (some (bR a0.2.2.2.1.2.2.1 a0.1)) (some false)) (some (ay a0.2.2.2.1.2.1 2)))))
def Du(N:Nat)(a0:ah)(a1:Int):Option (Int):=
 (uq N a0.1 a1).bind fun r1=>some r1
abbrev ln.bl:=ax→Bool→ae→au→au→Int→Option (au×(Int))
def ln.du(N:Nat)(bg:ln.bl)(x1:ax)(x2:Bool)(x3:ae)(x6:au)(x8:au)(x9:Int):Option (au×(Int)):=
 cond (aH x9 (List.length x1:Int)) (cond (aK x9 (List.length x1)) (cond (aK ((List.getD x1 x9.toNat ch).1) (List.length x3.1)) (cond (x2) (cond (aK x9 (List.length x1)) (cond (aK ((List.getD x1 x9.toNat ch).1) (List.length x3.1)) (cond (aK x9 (List.length x1)) ((fM N (((List.getD x1 x9.toNat ch).2).1)).bind fun r3=>(HF N r3).bind fun r4=>(fM N (((((List.getD x3.1 ((List.getD x1 x9.toNat ch).1).toNat aO).2).2).2).1)).bind fun r5=>(fN N r4 r5).bind fun r6=>(ud N x8 r6).bind fun r7=>bg x1 x2 x3 x6 r7 (W .i64 (x9+1))) (none)) (none)) (none)) (cond (aK x9 (List.length x1)) ((fM N (((List.getD x1 x9.toNat ch).2).1)).bind fun r9=>(HF N r9).bind fun iX=>(fM N ((((List.getD x3.1 ((List.getD x1 x9.toNat ch).1).toNat aO).2).2).1)).bind fun kB=>(fN N iX kB).bind fun lA=>(ud N x8 lA).bind fun nf=>bg x1 x2 x3 x6 nf (W .i64 (x9+1))) (none))) (none)) (none)) (some (x8,(0:Int)))
def ln.l5(N:Nat):Nat→ln.bl
 |0,_,_,_,_,_,_=>none
 |n+1,x1,x2,x3,x6,x8,x9=>ln.du N (ln.l5 N n) x1 x2 x3 x6 x8 x9
def ln.b(N:Nat)(dL:ln.bl)(a0:ae)(a1:ax)(a2:Bool):Option (au×(Int)):=
 (jy N a0 a1).bind fun r1=>cond (!r1) (some ((false,kX),(1:Int))) (dL a1 a2 a0 (false,kX) (false,kX) (0:Int))
def ln(N:Nat)(a0:ae)(a1:ax)(a2:Bool):Option (au×(Int)):=ln.b N (ln.l5 N N) a0 a1 a2
def ZU(N:Nat)(a0:ae)(a1:ax):Option (au×(Int)):=
 (ln N a0 a1 false).bind fun r1=>some (r1.1,r1.2)
def IY(N:Nat)(a0:ah)(a1:Int):Option (Int):=
 (qv N a0.2.2.1 (5:Int) a1).bind fun r1=>some r1
def SF(N:Nat)(a0:ae)(a1:ah)(a2:Int)(a3:Int)(a4:Int):Option (Int):=
 (bE N a0 a1).bind fun r1=>cond (!r1) (some (1:Int)) ((zk N a1.2.1 a4).bind fun r2=>cond (!r2.2) (some (3:Int)) ((Du N a1 a2).bind fun r3=>cond (ay r3 0) (some (3:Int)) ((Du N a1 a3).bind fun r4=>cond (ay r4 0) (some (3:Int)) (cond (!ay r2.1.2.1 a2) (some (8:Int)) (cond (!ay r2.1.2.2.1 2) (some (8:Int)) ((Du N a1 a3).bind fun r5=>cond (!ay r5 1) (some (7:Int)) ((sL N a1.2.2.2.1 a4).bind fun r6=>(ZU N a0 r6).bind fun r7=>(IY N a1 a4).bind fun r8=>(fM N r8).bind fun r9=>(CY N r9 r7.1).bind fun iX=>cond (aH iX 0) (some (10:Int)) (some (0:Int)))))))))
abbrev mU.dv:=Int→Int→aF→Int→Option (aF×(Int))
def mU.il(N:Nat)(eu:mU.dv)(x2:Int)(x3:Int)(bf:aF)(bo:Int):Option (aF×(Int)):=
 cond (aH bo (List.length bf:Int)) (cond (aK bo (List.length bf)) (cond (ay ((List.getD bf bo.toNat aO).1) x2) (cond (aK bo (List.length bf)) (eu x2 x3 (List.set bf bo.toNat ((List.getD bf bo.toNat aO).1,(x3,((List.getD bf bo.toNat aO).2).2))) (W .i64 (bo+1))) (none)) (eu x2 x3 bf (W .i64 (bo+1)))) (none)) (some (bf,(0:Int)))
def mU.jB(N:Nat):Nat→mU.dv
 |0,_,_,_,_=>none
 |n+1,x2,x3,bf,bo=>mU.il N (mU.jB N n) x2 x3 bf bo
def mU.b(N:Nat)(ni:mU.dv)(a0:ax)(a1:aF)(a2:Int)(a3:Int):Option (aF×(Int)):=
 (kj N a0 a1).bind fun r1=>cond (!r1) (some ([],(1:Int))) ((jT N a1 a2).bind fun r2=>(jd N a0 a3).bind fun r3=>cond (!r2.2) (some ([],(3:Int))) (cond (ay r3 0) (some ([],(3:Int))) (cond (!ay r2.1.2.2.1 2) (some ([],(8:Int))) (cond (!ay r3 1) (some ([],(7:Int))) (cond (small (List.length cL+List.length a1)) (ni a2 a3 (cL++a1) (0:Int)) (none))))))
def mU(N:Nat)(a0:ax)(a1:aF)(a2:Int)(a3:Int):Option (aF×(Int)):=mU.b N (mU.jB N N) a0 a1 a2 a3
def SE(N:Nat)(a0:ae)(a1:ah)(a2:Int)(a3:Int)(a4:Int):Option (ah×(Int)):=
 (SF N a0 a1 a2 a3 a4).bind fun r1=>cond (!ay r1 0) (some ((bN,(cL,(br,(br,(c5,(de,())))))),r1)) ((mU N a1.1 a1.2.1 a4 a3).bind fun r2=>cond (!ay r2.2 0) (some ((bN,(cL,(br,(br,(c5,(de,())))))),r2.2)) (some ((a1.1,(r2.1,a1.2.2)),(0:Int))))
def Pq(N:Nat)(a0:ae)(a1:ax):Option (au×(Int)):=
 (ln N a0 a1 true).bind fun r1=>some (r1.1,r1.2)
def SO(N:Nat)(a0:ae)(a1:ah)(a2:Int):Option ((Int)×(Int)):=
 (bE N a0 a1).bind fun r1=>cond (!r1) (some ((0:Int),(1:Int))) ((zk N a1.2.1 a2).bind fun r2=>cond (!r2.2) (some ((0:Int),(3:Int))) ((sL N a1.2.2.2.1 a2).bind fun r3=>(Pq N a0 r3).bind fun r4=>(IY N a1 a2).bind fun r5=>cond (bR r5 0) (some ((0:Int),(0:Int))) ((qX N r4.1).bind fun r6=>cond (r6.2) (cond (aH r6.1 r5) (some (r6.1,(0:Int))) (some (r5,(0:Int)))) (some (r5,(0:Int))))))
abbrev lM.bl:=aj→Int→Int→aj→Int→Option aj
def lM.du(N:Nat)(bg:lM.bl)(x0:aj)(x1:Int)(x2:Int)(x7:aj)(x8:Int):Option aj:=
 cond (aH x8 (List.length x0:Int)) (cond (aK x8 (List.length x0)) (cond (ay ((List.getD x0 x8.toNat aW).1) x1) (cond (aK x8 (List.length x0)) (cond (aK x8 (List.length x0)) (let v3:Int:=W .i64 (0-((((List.getD x0 x8.toNat aW).2).2).1));cond (aK x8 (List.length x0)) (cond (aK x8 (List.length x0)) (cond (small (List.length x7+List.length ([(x1,(((List.getD x0 x8.toNat aW).2).1,(v3,()))),(x2,(((List.getD x0 x8.toNat aW).2).1,((((List.getD x0 x8.toNat aW).2).2).1,())))]))) (bg x0 x1 x2 (x7++([(x1,(((List.getD x0 x8.toNat aW).2).1,(v3,()))),(x2,(((List.getD x0 x8.toNat aW).2).1,((((List.getD x0 x8.toNat aW).2).2).1,())))])) (W .i64 (x8+1))) (none)) (none)) (none)) (none)) (none)) (bg x0 x1 x2 x7 (W .i64 (x8+1)))) (none)) (some x7)
def lM.l5(N:Nat):Nat→lM.bl
 |0,_,_,_,_,_=>none
 |n+1,x0,x1,x2,x7,x8=>lM.du N (lM.l5 N n) x0 x1 x2 x7 x8
def lM.b(N:Nat)(dL:lM.bl)(a0:aj)(a1:Int)(a2:Int):Option aj:=
 (tw N a0).bind fun r1=>cond (!r1) (some ([])) (cond (ay a1 a2) (some ([])) (cond (aH a1 0) (some ([])) (cond (aH 24 a1) (some ([])) (cond (aH a2 0) (some ([])) (cond (aH 24 a2) (some ([])) (dL a0 a1 a2 ([]) (0:Int)))))))
def lM(N:Nat)(a0:aj)(a1:Int)(a2:Int):Option aj:=lM.b N (lM.l5 N N) a0 a1 a2
abbrev fI.An:=Int→ae→ah→ah→aj→bk→Int→bQ→Option (ah×(Int))
abbrev fI.fB:=Int→ae→ah→ah→aj→bk→Int→Option (ah×(Int))
def fI.tk(N:Nat)(dG:fI.fB)(x2:Int)(x3:ae)(x4:ah)(x6:ah)(x8:aj)(x9:bk)(aR:Int)(aE:bQ):Option (ah×(Int)):=
 (IY N x4 aE.1).bind fun iX=>cond (aH iX 0) ((fM N iX).bind fun kB=>(MS N kB).bind fun lA=>(zV N (2:Int) (0:Int) (5:Int) aE.1 lA).bind fun nf=>cond (small (List.length x9+List.length nf)) ((lM N x4.2.2.2.1 aE.1 (0:Int)).bind fun sN=>cond (small (List.length x8+List.length sN)) (dG x2 x3 x4 x6 (x8++sN) (x9++nf) (W .i64 (aR+1))) (none)) (none)) ((lM N x4.2.2.2.1 aE.1 (0:Int)).bind fun vg=>cond (small (List.length x8+List.length vg)) (dG x2 x3 x4 x6 (x8++vg) x9 (W .i64 (aR+1))) (none))
def fI.Bc(N:Nat)(dG:fI.fB)(x2:Int)(x3:ae)(x4:ah)(x6:ah)(x8:aj)(x9:bk)(aR:Int)(aE:bQ):Option (ah×(Int)):=fI.tk N dG x2 x3 x4 x6 x8 x9 aR aE
def fI.yb(N:Nat)(qf:fI.An)(dG:fI.fB)(x2:Int)(x3:ae)(x4:ah)(x6:ah)(x8:aj)(x9:bk)(aR:Int):Option (ah×(Int)):=
 cond (aH aR (List.length x4.2.1:Int)) (cond (aK aR (List.length x4.2.1)) (cond (!ay (((List.getD x4.2.1 aR.toNat aO).2).1) x2) (dG x2 x3 x4 x6 x8 x9 (W .i64 (aR+1))) (cond (ay ((((List.getD x4.2.1 aR.toNat aO).2).2).1) (2:Int)) ((SO N x3 x4 ((List.getD x4.2.1 aR.toNat aO).1)).bind fun r5=>(fM N r5.1).bind fun r6=>(zV N (5:Int) ((List.getD x4.2.1 aR.toNat aO).1) (2:Int) (0:Int) r6).bind fun r7=>cond (small (List.length x9+List.length r7)) (qf x2 x3 x4 x6 x8 (x9++r7) aR (List.getD x4.2.1 aR.toNat aO)) (none)) (qf x2 x3 x4 x6 x8 x9 aR (List.getD x4.2.1 aR.toNat aO)))) (none)) ((zS N x4 x8 x9).bind fun Cd=>some (Cd.1,Cd.2))
def fI.l8(N:Nat):Nat→fI.fB
 |0,_,_,_,_,_,_,_=>none
 |n+1,x2,x3,x4,x6,x8,x9,aR=>fI.yb N (fI.Bc N (fI.l8 N n)) (fI.l8 N n) x2 x3 x4 x6 x8 x9 aR
def fI.b(N:Nat)(Am:fI.fB)(a0:ae)(a1:ah)(a2:Int):Option (ah×(Int)):=
 (bE N a0 a1).bind fun r1=>cond (!r1) (some ((bN,(cL,(br,(br,(c5,(de,())))))),(1:Int))) ((Du N a1 a2).bind fun r2=>cond (ay r2 0) (some ((bN,(cL,(br,(br,(c5,(de,())))))),(3:Int))) (Am a2 a0 a1 (bN,(cL,(br,(br,(c5,(de,())))))) ([]) ([]) (0:Int)))
def fI(N:Nat)(a0:ae)(a1:ah)(a2:Int):Option (ah×(Int)):=fI.b N (fI.l8 N N) a0 a1 a2
abbrev uH.bb:=aj→Int→Int→Int→Option (Int)
def uH.cT(N:Nat)(bD:uH.bb)(x0:aj)(x1:Int)(x2:Int)(x7:Int):Option (Int):=
 cond (aH x7 (List.length x0:Int)) (cond (aK x7 (List.length x0)) (cond (ay ((List.getD x0 x7.toNat aW).1) x1) (cond (aK x7 (List.length x0)) (cond (ay (((List.getD x0 x7.toNat aW).2).1) x2) (cond (aK x7 (List.length x0)) (some ((((List.getD x0 x7.toNat aW).2).2).1)) (none)) (bD x0 x1 x2 (W .i64 (x7+1)))) (none)) (bD x0 x1 x2 (W .i64 (x7+1)))) (none)) (some (0:Int))
def uH.l4(N:Nat):Nat→uH.bb
 |0,_,_,_,_=>none
 |n+1,x0,x1,x2,x7=>uH.cT N (uH.l4 N n) x0 x1 x2 x7
def uH.b(N:Nat)(dq:uH.bb)(a0:aj)(a1:Int)(a2:Int):Option (Int):=
 (tw N a0).bind fun r1=>cond (!r1) (some (0:Int)) (dq a0 a1 a2 (0:Int))
def uH(N:Nat)(a0:aj)(a1:Int)(a2:Int):Option (Int):=uH.b N (uH.l4 N N) a0 a1 a2
abbrev mQ.bl:=ae→ah→kS→Int→Option (kS×(Int))
def mQ.du(N:Nat)(bg:mQ.bl)(x2:ae)(x3:ah)(x6:kS)(x7:Int):Option (kS×(Int)):=
 cond (aH x7 (List.length x2.1:Int)) (cond (aK x7 (List.length x2.1)) (cond (aK ((List.getD x2.1 x7.toNat aO).1) (List.length x6)) ((uH N x3.2.2.2.1 (0:Int) x7).bind fun r4=>(fM N r4).bind fun r5=>cond (aK x7 (List.length x3.2.2.2.2.1)) ((fM N (List.getD x3.2.2.2.2.1 x7.toNat (0:Int))).bind fun r6=>(fN N r5 r6).bind fun r7=>(ud N (List.getD x6 ((List.getD x2.1 x7.toNat aO).1).toNat (false,kX)) r7).bind fun r8=>cond (aK ((List.getD x2.1 x7.toNat aO).1) (List.length x6)) (bg x2 x3 (List.set x6 ((List.getD x2.1 x7.toNat aO).1).toNat r8) (W .i64 (x7+1))) (none)) (none)) (none)) (none)) (some (x6,(0:Int)))
def mQ.l5(N:Nat):Nat→mQ.bl
 |0,_,_,_,_=>none
 |n+1,x2,x3,x6,x7=>mQ.du N (mQ.l5 N n) x2 x3 x6 x7
def mQ.b(N:Nat)(dL:mQ.bl)(a0:ae)(a1:ah):Option (kS×(Int)):=
 (bE N a0 a1).bind fun r1=>cond (!r1) (some ([],(1:Int))) (cond (dX 4 4) (dL a0 a1 (List.replicate (4:Int).toNat (false,kX)) (0:Int)) (none))
def mQ(N:Nat)(a0:ae)(a1:ah):Option (kS×(Int)):=mQ.b N (mQ.l5 N N) a0 a1
abbrev wV.bl:=Int→ae→(List (Int))→Int→Option (List (Int))
def wV.du(N:Nat)(bg:wV.bl)(x1:Int)(x2:ae)(x5:List (Int))(x6:Int):Option (List (Int)):=
 cond (aH x6 (List.length x2.1:Int)) (cond (aK x6 (List.length x2.1)) (cond (ay ((List.getD x2.1 x6.toNat aO).1) x1) (cond (small (List.length x5+List.length ([x6]))) (bg x1 x2 (x5++([x6])) (W .i64 (x6+1))) (none)) (bg x1 x2 x5 (W .i64 (x6+1)))) (none)) (some x5)
def wV.l5(N:Nat):Nat→wV.bl
 |0,_,_,_,_=>none
 |n+1,x1,x2,x5,x6=>wV.du N (wV.l5 N n) x1 x2 x5 x6
def wV.b(N:Nat)(dL:wV.bl)(a0:ae)(a1:Int):Option (List (Int)):=
 (iG N a0).bind fun r1=>cond (!r1) (some ([])) (dL a1 a0 ([]) (0:Int))
def wV(N:Nat)(a0:ae)(a1:Int):Option (List (Int)):=wV.b N (wV.l5 N N) a0 a1
abbrev ld.bb:=(List (Int))→(List (Int))→Int→Int→Option ((List (Int))×(Int))
def ld.cT(N:Nat)(bD:ld.bb)(x0:List (Int))(x4:List (Int))(x5:Int)(x6:Int):Option ((List (Int))×(Int)):=
 cond (bR 0 x6) (cond (aH 32 0) (none) (cond (aK x6 (List.length x0)) (let v5:Int:=iZ .or .u64 (W .u64 (shl .u64 x5 32)) (List.getD x0 x6.toNat (0:Int));cond (aH 1 0) (none) (cond (aK x6 (List.length x4)) (bD x0 (List.set x4 x6.toNat (shr .u64 v5 1)) (iZ .and .u64 v5 1) (W .i64 (x6-1))) (none))) (none))) ((kf N x4).bind fun iX=>some (iX,x5))
def ld.l4(N:Nat):Nat→ld.bb
 |0,_,_,_,_=>none
 |n+1,x0,x4,x5,x6=>ld.cT N (ld.l4 N n) x0 x4 x5 x6
def ld.b(N:Nat)(dq:ld.bb)(a0:List (Int)):Option ((List (Int))×(Int)):=
 cond (dX (List.length a0:Int) (List.length a0:Int)) (dq a0 (List.replicate (List.length a0:Int).toNat (0:Int)) (0:Int) (W .i64 ((List.length a0:Int)-1))) (none)
def ld(N:Nat)(a0:List (Int)):Option ((List (Int))×(Int)):=ld.b N (ld.l4 N N) a0
abbrev eS.ko:=au→au→au→au→(List (Int))→au→au→Int→Option (au×au)
abbrev eS.cg:=au→au→au→au→(List (Int))→(List (Int))→Option (au×au)
def eS.vb(N:Nat)(oX:eS.ko)(x2:au)(x3:au)(x4:au)(x5:au)(x6:List (Int))(aR:au)(aE:au)(aJ:Int):Option (au×au):=
 cond (bR 0 aJ) ((ud N aR aR).bind fun r6=>(ud N aE aE).bind fun r7=>cond (aK aJ (List.length x6)) (cond (ay (List.getD x6 aJ.toNat (0:Int)) (1:Int)) ((fM N (1:Int)).bind fun r8=>(ud N r7 r8).bind fun r9=>(CY N r9 x3).bind fun iX=>cond (bR 0 iX) ((Ij N r9 x3).bind fun kB=>(fM N (1:Int)).bind fun lA=>(ud N r6 lA).bind fun nf=>oX x2 x3 x4 x5 x6 nf kB (W .i64 (aJ-1))) (oX x2 x3 x4 x5 x6 r6 r9 (W .i64 (aJ-1)))) ((CY N r7 x3).bind fun vZ=>cond (bR 0 vZ) ((Ij N r7 x3).bind fun vf=>(fM N (1:Int)).bind fun vg=>(ud N r6 vg).bind fun Ge=>oX x2 x3 x4 x5 x6 Ge vf (W .i64 (aJ-1))) (oX x2 x3 x4 x5 x6 r6 r7 (W .i64 (aJ-1))))) (none)) (cond (!x2.1) (some (aR,aE)) ((J7 N aE).bind fun HM=>cond (ay HM 0) ((MS N aR).bind fun Aa=>some (Aa,aE)) ((MS N aR).bind fun Ci=>(fM N (1:Int)).bind fun Cj=>(Ij N Ci Cj).bind fun vh=>(Ij N x3 aE).bind fun Ji=>some (vh,Ji))))
def eS.l9(N:Nat):Nat→eS.ko
 |0,_,_,_,_,_,_,_,_=>none
 |n+1,x2,x3,x4,x5,x6,aR,aE,aJ=>eS.vb N (eS.l9 N n) x2 x3 x4 x5 x6 aR aE aJ
def eS.ix(N:Nat)(wa:eS.ko)(bV:eS.cg)(x2:au)(x3:au)(x4:au)(x5:au)(x6:List (Int))(x7:List (Int)):Option (au×au):=
 cond (aH 0 (List.length x7:Int)) ((ld N x7).bind fun r2=>cond (small (List.length x6+List.length ([r2.2]))) (bV x2 x3 x4 x5 (x6++([r2.2])) r2.1) (none)) (wa x2 x3 x4 x5 x6 (false,kX) (false,kX) (W .i64 ((List.length x6:Int)-1)))
def eS.l3(N:Nat):Nat→eS.cg
 |0,_,_,_,_,_,_=>none
 |n+1,x2,x3,x4,x5,x6,x7=>eS.ix N (eS.l9 N N) (eS.l3 N n) x2 x3 x4 x5 x6 x7
def eS.b(N:Nat)(iM:eS.cg)(a0:au)(a1:au):Option (au×au):=
 iM a0 a1 (false,kX) (false,kX) ([]) a0.2.1
def eS(N:Nat)(a0:au)(a1:au):Option (au×au):=eS.b N (eS.l3 N N) a0 a1
abbrev pR.An:=Int→ae→ah→kS→aF→Int→(List (Int))→Int→Option (aF×(Int))
abbrev pR.fe:=Int→ae→ah→kS→aF→Int→Option (aF×(Int))
def pR.tk(N:Nat)(fR:pR.fe)(x2:Int)(x3:ae)(x4:ah)(x8:kS)(aR:aF)(aE:Int)(aJ:List (Int))(cq:Int):Option (aF×(Int)):=
 cond (ay cq 0) (fR x2 x3 x4 x8 aR (W .i64 (aE+1))) (cond (aK 0 (List.length aJ)) (cond (aK aE (List.length x8)) ((J7 N (List.getD x8 aE.toNat (false,kX))).bind fun ow=>cond (aH 0 ow) (cond (small (List.length aR+List.length ([(x2,(List.getD aJ (0:Int).toNat (0:Int),((2:Int),(cq,()))))]))) (fR (W .i64 (x2+1)) x3 x4 x8 (aR++([(x2,(List.getD aJ (0:Int).toNat (0:Int),((2:Int),(cq,()))))])) (W .i64 (aE+1))) (none)) (cond (small (List.length aR+List.length ([(x2,(List.getD aJ (0:Int).toNat (0:Int),((1:Int),(cq,()))))]))) (fR (W .i64 (x2+1)) x3 x4 x8 (aR++([(x2,(List.getD aJ (0:Int).toNat (0:Int),((1:Int),(cq,()))))])) (W .i64 (aE+1))) (none))) (none)) (none))
def pR.Bc(N:Nat)(fR:pR.fe)(x2:Int)(x3:ae)(x4:ah)(x8:kS)(aR:aF)(aE:Int)(aJ:List (Int))(cq:Int):Option (aF×(Int)):=pR.tk N fR x2 x3 x4 x8 aR aE aJ cq
def pR.ov(N:Nat)(qf:pR.An)(fR:pR.fe)(x2:Int)(x3:ae)(x4:ah)(x8:kS)(aR:aF)(aE:Int):Option (aF×(Int)):=
 cond (aH aE 4) ((wV N x3 aE).bind fun r3=>cond (aK aE (List.length x8)) ((HF N (List.getD x8 aE.toNat (false,kX))).bind fun r4=>cond (ay (List.length r3:Int) 0) (fR x2 x3 x4 x8 aR (W .i64 (aE+1))) ((fM N x3.2.2.2.2.2.2.1).bind fun r6=>(CY N r4 r6).bind fun r7=>cond (bR r7 0) (fR x2 x3 x4 x8 aR (W .i64 (aE+1))) (cond (aK 0 (List.length r3)) (cond (aK (List.getD r3 (0:Int).toNat (0:Int)) (List.length x4.2.2.2.2.1)) ((fM N (List.getD x4.2.2.2.2.1 (List.getD r3 (0:Int).toNat (0:Int)).toNat (0:Int))).bind fun r9=>(eS N r4 r9).bind fun iX=>(qX N iX.1).bind fun kB=>cond (!kB.2) (qf x2 x3 x4 x8 aR aE r3 (1000000000:Int)) (cond (aH 1000000000 kB.1) (qf x2 x3 x4 x8 aR aE r3 (1000000000:Int)) (qf x2 x3 x4 x8 aR aE r3 kB.1))) (none)) (none)))) (none)) (some (aR,(0:Int)))
def pR.l6(N:Nat):Nat→pR.fe
 |0,_,_,_,_,_,_=>none
 |n+1,x2,x3,x4,x8,aR,aE=>pR.ov N (pR.Bc N (pR.l6 N n)) (pR.l6 N n) x2 x3 x4 x8 aR aE
def pR.b(N:Nat)(pZ:pR.fe)(a0:ae)(a1:ah)(a2:Int):Option (aF×(Int)):=
 (mQ N a0 a1).bind fun r1=>cond (!ay r1.2 0) (some ([],(1:Int))) (cond (aH a2 1) (some ([],(1:Int))) (cond (aH 1099511627772 a2) (some ([],(1:Int))) (pZ a2 a0 a1 r1.1 ([]) (0:Int))))
def pR(N:Nat)(a0:ae)(a1:ah)(a2:Int):Option (aF×(Int)):=pR.b N (pR.l6 N N) a0 a1 a2
def Sh(N:Nat)(a0:bQ):Option (Bool):=
 cond (bR 1 a0.1) (cond (bR a0.1 1099511627776) (cond (bR 0 a0.2.1) (cond (aH a0.2.1 6) (cond (ay a0.2.2.1 1) (cond (bR 1 a0.2.2.2.1) (some (bR a0.2.2.2.1 1000000000)) (some false)) (cond (ay a0.2.2.1 2) (cond (bR 1 a0.2.2.2.1) (some (bR a0.2.2.2.1 1000000000)) (some false)) (some false))) (some false)) (some false)) (some false)) (some false)
abbrev pS.aft:=Int→ae→ah→bQ→ah→bQ→uI→Option (ah×bQ×(Int))
def pS.ZO(N:Nat)(x4:Int)(x6:ae)(x7:ah)(x8:bQ)(aJ:ah)(bf:bQ)(cM:uI):Option (ah×bQ×(Int)):=
 (fv N x6 x7 ([cM])).bind fun r6=>cond (!ay r6.2 0) (some ((bN,(cL,(br,(br,(c5,(de,())))))),aO,r6.2)) (some (r6.1,(x8.1,(x8.2.1,(x8.2.2.1,((W .i64 (x8.2.2.2.1-x4)),x8.2.2.2.2)))),(0:Int)))
def pS.j14(N:Nat)(x4:Int)(x6:ae)(x7:ah)(x8:bQ)(aJ:ah)(bf:bQ)(cM:uI):Option (ah×bQ×(Int)):=pS.ZO N x4 x6 x7 x8 aJ bf cM
def pS.b(N:Nat)(X2:pS.aft)(a0:ae)(a1:ah)(a2:bQ)(a3:Int)(a4:Int)(a5:Int):Option (ah×bQ×(Int)):=
 (bE N a0 a1).bind fun r1=>cond (!r1) (some ((bN,(cL,(br,(br,(c5,(de,())))))),aO,(1:Int))) ((Sh N a2).bind fun r2=>cond (!r2) (some ((bN,(cL,(br,(br,(c5,(de,())))))),aO,(1:Int))) (cond (aH a4 1) (some ((bN,(cL,(br,(br,(c5,(de,())))))),aO,(1:Int))) (cond (aH 1000000000 a4) (some ((bN,(cL,(br,(br,(c5,(de,())))))),aO,(1:Int))) (cond (aH a5 1) (some ((bN,(cL,(br,(br,(c5,(de,())))))),aO,(1:Int))) (cond (aH 1000000000000 a5) (some ((bN,(cL,(br,(br,(c5,(de,())))))),aO,(1:Int))) (cond (aH a2.2.2.2.1 a4) (some ((bN,(cL,(br,(br,(c5,(de,())))))),aO,(9:Int))) (cond (aH a3 1) (some ((bN,(cL,(br,(br,(c5,(de,())))))),aO,(1:Int))) (cond (aH 24 a3) (some ((bN,(cL,(br,(br,(c5,(de,())))))),aO,(1:Int))) ((O2 N a0 a1 (a2.1,(a3,(a2.2.1,((W .i64 ((3:Int)-a2.2.2.1)),(a4,(a5,()))))))).bind fun r4=>cond (!ay r4 0) (some ((bN,(cL,(br,(br,(c5,(de,())))))),aO,r4)) (cond (ay a2.2.2.1 2) (X2 a4 a0 a1 a2 (bN,(cL,(br,(br,(c5,(de,())))))) aO (a3,((0:Int),(a2.2.1,(a4,(a5,())))))) (X2 a4 a0 a1 a2 (bN,(cL,(br,(br,(c5,(de,())))))) aO ((0:Int),(a3,(a2.2.1,(a4,(a5,()))))))))))))))))
def pS(N:Nat)(a0:ae)(a1:ah)(a2:bQ)(a3:Int)(a4:Int)(a5:Int):Option (ah×bQ×(Int)):=pS.b N (pS.j14 N) a0 a1 a2 a3 a4 a5
abbrev m7.bl:=ae→aP→fy→aP→cm→aF→Bool→Int→Int→Option (aP×cm)
def m7.du(N:Nat)(bg:m7.bl)(x3:ae)(x4:aP)(x5:fy)(x6:aP)(x7:cm)(x8:aF)(x9:Bool)(aR:Int)(aE:Int):Option (aP×cm):=
 cond (aH aE (List.length x4.2.2.2.1.2.2.2.2.1:Int)) (cond (aK aE (List.length x4.2.2.2.1.2.2.2.2.1)) (cond (ay ((List.getD x4.2.2.2.1.2.2.2.2.1 aE.toNat aO).1) x5.2.2.2.2.2.1) ((pS N x3 x4.2.2.1 (List.getD x4.2.2.2.1.2.2.2.2.1 aE.toNat aO) x5.2.2.1 x5.2.2.2.2.2.2.1 x5.2.2.2.2.2.2.2.1).bind fun r2=>cond (!ay r2.2.2 0) ((dR N r2.2.2).bind fun r3=>some (x4,r3)) (cond (aH 0 r2.2.1.2.2.2.1) (cond (small (List.length x8+List.length ([r2.2.1]))) (bg x3 (x4.1,(x4.2.1,(r2.1,x4.2.2.2))) x5 x6 x7 (x8++([r2.2.1])) true r2.2.1.2.2.2.1 (W .i64 (aE+1))) (none)) (bg x3 (x4.1,(x4.2.1,(r2.1,x4.2.2.2))) x5 x6 x7 x8 true r2.2.1.2.2.2.1 (W .i64 (aE+1))))) (cond (aH 0 (((((List.getD x4.2.2.2.1.2.2.2.2.1 aE.toNat aO).2).2).2).1)) (cond (small (List.length x8+List.length ([List.getD x4.2.2.2.1.2.2.2.2.1 aE.toNat aO]))) (bg x3 x4 x5 x6 x7 (x8++([List.getD x4.2.2.2.1.2.2.2.2.1 aE.toNat aO])) x9 aR (W .i64 (aE+1))) (none)) (bg x3 x4 x5 x6 x7 x8 x9 aR (W .i64 (aE+1))))) (none)) (cond (!x9) ((dR N (3:Int)).bind fun iX=>some (x4,iX)) (some ((x4.1,(x4.2.1,(x4.2.2.1,((x4.2.2.2.1.1,(x4.2.2.2.1.2.1,(x4.2.2.2.1.2.2.1,(x4.2.2.2.1.2.2.2.1,(x8,x4.2.2.2.1.2.2.2.2.2))))),x4.2.2.2.2)))),((0:Int),((0:Int),(aR,()))))))
def m7.l5(N:Nat):Nat→m7.bl
 |0,_,_,_,_,_,_,_,_,_=>none
 |n+1,x3,x4,x5,x6,x7,x8,x9,aR,aE=>m7.du N (m7.l5 N n) x3 x4 x5 x6 x7 x8 x9 aR aE
def m7.b(N:Nat)(dL:m7.bl)(a0:ae)(a1:aP)(a2:fy):Option (aP×cm):=
 dL a0 a1 a2 ((0:Int),((0:Int),((bN,(cL,(br,(br,(c5,(de,())))))),(((0:Int),((0:Int),((0:Int),((0:Int),(cL,(([]:List ((Int)×((List ((Int)×((Int)×(Unit))))×((Int)×((Int)×((Int)×((Int)×(Unit)))))))),(cL,(c5,(bN,(bN,())))))))))),(((0:Int),((0:Int),(xQ,((0:Int),())))),()))))) aW ([]) false (0:Int) (0:Int)
def m7(N:Nat)(a0:ae)(a1:aP)(a2:fy):Option (aP×cm):=m7.b N (m7.l5 N N) a0 a1 a2
abbrev mY.bb:=Int→au→Int→Option (Int)
def mY.cT(N:Nat)(bD:mY.bb)(x1:Int)(x2:au)(x5:Int):Option (Int):=
 cond (aH x5 3) ((fM N x5).bind fun r3=>(fM N x1).bind fun r4=>(fN N r3 r4).bind fun r5=>(CY N r5 x2).bind fun r6=>cond (aH r6 0) (bD x1 x2 (W .i64 (x5+1))) (some x5)) (some x5)
def mY.l4(N:Nat):Nat→mY.bb
 |0,_,_,_=>none
 |n+1,x1,x2,x5=>mY.cT N (mY.l4 N n) x1 x2 x5
def mY.b(N:Nat)(dq:mY.bb)(a0:au)(a1:Int):Option (Int):=
 (J7 N a0).bind fun r1=>cond (bR r1 0) (some (0:Int)) (cond (aH a1 1) (some (0:Int)) (dq a1 a0 (1:Int)))
def mY(N:Nat)(a0:au)(a1:Int):Option (Int):=mY.b N (mY.l4 N N) a0 a1
abbrev lj.bb:=(List (Int))→Int→Option (Bool)
def lj.cT(N:Nat)(bD:lj.bb)(x1:List (Int))(x5:Int):Option (Bool):=
 cond (aH x5 (List.length x1:Int)) (cond (aK x5 (List.length x1)) (cond (aH (List.getD x1 x5.toNat (0:Int)) (0:Int)) (some true) (bD x1 (W .i64 (x5+1)))) (none)) (some false)
def lj.l4(N:Nat):Nat→lj.bb
 |0,_,_=>none
 |n+1,x1,x5=>lj.cT N (lj.l4 N n) x1 x5
def lj.b(N:Nat)(dq:lj.bb)(a0:Int)(a1:List (Int)):Option (Bool):=
 cond (aH a0 0) (some true) (cond (aH 64 (List.length a1:Int)) (some true) (dq a1 (0:Int)))
def lj(N:Nat)(a0:Int)(a1:List (Int)):Option (Bool):=lj.b N (lj.l4 N N) a0 a1
abbrev la.cg:=(List (Int))→au→au→Int→Option au
def la.ix(N:Nat)(bV:la.cg)(x0:List (Int))(x2:au)(x3:au)(x4:Int):Option au:=
 cond (aH x4 (List.length x0:Int)) (cond (aK x4 (List.length x0)) ((fM N (List.getD x0 x4.toNat (0:Int))).bind fun r2=>(ud N x3 r2).bind fun r3=>bV x0 x2 r3 (W .i64 (x4+1))) (none)) (some x3)
def la.l3(N:Nat):Nat→la.cg
 |0,_,_,_,_=>none
 |n+1,x0,x2,x3,x4=>la.ix N (la.l3 N n) x0 x2 x3 x4
def la.b(N:Nat)(iM:la.cg)(a0:List (Int)):Option au:=
 iM a0 (false,kX) (false,kX) (0:Int)
def la(N:Nat)(a0:List (Int)):Option au:=la.b N (la.l3 N N) a0
abbrev dp.Jh:=(List (Int))→(List (Int))→Int→Int→Option (List (Int))
abbrev dp.fe:=(List (Int))→(List (Int))→Int→Int→Option (List (Int))
abbrev dp.cg:=(List (Int))→(List (Int))→Int→Option (List (Int))
def dp.HH(N:Nat)(bV:dp.cg)(x0:List (Int))(x3:List (Int))(x4:Int)(x5:Int):Option (List (Int)):=
 cond (fD 0 x5 (List.length x3:Int) (List.length x3:Int)) (let v5:List (Int):=List.drop (0:Int).toNat (List.take x5.toNat x3);cond (small (List.length v5)) (cond (small (List.length v5+List.length ([x4]))) (let v6:List (Int):=v5++([x4]);cond (fD x5 (List.length x3:Int) (List.length x3:Int) (List.length x3:Int)) (let v7:List (Int):=List.drop x5.toNat (List.take (List.length x3:Int).toNat x3);cond (small (List.length v6+List.length v7)) (bV x0 (v6++v7) (W .i64 (x4+1))) (none)) (none)) (none)) (none)) (none)
def dp.j8(N:Nat)(bV:dp.cg)(x0:List (Int))(x3:List (Int))(x4:Int)(x5:Int):Option (List (Int)):=dp.HH N bV x0 x3 x4 x5
def dp.ov(N:Nat)(Ae:dp.Jh)(bV:dp.cg)(fR:dp.fe)(x0:List (Int))(x3:List (Int))(x4:Int)(x5:Int):Option (List (Int)):=
 cond (aH x5 (List.length x3:Int)) (cond (aK x5 (List.length x3)) (cond (aK (List.getD x3 x5.toNat (0:Int)) (List.length x0)) (cond (aK x4 (List.length x0)) (cond (bR (List.getD x0 x4.toNat (0:Int)) (List.getD x0 (List.getD x3 x5.toNat (0:Int)).toNat (0:Int))) (fR x0 x3 x4 (W .i64 (x5+1))) (Ae x0 x3 x4 x5)) (none)) (none)) (none)) (Ae x0 x3 x4 x5)
def dp.l6(N:Nat)(bV:dp.cg):Nat→dp.fe
 |0,_,_,_,_=>none
 |n+1,x0,x3,x4,x5=>dp.ov N (dp.j8 N bV) bV (dp.l6 N bV n) x0 x3 x4 x5
def dp.ix(N:Nat)(pZ:dp.fe)(bV:dp.cg)(x0:List (Int))(x3:List (Int))(x4:Int):Option (List (Int)):=
 cond (aH x4 (List.length x0:Int)) (pZ x0 x3 x4 (0:Int)) (some x3)
def dp.l3(N:Nat):Nat→dp.cg
 |0,_,_,_=>none
 |n+1,x0,x3,x4=>dp.ix N (dp.l6 N (dp.l3 N n) N) (dp.l3 N n) x0 x3 x4
def dp.b(N:Nat)(iM:dp.cg)(a0:List (Int)):Option (List (Int)):=
 iM a0 ([]) (0:Int)
def dp(N:Nat)(a0:List (Int)):Option (List (Int)):=dp.b N (dp.l3 N N) a0
abbrev dC.gY:=(List (Int))→Int→(List (Int))→Int→Option ((List (Int))×(Int))
abbrev dC.rz:=Int→(List (Int))→au→(List (Int))→(List (Int))→Int→Int→Option ((List (Int))×(Int))
abbrev dC.P1:=Int→(List (Int))→au→Option ((List (Int))×(Int))
def dC.ob(N:Nat)(nc:dC.gY)(x9:List (Int))(aE:Int)(bM:List (Int))(cq:Int):Option ((List (Int))×(Int)):=
 cond (aH cq (List.length bM:Int)) (cond (aH 0 aE) (cond (aK cq (List.length bM)) (cond (aK (List.getD bM cq.toNat (0:Int)) (List.length x9)) (cond (aK (List.getD bM cq.toNat (0:Int)) (List.length x9)) (nc (List.set x9 (List.getD bM cq.toNat (0:Int)).toNat (W .i64 ((List.getD x9 (List.getD bM cq.toNat (0:Int)).toNat (0:Int))+1))) (W .i64 (aE-1)) bM (W .i64 (cq+1))) (none)) (none)) (none)) (some (x9,(0:Int)))) (some (x9,(0:Int)))
def dC.oa(N:Nat):Nat→dC.gY
 |0,_,_,_,_=>none
 |n+1,x9,aE,bM,cq=>dC.ob N (dC.oa N n) x9 aE bM cq
def dC.zJ(N:Nat)(uX:dC.gY)(w7:dC.rz)(x0:Int)(x1:List (Int))(x6:au)(x9:List (Int))(aR:List (Int))(aE:Int)(aJ:Int):Option ((List (Int))×(Int)):=
 cond (aH aJ (List.length x1:Int)) ((fM N x0).bind fun iX=>cond (aK aJ (List.length x1)) ((fM N (List.getD x1 aJ.toNat (0:Int))).bind fun kB=>(fN N iX kB).bind fun lA=>(eS N lA x6).bind fun nf=>(qX N nf.1).bind fun ow=>cond (aK aJ (List.length x9)) (let MU:List (Int):=List.set x9 aJ.toNat ow.1;(qX N nf.2).bind fun vZ=>cond (aK aJ (List.length aR)) (cond (aK aJ (List.length MU)) (w7 x0 x1 x6 MU (List.set aR aJ.toNat vZ.1) (W .i64 (aE-(List.getD MU aJ.toNat (0:Int)))) (W .i64 (aJ+1))) (none)) (none)) (none)) (none)) ((dp N aR).bind fun Ga=>uX x9 aE Ga (0:Int))
def dC.BZ(N:Nat):Nat→dC.rz
 |0,_,_,_,_,_,_,_=>none
 |n+1,x0,x1,x6,x9,aR,aE,aJ=>dC.zJ N (dC.oa N N) (dC.BZ N n) x0 x1 x6 x9 aR aE aJ
def dC.MR(N:Nat)(Gd:dC.rz)(x0:Int)(x1:List (Int))(x6:au):Option ((List (Int))×(Int)):=
 (qX N x6).bind fun r5=>cond (!r5.2) (some ([],(2:Int))) (cond (dX (List.length x1:Int) (List.length x1:Int)) (let v6:List (Int):=List.replicate (List.length x1:Int).toNat (0:Int);cond (dX (List.length x1:Int) (List.length x1:Int)) ((J7 N x6).bind fun r8=>cond (ay r8 0) (some (v6,(0:Int))) (Gd x0 x1 x6 v6 (List.replicate (List.length x1:Int).toNat (0:Int)) x0 (0:Int))) (none)) (none))
def dC.j6(N:Nat)(x0:Int)(x1:List (Int))(x6:au):Option ((List (Int))×(Int)):=dC.MR N (dC.BZ N N) x0 x1 x6
def dC.b(N:Nat)(DD:dC.P1)(a0:Int)(a1:List (Int)):Option ((List (Int))×(Int)):=
 (lj N a0 a1).bind fun r1=>cond (r1) (some ([],(1:Int))) ((la N a1).bind fun r2=>(J7 N r2).bind fun r3=>cond (ay r3 0) (cond (!ay a0 0) (some ([],(1:Int))) (DD a0 a1 r2)) (DD a0 a1 r2))
def dC(N:Nat)(a0:Int)(a1:List (Int)):Option ((List (Int))×(Int)):=dC.b N (dC.j6 N) a0 a1
abbrev mO.bl:=Int→Int→(List (Int))→Int→Option ((List (Int))×(Int))
def mO.du(N:Nat)(bg:mO.bl)(x0:Int)(x1:Int)(x6:List (Int))(x7:Int):Option ((List (Int))×(Int)):=
 cond (aH x7 x1) (cond (aK x7 (List.length x6)) (bg x0 x1 (List.set x6 x7.toNat (1:Int)) (W .i64 (x7+1))) (none)) ((dC N x0 x6).bind fun r5=>some (r5.1,r5.2))
def mO.l5(N:Nat):Nat→mO.bl
 |0,_,_,_,_=>none
 |n+1,x0,x1,x6,x7=>mO.du N (mO.l5 N n) x0 x1 x6 x7
def mO.b(N:Nat)(dL:mO.bl)(a0:Int)(a1:Int):Option ((List (Int))×(Int)):=
 cond (aH a0 0) (some ([],(1:Int))) (cond (aH a1 1) (some ([],(1:Int))) (cond (aH 64 a1) (some ([],(1:Int))) (cond (dX a1 a1) (dL a0 a1 (List.replicate a1.toNat (0:Int)) (0:Int)) (none))))
def mO(N:Nat)(a0:Int)(a1:Int):Option ((List (Int))×(Int)):=mO.b N (mO.l5 N N) a0 a1
abbrev cR.afu:=Int→ae→ax→aX→Int→ax→Int→Int→fX→ax→Int→(List (Int))→Option (aX×(Int))
abbrev cR.P4:=Int→ae→ax→aX→Int→ax→Int→Int→fX→ax→Int→Int→Option (aX×(Int))
abbrev cR.ng:=Int→ae→ax→aX→Int→ax→Int→Int→fX→ax→Int→Option (aX×(Int))
abbrev cR.oY:=Int→ae→ax→aX→Int→ax→Int→Int→Option (aX×(Int))
abbrev cR.dv:=Int→ae→ax→aX→Int→ax→au→Int→Option (aX×(Int))
abbrev cR.fB:=Int→ae→ax→aX→Int→Option (aX×(Int))
def cR.ZW(N:Nat)(dG:cR.fB)(iY:cR.oY)(nh:cR.ng)(x2:Int)(x3:ae)(x8:ax)(x9:aX)(aR:Int)(aE:ax)(bo:Int)(bM:Int)(cq:fX)(p4:ax)(cM:Int)(kW:List (Int)):Option (aX×(Int)):=
 cond (aK bM (List.length kW)) (cond (!ay (List.getD kW bM.toNat (0:Int)) (0:Int)) (cond (aK cM (List.length aE)) (cond (aK bM (List.length kW)) (cond (small (List.length p4+List.length ([((List.getD aE cM.toNat ch).1,(List.getD kW bM.toNat (0:Int),()))]))) (nh x2 x3 x8 x9 aR aE bo bM (cq.1,(bN,cq.2.2)) (p4++([((List.getD aE cM.toNat ch).1,(List.getD kW bM.toNat (0:Int),()))])) (W .i64 (cM+1))) (none)) (none)) (none)) (nh x2 x3 x8 x9 aR aE bo bM cq p4 (W .i64 (cM+1)))) (none)
def cR.j32(N:Nat)(dG:cR.fB)(iY:cR.oY)(nh:cR.ng)(x2:Int)(x3:ae)(x8:ax)(x9:aX)(aR:Int)(aE:ax)(bo:Int)(bM:Int)(cq:fX)(p4:ax)(cM:Int)(kW:List (Int)):Option (aX×(Int)):=cR.ZW N dG iY nh x2 x3 x8 x9 aR aE bo bM cq p4 cM kW
def cR.I1(N:Nat)(X3:cR.afu)(dG:cR.fB)(iY:cR.oY)(nh:cR.ng)(x2:Int)(x3:ae)(x8:ax)(x9:aX)(aR:Int)(aE:ax)(bo:Int)(bM:Int)(cq:fX)(p4:ax)(cM:Int)(gd:Int):Option (aX×(Int)):=
 (mO N gd bo).bind fun vZ=>cond (aK cM (List.length aE)) (cond (aH (((List.getD aE cM.toNat ch).2).1) (0:Int)) (cond (aK bM (List.length vZ.1)) (cond (aK bM (List.length vZ.1)) (X3 x2 x3 x8 x9 aR aE bo bM cq p4 cM (List.set vZ.1 bM.toNat (W .i64 (0-(List.getD vZ.1 bM.toNat (0:Int)))))) (none)) (none)) (X3 x2 x3 x8 x9 aR aE bo bM cq p4 cM vZ.1)) (none)
def cR.Pp(N:Nat)(dG:cR.fB)(iY:cR.oY)(nh:cR.ng)(x2:Int)(x3:ae)(x8:ax)(x9:aX)(aR:Int)(aE:ax)(bo:Int)(bM:Int)(cq:fX)(p4:ax)(cM:Int)(gd:Int):Option (aX×(Int)):=cR.I1 N (cR.j32 N dG iY nh) dG iY nh x2 x3 x8 x9 aR aE bo bM cq p4 cM gd
def cR.y9(N:Nat)(Gf:cR.P4)(dG:cR.fB)(iY:cR.oY)(nh:cR.ng)(x2:Int)(x3:ae)(x8:ax)(x9:aX)(aR:Int)(aE:ax)(bo:Int)(bM:Int)(cq:fX)(p4:ax)(cM:Int):Option (aX×(Int)):=
 cond (aH cM (List.length aE:Int)) (cond (aK cM (List.length aE)) (cond (aH (((List.getD aE cM.toNat ch).2).1) (0:Int)) (Gf x2 x3 x8 x9 aR aE bo bM cq p4 cM (W .i64 (0-(((List.getD aE cM.toNat ch).2).1)))) (Gf x2 x3 x8 x9 aR aE bo bM cq p4 cM (((List.getD aE cM.toNat ch).2).1))) (none)) (cond (ay (List.length p4:Int) 0) (iY x2 x3 x8 x9 aR aE bo (W .i64 (bM+1))) ((Pq N x3 p4).bind fun Ci=>(MS N Ci.1).bind fun Cj=>(qX N Cj).bind fun vh=>cond (!vh.2) (some ([],(2:Int))) (cond (small (List.length x9+List.length ([(cq.1,(p4,(vh.1,cq.2.2.2)))]))) (iY (W .i64 (x2+1)) x3 x8 (x9++([(cq.1,(p4,(vh.1,cq.2.2.2)))])) aR aE bo (W .i64 (bM+1))) (none))))
def cR.xX(N:Nat)(dG:cR.fB)(iY:cR.oY):Nat→cR.ng
 |0,_,_,_,_,_,_,_,_,_,_,_=>none
 |n+1,x2,x3,x8,x9,aR,aE,bo,bM,cq,p4,cM=>cR.y9 N (cR.Pp N dG iY (cR.xX N dG iY n)) dG iY (cR.xX N dG iY n) x2 x3 x8 x9 aR aE bo bM cq p4 cM
def cR.I0(N:Nat)(F3:cR.ng)(dG:cR.fB)(iY:cR.oY)(x2:Int)(x3:ae)(x8:ax)(x9:aX)(aR:Int)(aE:ax)(bo:Int)(bM:Int):Option (aX×(Int)):=
 cond (aH bM bo) (F3 x2 x3 x8 x9 aR aE bo bM (x2,(bN,((0:Int),((1:Int),ch)))) bN (0:Int)) (dG x2 x3 x8 x9 (W .i64 (aR+1)))
def cR.Dv(N:Nat)(dG:cR.fB):Nat→cR.oY
 |0,_,_,_,_,_,_,_,_=>none
 |n+1,x2,x3,x8,x9,aR,aE,bo,bM=>cR.I0 N (cR.xX N dG (cR.Dv N dG n) N) dG (cR.Dv N dG n) x2 x3 x8 x9 aR aE bo bM
def cR.il(N:Nat)(P5:cR.oY)(dG:cR.fB)(eu:cR.dv)(x2:Int)(x3:ae)(x8:ax)(x9:aX)(aR:Int)(aE:ax)(aJ:au)(bf:Int):Option (aX×(Int)):=
 cond (aH bf (List.length x8:Int)) (cond (aK bf (List.length x8)) (cond (aK ((List.getD x8 bf.toNat ch).1) (List.length x3.1)) (cond (ay ((List.getD x3.1 ((List.getD x8 bf.toNat ch).1).toNat aO).1) aR) (cond (aK bf (List.length x8)) (cond (small (List.length aE+List.length ([List.getD x8 bf.toNat ch]))) (cond (aK bf (List.length x8)) ((fM N (((List.getD x8 bf.toNat ch).2).1)).bind fun r6=>(HF N r6).bind fun r7=>(ud N aJ r7).bind fun r8=>eu x2 x3 x8 x9 aR (aE++([List.getD x8 bf.toNat ch])) r8 (W .i64 (bf+1))) (none)) (none)) (none)) (eu x2 x3 x8 x9 aR aE aJ (W .i64 (bf+1)))) (none)) (none)) ((mY N aJ x3.2.2.2.2.2.1).bind fun kB=>P5 x2 x3 x8 x9 aR aE kB (0:Int))
def cR.jB(N:Nat)(dG:cR.fB):Nat→cR.dv
 |0,_,_,_,_,_,_,_,_=>none
 |n+1,x2,x3,x8,x9,aR,aE,aJ,bf=>cR.il N (cR.Dv N dG N) dG (cR.jB N dG n) x2 x3 x8 x9 aR aE aJ bf
def cR.yb(N:Nat)(ni:cR.dv)(dG:cR.fB)(x2:Int)(x3:ae)(x8:ax)(x9:aX)(aR:Int):Option (aX×(Int)):=
 cond (aH aR 4) (ni x2 x3 x8 x9 aR ([]) (false,kX) (0:Int)) (some (x9,(0:Int)))
def cR.l8(N:Nat):Nat→cR.fB
 |0,_,_,_,_,_=>none
 |n+1,x2,x3,x8,x9,aR=>cR.yb N (cR.jB N (cR.l8 N n) N) (cR.l8 N n) x2 x3 x8 x9 aR
def cR.b(N:Nat)(Am:cR.fB)(a0:ae)(a1:ah)(a2:Int):Option (aX×(Int)):=
 (bE N a0 a1).bind fun r1=>cond (!r1) (some ([],(1:Int))) (cond (aH a2 1) (some ([],(1:Int))) (cond (aH 1099511627764 a2) (some ([],(1:Int))) ((sL N a1.2.2.2.1 (0:Int)).bind fun r2=>cond (ay (List.length r2:Int) 0) (some ([],(3:Int))) (Am a2 a0 r2 ([]) (0:Int)))))
def cR(N:Nat)(a0:ae)(a1:ah)(a2:Int):Option (aX×(Int)):=cR.b N (cR.l8 N N) a0 a1 a2
abbrev mZ.bl:=ah→(List (Int))→Int→Option ((List (Int))×(Int))
def mZ.du(N:Nat)(bg:mZ.bl)(x3:ah)(x6:List (Int))(x7:Int):Option ((List (Int))×(Int)):=
 cond (aH x7 (List.length x3.1:Int)) (cond (aK x7 (List.length x3.1)) (cond (ay (((List.getD x3.1 x7.toNat ch).2).1) (1:Int)) (cond (aK x7 (List.length x3.1)) ((qv N x3.2.2.1 (6:Int) ((List.getD x3.1 x7.toNat ch).1)).bind fun r3=>cond (aH 0 r3) (cond (aK x7 (List.length x3.1)) (cond (small (List.length x6+List.length ([(List.getD x3.1 x7.toNat ch).1]))) (bg x3 (x6++([(List.getD x3.1 x7.toNat ch).1])) (W .i64 (x7+1))) (none)) (none)) (bg x3 x6 (W .i64 (x7+1)))) (none)) (bg x3 x6 (W .i64 (x7+1)))) (none)) (some (x6,(0:Int)))
def mZ.l5(N:Nat):Nat→mZ.bl
 |0,_,_,_=>none
 |n+1,x3,x6,x7=>mZ.du N (mZ.l5 N n) x3 x6 x7
def mZ.b(N:Nat)(dL:mZ.bl)(a0:ae)(a1:ah):Option ((List (Int))×(Int)):=
 (bE N a0 a1).bind fun r1=>cond (!r1) (some ([],(1:Int))) (dL a1 ([]) (0:Int))
def mZ(N:Nat)(a0:ae)(a1:ah):Option ((List (Int))×(Int)):=mZ.b N (mZ.l5 N N) a0 a1
abbrev ff.Jj:=aX→ae→Int→fX→Option (Bool)
abbrev ff.bb:=aX→ae→Int→Option (Bool)
def ff.Ik(N:Nat)(bD:ff.bb)(x1:aX)(x2:ae)(x5:Int)(x6:fX):Option (Bool):=
 cond (ay x6.2.2.2.1 1) (cond (!ay x6.2.2.2.2.1 0) (some false) (cond (!ay x6.2.2.2.2.2.1 0) (some false) (bD x1 x2 (W .i64 (x5+1))))) (cond (ay x6.2.2.2.1 3) (cond (!ay x6.2.2.2.2.1 0) (some false) (cond (!ay x6.2.2.2.2.2.1 0) (some false) (bD x1 x2 (W .i64 (x5+1))))) (cond (ay x6.2.2.2.1 2) (cond (aH x6.2.2.2.2.1 1) (some false) (cond (aH 12 x6.2.2.2.2.1) (some false) (cond (aH x6.2.2.2.2.2.1 (-1152921504606846976)) (some false) (cond (aH 1152921504606846976 x6.2.2.2.2.2.1) (some false) (bD x1 x2 (W .i64 (x5+1))))))) (some false)))
def ff.j9(N:Nat)(bD:ff.bb)(x1:aX)(x2:ae)(x5:Int)(x6:fX):Option (Bool):=ff.Ik N bD x1 x2 x5 x6
def ff.cT(N:Nat)(Al:ff.Jj)(bD:ff.bb)(x1:aX)(x2:ae)(x5:Int):Option (Bool):=
 cond (aH x5 (List.length x1:Int)) (cond (aK x5 (List.length x1)) (cond (aH ((List.getD x1 x5.toNat ((0:Int),(bN,aO))).1) (1:Int)) (some false) (cond (aH 1099511627776 ((List.getD x1 x5.toNat ((0:Int),(bN,aO))).1)) (some false) (cond (aH 0 x5) (let v3:Int:=W .i64 (x5-1);cond (aK v3 (List.length x1)) (cond (bR ((List.getD x1 x5.toNat ((0:Int),(bN,aO))).1) ((List.getD x1 v3.toNat ((0:Int),(bN,aO))).1)) (some false) (cond (ay (List.length (((List.getD x1 x5.toNat ((0:Int),(bN,aO))).2).1):Int) (0:Int)) (some false) ((jy N x2 (((List.getD x1 x5.toNat ((0:Int),(bN,aO))).2).1)).bind fun r4=>cond (!r4) (some false) (cond (aH 0 ((((List.getD x1 x5.toNat ((0:Int),(bN,aO))).2).2).1)) (some false) (Al x1 x2 x5 (List.getD x1 x5.toNat ((0:Int),(bN,aO)))))))) (none)) (cond (ay (List.length (((List.getD x1 x5.toNat ((0:Int),(bN,aO))).2).1):Int) (0:Int)) (some false) ((jy N x2 (((List.getD x1 x5.toNat ((0:Int),(bN,aO))).2).1)).bind fun r9=>cond (!r9) (some false) (cond (aH 0 ((((List.getD x1 x5.toNat ((0:Int),(bN,aO))).2).2).1)) (some false) (Al x1 x2 x5 (List.getD x1 x5.toNat ((0:Int),(bN,aO)))))))))) (none)) (some true)
def ff.l4(N:Nat):Nat→ff.bb
 |0,_,_,_=>none
 |n+1,x1,x2,x5=>ff.cT N (ff.j9 N (ff.l4 N n)) (ff.l4 N n) x1 x2 x5
def ff.b(N:Nat)(dq:ff.bb)(a0:ae)(a1:aX):Option (Bool):=
 (iG N a0).bind fun r1=>cond (!r1) (some false) (cond (aH 12 (List.length a1:Int)) (some false) (dq a1 a0 (0:Int)))
def ff(N:Nat)(a0:ae)(a1:aX):Option (Bool):=ff.b N (ff.l4 N N) a0 a1
abbrev lL.bY:=aX→Int→fX→Int→Option (fX×(Bool))
def lL.ei(N:Nat)(cZ:lL.bY)(x0:aX)(x1:Int)(x4:fX)(x6:Int):Option (fX×(Bool)):=
 cond (aH x6 (List.length x0:Int)) (cond (aK x6 (List.length x0)) (cond (ay ((List.getD x0 x6.toNat ((0:Int),(bN,aO))).1) x1) (cond (aK x6 (List.length x0)) (some (List.getD x0 x6.toNat ((0:Int),(bN,aO)),true)) (none)) (cZ x0 x1 x4 (W .i64 (x6+1)))) (none)) (some (((0:Int),(bN,aO)),false))
def lL.l2(N:Nat):Nat→lL.bY
 |0,_,_,_,_=>none
 |n+1,x0,x1,x4,x6=>lL.ei N (lL.l2 N n) x0 x1 x4 x6
def lL.b(N:Nat)(fA:lL.bY)(a0:aX)(a1:Int):Option (fX×(Bool)):=
 fA a0 a1 ((0:Int),(bN,aO)) (0:Int)
def lL(N:Nat)(a0:aX)(a1:Int):Option (fX×(Bool)):=lL.b N (lL.l2 N N) a0 a1
abbrev c7.fJ:=ax→ax→ax→Int→au→Int→Option (ax×(Bool))
abbrev c7.c0:=ax→ax→ax→Int→au→Int→Option (ax×(Bool))
abbrev c7.cg:=ax→ax→ax→Int→Option (ax×(Bool))
def c7.lH(N:Nat)(bV:c7.cg)(ir:c7.fJ)(x0:ax)(x1:ax)(x6:ax)(x7:Int)(x8:au)(aR:Int):Option (ax×(Bool)):=
 cond (aH aR (List.length x1:Int)) (cond (aK aR (List.length x1)) (cond (ay ((List.getD x1 aR.toNat ch).1) x7) (cond (aK aR (List.length x1)) ((fM N (((List.getD x1 aR.toNat ch).2).1)).bind fun r8=>(ud N x8 r8).bind fun r9=>ir x0 x1 x6 x7 r9 (W .i64 (aR+1))) (none)) (ir x0 x1 x6 x7 x8 (W .i64 (aR+1)))) (none)) ((OY N x8).bind fun lA=>cond (!lA.2) (some ([],false)) (cond (!ay lA.1 0) (cond (small (List.length x6+List.length ([(x7,(lA.1,()))]))) (bV x0 x1 (x6++([(x7,(lA.1,()))])) (W .i64 (x7+1))) (none)) (bV x0 x1 x6 (W .i64 (x7+1)))))
def c7.nq(N:Nat)(bV:c7.cg):Nat→c7.fJ
 |0,_,_,_,_,_,_=>none
 |n+1,x0,x1,x6,x7,x8,aR=>c7.lH N bV (c7.nq N bV n) x0 x1 x6 x7 x8 aR
def c7.n9(N:Nat)(ry:c7.fJ)(bV:c7.cg)(cF:c7.c0)(x0:ax)(x1:ax)(x6:ax)(x7:Int)(x8:au)(x9:Int):Option (ax×(Bool)):=
 cond (aH x9 (List.length x0:Int)) (cond (aK x9 (List.length x0)) (cond (ay ((List.getD x0 x9.toNat ch).1) x7) (cond (aK x9 (List.length x0)) ((fM N (((List.getD x0 x9.toNat ch).2).1)).bind fun r3=>(ud N x8 r3).bind fun r4=>cF x0 x1 x6 x7 r4 (W .i64 (x9+1))) (none)) (cF x0 x1 x6 x7 x8 (W .i64 (x9+1)))) (none)) (ry x0 x1 x6 x7 x8 (0:Int))
def c7.l7(N:Nat)(bV:c7.cg):Nat→c7.c0
 |0,_,_,_,_,_,_=>none
 |n+1,x0,x1,x6,x7,x8,x9=>c7.n9 N (c7.nq N bV N) bV (c7.l7 N bV n) x0 x1 x6 x7 x8 x9
def c7.ix(N:Nat)(oj:c7.c0)(bV:c7.cg)(x0:ax)(x1:ax)(x6:ax)(x7:Int):Option (ax×(Bool)):=
 cond (aH x7 6) (oj x0 x1 x6 x7 (false,kX) (0:Int)) (some (x6,true))
def c7.l3(N:Nat):Nat→c7.cg
 |0,_,_,_,_=>none
 |n+1,x0,x1,x6,x7=>c7.ix N (c7.l7 N (c7.l3 N n) N) (c7.l3 N n) x0 x1 x6 x7
def c7.b(N:Nat)(iM:c7.cg)(a0:ax)(a1:ax):Option (ax×(Bool)):=
 iM a0 a1 ([]) (0:Int)
def c7(N:Nat)(a0:ax)(a1:ax):Option (ax×(Bool)):=c7.b N (c7.l3 N N) a0 a1
def ZV(N:Nat)(a0:ba)(a1:Int):Option aj:=
 (jc N a0).bind fun r1=>cond (!r1) (some ([])) ((eG N a0 a1).bind fun r2=>some r2)
abbrev gS.dv:=aF→ae→ah→bQ→fX→Int→Int→Option (Int)
abbrev gS.akP:=aX→aF→ae→ah→bQ→Option (Int)
def gS.il(N:Nat)(eu:gS.dv)(x3:aF)(x5:ae)(x6:ah)(x9:bQ)(aJ:fX)(bo:Int)(bM:Int):Option (Int):=
 cond (aH bM (List.length x3:Int)) (cond (aK bM (List.length x3)) (cond (ay ((((List.getD x3 bM.toNat aO).2).2).1) x9.2.2.1) (cond (aK bM (List.length x3)) (cond (ay (((List.getD x3 bM.toNat aO).2).1) x9.2.1) (some (4:Int)) (eu x3 x5 x6 x9 aJ bo (W .i64 (bM+1)))) (none)) (eu x3 x5 x6 x9 aJ bo (W .i64 (bM+1)))) (none)) (cond (ay (List.length x3:Int) 40) (some (5:Int)) ((fM N x9.2.2.2.1).bind fun nf=>(fM N (4:Int)).bind fun ow=>(fM N aJ.2.2.1).bind fun sN=>(fN N ow sN).bind fun vZ=>(CY N nf vZ).bind fun vf=>cond (aH vf 0) (some (11:Int)) ((sL N x6.2.2.2.1 bo).bind fun vg=>(c7 N vg aJ.2.1).bind fun Ge=>cond (!Ge.2) (some (2:Int)) ((ZV N x6.2.2.2.2.2.1 bo).bind fun Ga=>(lJ N x5 Ge.1 Ga).bind fun Cd=>(IY N x6 bo).bind fun HM=>(fM N HM).bind fun Aa=>(fM N x9.2.2.2.1).bind fun Ci=>(Ij N Aa Ci).bind fun Cj=>(CY N Cj Cd.1).bind fun vh=>cond (aH vh 0) (some (10:Int)) (some (0:Int))))))
def gS.jB(N:Nat):Nat→gS.dv
 |0,_,_,_,_,_,_,_=>none
 |n+1,x3,x5,x6,x9,aJ,bo,bM=>gS.il N (gS.jB N n) x3 x5 x6 x9 aJ bo bM
def gS.j3b(N:Nat)(ni:gS.dv)(x2:aX)(x3:aF)(x5:ae)(x6:ah)(x9:bQ):Option (Int):=
 (Du N x6 x9.2.2.1).bind fun r7=>cond (ay r7 0) (some (3:Int)) (cond (!ay r7 1) (some (7:Int)) ((lL N x2 x9.2.1).bind fun r8=>(tc N x6.2.1 x9.2.2.1).bind fun r9=>cond (!r8.2) (some (3:Int)) (cond (!ay r8.1.2.2.2.1 1) (some (3:Int)) (cond (ay r9 0) (some (3:Int)) (ni x3 x5 x6 x9 r8.1 r9 (0:Int))))))
def gS.j3(N:Nat)(x2:aX)(x3:aF)(x5:ae)(x6:ah)(x9:bQ):Option (Int):=gS.j3b N (gS.jB N N) x2 x3 x5 x6 x9
def gS.b(N:Nat)(afv:gS.akP)(a0:ae)(a1:ah)(a2:aX)(a3:aF)(a4:bQ):Option (Int):=
 (bE N a0 a1).bind fun r1=>cond (!r1) (some (1:Int)) ((ff N a0 a2).bind fun r2=>cond (!r2) (some (1:Int)) ((cY N a3).bind fun r3=>cond (!r3) (some (1:Int)) ((Ou N a4).bind fun r4=>cond (!r4) (some (1:Int)) (cond (aH 0 (List.length a3:Int)) (let v5:Int:=W .i64 ((List.length a3:Int)-1);cond (aK v5 (List.length a3)) (cond (bR a4.1 ((List.getD a3 v5.toNat aO).1)) (some (1:Int)) (afv a2 a3 a0 a1 a4)) (none)) (afv a2 a3 a0 a1 a4)))))
def gS(N:Nat)(a0:ae)(a1:ah)(a2:aX)(a3:aF)(a4:bQ):Option (Int):=gS.b N (gS.j3 N) a0 a1 a2 a3 a4
def SH(N:Nat)(a0:ae)(a1:ah)(a2:aX)(a3:aF)(a4:bQ):Option (aF×(Int)):=
 (gS N a0 a1 a2 a3 a4).bind fun r1=>cond (!ay r1 0) (some ([],r1)) (cond (small (List.length cL+List.length a3)) (let v2:List ((Int)×((Int)×((Int)×((Int)×(Unit))))):=cL++a3;cond (small (List.length v2+List.length ([a4]))) (some ((v2++([a4])),(0:Int))) (none)) (none))
abbrev zZ.fe:=aF→Int→bQ→bQ→Bool→Int→Option (bQ×(Bool))
def zZ.ov(N:Nat)(fR:zZ.fe)(x0:aF)(x1:Int)(x4:bQ)(x6:bQ)(x7:Bool)(x8:Int):Option (bQ×(Bool)):=
 cond (aH x8 (List.length x0:Int)) (cond (aK x8 (List.length x0)) (cond (ay (((List.getD x0 x8.toNat aO).2).1) x1) (cond (!x7) (cond (aK x8 (List.length x0)) (fR x0 x1 x4 (List.getD x0 x8.toNat aO) true (W .i64 (x8+1))) (none)) (cond (aK x8 (List.length x0)) (cond (aH x6.2.2.2.1 (((((List.getD x0 x8.toNat aO).2).2).2).1)) (cond (aK x8 (List.length x0)) (fR x0 x1 x4 (List.getD x0 x8.toNat aO) true (W .i64 (x8+1))) (none)) (fR x0 x1 x4 x6 x7 (W .i64 (x8+1)))) (none))) (fR x0 x1 x4 x6 x7 (W .i64 (x8+1)))) (none)) (some (x6,x7))
def zZ.l6(N:Nat):Nat→zZ.fe
 |0,_,_,_,_,_,_=>none
 |n+1,x0,x1,x4,x6,x7,x8=>zZ.ov N (zZ.l6 N n) x0 x1 x4 x6 x7 x8
def zZ.b(N:Nat)(pZ:zZ.fe)(a0:aF)(a1:Int):Option (bQ×(Bool)):=
 (cY N a0).bind fun r1=>cond (!r1) (some (aO,false)) (pZ a0 a1 aO aO false (0:Int))
def zZ(N:Nat)(a0:aF)(a1:Int):Option (bQ×(Bool)):=zZ.b N (zZ.l6 N N) a0 a1
abbrev oi.gY:=aX→aF→ah→ah→aj→bk→aX→Int→fX→bQ→Int→Int→Option (ah×aX×(Int))
abbrev oi.c0:=aX→aF→ah→ah→aj→bk→aX→Int→Option (ah×aX×(Int))
def oi.ob(N:Nat)(cF:oi.c0)(nc:oi.gY)(x2:aX)(x3:aF)(x5:ah)(x8:ah)(aE:aj)(aJ:bk)(bf:aX)(bo:Int)(bM:fX)(cq:bQ)(gd:Int)(kW:Int):Option (ah×aX×(Int)):=
 cond (aH kW (List.length bM.2.1:Int)) (cond (aK kW (List.length bM.2.1)) (cond (aK kW (List.length bM.2.1)) (let QG:Int:=W .i64 (0-(((List.getD bM.2.1 kW.toNat ch).2).1));cond (aK kW (List.length bM.2.1)) (cond (aK kW (List.length bM.2.1)) (cond (small (List.length aE+List.length ([((0:Int),((List.getD bM.2.1 kW.toNat ch).1,(QG,()))),(gd,((List.getD bM.2.1 kW.toNat ch).1,(((List.getD bM.2.1 kW.toNat ch).2).1,())))]))) (nc x2 x3 x5 x8 (aE++([((0:Int),((List.getD bM.2.1 kW.toNat ch).1,(QG,()))),(gd,((List.getD bM.2.1 kW.toNat ch).1,(((List.getD bM.2.1 kW.toNat ch).2).1,())))])) aJ bf bo bM cq gd (W .i64 (kW+1))) (none)) (none)) (none)) (none)) (none)) ((fM N cq.2.2.2.1).bind fun vf=>(zV N (5:Int) gd (2:Int) (0:Int) vf).bind fun vg=>cond (small (List.length aJ+List.length vg)) (cond (small (List.length bf+List.length ([bM]))) (cF x2 x3 x5 x8 aE (aJ++vg) (bf++([bM])) (W .i64 (bo+1))) (none)) (none))
def oi.oa(N:Nat)(cF:oi.c0):Nat→oi.gY
 |0,_,_,_,_,_,_,_,_,_,_,_,_=>none
 |n+1,x2,x3,x5,x8,aE,aJ,bf,bo,bM,cq,gd,kW=>oi.ob N cF (oi.oa N cF n) x2 x3 x5 x8 aE aJ bf bo bM cq gd kW
def oi.n9(N:Nat)(uX:oi.gY)(cF:oi.c0)(x2:aX)(x3:aF)(x5:ah)(x8:ah)(aE:aj)(aJ:bk)(bf:aX)(bo:Int):Option (ah×aX×(Int)):=
 cond (aH bo (List.length x2:Int)) (cond (aK bo (List.length x2)) (cond (small (List.length bN+List.length (((List.getD x2 bo.toNat ((0:Int),(bN,aO))).2).1))) (let v5:List ((Int)×((Int)×(Unit))):=bN++(((List.getD x2 bo.toNat ((0:Int),(bN,aO))).2).1);cond (!ay (((((List.getD x2 bo.toNat ((0:Int),(bN,aO))).2).2).2).1) (1:Int)) (cond (small (List.length bf+List.length ([((List.getD x2 bo.toNat ((0:Int),(bN,aO))).1,(v5,((List.getD x2 bo.toNat ((0:Int),(bN,aO))).2).2))]))) (cF x2 x3 x5 x8 aE aJ (bf++([((List.getD x2 bo.toNat ((0:Int),(bN,aO))).1,(v5,((List.getD x2 bo.toNat ((0:Int),(bN,aO))).2).2))])) (W .i64 (bo+1))) (none)) ((zZ N x3 ((List.getD x2 bo.toNat ((0:Int),(bN,aO))).1)).bind fun r8=>cond (!r8.2) (cond (small (List.length bf+List.length ([((List.getD x2 bo.toNat ((0:Int),(bN,aO))).1,(v5,((((List.getD x2 bo.toNat ((0:Int),(bN,aO))).2).2).1,((3:Int),((((List.getD x2 bo.toNat ((0:Int),(bN,aO))).2).2).2).2))))]))) (cF x2 x3 x5 x8 aE aJ (bf++([((List.getD x2 bo.toNat ((0:Int),(bN,aO))).1,(v5,((((List.getD x2 bo.toNat ((0:Int),(bN,aO))).2).2).1,((3:Int),((((List.getD x2 bo.toNat ((0:Int),(bN,aO))).2).2).2).2))))])) (W .i64 (bo+1))) (none)) ((tc N x5.2.1 r8.1.2.2.1).bind fun kB=>cond (ay kB 0) (some ((bN,(cL,(br,(br,(c5,(de,())))))),[],(3:Int))) ((Du N x5 r8.1.2.2.1).bind fun lA=>cond (ay lA 0) (some ((bN,(cL,(br,(br,(c5,(de,())))))),[],(3:Int))) (uX x2 x3 x5 x8 aE aJ bf bo ((List.getD x2 bo.toNat ((0:Int),(bN,aO))).1,(v5,((((List.getD x2 bo.toNat ((0:Int),(bN,aO))).2).2).1,((2:Int),(r8.1.2.2.1,(r8.1.2.2.2.1,((((((List.getD x2 bo.toNat ((0:Int),(bN,aO))).2).2).2).2).2).2)))))) r8.1 kB (0:Int)))))) (none)) (none)) ((zS N x5 aE aJ).bind fun HM=>cond (!ay HM.2 0) (some ((bN,(cL,(br,(br,(c5,(de,())))))),[],HM.2)) (some (HM.1,bf,(0:Int))))
def oi.l7(N:Nat):Nat→oi.c0
 |0,_,_,_,_,_,_,_,_=>none
 |n+1,x2,x3,x5,x8,aE,aJ,bf,bo=>oi.n9 N (oi.oa N (oi.l7 N n) N) (oi.l7 N n) x2 x3 x5 x8 aE aJ bf bo
def oi.b(N:Nat)(oj:oi.c0)(a0:ae)(a1:ah)(a2:aX)(a3:aF):Option (ah×aX×(Int)):=
 (bE N a0 a1).bind fun r1=>cond (!r1) (some ((bN,(cL,(br,(br,(c5,(de,())))))),[],(1:Int))) ((ff N a0 a2).bind fun r2=>cond (!r2) (some ((bN,(cL,(br,(br,(c5,(de,())))))),[],(1:Int))) ((cY N a3).bind fun r3=>cond (!r3) (some ((bN,(cL,(br,(br,(c5,(de,())))))),[],(1:Int))) (oj a2 a3 a1 (bN,(cL,(br,(br,(c5,(de,())))))) ([]) ([]) ([]) (0:Int))))
def oi(N:Nat)(a0:ae)(a1:ah)(a2:aX)(a3:aF):Option (ah×aX×(Int)):=oi.b N (oi.l7 N N) a0 a1 a2 a3
abbrev kU.bY:=ax→Int→Option (Bool)
def kU.ei(N:Nat)(cZ:kU.bY)(x0:ax)(x3:Int):Option (Bool):=
 cond (aH x3 (List.length x0:Int)) (cond (aK x3 (List.length x0)) (cond (aH ((List.getD x0 x3.toNat ch).1) (1:Int)) (some false) (cond (aK x3 (List.length x0)) (cond (aH 12 ((List.getD x0 x3.toNat ch).1)) (some false) (cond (aK x3 (List.length x0)) (cond (aH (((List.getD x0 x3.toNat ch).2).1) (1:Int)) (some false) (cond (aK x3 (List.length x0)) (cond (aH 4 (((List.getD x0 x3.toNat ch).2).1)) (some false) (cond (aH 0 x3) (cond (aK x3 (List.length x0)) (let v2:Int:=W .i64 (x3-1);cond (aK v2 (List.length x0)) (cond (bR ((List.getD x0 x3.toNat ch).1) ((List.getD x0 v2.toNat ch).1)) (some false) (cZ x0 (W .i64 (x3+1)))) (none)) (none)) (cZ x0 (W .i64 (x3+1))))) (none))) (none))) (none))) (none)) (some true)
def kU.l2(N:Nat):Nat→kU.bY
 |0,_,_=>none
 |n+1,x0,x3=>kU.ei N (kU.l2 N n) x0 x3
def kU.b(N:Nat)(fA:kU.bY)(a0:ax):Option (Bool):=
 fA a0 (0:Int)
def kU(N:Nat)(a0:ax):Option (Bool):=kU.b N (kU.l2 N N) a0
abbrev m0.bY:=(List (Int))→Int→Option (Bool)
def m0.ei(N:Nat)(cZ:m0.bY)(x0:List (Int))(x3:Int):Option (Bool):=
 cond (aH x3 (List.length x0:Int)) (cond (aK x3 (List.length x0)) (cond (aH (List.getD x0 x3.toNat (0:Int)) (1:Int)) (some false) (cond (aK x3 (List.length x0)) (cond (aH 12 (List.getD x0 x3.toNat (0:Int))) (some false) (cond (aH 0 x3) (cond (aK x3 (List.length x0)) (let v2:Int:=W .i64 (x3-1);cond (aK v2 (List.length x0)) (cond (bR (List.getD x0 x3.toNat (0:Int)) (List.getD x0 v2.toNat (0:Int))) (some false) (cZ x0 (W .i64 (x3+1)))) (none)) (none)) (cZ x0 (W .i64 (x3+1))))) (none))) (none)) (some true)
def m0.l2(N:Nat):Nat→m0.bY
 |0,_,_=>none
 |n+1,x0,x3=>m0.ei N (m0.l2 N n) x0 x3
def m0.b(N:Nat)(fA:m0.bY)(a0:List (Int)):Option (Bool):=
 fA a0 (0:Int)
def m0(N:Nat)(a0:List (Int)):Option (Bool):=m0.b N (m0.l2 N N) a0
abbrev fH.fJ:=Int→aX→Int→Int→Option (Int)
abbrev fH.cg:=Int→aX→aF→Int→Int→Option (Int)
def fH.lH(N:Nat)(ir:fH.fJ)(x0:Int)(x1:aX)(x7:Int)(aJ:Int):Option (Int):=
 cond (aH aJ (List.length x1:Int)) (cond (aK aJ (List.length x1)) (cond (ay (((((List.getD x1 aJ.toNat ((0:Int),(bN,aO))).2).2).2).1) (2:Int)) (cond (aK aJ (List.length x1)) (cond (ay ((((((List.getD x1 aJ.toNat ((0:Int),(bN,aO))).2).2).2).2).1) x0) (ir x0 x1 (4:Int) (W .i64 (aJ+1))) (ir x0 x1 x7 (W .i64 (aJ+1)))) (none)) (ir x0 x1 x7 (W .i64 (aJ+1)))) (none)) (some x7)
def fH.nq(N:Nat):Nat→fH.fJ
 |0,_,_,_,_=>none
 |n+1,x0,x1,x7,aJ=>fH.lH N (fH.nq N n) x0 x1 x7 aJ
def fH.ix(N:Nat)(ry:fH.fJ)(bV:fH.cg)(x0:Int)(x1:aX)(x2:aF)(x7:Int)(x8:Int):Option (Int):=
 cond (aH x8 (List.length x2:Int)) (cond (aK x8 (List.length x2)) (cond (!ay ((((List.getD x2 x8.toNat aO).2).2).1) x0) (bV x0 x1 x2 x7 (W .i64 (x8+1))) (cond (aK x8 (List.length x2)) ((lL N x1 (((List.getD x2 x8.toNat aO).2).1)).bind fun r3=>cond (r3.2) (cond (aK x8 (List.length x2)) (cond (bR r3.1.2.2.1 (((((List.getD x2 x8.toNat aO).2).2).2).1)) (bV x0 x1 x2 (mx x7 3) (W .i64 (x8+1))) (bV x0 x1 x2 (mx x7 2) (W .i64 (x8+1)))) (none)) (bV x0 x1 x2 (mx x7 2) (W .i64 (x8+1)))) (none))) (none)) (ry x0 x1 x7 (0:Int))
def fH.l3(N:Nat):Nat→fH.cg
 |0,_,_,_,_,_=>none
 |n+1,x0,x1,x2,x7,x8=>fH.ix N (fH.nq N N) (fH.l3 N n) x0 x1 x2 x7 x8
def fH.b(N:Nat)(iM:fH.cg)(a0:Int)(a1:aX)(a2:aF):Option (Int):=
 iM a0 a1 a2 (1:Int) (0:Int)
def fH(N:Nat)(a0:Int)(a1:aX)(a2:aF):Option (Int):=fH.b N (fH.l3 N N) a0 a1 a2
abbrev cr.nj:=ax→(List (Int))→aX→aF→ax→Int→Int→Bool→Int→Option (ax×(Int))
abbrev cr.rz:=ax→(List (Int))→aX→aF→ax→Int→Int→Bool→Int→Option (ax×(Int))
abbrev cr.ko:=ax→(List (Int))→aX→aF→ax→Int→Int→Bool→Int→Option (ax×(Int))
abbrev cr.bl:=ax→(List (Int))→aX→aF→ax→Int→Option (ax×(Int))
def cr.th(N:Nat)(bg:cr.bl)(uY:cr.nj)(x1:ax)(x2:List (Int))(x3:aX)(x4:aF)(aJ:ax)(bf:Int)(bo:Int)(bM:Bool)(gd:Int):Option (ax×(Int)):=
 cond (aH gd (List.length x4:Int)) (cond (bM) (uY x1 x2 x3 x4 aJ bf bo true (W .i64 (gd+1))) (cond (aK gd (List.length x4)) (uY x1 x2 x3 x4 aJ bf bo (ay ((((List.getD x4 gd.toNat aO).2).2).1) bf) (W .i64 (gd+1))) (none))) (cond (bM) ((fH N bf x3 x4).bind fun sN=>let P0:Int:=mx bo sN;cond (small (List.length aJ+List.length ([(bf,(P0,()))]))) (bg x1 x2 x3 x4 (aJ++([(bf,(P0,()))])) (W .i64 (bf+1))) (none)) (bg x1 x2 x3 x4 aJ (W .i64 (bf+1))))
def cr.vN(N:Nat)(bg:cr.bl):Nat→cr.nj
 |0,_,_,_,_,_,_,_,_,_=>none
 |n+1,x1,x2,x3,x4,aJ,bf,bo,bM,gd=>cr.th N bg (cr.vN N bg n) x1 x2 x3 x4 aJ bf bo bM gd
def cr.zJ(N:Nat)(Af:cr.nj)(bg:cr.bl)(w7:cr.rz)(x1:ax)(x2:List (Int))(x3:aX)(x4:aF)(aJ:ax)(bf:Int)(bo:Int)(bM:Bool)(cM:Int):Option (ax×(Int)):=
 cond (aH cM (List.length x2:Int)) (cond (bM) (w7 x1 x2 x3 x4 aJ bf bo true (W .i64 (cM+1))) (cond (aK cM (List.length x2)) (w7 x1 x2 x3 x4 aJ bf bo (ay (List.getD x2 cM.toNat (0:Int)) bf) (W .i64 (cM+1))) (none))) (Af x1 x2 x3 x4 aJ bf bo bM (0:Int))
def cr.BZ(N:Nat)(bg:cr.bl):Nat→cr.rz
 |0,_,_,_,_,_,_,_,_,_=>none
 |n+1,x1,x2,x3,x4,aJ,bf,bo,bM,cM=>cr.zJ N (cr.vN N bg N) bg (cr.BZ N bg n) x1 x2 x3 x4 aJ bf bo bM cM
def cr.vb(N:Nat)(Gd:cr.rz)(bg:cr.bl)(oX:cr.ko)(x1:ax)(x2:List (Int))(x3:aX)(x4:aF)(aJ:ax)(bf:Int)(bo:Int)(bM:Bool)(cq:Int):Option (ax×(Int)):=
 cond (aH cq (List.length x1:Int)) (cond (aK cq (List.length x1)) (cond (ay ((List.getD x1 cq.toNat ch).1) bf) (cond (aK cq (List.length x1)) (oX x1 x2 x3 x4 aJ bf (((List.getD x1 cq.toNat ch).2).1) true (W .i64 (cq+1))) (none)) (oX x1 x2 x3 x4 aJ bf bo bM (W .i64 (cq+1)))) (none)) (Gd x1 x2 x3 x4 aJ bf bo bM (0:Int))
def cr.l9(N:Nat)(bg:cr.bl):Nat→cr.ko
 |0,_,_,_,_,_,_,_,_,_=>none
 |n+1,x1,x2,x3,x4,aJ,bf,bo,bM,cq=>cr.vb N (cr.BZ N bg N) bg (cr.l9 N bg n) x1 x2 x3 x4 aJ bf bo bM cq
def cr.du(N:Nat)(wa:cr.ko)(bg:cr.bl)(x1:ax)(x2:List (Int))(x3:aX)(x4:aF)(aJ:ax)(bf:Int):Option (ax×(Int)):=
 cond (bR bf 12) (wa x1 x2 x3 x4 aJ bf (0:Int) false (0:Int)) (some (aJ,(0:Int)))
def cr.l5(N:Nat):Nat→cr.bl
 |0,_,_,_,_,_,_=>none
 |n+1,x1,x2,x3,x4,aJ,bf=>cr.du N (cr.l9 N (cr.l5 N n) N) (cr.l5 N n) x1 x2 x3 x4 aJ bf
def cr.b(N:Nat)(dL:cr.bl)(a0:ae)(a1:ax)(a2:List (Int))(a3:aX)(a4:aF):Option (ax×(Int)):=
 (kU N a1).bind fun r1=>cond (!r1) (some ([],(1:Int))) ((m0 N a2).bind fun r2=>cond (!r2) (some ([],(1:Int))) ((ff N a0 a3).bind fun r3=>cond (!r3) (some ([],(1:Int))) ((cY N a4).bind fun r4=>cond (!r4) (some ([],(1:Int))) (dL a1 a2 a3 a4 ([]) (1:Int)))))
def cr(N:Nat)(a0:ae)(a1:ax)(a2:List (Int))(a3:aX)(a4:aF):Option (ax×(Int)):=cr.b N (cr.l5 N N) a0 a1 a2 a3 a4
def I3(N:Nat)(a0:bc)(a1:ah)(a2:Int)(a3:Int)(a4:Int):Option bc:=
 (qv N a1.2.2.1 a3 a4).bind fun r1=>cond (aH 0 r1) (cond (small (List.length a0+List.length ([(a2,(a3,(a4,(r1,((0:Int),())))))]))) (some (a0++([(a2,(a3,(a4,(r1,((0:Int),())))))]))) (none)) (some a0)
def Pv(N:Nat)(a0:Int):Option (Bool):=
 cond (ay a0 1) (some true) (some (ay a0 2))
abbrev m4.bb:=ax→Int→Int→Option (Int)
def m4.cT(N:Nat)(bD:m4.bb)(x0:ax)(x1:Int)(x5:Int):Option (Int):=
 cond (aH x5 (List.length x0:Int)) (cond (aK x5 (List.length x0)) (cond (ay ((List.getD x0 x5.toNat ch).1) x1) (cond (aK x5 (List.length x0)) (some (((List.getD x0 x5.toNat ch).2).1)) (none)) (bD x0 x1 (W .i64 (x5+1)))) (none)) (some (1:Int))
def m4.l4(N:Nat):Nat→m4.bb
 |0,_,_,_=>none
 |n+1,x0,x1,x5=>m4.cT N (m4.l4 N n) x0 x1 x5
def m4.b(N:Nat)(dq:m4.bb)(a0:ax)(a1:Int):Option (Int):=
 (kU N a0).bind fun r1=>cond (!r1) (some (0:Int)) (dq a0 a1 (0:Int))
def m4(N:Nat)(a0:ax)(a1:Int):Option (Int):=m4.b N (m4.l4 N N) a0 a1
abbrev m5.bl:=ax→Int→Int→ah→(List (Int))→Int→Option ((List (Int))×(Int))
def m5.du(N:Nat)(bg:m5.bl)(x2:ax)(x3:Int)(x4:Int)(x6:ah)(aJ:List (Int))(bf:Int):Option ((List (Int))×(Int)):=
 cond (aH bf (List.length x6.1:Int)) (cond (aK bf (List.length x6.1)) ((Pv N (((List.getD x6.1 bf.toNat ch).2).1)).bind fun r4=>cond (r4) (cond (!ay ((List.getD x6.1 bf.toNat ch).1) x3) ((qv N x6.2.2.1 (6:Int) ((List.getD x6.1 bf.toNat ch).1)).bind fun r5=>cond (aH 0 r5) ((m4 N x2 ((List.getD x6.1 bf.toNat ch).1)).bind fun r6=>cond (ay r6 x4) (cond (small (List.length aJ+List.length ([(List.getD x6.1 bf.toNat ch).1]))) (bg x2 x3 x4 x6 (aJ++([(List.getD x6.1 bf.toNat ch).1])) (W .i64 (bf+1))) (none)) (bg x2 x3 x4 x6 aJ (W .i64 (bf+1)))) (bg x2 x3 x4 x6 aJ (W .i64 (bf+1)))) (bg x2 x3 x4 x6 aJ (W .i64 (bf+1)))) (bg x2 x3 x4 x6 aJ (W .i64 (bf+1)))) (none)) (some (aJ,(0:Int)))
def m5.l5(N:Nat):Nat→m5.bl
 |0,_,_,_,_,_,_=>none
 |n+1,x2,x3,x4,x6,aJ,bf=>m5.du N (m5.l5 N n) x2 x3 x4 x6 aJ bf
def m5.b(N:Nat)(dL:m5.bl)(a0:ae)(a1:ah)(a2:ax)(a3:Int)(a4:Int):Option ((List (Int))×(Int)):=
 (bE N a0 a1).bind fun r1=>cond (!r1) (some ([],(1:Int))) ((kU N a2).bind fun r2=>cond (!r2) (some ([],(1:Int))) (dL a2 a3 a4 a1 ([]) (0:Int)))
def m5(N:Nat)(a0:ae)(a1:ah)(a2:ax)(a3:Int)(a4:Int):Option ((List (Int))×(Int)):=m5.b N (m5.l5 N N) a0 a1 a2 a3 a4
abbrev cc.iT:=Int→ax→ax→ae→ah→bc→Int→(List (Int))→Int→Option (bc×(Int))
abbrev cc.Aj:=Int→ax→ah→bc→Int→Option (bc×(Int))
abbrev cc.oY:=Int→ax→ae→ah→bc→Int→Option (bc×(Int))
abbrev cc.fJ:=Int→ax→ax→ae→ah→bc→Int→Option (bc×(Int))
abbrev cc.Jj:=Int→ax→ax→ae→ah→bc→Option (bc×(Int))
def cc.q5(N:Nat)(ir:cc.fJ)(jX:cc.iT)(x2:Int)(x3:ax)(x4:ax)(x5:ae)(x6:ah)(aJ:bc)(bo:Int)(bM:List (Int))(cM:Int):Option (bc×(Int)):=
 cond (aH cM (List.length bM:Int)) (cond (aK cM (List.length bM)) ((I3 N aJ x6 (W .i64 ((W .i64 ((4:Int)+bo))-1)) (6:Int) (List.getD bM cM.toNat (0:Int))).bind fun sN=>jX x2 x3 x4 x5 x6 sN bo bM (W .i64 (cM+1))) (none)) (ir x2 x3 x4 x5 x6 aJ (W .i64 (bo+1)))
def cc.sx(N:Nat)(ir:cc.fJ):Nat→cc.iT
 |0,_,_,_,_,_,_,_,_,_=>none
 |n+1,x2,x3,x4,x5,x6,aJ,bo,bM,cM=>cc.q5 N ir (cc.sx N ir n) x2 x3 x4 x5 x6 aJ bo bM cM
def cc.Fk(N:Nat)(w5:cc.Aj)(x2:Int)(x4:ax)(x6:ah)(aJ:bc)(ME:Int):Option (bc×(Int)):=
 cond (aH ME (List.length x4:Int)) (cond (aK ME (List.length x4)) ((zk N x6.2.1 ((List.getD x4 ME.toNat ch).1)).bind fun HL=>cond (aK ME (List.length x4)) (cond (aK ME (List.length x4)) ((qv N x6.2.2.1 (5:Int) ((List.getD x4 ME.toNat ch).1)).bind fun r32=>let v33:Int:=mn (((List.getD x4 ME.toNat ch).2).1) r32;cond (HL.2) (cond (!ay HL.1.2.1 x2) (cond (aH 0 v33) (cond (small (List.length aJ+List.length ([((9:Int),((5:Int),(HL.1.1,(v33,((0:Int),())))))]))) (w5 x2 x4 x6 (aJ++([((9:Int),((5:Int),(HL.1.1,(v33,((0:Int),())))))])) (W .i64 (ME+1))) (none)) (w5 x2 x4 x6 aJ (W .i64 (ME+1)))) (w5 x2 x4 x6 aJ (W .i64 (ME+1)))) (w5 x2 x4 x6 aJ (W .i64 (ME+1)))) (none)) (none)) (none)) (some (aJ,(0:Int)))
def cc.IA(N:Nat):Nat→cc.Aj
 |0,_,_,_,_,_=>none
 |n+1,x2,x4,x6,aJ,ME=>cc.Fk N (cc.IA N n) x2 x4 x6 aJ ME
def cc.I0(N:Nat)(PY:cc.Aj)(iY:cc.oY)(x2:Int)(x4:ax)(x5:ae)(x6:ah)(aJ:bc)(gd:Int):Option (bc×(Int)):=
 cond (aH gd (List.length x6.1:Int)) (cond (aK gd (List.length x6.1)) ((Pv N (((List.getD x6.1 gd.toNat ch).2).1)).bind fun Ge=>cond (!Ge) (iY x2 x4 x5 x6 aJ (W .i64 (gd+1))) (cond (ay ((List.getD x6.1 gd.toNat ch).1) x2) (iY x2 x4 x5 x6 aJ (W .i64 (gd+1))) ((fM N x5.2.2.1).bind fun HM=>(qv N x6.2.2.1 (6:Int) ((List.getD x6.1 gd.toNat ch).1)).bind fun Aa=>(fM N Aa).bind fun Ci=>(fN N HM Ci).bind fun Cj=>(qX N Cj).bind fun vh=>cond (!vh.2) (some ([],(2:Int))) (cond (aH 0 vh.1) (cond (small (List.length aJ+List.length ([((8:Int),((7:Int),((List.getD x6.1 gd.toNat ch).1,(vh.1,((0:Int),())))))]))) (iY x2 x4 x5 x6 (aJ++([((8:Int),((7:Int),((List.getD x6.1 gd.toNat ch).1,(vh.1,((0:Int),())))))])) (W .i64 (gd+1))) (none)) (iY x2 x4 x5 x6 aJ (W .i64 (gd+1))))))) (none)) (PY x2 x4 x6 aJ (0:Int))
def cc.Dv(N:Nat):Nat→cc.oY
 |0,_,_,_,_,_,_=>none
 |n+1,x2,x4,x5,x6,aJ,gd=>cc.I0 N (cc.IA N N) (cc.Dv N n) x2 x4 x5 x6 aJ gd
def cc.lH(N:Nat)(Ab:cc.iT)(P5:cc.oY)(ir:cc.fJ)(x2:Int)(x3:ax)(x4:ax)(x5:ae)(x6:ah)(aJ:bc)(bo:Int):Option (bc×(Int)):=
 cond (bR bo 4) ((m5 N x5 x6 x3 x2 bo).bind fun kB=>Ab x2 x3 x4 x5 x6 aJ bo kB.1 (0:Int)) (P5 x2 x4 x5 x6 aJ (0:Int))
def cc.nq(N:Nat):Nat→cc.fJ
 |0,_,_,_,_,_,_,_=>none
 |n+1,x2,x3,x4,x5,x6,aJ,bo=>cc.lH N (cc.sx N (cc.nq N n) N) (cc.Dv N N) (cc.nq N n) x2 x3 x4 x5 x6 aJ bo
def cc.Ik(N:Nat)(ry:cc.fJ)(x2:Int)(x3:ax)(x4:ax)(x5:ae)(x6:ah)(aJ:bc):Option (bc×(Int)):=
 (I3 N aJ x6 (2:Int) (6:Int) x2).bind fun r8=>(I3 N r8 x6 (3:Int) (3:Int) (0:Int)).bind fun r9=>ry x2 x3 x4 x5 x6 r9 (1:Int)
def cc.j9(N:Nat)(x2:Int)(x3:ax)(x4:ax)(x5:ae)(x6:ah)(aJ:bc):Option (bc×(Int)):=cc.Ik N (cc.nq N N) x2 x3 x4 x5 x6 aJ
def cc.b(N:Nat)(Al:cc.Jj)(a0:ae)(a1:ah)(a2:Int)(a3:ax)(a4:ax):Option (bc×(Int)):=
 (bE N a0 a1).bind fun r1=>cond (!r1) (some ([],(1:Int))) ((kU N a3).bind fun r2=>cond (!r2) (some ([],(1:Int))) ((lK N a4).bind fun r3=>cond (!r3) (some ([],(1:Int))) ((uq N a1.1 a2).bind fun r4=>cond (ay r4 0) (some ([],(3:Int))) ((tc N a1.2.1 a2).bind fun r5=>cond (!ay r5 0) ((I3 N ([]) a1 (1:Int) (5:Int) r5).bind fun r6=>Al a2 a3 a4 a0 a1 r6) (Al a2 a3 a4 a0 a1 ([]))))))
def cc(N:Nat)(a0:ae)(a1:ah)(a2:Int)(a3:ax)(a4:ax):Option (bc×(Int)):=cc.b N (cc.j9 N) a0 a1 a2 a3 a4
def SJ(N:Nat)(a0:ae)(a1:ah):Option ((Int)×(Int)):=
 (bE N a0 a1).bind fun r1=>cond (!r1) (some ((0:Int),(1:Int))) ((qv N a1.2.2.1 (2:Int) (0:Int)).bind fun r2=>cond (ay r2 (-9223372036854775808)) (some ((0:Int),(2:Int))) (some ((mx (W .i64 (0-r2)) (0:Int)),(0:Int))))
abbrev m6.bb:=bc→Int→Option (Bool)
def m6.cT(N:Nat)(bD:m6.bb)(x0:bc)(x3:Int):Option (Bool):=
 cond (aH x3 (List.length x0:Int)) (cond (aK x3 (List.length x0)) (cond (aH ((List.getD x0 x3.toNat j2).1) (1:Int)) (some false) (cond (aH 9 ((List.getD x0 x3.toNat j2).1)) (some false) ((Ip N (((List.getD x0 x3.toNat j2).2).1) ((((List.getD x0 x3.toNat j2).2).2).1)).bind fun r2=>cond (!r2) (some false) (cond (aH (((((List.getD x0 x3.toNat j2).2).2).2).1) (1:Int)) (some false) (cond (aH ((((((List.getD x0 x3.toNat j2).2).2).2).2).1) (0:Int)) (some false) (cond (aH (((((List.getD x0 x3.toNat j2).2).2).2).1) ((((((List.getD x0 x3.toNat j2).2).2).2).2).1)) (some false) (cond (aH 0 x3) (let v3:Int:=W .i64 (x3-1);cond (aK v3 (List.length x0)) (cond (aH ((List.getD x0 x3.toNat j2).1) ((List.getD x0 v3.toNat j2).1)) (some false) (let v4:Int:=W .i64 (x3-1);cond (aK v4 (List.length x0)) (cond (ay ((List.getD x0 x3.toNat j2).1) ((List.getD x0 v4.toNat j2).1)) (let v5:Int:=W .i64 (x3-1);cond (aK v5 (List.length x0)) (cond (!ay (((List.getD x0 x3.toNat j2).2).1) (((List.getD x0 v5.toNat j2).2).1)) (some false) (let v6:Int:=W .i64 (x3-1);cond (aK v6 (List.length x0)) (cond (bR ((((List.getD x0 x3.toNat j2).2).2).1) ((((List.getD x0 v6.toNat j2).2).2).1)) (some false) (bD x0 (W .i64 (x3+1)))) (none))) (none)) (bD x0 (W .i64 (x3+1)))) (none))) (none)) (bD x0 (W .i64 (x3+1)))))))))) (none)) (some true)
def m6.l4(N:Nat):Nat→m6.bb
 |0,_,_=>none
 |n+1,x0,x3=>m6.cT N (m6.l4 N n) x0 x3
def m6.b(N:Nat)(dq:m6.bb)(a0:bc):Option (Bool):=
 cond (aH 64 (List.length a0:Int)) (some false) (dq a0 (0:Int))
def m6(N:Nat)(a0:bc):Option (Bool):=m6.b N (m6.l4 N N) a0
abbrev cB.nj:=bc→Int→Int→Int→(List (Int))→Int→Option (bc×(Int)×(Int))
abbrev cB.Gb:=bc→Int→Int→Int→(List (Int))→Option (bc×(Int)×(Int))
abbrev cB.fB:=bc→Int→Int→Int→(List (Int))→Option (bc×(Int)×(Int))
abbrev cB.bl:=bc→Int→Int→Option (bc×(Int)×(Int))
def cB.th(N:Nat)(bg:cB.bl)(uY:cB.nj)(x7:bc)(x8:Int)(x9:Int)(aR:Int)(bo:List (Int))(cq:Int):Option (bc×(Int)×(Int)):=
 cond (aH cq aR) (let X1:Int:=W .i64 (cq-x9);cond (aK X1 (List.length bo)) (cond (aK cq (List.length x7)) (let MU:Int:=W .i64 (cq-x9);cond (aK MU (List.length bo)) (uY (List.set x7 cq.toNat ((List.getD x7 cq.toNat j2).1,(((List.getD x7 cq.toNat j2).2).1,((((List.getD x7 cq.toNat j2).2).2).1,(((((List.getD x7 cq.toNat j2).2).2).2).1,(List.getD bo X1.toNat (0:Int),(((((List.getD x7 cq.toNat j2).2).2).2).2).2)))))) (W .i64 (x8-(List.getD bo MU.toNat (0:Int)))) x9 aR bo (W .i64 (cq+1))) (none)) (none)) (none)) (bg x7 x8 aR)
def cB.vN(N:Nat)(bg:cB.bl):Nat→cB.nj
 |0,_,_,_,_,_,_=>none
 |n+1,x7,x8,x9,aR,bo,cq=>cB.th N bg (cB.vN N bg n) x7 x8 x9 aR bo cq
def cB.zU(N:Nat)(Af:cB.nj)(bg:cB.bl)(x7:bc)(x8:Int)(x9:Int)(aR:Int)(aE:List (Int)):Option (bc×(Int)×(Int)):=
 (la N aE).bind fun r8=>(qX N r8).bind fun r9=>cond (!r9.2) (some ([],(0:Int),(2:Int))) ((dC N (mn r9.1 x8) aE).bind fun kB=>cond (!ay kB.2 0) (some ([],(0:Int),kB.2)) (Af x7 x8 x9 aR kB.1 x9))
def cB.HJ(N:Nat)(bg:cB.bl)(x7:bc)(x8:Int)(x9:Int)(aR:Int)(aE:List (Int)):Option (bc×(Int)×(Int)):=cB.zU N (cB.vN N bg N) bg x7 x8 x9 aR aE
def cB.yb(N:Nat)(w6:cB.Gb)(bg:cB.bl)(dG:cB.fB)(x7:bc)(x8:Int)(x9:Int)(aR:Int)(aE:List (Int)):Option (bc×(Int)×(Int)):=
 cond (aH aR (List.length x7:Int)) (cond (aK aR (List.length x7)) (cond (aK x9 (List.length x7)) (cond (ay ((List.getD x7 aR.toNat j2).1) ((List.getD x7 x9.toNat j2).1)) (cond (aK aR (List.length x7)) (cond (small (List.length aE+List.length ([((((List.getD x7 aR.toNat j2).2).2).2).1]))) (dG x7 x8 x9 (W .i64 (aR+1)) (aE++([((((List.getD x7 aR.toNat j2).2).2).2).1]))) (none)) (none)) (w6 x7 x8 x9 aR aE)) (none)) (none)) (w6 x7 x8 x9 aR aE)
def cB.l8(N:Nat)(bg:cB.bl):Nat→cB.fB
 |0,_,_,_,_,_=>none
 |n+1,x7,x8,x9,aR,aE=>cB.yb N (cB.HJ N bg) bg (cB.l8 N bg n) x7 x8 x9 aR aE
def cB.du(N:Nat)(Am:cB.fB)(bg:cB.bl)(x7:bc)(x8:Int)(x9:Int):Option (bc×(Int)×(Int)):=
 cond (aH x9 (List.length x7:Int)) (Am x7 x8 x9 x9 ([])) (some (x7,x8,(0:Int)))
def cB.l5(N:Nat):Nat→cB.bl
 |0,_,_,_=>none
 |n+1,x7,x8,x9=>cB.du N (cB.l8 N (cB.l5 N n) N) (cB.l5 N n) x7 x8 x9
def cB.b(N:Nat)(dL:cB.bl)(a0:bc)(a1:Int):Option (bc×(Int)×(Int)):=
 (m6 N a0).bind fun r1=>cond (!r1) (some ([],(0:Int),(1:Int))) (cond (aH a1 0) (some ([],(0:Int),(1:Int))) (cond (small (List.length xQ+List.length a0)) (dL (xQ++a0) a1 (0:Int)) (none)))
def cB(N:Nat)(a0:bc)(a1:Int):Option (bc×(Int)×(Int)):=cB.b N (cB.l5 N N) a0 a1
def SK(N:Nat)(a0:ae)(a1:ah):Option ((Int)×(Int)):=
 (bE N a0 a1).bind fun r1=>cond (!r1) (some ((0:Int),(1:Int))) ((qv N a1.2.2.1 (2:Int) (0:Int)).bind fun r2=>some ((mx r2 0),(0:Int)))
abbrev gT.afw:=ah→ah→cS→bk→cS→bc→Int→Int→Int→Option (ah×cS×(Int))
abbrev gT.Ao:=Int→ae→ah→ah→cS→bc→Int→bk→cS→bc→Int→Option (ah×cS×(Int))
def gT.ZY(N:Nat)(x6:ah)(aR:ah)(aE:cS)(gd:bk)(kW:cS)(Aq:bc)(x21:Int)(x23:Int)(x24:Int):Option (ah×cS×(Int)):=
 (fM N x21).bind fun vf=>(zV N (2:Int) (0:Int) x23 x24 vf).bind fun vg=>cond (small (List.length gd+List.length vg)) ((zS N x6 br (gd++vg)).bind fun Ga=>cond (!ay Ga.2 0) (some ((bN,(cL,(br,(br,(c5,(de,())))))),((0:Int),((0:Int),(xQ,((0:Int),())))),Ga.2)) (some (Ga.1,(kW.1,(kW.2.1,(Aq,kW.2.2.2))),(0:Int)))) (none)
def gT.j26(N:Nat)(x6:ah)(aR:ah)(aE:cS)(gd:bk)(kW:cS)(Aq:bc)(x21:Int)(x23:Int)(x24:Int):Option (ah×cS×(Int)):=gT.ZY N x6 aR aE gd kW Aq x21 x23 x24
def gT.IS(N:Nat)(X4:gT.afw)(Ck:gT.Ao)(x2:Int)(x5:ae)(x6:ah)(aR:ah)(aE:cS)(bf:bc)(cM:Int)(gd:bk)(kW:cS)(Aq:bc)(HN:Int):Option (ah×cS×(Int)):=
 cond (aH HN (List.length bf:Int)) (cond (aK HN (List.length bf)) (cond (aH 0 ((((((List.getD bf HN.toNat j2).2).2).2).2).1)) (cond (aK HN (List.length bf)) (cond (small (List.length Aq+List.length ([List.getD bf HN.toNat j2]))) (cond (aK HN (List.length bf)) (cond (aK HN (List.length bf)) (cond (aK HN (List.length bf)) ((fM N ((((((List.getD bf HN.toNat j2).2).2).2).2).1)).bind fun r6=>(zV N (((List.getD bf HN.toNat j2).2).1) ((((List.getD bf HN.toNat j2).2).2).1) (2:Int) (0:Int) r6).bind fun r7=>cond (small (List.length gd+List.length r7)) (Ck x2 x5 x6 aR aE bf cM (gd++r7) (kW.1,(kW.2.1,(xQ,kW.2.2.2))) (Aq++([List.getD bf HN.toNat j2])) (W .i64 (HN+1))) (none)) (none)) (none)) (none)) (none)) (none)) (Ck x2 x5 x6 aR aE bf cM gd kW Aq (W .i64 (HN+1)))) (none)) ((fM N cM).bind fun kB=>(zV N (4:Int) (0:Int) (2:Int) (0:Int) kB).bind fun lA=>cond (small (List.length gd+List.length lA)) (let X1:List ((Int)×((Int)×(((Bool)×((List (Int))×(Unit)))×(Unit)))):=gd++lA;(SK N x5 x6).bind fun ow=>(tc N x6.2.1 x2).bind fun sN=>cond (!ay sN 0) (X4 x6 aR aE X1 kW Aq ow.1 (5:Int) sN) (X4 x6 aR aE X1 kW Aq ow.1 (6:Int) x2)) (none))
def gT.L1(N:Nat):Nat→gT.Ao
 |0,_,_,_,_,_,_,_,_,_,_,_=>none
 |n+1,x2,x5,x6,aR,aE,bf,cM,gd,kW,Aq,HN=>gT.IS N (gT.j26 N) (gT.L1 N n) x2 x5 x6 aR aE bf cM gd kW Aq HN
def gT.b(N:Nat)(P2:gT.Ao)(a0:ae)(a1:ah)(a2:Int)(a3:ax)(a4:ax):Option (ah×cS×(Int)):=
 (cc N a0 a1 a2 a3 a4).bind fun r1=>cond (ay r1.2 1) (some ((bN,(cL,(br,(br,(c5,(de,())))))),((0:Int),((0:Int),(xQ,((0:Int),())))),r1.2)) (cond (ay r1.2 3) (some ((bN,(cL,(br,(br,(c5,(de,())))))),((0:Int),((0:Int),(xQ,((0:Int),())))),r1.2)) ((SJ N a0 a1).bind fun r2=>cond (!ay r2.2 0) (some ((bN,(cL,(br,(br,(c5,(de,())))))),((0:Int),((0:Int),(xQ,((0:Int),())))),r2.2)) (cond (!ay r1.2 0) (some ((bN,(cL,(br,(br,(c5,(de,())))))),((0:Int),((0:Int),(xQ,((0:Int),())))),r1.2)) ((cB N r1.1 r2.1).bind fun r3=>cond (!ay r3.2.2 0) (some ((bN,(cL,(br,(br,(c5,(de,())))))),((0:Int),((0:Int),(xQ,((0:Int),())))),r3.2.2)) (P2 a2 a0 a1 (bN,(cL,(br,(br,(c5,(de,())))))) ((0:Int),((0:Int),(xQ,((0:Int),())))) r3.1 r3.2.1 ([]) (a2,(r2.1,(xQ,(r3.2.1,())))) xQ (0:Int))))))
def gT(N:Nat)(a0:ae)(a1:ah)(a2:Int)(a3:ax)(a4:ax):Option (ah×cS×(Int)):=gT.b N (gT.L1 N N) a0 a1 a2 a3 a4
abbrev c4.Ai:=(List (Int))→(List (Int))→(List (Int))→Int→Int→(List (Int))→Int→Option ((List (Int))×(Int)×(Int))
abbrev c4.fJ:=(List (Int))→(List (Int))→(List (Int))→Int→Int→(List (Int))→Bool→Int→Option ((List (Int))×(Int)×(Int))
abbrev c4.fB:=(List (Int))→(List (Int))→(List (Int))→Int→Int→Option ((List (Int))×(Int)×(Int))
def c4.IB(N:Nat)(dG:c4.fB)(PX:c4.Ai)(x1:List (Int))(x2:List (Int))(aE:List (Int))(aJ:Int)(bf:Int)(cM:List (Int))(kW:Int):Option ((List (Int))×(Int)×(Int)):=
 cond (aH kW (List.length x1:Int)) (cond (aK kW (List.length cM)) (cond (aK kW (List.length x2)) (cond (aK kW (List.length aE)) (let P0:Int:=mn (List.getD cM kW.toNat (0:Int)) (W .i64 ((List.getD x2 kW.toNat (0:Int))-(List.getD aE kW.toNat (0:Int))));cond (aK kW (List.length aE)) (cond (aK kW (List.length aE)) (PX x1 x2 (List.set aE kW.toNat (W .i64 ((List.getD aE kW.toNat (0:Int))+P0))) (W .i64 (aJ-P0)) bf cM (W .i64 (kW+1))) (none)) (none)) (none)) (none)) (none)) (dG x1 x2 aE aJ (W .i64 (bf+1)))
def c4.LO(N:Nat)(dG:c4.fB):Nat→c4.Ai
 |0,_,_,_,_,_,_,_=>none
 |n+1,x1,x2,aE,aJ,bf,cM,kW=>c4.IB N dG (c4.LO N dG n) x1 x2 aE aJ bf cM kW
def c4.lH(N:Nat)(PZ:c4.Ai)(dG:c4.fB)(ir:c4.fJ)(x1:List (Int))(x2:List (Int))(aE:List (Int))(aJ:Int)(bf:Int)(bo:List (Int))(bM:Bool)(cq:Int):Option ((List (Int))×(Int)×(Int)):=
 cond (aH cq (List.length x1:Int)) (cond (aK cq (List.length x1)) (cond (aH 0 (List.getD x1 cq.toNat (0:Int))) (cond (aK cq (List.length aE)) (cond (aK cq (List.length x2)) (cond (aH (List.getD aE cq.toNat (0:Int)) (List.getD x2 cq.toNat (0:Int))) (cond (aK cq (List.length x1)) (cond (aK cq (List.length bo)) (ir x1 x2 aE aJ bf (List.set bo cq.toNat (List.getD x1 cq.toNat (0:Int))) true (W .i64 (cq+1))) (none)) (none)) (ir x1 x2 aE aJ bf bo bM (W .i64 (cq+1)))) (none)) (none)) (ir x1 x2 aE aJ bf bo bM (W .i64 (cq+1)))) (none)) (cond (ay aJ 0) (some (aE,aJ,(0:Int))) (cond (!bM) (some (aE,aJ,(0:Int))) ((dC N aJ bo).bind fun nf=>PZ x1 x2 aE aJ bf nf.1 (0:Int))))
def c4.nq(N:Nat)(dG:c4.fB):Nat→c4.fJ
 |0,_,_,_,_,_,_,_,_=>none
 |n+1,x1,x2,aE,aJ,bf,bo,bM,cq=>c4.lH N (c4.LO N dG N) dG (c4.nq N dG n) x1 x2 aE aJ bf bo bM cq
def c4.yb(N:Nat)(ry:c4.fJ)(dG:c4.fB)(x1:List (Int))(x2:List (Int))(aE:List (Int))(aJ:Int)(bf:Int):Option ((List (Int))×(Int)×(Int)):=
 cond (bR bf (List.length x1:Int)) (cond (dX (List.length x1:Int) (List.length x1:Int)) (ry x1 x2 aE aJ bf (List.replicate (List.length x1:Int).toNat (0:Int)) false (0:Int)) (none)) (some (aE,aJ,(0:Int)))
def c4.l8(N:Nat):Nat→c4.fB
 |0,_,_,_,_,_=>none
 |n+1,x1,x2,aE,aJ,bf=>c4.yb N (c4.nq N (c4.l8 N n) N) (c4.l8 N n) x1 x2 aE aJ bf
def c4.b(N:Nat)(Am:c4.fB)(a0:Int)(a1:List (Int))(a2:List (Int)):Option ((List (Int))×(Int)×(Int)):=
 (lj N a0 a1).bind fun r1=>cond (r1) (some ([],(0:Int),(1:Int))) (cond (!ay (List.length a2:Int) (List.length a1:Int)) (some ([],(0:Int),(1:Int))) ((lj N (0:Int) a2).bind fun r2=>cond (r2) (some ([],(0:Int),(1:Int))) ((la N a1).bind fun r3=>(qX N r3).bind fun r4=>cond (!r4.2) (some ([],(0:Int),(2:Int))) (cond (dX (List.length a1:Int) (List.length a1:Int)) (Am a1 a2 (List.replicate (List.length a1:Int).toNat (0:Int)) a0 (0:Int)) (none)))))
def c4(N:Nat)(a0:Int)(a1:List (Int))(a2:List (Int)):Option ((List (Int))×(Int)×(Int)):=c4.b N (c4.l8 N N) a0 a1 a2
abbrev pV.rr:=Int→Int→(List (Int))→(List (Int))→aj→Int→Option (aj×(Int))
abbrev pV.nk:=Int→ah→Int→(List (Int))→(List (Int))→Int→Option (aj×(Int))
def pV.xD(N:Nat)(ru:pV.rr)(x2:Int)(x8:Int)(x9:List (Int))(bf:List (Int))(cq:aj)(cM:Int):Option (aj×(Int)):=
 cond (aH cM (List.length bf:Int)) (cond (aK cM (List.length bf)) (cond (aH x8 0) (let QH:Int:=W .i64 (0-(List.getD bf cM.toNat (0:Int)));cond (!ay QH 0) (cond (aK cM (List.length x9)) (cond (small (List.length cq+List.length ([(List.getD x9 cM.toNat (0:Int),(x2,(QH,())))]))) (ru x2 x8 x9 bf (cq++([(List.getD x9 cM.toNat (0:Int),(x2,(QH,())))])) (W .i64 (cM+1))) (none)) (none)) (ru x2 x8 x9 bf cq (W .i64 (cM+1)))) (cond (!ay (List.getD bf cM.toNat (0:Int)) (0:Int)) (cond (aK cM (List.length x9)) (cond (small (List.length cq+List.length ([(List.getD x9 cM.toNat (0:Int),(x2,(List.getD bf cM.toNat (0:Int),())))]))) (ru x2 x8 x9 bf (cq++([(List.getD x9 cM.toNat (0:Int),(x2,(List.getD bf cM.toNat (0:Int),())))])) (W .i64 (cM+1))) (none)) (none)) (ru x2 x8 x9 bf cq (W .i64 (cM+1))))) (none)) (some (cq,(0:Int)))
def pV.xC(N:Nat):Nat→pV.rr
 |0,_,_,_,_,_,_=>none
 |n+1,x2,x8,x9,bf,cq,cM=>pV.xD N (pV.xC N n) x2 x8 x9 bf cq cM
def pV.sy(N:Nat)(F5:pV.rr)(n4:pV.nk)(x2:Int)(x4:ah)(x8:Int)(x9:List (Int))(aR:List (Int))(aE:Int):Option (aj×(Int)):=
 cond (aH aE (List.length x4.2.2.2.1:Int)) (cond (aK aE (List.length x4.2.2.2.1)) (cond (!ay ((List.getD x4.2.2.2.1 aE.toNat aW).1) (0:Int)) (cond (ay (((List.getD x4.2.2.2.1 aE.toNat aW).2).1) x2) (cond (!(lR .bool (aH 0 ((((List.getD x4.2.2.2.1 aE.toNat aW).2).2).1)) (aH 0 x8))) (cond (small (List.length x9+List.length ([(List.getD x4.2.2.2.1 aE.toNat aW).1]))) (let v6:Int:=mx ((((List.getD x4.2.2.2.1 aE.toNat aW).2).2).1) (W .i64 (0-((((List.getD x4.2.2.2.1 aE.toNat aW).2).2).1)));cond (small (List.length aR+List.length ([v6]))) (n4 x2 x4 x8 (x9++([(List.getD x4.2.2.2.1 aE.toNat aW).1])) (aR++([v6])) (W .i64 (aE+1))) (none)) (none)) (n4 x2 x4 x8 x9 aR (W .i64 (aE+1)))) (n4 x2 x4 x8 x9 aR (W .i64 (aE+1)))) (n4 x2 x4 x8 x9 aR (W .i64 (aE+1)))) (none)) ((c4 N (mx x8 (W .i64 (0-x8))) aR aR).bind fun ow=>cond (!ay ow.2.2 0) (some ([],ow.2.2)) (F5 x2 x8 x9 ow.1 ([((0:Int),(x2,((W .i64 (0-x8)),())))]) (0:Int)))
def pV.ve(N:Nat):Nat→pV.nk
 |0,_,_,_,_,_,_=>none
 |n+1,x2,x4,x8,x9,aR,aE=>pV.sy N (pV.xC N N) (pV.ve N n) x2 x4 x8 x9 aR aE
def pV.b(N:Nat)(Ah:pV.nk)(a0:ae)(a1:ah)(a2:Int):Option (aj×(Int)):=
 (bE N a0 a1).bind fun r1=>cond (!r1) (some ([],(1:Int))) (cond (aH a2 0) (some ([],(3:Int))) (cond (bR (List.length a0.1:Int) a2) (some ([],(3:Int))) ((uH N a1.2.2.2.1 (0:Int) a2).bind fun r2=>cond (ay r2 0) (some ([],(0:Int))) (Ah a2 a1 r2 ([]) ([]) (0:Int)))))
def pV(N:Nat)(a0:ae)(a1:ah)(a2:Int):Option (aj×(Int)):=pV.b N (pV.ve N N) a0 a1 a2
abbrev zY.bl:=ae→ah→ah→aj→Int→Option (ah×(Int))
def zY.du(N:Nat)(bg:zY.bl)(x2:ae)(x3:ah)(x4:ah)(x6:aj)(x7:Int):Option (ah×(Int)):=
 cond (aH x7 (List.length x2.1:Int)) ((pV N x2 x3 x7).bind fun r3=>cond (!ay r3.2 0) (some ((bN,(cL,(br,(br,(c5,(de,())))))),r3.2)) (cond (small (List.length x6+List.length r3.1)) (bg x2 x3 x4 (x6++r3.1) (W .i64 (x7+1))) (none))) ((zS N x3 x6 ([]:List ((Int)×((Int)×(((Bool)×((List (Int))×(Unit)))×(Unit)))))).bind fun r6=>some (r6.1,r6.2))
def zY.l5(N:Nat):Nat→zY.bl
 |0,_,_,_,_,_=>none
 |n+1,x2,x3,x4,x6,x7=>zY.du N (zY.l5 N n) x2 x3 x4 x6 x7
def zY.b(N:Nat)(dL:zY.bl)(a0:ae)(a1:ah):Option (ah×(Int)):=
 (bE N a0 a1).bind fun r1=>cond (!r1) (some ((bN,(cL,(br,(br,(c5,(de,())))))),(1:Int))) (dL a0 a1 (bN,(cL,(br,(br,(c5,(de,())))))) ([]) (0:Int))
def zY(N:Nat)(a0:ae)(a1:ah):Option (ah×(Int)):=zY.b N (zY.l5 N N) a0 a1
abbrev m8.P6:=aP→aP→cm→aX→Int→Int→Option (aP×cm)
def m8.ZZ(N:Nat)(X5:m8.P6)(x4:aP)(x6:aP)(x7:cm)(bo:aX)(cq:Int)(cM:Int):Option (aP×cm):=
 cond (aH cM (List.length bo:Int)) (cond (aK cM (List.length bo)) (cond (ay (((((List.getD bo cM.toNat ((0:Int),(bN,aO))).2).2).2).1) (2:Int)) (X5 x4 x6 x7 bo (W .i64 (cq+1)) (W .i64 (cM+1))) (X5 x4 x6 x7 bo cq (W .i64 (cM+1)))) (none)) (some (x4,((0:Int),(cq,((0:Int),())))))
def m8.l41(N:Nat):Nat→m8.P6
 |0,_,_,_,_,_,_=>none
 |n+1,x4,x6,x7,bo,cq,cM=>m8.ZZ N (m8.l41 N n) x4 x6 x7 bo cq cM
def m8.b(N:Nat)(afx:m8.P6)(a0:ae)(a1:aP)(a2:fy):Option (aP×cm):=
 cond (ay a2.1 14) ((SE N a0 a1.2.2.1 a1.2.2.2.1.1 a2.2.1 a2.2.2.1).bind fun r1=>(dR N r1.2).bind fun r2=>some ((a1.1,(a1.2.1,(r1.1,a1.2.2.2))),r2)) (cond (ay a2.1 15) ((fI N a0 a1.2.2.1 a1.2.2.2.1.1).bind fun r3=>(dR N r3.2).bind fun r4=>some ((a1.1,(a1.2.1,(r3.1,((a1.2.2.2.1.1,((2:Int),((0:Int),a1.2.2.2.1.2.2.2))),a1.2.2.2.2)))),r4)) (cond (ay a2.1 16) ((pR N a0 a1.2.2.1 a1.2.1).bind fun r5=>some ((a1.1,((W .i64 (a1.2.1+(List.length r5.1:Int))),(a1.2.2.1,((a1.2.2.2.1.1,(a1.2.2.2.1.2.1,(a1.2.2.2.1.2.2.1,(a1.2.2.2.1.2.2.2.1,(r5.1,a1.2.2.2.1.2.2.2.2.2))))),a1.2.2.2.2)))),(r5.2,((List.length r5.1:Int),((0:Int),()))))) (cond (ay a2.1 17) ((m7 N a0 a1 a2).bind fun r7=>some (r7.1,r7.2)) (cond (ay a2.1 18) (cond (ay a1.2.2.2.1.2.2.2.1 3) ((dR N (5:Int)).bind fun r8=>some (a1,r8)) ((cR N a0 a1.2.2.1 a1.2.1).bind fun r9=>cond (!ay r9.2 0) ((dR N r9.2).bind fun iX=>some (a1,iX)) ((Mr N a1 a0.2.2.2.2.1).bind fun kB=>cond (!kB.2) ((dR N (2:Int)).bind fun lA=>some (a1,lA)) ((mZ N a0 a1.2.2.1).bind fun ow=>some ((a1.1,((W .i64 (a1.2.1+(List.length r9.1:Int))),(a1.2.2.1,((a1.2.2.2.1.1,((3:Int),(kB.1,((W .i64 (a1.2.2.2.1.2.2.2.1+1)),(cL,(r9.1,(cL,(ow.1,a1.2.2.2.1.2.2.2.2.2.2.2.2)))))))),a1.2.2.2.2)))),((0:Int),((List.length r9.1:Int),((0:Int),())))))))) (cond (ay a2.1 19) ((SH N a0 a1.2.2.1 a1.2.2.2.1.2.2.2.2.2.1 a1.2.2.2.1.2.2.2.2.2.2.1 (a1.2.1,(a2.2.2.2.2.2.1,(a2.2.1,(a2.2.2.2.2.2.2.2.1,()))))).bind fun vZ=>let QH:Int:=W .i64 (a1.2.1+1);some ((a1.1,(QH,(a1.2.2.1,((a1.2.2.2.1.1,(a1.2.2.2.1.2.1,(a1.2.2.2.1.2.2.1,(a1.2.2.2.1.2.2.2.1,(a1.2.2.2.1.2.2.2.2.1,(a1.2.2.2.1.2.2.2.2.2.1,(vZ.1,a1.2.2.2.1.2.2.2.2.2.2.2))))))),a1.2.2.2.2)))),(vZ.2,((W .i64 (QH-1)),((0:Int),()))))) (cond (ay a2.1 20) ((oi N a0 a1.2.2.1 a1.2.2.2.1.2.2.2.2.2.1 a1.2.2.2.1.2.2.2.2.2.2.1).bind fun Ge=>cond (!ay Ge.2.2 0) ((dR N Ge.2.2).bind fun Ga=>some (a1,Ga)) ((cr N a0 a1.2.2.2.1.2.2.2.2.2.2.2.2.1 a1.2.2.2.1.2.2.2.2.2.2.2.1 Ge.2.1 a1.2.2.2.1.2.2.2.2.2.2.1).bind fun Cd=>afx (a1.1,(a1.2.1,(Ge.1,((a1.2.2.2.1.1,((2:Int),((0:Int),(a1.2.2.2.1.2.2.2.1,(a1.2.2.2.1.2.2.2.2.1,(Ge.2.1,(a1.2.2.2.1.2.2.2.2.2.2.1,(a1.2.2.2.1.2.2.2.2.2.2.2.1,(Cd.1,a1.2.2.2.1.2.2.2.2.2.2.2.2.2))))))))),a1.2.2.2.2)))) ((0:Int),((0:Int),((bN,(cL,(br,(br,(c5,(de,())))))),(((0:Int),((0:Int),((0:Int),((0:Int),(cL,(([]:List ((Int)×((List ((Int)×((Int)×(Unit))))×((Int)×((Int)×((Int)×((Int)×(Unit)))))))),(cL,(c5,(bN,(bN,())))))))))),(((0:Int),((0:Int),(xQ,((0:Int),())))),()))))) aW Ge.2.1 (0:Int) (0:Int))) (cond (ay a2.1 21) ((gT N a0 a1.2.2.1 a1.2.2.2.1.1 a1.2.2.2.1.2.2.2.2.2.2.2.2.1 a1.2.2.2.1.2.2.2.2.2.2.2.2.2.1).bind fun vh=>cond (!ay vh.2.2 0) ((dR N vh.2.2).bind fun Ji=>some (a1,Ji)) ((zY N a0 vh.1).bind fun QI=>cond (!ay QI.2 0) ((dR N QI.2).bind fun AD=>some (a1,AD)) ((kT N QI.1.1 a1.2.2.2.1.1 a2.1).bind fun F7=>some ((a1.1,(a1.2.1,((F7.1,QI.1.2),(((0:Int),((0:Int),((0:Int),((0:Int),(cL,(([]:List ((Int)×((List ((Int)×((Int)×(Unit))))×((Int)×((Int)×((Int)×((Int)×(Unit)))))))),(cL,(c5,(bN,(bN,())))))))))),(vh.2.1,a1.2.2.2.2.2))))),(F7.2,((0:Int),(vh.2.1.2.1,()))))))) ((dR N (0:Int)).bind fun HL=>some (a1,HL)))))))))
def m8(N:Nat)(a0:ae)(a1:aP)(a2:fy):Option (aP×cm):=m8.b N (m8.l41 N N) a0 a1 a2
abbrev pW.P4:=ae→aP→fy→aP→cm→Option (aP×cm)
def pW.I1(N:Nat)(x3:ae)(x4:aP)(x5:fy)(x6:aP)(x7:cm):Option (aP×cm):=
 (SS N x4 x5.1).bind fun Ji=>cond (!Ji) ((dR N (6:Int)).bind fun QI=>some (x4,QI)) ((m8 N x3 x4 x5).bind fun AD=>some (AD.1,AD.2))
def pW.Pp(N:Nat)(x3:ae)(x4:aP)(x5:fy)(x6:aP)(x7:cm):Option (aP×cm):=pW.I1 N x3 x4 x5 x6 x7
def pW.b(N:Nat)(Gf:pW.P4)(a0:ae)(a1:aP)(a2:fy):Option (aP×cm):=
 cond (ay a2.1 11) ((kT N a1.2.2.1.1 a2.2.1 a2.1).bind fun r1=>cond (ay r1.2 0) (cond (ay a2.1 11) ((Md N a0 (r1.1,a1.2.2.1.2) a2.2.1).bind fun r2=>cond (ay a1.2.2.2.1.2.1 3) ((ll N a1.2.2.2.1.2.2.2.2.2.2.1 a2.2.1).bind fun r3=>(dR N r1.2).bind fun r4=>some ((a1.1,(a1.2.1,(r2.1,((a1.2.2.2.1.1,(a1.2.2.2.1.2.1,(a1.2.2.2.1.2.2.1,(a1.2.2.2.1.2.2.2.1,(a1.2.2.2.1.2.2.2.2.1,(a1.2.2.2.1.2.2.2.2.2.1,(r3,a1.2.2.2.1.2.2.2.2.2.2.2))))))),a1.2.2.2.2)))),r4)) ((dR N r1.2).bind fun r5=>some ((a1.1,(a1.2.1,(r2.1,a1.2.2.2))),r5))) ((dR N r1.2).bind fun r6=>some ((a1.1,(a1.2.1,((r1.1,a1.2.2.1.2),a1.2.2.2))),r6))) ((dR N r1.2).bind fun r7=>some ((a1.1,(a1.2.1,((r1.1,a1.2.2.1.2),a1.2.2.2))),r7))) (cond (ay a2.1 12) ((kT N a1.2.2.1.1 a2.2.1 a2.1).bind fun r8=>cond (ay r8.2 0) (cond (ay a2.1 11) ((Md N a0 (r8.1,a1.2.2.1.2) a2.2.1).bind fun r9=>cond (ay a1.2.2.2.1.2.1 3) ((ll N a1.2.2.2.1.2.2.2.2.2.2.1 a2.2.1).bind fun iX=>(dR N r8.2).bind fun kB=>some ((a1.1,(a1.2.1,(r9.1,((a1.2.2.2.1.1,(a1.2.2.2.1.2.1,(a1.2.2.2.1.2.2.1,(a1.2.2.2.1.2.2.2.1,(a1.2.2.2.1.2.2.2.2.1,(a1.2.2.2.1.2.2.2.2.2.1,(iX,a1.2.2.2.1.2.2.2.2.2.2.2))))))),a1.2.2.2.2)))),kB)) ((dR N r8.2).bind fun lA=>some ((a1.1,(a1.2.1,(r9.1,a1.2.2.2))),lA))) ((dR N r8.2).bind fun nf=>some ((a1.1,(a1.2.1,((r8.1,a1.2.2.1.2),a1.2.2.2))),nf))) ((dR N r8.2).bind fun ow=>some ((a1.1,(a1.2.1,((r8.1,a1.2.2.1.2),a1.2.2.2))),ow))) (cond (ay a2.1 13) ((Dy N a1 a2.2.1).bind fun sN=>cond (ay sN 0) ((dR N (3:Int)).bind fun vZ=>some (a1,vZ)) (cond (!ay a1.2.2.2.1.2.1 0) ((dR N (6:Int)).bind fun vf=>some (a1,vf)) ((kT N a1.2.2.1.1 a2.2.1 a2.1).bind fun vg=>cond (!ay vg.2 0) ((dR N vg.2).bind fun Ge=>some ((a1.1,(a1.2.1,((vg.1,a1.2.2.1.2),a1.2.2.2))),Ge)) ((Mr N (a1.1,(a1.2.1,((vg.1,a1.2.2.1.2),a1.2.2.2))) a0.2.2.2.1).bind fun Ga=>cond (!Ga.2) ((dR N (2:Int)).bind fun Cd=>some ((a1.1,(a1.2.1,((vg.1,a1.2.2.1.2),a1.2.2.2))),Cd)) (some ((a1.1,(a1.2.1,((vg.1,a1.2.2.1.2),((a2.2.1,((1:Int),(Ga.1,((0:Int),(cL,(([]:List ((Int)×((List ((Int)×((Int)×(Unit))))×((Int)×((Int)×((Int)×((Int)×(Unit)))))))),(cL,(c5,(bN,(bN,())))))))))),a1.2.2.2.2)))),aW)))))) (cond (ay a2.1 19) ((Dy N a1 a2.2.1).bind fun HM=>cond (ay HM 0) ((dR N (3:Int)).bind fun Aa=>some (a1,Aa)) ((Dy N a1 a2.2.1).bind fun Ci=>cond (!ay Ci 1) ((dR N (7:Int)).bind fun Cj=>some (a1,Cj)) (Gf a0 a1 a2 ((0:Int),((0:Int),((bN,(cL,(br,(br,(c5,(de,())))))),(((0:Int),((0:Int),((0:Int),((0:Int),(cL,(([]:List ((Int)×((List ((Int)×((Int)×(Unit))))×((Int)×((Int)×((Int)×((Int)×(Unit)))))))),(cL,(c5,(bN,(bN,())))))))))),(((0:Int),((0:Int),(xQ,((0:Int),())))),()))))) aW))) (Gf a0 a1 a2 ((0:Int),((0:Int),((bN,(cL,(br,(br,(c5,(de,())))))),(((0:Int),((0:Int),((0:Int),((0:Int),(cL,(([]:List ((Int)×((List ((Int)×((Int)×(Unit))))×((Int)×((Int)×((Int)×((Int)×(Unit)))))))),(cL,(c5,(bN,(bN,())))))))))),(((0:Int),((0:Int),(xQ,((0:Int),())))),()))))) aW))))
def pW(N:Nat)(a0:ae)(a1:aP)(a2:fy):Option (aP×cm):=pW.b N (pW.Pp N) a0 a1 a2
def SW(N:Nat)(a0:ae)(a1:aP)(a2:fy):Option (aP×cm):=
 cond (ay a2.1 1) ((gR N a1.2.2.1.1 a2.2.1).bind fun r1=>(dR N r1.2).bind fun r2=>some ((a1.1,(a1.2.1,((r1.1,a1.2.2.1.2),a1.2.2.2))),r2)) (cond (ay a2.1 2) ((ew N a1.2.2.1.1 a1.2.2.1.2.1 (a2.2.2.1,(a2.2.1,(a2.2.2.2.2.1,((0:Int),()))))).bind fun r3=>(dR N r3.2).bind fun r4=>some ((a1.1,(a1.2.1,((a1.2.2.1.1,(r3.1,a1.2.2.1.2.2)),a1.2.2.2))),r4)) (cond (ay a2.1 3) ((PE N a1 a2.2.2.1).bind fun r5=>cond (!r5) ((dR N (3:Int)).bind fun r6=>some (a1,r6)) ((Ms N a1 (1:Int) (0:Int) (5:Int) a2.2.2.1 a2.2.2.2.2.2.2.1).bind fun r7=>some (r7.1,r7.2))) (cond (ay a2.1 4) ((SC N a0 a1.2.2.1 a2.2.2.1 a2.2.2.2.2.2.2.1).bind fun r8=>(dR N r8.2).bind fun r9=>some ((a1.1,(a1.2.1,(r8.1,a1.2.2.2))),r9)) (cond (ay a2.1 5) ((Dy N a1 a2.2.1).bind fun iX=>cond (ay iX 0) ((dR N (3:Int)).bind fun kB=>some (a1,kB)) ((Dy N a1 a2.2.1).bind fun lA=>cond (!ay lA 1) ((dR N (7:Int)).bind fun nf=>some (a1,nf)) ((Ms N a1 (1:Int) (0:Int) (6:Int) a2.2.1 a2.2.2.2.2.2.2.1).bind fun ow=>some (ow.1,ow.2)))) (cond (ay a2.1 22) ((Dy N a1 a2.2.1).bind fun sN=>cond (ay sN 0) ((dR N (3:Int)).bind fun vZ=>some (a1,vZ)) ((qv N a1.2.2.1.2.2.1 (7:Int) a2.2.1).bind fun vf=>(fM N vf).bind fun vg=>(MS N vg).bind fun Ge=>(fM N a2.2.2.2.2.2.2.1).bind fun Ga=>(CY N Ga Ge).bind fun Cd=>cond (aH 0 Cd) ((dR N (9:Int)).bind fun HM=>some (a1,HM)) ((Ms N a1 (1:Int) (0:Int) (7:Int) a2.2.1 a2.2.2.2.2.2.2.1).bind fun Aa=>some (Aa.1,Aa.2)))) (cond (ay a2.1 6) ((mT N a1.2.2.1.2.1 a2.2.2.1 a2.2.2.2.2.2.2.1).bind fun Ci=>(dR N Ci.2).bind fun Cj=>some ((a1.1,(a1.2.1,((a1.2.2.1.1,(Ci.1,a1.2.2.1.2.2)),a1.2.2.2))),Cj)) (cond (ay a2.1 7) ((jf N a0 a1.2.2.1 (a1.2.1,(a2.2.2.1,(a2.2.2.2.1,(a2.2.2.2.2.1,(a2.2.2.2.2.2.2.1,(a2.2.2.2.2.2.2.2.1,()))))))).bind fun vh=>let v27:Int:=W .i64 (a1.2.1+1);some ((a1.1,(v27,(vh.1,a1.2.2.2))),(vh.2.2.2,((W .i64 (v27-1)),((W .i64 (a2.2.2.2.2.2.2.1-vh.2.2.1)),()))))) (cond (ay a2.1 8) ((PE N a1 a2.2.2.1).bind fun F7=>cond (!F7) ((dR N (3:Int)).bind fun HL=>some (a1,HL)) ((mW N a1.2.2.1.2.2.2.2.2.1 a2.2.2.1 a2.2.2.2.2.2.1).bind fun r32=>(dR N r32.2).bind fun r33=>some ((a1.1,(a1.2.1,((a1.2.2.1.1,(a1.2.2.1.2.1,(a1.2.2.1.2.2.1,(a1.2.2.1.2.2.2.1,(a1.2.2.1.2.2.2.2.1,(r32.1,a1.2.2.1.2.2.2.2.2.2)))))),a1.2.2.2))),r33))) (cond (ay a2.1 9) ((SB N a0 a1.2.2.1 a2.2.2.2.1 a2.2.2.2.2.2.2.2.1).bind fun Jc=>cond (ay Jc.2.2 0) (cond (!ay a1.2.2.2.1.2.1 0) ((c6 N a1.2.2.2.1.2.2.2.2.2.2.2.2.2.1 Jc.2.1).bind fun r35=>(dR N r35.2).bind fun r36=>some ((a1.1,(a1.2.1,(Jc.1,((a1.2.2.2.1.1,(a1.2.2.2.1.2.1,(a1.2.2.2.1.2.2.1,(a1.2.2.2.1.2.2.2.1,(a1.2.2.2.1.2.2.2.2.1,(a1.2.2.2.1.2.2.2.2.2.1,(a1.2.2.2.1.2.2.2.2.2.2.1,(a1.2.2.2.1.2.2.2.2.2.2.2.1,(a1.2.2.2.1.2.2.2.2.2.2.2.2.1,(r35.1,a1.2.2.2.1.2.2.2.2.2.2.2.2.2.2)))))))))),a1.2.2.2.2)))),r36)) ((dR N Jc.2.2).bind fun r37=>some ((a1.1,(a1.2.1,(Jc.1,a1.2.2.2))),r37))) ((dR N Jc.2.2).bind fun r38=>some ((a1.1,(a1.2.1,(Jc.1,a1.2.2.2))),r38))) (cond (ay a2.1 10) ((Mr N a1 a2.2.2.2.2.2.2.1).bind fun r39=>cond (!r39.2) ((dR N (2:Int)).bind fun r40=>some (a1,r40)) (some ((r39.1,a1.2),aW))) ((pW N a0 a1 a2).bind fun r41=>some (r41.1,r41.2))))))))))))
def SY(N:Nat)(a0:ae)(a1:aP)(a2:fy):Option (aP×cm):=
 (iG N a0).bind fun r1=>cond (!r1) (some (a1,((1:Int),ch))) ((mS N a2).bind fun r2=>cond (!r2) (some (a1,((1:Int),ch))) ((SW N a0 a1 a2).bind fun r3=>cond (!ay r3.2.1 0) (some (a1,(r3.2.1,ch))) (some (r3.1,r3.2))))
abbrev z5.fe:=fQ→ae→aP→aP→aj→Int→Option (aP×aj)
def z5.ov(N:Nat)(fR:z5.fe)(x1:fQ)(x2:ae)(x4:aP)(x6:aP)(x8:aj)(x9:Int):Option (aP×aj):=
 cond (aH x9 (List.length x1:Int)) (cond (aK x9 (List.length x1)) ((SY N x2 x6 (List.getD x1 x9.toNat zz8)).bind fun r3=>cond (small (List.length x8+List.length ([r3.2]))) (fR x1 x2 x4 r3.1 (x8++([r3.2])) (W .i64 (x9+1))) (none)) (none)) (some (x6,x8))
def z5.l6(N:Nat):Nat→z5.fe
 |0,_,_,_,_,_,_=>none
 |n+1,x1,x2,x4,x6,x8,x9=>z5.ov N (z5.l6 N n) x1 x2 x4 x6 x8 x9
def z5.b(N:Nat)(pZ:z5.fe)(a0:ae)(a1:fQ):Option (aP×aj):=
 (Z1 N a0).bind fun r1=>cond (!ay r1.2 0) (some (((0:Int),((0:Int),((bN,(cL,(br,(br,(c5,(de,())))))),(((0:Int),((0:Int),((0:Int),((0:Int),(cL,(([]:List ((Int)×((List ((Int)×((Int)×(Unit))))×((Int)×((Int)×((Int)×((Int)×(Unit)))))))),(cL,(c5,(bN,(bN,())))))))))),(((0:Int),((0:Int),(xQ,((0:Int),())))),()))))),[])) (pZ a1 a0 ((0:Int),((0:Int),((bN,(cL,(br,(br,(c5,(de,())))))),(((0:Int),((0:Int),((0:Int),((0:Int),(cL,(([]:List ((Int)×((List ((Int)×((Int)×(Unit))))×((Int)×((Int)×((Int)×((Int)×(Unit)))))))),(cL,(c5,(bN,(bN,())))))))))),(((0:Int),((0:Int),(xQ,((0:Int),())))),()))))) r1.1 ([]) (0:Int))
def z5(N:Nat)(a0:ae)(a1:fQ):Option (aP×aj):=z5.b N (z5.l6 N N) a0 a1
def F28(N:Nat)(a0:aN)(a1:ae)(a2:Int):Option (aP×aN):=
 (yl N a0 a1 a2).bind fun r1=>(oh N r1.2 (2:Int)).bind fun r2=>let v3:Int:=W .i64 ((1:Int)+r2.1);cond (small (List.length r1.1+List.length ([((11:Int),(v3,eK)),((13:Int),(v3,eK))]))) (let v4:List ((Int)×((Int)×((Int)×((Int)×((Int)×((Int)×((Int)×((Int)×(Unit))))))))):=r1.1++([((11:Int),(v3,eK)),((13:Int),(v3,eK))]);(xG N r2.2 a1).bind fun r5=>cond (small (List.length v4+List.length r5.1)) (let v6:List ((Int)×((Int)×((Int)×((Int)×((Int)×((Int)×((Int)×((Int)×(Unit))))))))):=v4++r5.1;cond (small (List.length v6+List.length ([((10:Int),((0:Int),((0:Int),((0:Int),((0:Int),((0:Int),((2:Int),((0:Int),())))))))),((15:Int),Xs)]))) (let v7:List ((Int)×((Int)×((Int)×((Int)×((Int)×((Int)×((Int)×((Int)×(Unit))))))))):=v6++([((10:Int),((0:Int),((0:Int),((0:Int),((0:Int),((0:Int),((2:Int),((0:Int),())))))))),((15:Int),Xs)]);(xG N r5.2 a1).bind fun r8=>cond (small (List.length v7+List.length r8.1)) ((z5 N a1 (v7++r8.1)).bind fun iX=>some (iX.1,r8.2)) (none)) (none)) (none)) (none)
abbrev F8.PO:=ah→Int→aj→Int→au→Int→Int→Int→Option (Bool)
abbrev F8.gY:=ah→Int→aj→Int→au→Int→Int→Option (Bool)
abbrev F8.dv:=ah→Int→aj→Int→au→Int→Option (Bool)
def F8.Ii(N:Nat)(nc:F8.gY)(x7:ah)(x8:Int)(x9:aj)(aE:Int)(aJ:au)(bM:Int)(cq:Int)(cM:Int):Option (Bool):=
 (uH N x7.2.2.2.1 cq x8).bind fun Cd=>cond (ay Cd 0) (cond (!ay cM 0) (some false) (nc x7 x8 x9 aE aJ bM (W .i64 (cq+1)))) (cond (lR .bool (aH 0 Cd) (aH 0 aE)) (cond (!ay cM 0) (some false) (nc x7 x8 x9 aE aJ bM (W .i64 (cq+1)))) ((fM N cM).bind fun Ci=>(HF N Ci).bind fun Cj=>(fN N Cj aJ).bind fun vh=>(fM N aE).bind fun Ji=>(HF N Ji).bind fun QI=>(fM N Cd).bind fun AD=>(HF N AD).bind fun F7=>(fN N QI F7).bind fun HL=>(Ij N vh HL).bind fun r32=>(HF N r32).bind fun r33=>cond (!ay cM 0) (cond (!(lR .bool (aH 0 cM) (aH 0 aE))) (some false) ((CY N r33 aJ).bind fun Jc=>cond (bR 0 Jc) (some false) (nc x7 x8 x9 aE aJ bM (W .i64 (cq+1))))) ((CY N r33 aJ).bind fun r36=>cond (bR 0 r36) (some false) (nc x7 x8 x9 aE aJ bM (W .i64 (cq+1))))))
def F8.J5(N:Nat)(nc:F8.gY)(x7:ah)(x8:Int)(x9:aj)(aE:Int)(aJ:au)(bM:Int)(cq:Int)(cM:Int):Option (Bool):=F8.Ii N nc x7 x8 x9 aE aJ bM cq cM
def F8.ob(N:Nat)(Ad:F8.PO)(nc:F8.gY)(x7:ah)(x8:Int)(x9:aj)(aE:Int)(aJ:au)(bM:Int)(cq:Int):Option (Bool):=
 cond (bR cq 24) (cond (aH bM (List.length x9:Int)) (cond (aK bM (List.length x9)) (cond (ay ((List.getD x9 bM.toNat aW).1) cq) (cond (aK bM (List.length x9)) (Ad x7 x8 x9 aE aJ (W .i64 (bM+1)) cq ((((List.getD x9 bM.toNat aW).2).2).1)) (none)) (Ad x7 x8 x9 aE aJ bM cq (0:Int))) (none)) (Ad x7 x8 x9 aE aJ bM cq (0:Int))) (some (ay bM (List.length x9:Int)))
def F8.oa(N:Nat):Nat→F8.gY
 |0,_,_,_,_,_,_,_=>none
 |n+1,x7,x8,x9,aE,aJ,bM,cq=>F8.ob N (F8.J5 N (F8.oa N n)) (F8.oa N n) x7 x8 x9 aE aJ bM cq
def F8.il(N:Nat)(uX:F8.gY)(eu:F8.dv)(x7:ah)(x8:Int)(x9:aj)(aE:Int)(aJ:au)(bf:Int):Option (Bool):=
 cond (bR bf 24) ((uH N x7.2.2.2.1 bf x8).bind fun iX=>cond (!ay iX 0) (cond (!(lR .bool (aH 0 iX) (aH 0 aE))) ((fM N iX).bind fun kB=>(HF N kB).bind fun lA=>(ud N aJ lA).bind fun nf=>eu x7 x8 x9 aE nf (W .i64 (bf+1))) (eu x7 x8 x9 aE aJ (W .i64 (bf+1)))) (eu x7 x8 x9 aE aJ (W .i64 (bf+1)))) (cond (ay (List.length x9:Int) 0) (some false) (cond (aK 0 (List.length x9)) (cond (!(lR (.pair (.int .i64) (.pair (.int .i64) (.pair (.int .i64) .unit))) (List.getD x9 (0:Int).toNat aW) ((0:Int),(x8,((W .i64 (0-aE)),()))))) (some false) (uX x7 x8 x9 aE aJ (1:Int) (1:Int))) (none)))
def F8.jB(N:Nat):Nat→F8.dv
 |0,_,_,_,_,_,_=>none
 |n+1,x7,x8,x9,aE,aJ,bf=>F8.il N (F8.oa N N) (F8.jB N n) x7 x8 x9 aE aJ bf
def F8.b(N:Nat)(ni:F8.dv)(a0:List (Int))(a1:Int):Option (Bool):=
 (F26 N).bind fun r1=>cond (!r1) (some false) ((F13 N a0).bind fun r2=>(pU N r2).bind fun r3=>(F28 N r3.2 r3.1 (40:Int)).bind fun r4=>cond (ay (List.length r3.1.1:Int) 0) (none) (let v6:Int:=rem (W .i64 a1) (List.length r3.1.1:Int);(lz N r3.1 r4.1.2.2.1 v6).bind fun r7=>(uH N r4.1.2.2.1.2.2.2.1 (0:Int) v6).bind fun r8=>cond (!ay r7.2 0) (some (ay (List.length r7.1:Int) 0)) (cond (ay r8 0) (some (ay (List.length r7.1:Int) 0)) (ni r4.1.2.2.1 v6 r7.1 r8 (false,kX) (1:Int)))))
def F8(N:Nat)(a0:List (Int))(a1:Int):Option (Bool):=F8.b N (F8.jB N N) a0 a1
end
end VM.F
