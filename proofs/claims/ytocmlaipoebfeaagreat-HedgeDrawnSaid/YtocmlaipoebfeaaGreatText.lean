/- A part of the proof of HedgeDrawn of layer 22: the functions as equations between values, printed by a program. -/
import Derived.Test.YtocmlaipoebfeaaGreatVm0
set_option linter.all false
namespace VM.F
open Go VM
set_option maxRecDepth 100000
noncomputable section
abbrev qV:Ty:=(.pair .str .unit)
abbrev ix:Ty:=(.pair .str (.pair (.int .u64) .unit))
abbrev g9:Ty:=(.pair (.int .i64) (.pair (.int .i64) .unit))
abbrev ch:Ty:=(.pair (.int .i64) (.pair (.int .u64) .unit))
abbrev bY:Ty:=(.pair .bool (.pair (.slice (.int .u64)) .unit))
abbrev dC:Ty:=(.pair (.slice (.int .u64)) (.pair (.int .i64) .unit))
abbrev fD:Ty:=(.pair (.int .i64) g9)
abbrev qW:Ty:=(.pair (.int .i64) (.pair (.int .i64) (.pair .bool (.pair (.int .u8) .unit))))
abbrev dB:Ty:=(.pair (.int .i64) fD)
abbrev qX:Ty:=(.pair (.int .i64) (.pair (.int .i64) (.pair ch .unit)))
abbrev oj:Ty:=(.pair (.int .i64) dB)
abbrev od:Ty:=(.pair (.int .i64) (.pair (.int .i64) (.pair bY .unit)))
abbrev jA:Ty:=(.pair (.int .i64) oj)
abbrev pq:Ty:=(.pair (.int .i64) (.pair (.int .i64) jA))
abbrev iw:Ty:=(.pair (.int .i64) (.pair (.slice g9) dB))
abbrev eV:Ty:=(.pair (.int .i64) (.pair (.int .i64) (.pair (.slice oj) (.pair (.int .i64) .unit))))
abbrev ar:Ty:=(.pair (.slice dB) jA)
abbrev aB:Ty:=(.pair (.slice g9) (.pair (.slice dB) (.pair (.slice fD) (.pair (.slice fD) (.pair (.slice (.int .i64)) (.pair (.slice jA) .unit))))))
abbrev sB:Ty:=(.pair (.int .i64) (.pair (.int .i64) (.pair (.int .i64) (.pair (.int .i64) (.pair (.slice dB) (.pair (.slice iw) (.pair (.slice dB) (.pair (.slice (.int .i64)) (.pair (.slice g9) (.pair (.slice g9) .unit))))))))))
abbrev c0:Ty:=(.pair (.int .i64) (.pair (.int .i64) (.pair aB (.pair sB (.pair eV .unit)))))
abbrev Tg:=Ty.den qV
abbrev Th:=List (Ty.den qV)
abbrev Io:=Ty.den ix
abbrev Ip:=List (Ty.den ix)
abbrev KL:=Ty.den g9
abbrev av:=List (Ty.den g9)
abbrev aS:=Ty.den ch
abbrev cX:=List (Ty.den ch)
abbrev aw:=Ty.den bY
abbrev ij:=List (Ty.den bY)
abbrev aP:=Ty.den dC
abbrev aof:=List (Ty.den dC)
abbrev ca:=Ty.den fD
abbrev ah:=List (Ty.den fD)
abbrev Ti:=Ty.den qW
abbrev Tj:=List (Ty.den qW)
abbrev br:=Ty.den dB
abbrev aE:=List (Ty.den dB)
abbrev o0:=Ty.den qX
abbrev cF:=List (Ty.den qX)
abbrev gg:=Ty.den oj
abbrev aX:=List (Ty.den oj)
abbrev aca:=Ty.den od
abbrev bw:=List (Ty.den od)
abbrev ck:=Ty.den jA
abbrev aT:=List (Ty.den jA)
abbrev gM:=Ty.den pq
abbrev gv:=List (Ty.den pq)
abbrev ik:=Ty.den iw
abbrev bb:=List (Ty.den iw)
abbrev c8:=Ty.den eV
abbrev aij:=List (Ty.den eV)
abbrev aa:=Ty.den ar
abbrev aik:=List (Ty.den ar)
abbrev af:=Ty.den aB
abbrev aog:=List (Ty.den aB)
abbrev agk:=Ty.den sB
abbrev agl:=List (Ty.den sB)
abbrev aV:=Ty.den c0
abbrev amq:=List (Ty.den c0)
def F99(N:Nat):Option (aa×af):=
 some (([((0:Int),((100:Int),((1:Int),((0:Int),())))),((0:Int),((7:Int),bI))],((0:Int),((0:Int),((0:Int),((0:Int),((1:Int),((10:Int),()))))))),([((1:Int),((1:Int),()))],([((1:Int),((1:Int),((1:Int),((50:Int),()))))],([((1:Int),((0:Int),((-90:Int),()))),((5:Int),((1:Int),((90:Int),())))],([((0:Int),((0:Int),((5:Int),()))),((0:Int),((1:Int),((20:Int),()))),((1:Int),((0:Int),((-5:Int),()))),((1:Int),((1:Int),((-20:Int),())))],([(100:Int),(7:Int)],(cJ,())))))))
def yS(N:Nat)(a0:Int)(a1:Int)(a2:Int):Option (Bool):=
 cond (bW a1 a0) (some (bW a0 a2)) (some false)
abbrev wx.aW:=aa→aE→Int→Int→Option (Bool)
def wx.cA(N:Nat)(bz:wx.aW)(x1:aa)(aI:aE)(aO:Int)(bh:Int):Option (Bool):=
 cond (aG bh aO) (cond (aH bh (List.length aI)) ((yS N ((List.getD aI bh.toNat aK).1) (0:Int) (3:Int)).bind fun r3=>cond (!r3) (some false) ((yS N (((List.getD aI bh.toNat aK).2).1) (1:Int) (1000000000000:Int)).bind fun r4=>cond (!r4) (some false) ((yS N ((((List.getD aI bh.toNat aK).2).2).1) (0:Int) (1000000000:Int)).bind fun r5=>cond (!r5) (some false) ((yS N (((((List.getD aI bh.toNat aK).2).2).2).1) (0:Int) (1000000000:Int)).bind fun r6=>cond (!r6) (some false) (bz x1 aI aO (W .i64 (bh+1))))))) (none)) (cond (bW 0 x1.2.1) ((yS N x1.2.2.1 (0:Int) (4:Int)).bind fun r8=>cond (r8) ((yS N x1.2.2.2.1 (0:Int) (1000000:Int)).bind fun r9=>cond (r9) ((yS N x1.2.2.2.2.1 (0:Int) (1000000:Int)).bind fun gu=>cond (gu) ((yS N x1.2.2.2.2.2.1 (1:Int) (4611686018427387904:Int)).bind fun jQ=>cond (jQ) (some (bW 0 x1.2.2.2.2.2.2.1)) (some false)) (some false)) (some false)) (some false)) (some false))
def wx.l4(N:Nat):Nat→wx.aW
 |0,_,_,_,_=>none
 |n+1,x1,aI,aO,bh=>wx.cA N (wx.l4 N n) x1 aI aO bh
def wx.b(N:Nat)(c3:wx.aW)(a0:aa):Option (Bool):=
 (yS N (List.length a0.1:Int) (1:Int) (6:Int)).bind fun r1=>cond (!r1) (some false) (c3 a0 a0.1 (List.length a0.1:Int) (0:Int))
def wx(N:Nat)(a0:aa):Option (Bool):=wx.b N (wx.l4 N N) a0
abbrev lO.bS:=av→av→Int→Int→Option (Bool)
def lO.dx(N:Nat)(cN:lO.bS)(x0:av)(x5:av)(x6:Int)(x7:Int):Option (Bool):=
 cond (aG x7 x6) (cond (aH x7 (List.length x5)) (cond (aG ((List.getD x5 x7.toNat bI).1) (1:Int)) (some false) (cond (aG 12 ((List.getD x5 x7.toNat bI).1)) (some false) (cond (aG (((List.getD x5 x7.toNat bI).2).1) (1:Int)) (some false) (cond (aG 4 (((List.getD x5 x7.toNat bI).2).1)) (some false) (cond (aG 0 x7) (let v2:Int:=W .i64 (x7-1);cond (aH v2 (List.length x0)) (cond (bW ((List.getD x5 x7.toNat bI).1) ((List.getD x0 v2.toNat bI).1)) (some false) (cN x0 x5 x6 (W .i64 (x7+1)))) (none)) (cN x0 x5 x6 (W .i64 (x7+1)))))))) (none)) (some true)
def lO.l2(N:Nat):Nat→lO.bS
 |0,_,_,_,_=>none
 |n+1,x0,x5,x6,x7=>lO.dx N (lO.l2 N n) x0 x5 x6 x7
def lO.b(N:Nat)(eC:lO.bS)(a0:av):Option (Bool):=
 eC a0 a0 (List.length a0:Int) (0:Int)
def lO(N:Nat)(a0:av):Option (Bool):=lO.b N (lO.l2 N N) a0
abbrev jI.cV:=aE→(List (Bool))→aE→Int→Int→Option (Bool)
def jI.jP(N:Nat)(cC:jI.cV)(x0:aE)(x3:List (Bool))(x6:aE)(x7:Int)(x8:Int):Option (Bool):=
 cond (aG x8 x7) (cond (aH x8 (List.length x6)) (cond (aG ((List.getD x6 x8.toNat aK).1) (1:Int)) (some false) (cond (aG 24 ((List.getD x6 x8.toNat aK).1)) (some false) (cond (aG (((List.getD x6 x8.toNat aK).2).1) (1:Int)) (some false) (cond (aG 12 (((List.getD x6 x8.toNat aK).2).1)) (some false) (cond (!ay ((((List.getD x6 x8.toNat aK).2).2).1) (1:Int)) (cond (!ay ((((List.getD x6 x8.toNat aK).2).2).1) (2:Int)) (some false) (cond (aG (((((List.getD x6 x8.toNat aK).2).2).2).1) (0:Int)) (some false) (cond (aG 1000000000000 (((((List.getD x6 x8.toNat aK).2).2).2).1)) (some false) (cond (aG 0 x8) (let v2:Int:=W .i64 (x8-1);cond (aH v2 (List.length x0)) (cond (bW ((List.getD x6 x8.toNat aK).1) ((List.getD x0 v2.toNat aK).1)) (some false) (cond (ay ((((List.getD x6 x8.toNat aK).2).2).1) (1:Int)) (cond (aH (((List.getD x6 x8.toNat aK).2).1) 13) (cond (List.getD x3 (((List.getD x6 x8.toNat aK).2).1).toNat false) (some false) (cond (aH (((List.getD x6 x8.toNat aK).2).1) 13) (cC x0 (List.set x3 (((List.getD x6 x8.toNat aK).2).1).toNat true) x6 x7 (W .i64 (x8+1))) (none))) (none)) (cC x0 x3 x6 x7 (W .i64 (x8+1))))) (none)) (cond (ay ((((List.getD x6 x8.toNat aK).2).2).1) (1:Int)) (cond (aH (((List.getD x6 x8.toNat aK).2).1) 13) (cond (List.getD x3 (((List.getD x6 x8.toNat aK).2).1).toNat false) (some false) (cond (aH (((List.getD x6 x8.toNat aK).2).1) 13) (cC x0 (List.set x3 (((List.getD x6 x8.toNat aK).2).1).toNat true) x6 x7 (W .i64 (x8+1))) (none))) (none)) (cC x0 x3 x6 x7 (W .i64 (x8+1)))))))) (cond (aG (((((List.getD x6 x8.toNat aK).2).2).2).1) (0:Int)) (some false) (cond (aG 1000000000000 (((((List.getD x6 x8.toNat aK).2).2).2).1)) (some false) (cond (aG 0 x8) (let v7:Int:=W .i64 (x8-1);cond (aH v7 (List.length x0)) (cond (bW ((List.getD x6 x8.toNat aK).1) ((List.getD x0 v7.toNat aK).1)) (some false) (cond (ay ((((List.getD x6 x8.toNat aK).2).2).1) (1:Int)) (cond (aH (((List.getD x6 x8.toNat aK).2).1) 13) (cond (List.getD x3 (((List.getD x6 x8.toNat aK).2).1).toNat false) (some false) (cond (aH (((List.getD x6 x8.toNat aK).2).1) 13) (cC x0 (List.set x3 (((List.getD x6 x8.toNat aK).2).1).toNat true) x6 x7 (W .i64 (x8+1))) (none))) (none)) (cC x0 x3 x6 x7 (W .i64 (x8+1))))) (none)) (cond (ay ((((List.getD x6 x8.toNat aK).2).2).1) (1:Int)) (cond (aH (((List.getD x6 x8.toNat aK).2).1) 13) (cond (List.getD x3 (((List.getD x6 x8.toNat aK).2).1).toNat false) (some false) (cond (aH (((List.getD x6 x8.toNat aK).2).1) 13) (cC x0 (List.set x3 (((List.getD x6 x8.toNat aK).2).1).toNat true) x6 x7 (W .i64 (x8+1))) (none))) (none)) (cC x0 x3 x6 x7 (W .i64 (x8+1)))))))))))) (none)) (some true)
def jI.l3(N:Nat):Nat→jI.cV
 |0,_,_,_,_,_=>none
 |n+1,x0,x3,x6,x7,x8=>jI.jP N (jI.l3 N n) x0 x3 x6 x7 x8
def jI.b(N:Nat)(ld:jI.cV)(a0:aE):Option (Bool):=
 ld a0 (List.replicate 13 false) a0 (List.length a0:Int) (0:Int)
def jI(N:Nat)(a0:aE):Option (Bool):=jI.b N (jI.l3 N N) a0
abbrev vA.aW:=Int→av→Int→Int→Option (Int)
def vA.cA(N:Nat)(bz:vA.aW)(x1:Int)(aQ:av)(aI:Int)(aO:Int):Option (Int):=
 cond (aG aO aI) (cond (aH aO (List.length aQ)) (cond (ay ((List.getD aQ aO.toNat bI).1) x1) (some (((List.getD aQ aO.toNat bI).2).1)) (bz x1 aQ aI (W .i64 (aO+1)))) (none)) (some (0:Int))
def vA.l4(N:Nat):Nat→vA.aW
 |0,_,_,_,_=>none
 |n+1,x1,aQ,aI,aO=>vA.cA N (vA.l4 N n) x1 aQ aI aO
def vA.b(N:Nat)(c3:vA.aW)(a0:av)(a1:Int):Option (Int):=
 (lO N a0).bind fun r1=>cond (!r1) (some (0:Int)) (c3 a1 a0 (List.length a0:Int) (0:Int))
def vA(N:Nat)(a0:av)(a1:Int):Option (Int):=vA.b N (vA.l4 N N) a0 a1
abbrev yU.aW:=av→aE→Int→Int→Option (Bool)
def yU.cA(N:Nat)(bz:yU.aW)(x0:av)(b8:aE)(c7:Int)(cQ:Int):Option (Bool):=
 cond (aG cQ c7) (cond (aH cQ (List.length b8)) ((vA N x0 (((List.getD b8 cQ.toNat aK).2).1)).bind fun r4=>cond (ay r4 0) (some false) (bz x0 b8 c7 (W .i64 (cQ+1)))) (none)) (some true)
def yU.l4(N:Nat):Nat→yU.aW
 |0,_,_,_,_=>none
 |n+1,x0,b8,c7,cQ=>yU.cA N (yU.l4 N n) x0 b8 c7 cQ
def yU.b(N:Nat)(c3:yU.aW)(a0:av)(a1:aE):Option (Bool):=
 (lO N a0).bind fun r1=>cond (!r1) (some false) ((jI N a1).bind fun r2=>cond (!r2) (some false) (c3 a0 a1 (List.length a1:Int) (0:Int)))
def yU(N:Nat)(a0:av)(a1:aE):Option (Bool):=yU.b N (yU.l4 N N) a0 a1
def KE(N:Nat)(a0:Int)(a1:Int):Option (Bool):=
 cond (ay a0 1) (some (ay a1 0)) (cond (ay a0 2) (some (ay a1 0)) (cond (ay a0 3) (some (ay a1 0)) (cond (ay a0 4) (some (ay a1 0)) (cond (ay a0 5) (cond (bW 1 a1) (some (bW a1 24)) (some false)) (cond (ay a0 6) (cond (bW 1 a1) (some (bW a1 12)) (some false)) (cond (ay a0 7) (cond (bW 1 a1) (some (bW a1 12)) (some false)) (some false)))))))
def KG(N:Nat)(a0:Int)(a1:Int)(a2:ca):Option (Int):=
 cond (!ay a0 a2.1) (some (W .i64 (a0-a2.1))) (some (W .i64 (a1-a2.2.1)))
abbrev wy.bS:=ah→ah→Int→Int→Option (Bool)
def wy.dx(N:Nat)(cN:wy.bS)(x0:ah)(x5:ah)(x6:Int)(x7:Int):Option (Bool):=
 cond (aG x7 x6) (cond (aH x7 (List.length x5)) ((KE N ((List.getD x5 x7.toNat aL).1) (((List.getD x5 x7.toNat aL).2).1)).bind fun r2=>cond (!r2) (some false) (cond (ay ((((List.getD x5 x7.toNat aL).2).2).1) (0:Int)) (some false) (cond (aG 0 x7) (let v3:Int:=W .i64 (x7-1);cond (aH v3 (List.length x0)) ((KG N ((List.getD x5 x7.toNat aL).1) (((List.getD x5 x7.toNat aL).2).1) (List.getD x0 v3.toNat aL)).bind fun r4=>cond (bW r4 0) (some false) (cN x0 x5 x6 (W .i64 (x7+1)))) (none)) (cN x0 x5 x6 (W .i64 (x7+1)))))) (none)) (some true)
def wy.l2(N:Nat):Nat→wy.bS
 |0,_,_,_,_=>none
 |n+1,x0,x5,x6,x7=>wy.dx N (wy.l2 N n) x0 x5 x6 x7
def wy.b(N:Nat)(eC:wy.bS)(a0:ah):Option (Bool):=
 eC a0 a0 (List.length a0:Int) (0:Int)
def wy(N:Nat)(a0:ah):Option (Bool):=wy.b N (wy.l2 N N) a0
def Cp(N:Nat)(a0:Int):Option aS:=
 cond (aG 63 0) (none) (some ((shr .i64 a0 63),((W .u64 a0),())))
abbrev jF.cV:=aS→Int→Int→Int→cX→Int→Int→Option (aS×(Bool))
def jF.jP(N:Nat)(cC:jF.cV)(x2:aS)(x4:Int)(x5:Int)(x6:Int)(aQ:cX)(aI:Int)(aO:Int):Option (aS×(Bool)):=
 cond (aG aO aI) (cond (aH aO (List.length aQ)) ((oC N x6 (((List.getD aQ aO.toNat bI).2).1) (0:Int)).bind fun r2=>(oC N x5 (W .u64 ((List.getD aQ aO.toNat bI).1)) r2.2).bind fun r4=>cond (aG 63 0) (none) (cC x2 (W .i64 ((W .i64 (x4+(shr .i64 ((List.getD aQ aO.toNat bI).1) (63:Int))))+(W .i64 r4.2))) r4.1 r2.1 aQ aI (W .i64 (aO+1)))) (none)) (cond (aG 63 0) (none) (cond (!ay x4 (shr .i64 (W .i64 x5) 63)) (some (bI,false)) (some (((W .i64 x5),(x6,())),true))))
def jF.l3(N:Nat):Nat→jF.cV
 |0,_,_,_,_,_,_,_=>none
 |n+1,x2,x4,x5,x6,aQ,aI,aO=>jF.jP N (jF.l3 N n) x2 x4 x5 x6 aQ aI aO
def jF.b(N:Nat)(ld:jF.cV)(a0:cX):Option (aS×(Bool)):=
 ld bI (0:Int) (0:Int) (0:Int) a0 (List.length a0:Int) (0:Int)
def jF(N:Nat)(a0:cX):Option (aS×(Bool)):=jF.b N (jF.l3 N N) a0
abbrev xX.a8:=aS→cX→ah→Int→Int→Option aS
def xX.c5(N:Nat)(bc:xX.a8)(x2:aS)(x3:cX)(aO:ah)(bh:Int)(bp:Int):Option aS:=
 cond (aG bp bh) (cond (aH bp (List.length aO)) ((Cp N ((((List.getD aO bp.toNat aL).2).2).1)).bind fun r3=>cond (small (List.length x3+List.length ([r3]))) (bc x2 (x3++([r3])) aO bh (W .i64 (bp+1))) (none)) (none)) ((jF N x3).bind fun r6=>some r6.1)
def xX.l5(N:Nat):Nat→xX.a8
 |0,_,_,_,_,_=>none
 |n+1,x2,x3,aO,bh,bp=>xX.c5 N (xX.l5 N n) x2 x3 aO bh bp
def xX.b(N:Nat)(dr:xX.a8)(a0:ah):Option aS:=
 (wy N a0).bind fun r1=>cond (!r1) (some bI) (dr bI ([]) a0 (List.length a0:Int) (0:Int))
def xX(N:Nat)(a0:ah):Option aS:=xX.b N (xX.l5 N N) a0
def Cs(N:Nat)(a0:aS)(a1:aS):Option (Int):=
 cond (aG a0.1 a1.1) (some (-1:Int)) (cond (ay a0.1 a1.1) (cond (aG a0.2.1 a1.2.1) (some (-1:Int)) (cond (jO (.pair (.int .i64) (.pair (.int .u64) .unit)) a0 a1) (some (0:Int)) (some (1:Int)))) (cond (jO (.pair (.int .i64) (.pair (.int .u64) .unit)) a0 a1) (some (0:Int)) (some (1:Int))))
def Pz(N:Nat)(a0:aS):Option (Int):=
 (Cs N a0 bI).bind fun r1=>some r1
def QP(N:Nat)(a0:Int)(a1:Int):Option (Bool):=
 cond (bW 0 a0) (cond (bW a0 24) (cond (bW 0 a1) (some (aG a1 6)) (some false)) (some false)) (some false)
def KI(N:Nat)(a0:Int):Option (Bool):=
 some (!ay a0 (-9223372036854775808))
def Od(N:Nat)(a0:Int)(a1:Int)(a2:ca):Option (Int):=
 cond (!ay a0 a2.1) (some (W .i64 (a0-a2.1))) (some (W .i64 (a1-a2.2.1)))
abbrev kF.bS:=ah→ah→Int→Int→Option (Bool)
def kF.dx(N:Nat)(cN:kF.bS)(x0:ah)(x5:ah)(x6:Int)(x7:Int):Option (Bool):=
 cond (aG x7 x6) (cond (aH x7 (List.length x5)) ((QP N ((List.getD x5 x7.toNat aL).1) (((List.getD x5 x7.toNat aL).2).1)).bind fun r2=>cond (!r2) (some false) (cond (ay ((((List.getD x5 x7.toNat aL).2).2).1) (0:Int)) (some false) ((KI N ((((List.getD x5 x7.toNat aL).2).2).1)).bind fun r3=>cond (!r3) (some false) (cond (aG 0 x7) (let v4:Int:=W .i64 (x7-1);cond (aH v4 (List.length x0)) ((Od N ((List.getD x5 x7.toNat aL).1) (((List.getD x5 x7.toNat aL).2).1) (List.getD x0 v4.toNat aL)).bind fun r5=>cond (bW r5 0) (some false) (cN x0 x5 x6 (W .i64 (x7+1)))) (none)) (cN x0 x5 x6 (W .i64 (x7+1))))))) (none)) (some true)
def kF.l2(N:Nat):Nat→kF.bS
 |0,_,_,_,_=>none
 |n+1,x0,x5,x6,x7=>kF.dx N (kF.l2 N n) x0 x5 x6 x7
def kF.b(N:Nat)(eC:kF.bS)(a0:ah):Option (Bool):=
 eC a0 a0 (List.length a0:Int) (0:Int)
def kF(N:Nat)(a0:ah):Option (Bool):=kF.b N (kF.l2 N N) a0
abbrev lR.a8:=Int→aS→cX→ah→Int→Int→Option aS
def lR.c5(N:Nat)(bc:lR.a8)(x1:Int)(x4:aS)(x5:cX)(bp:ah)(b8:Int)(c7:Int):Option aS:=
 cond (aG c7 b8) (cond (aH c7 (List.length bp)) (cond (ay (((List.getD bp c7.toNat aL).2).1) x1) ((Cp N ((((List.getD bp c7.toNat aL).2).2).1)).bind fun r3=>cond (small (List.length x5+List.length ([r3]))) (bc x1 x4 (x5++([r3])) bp b8 (W .i64 (c7+1))) (none)) (bc x1 x4 x5 bp b8 (W .i64 (c7+1)))) (none)) ((jF N x5).bind fun r7=>some r7.1)
def lR.l5(N:Nat):Nat→lR.a8
 |0,_,_,_,_,_,_=>none
 |n+1,x1,x4,x5,bp,b8,c7=>lR.c5 N (lR.l5 N n) x1 x4 x5 bp b8 c7
def lR.b(N:Nat)(dr:lR.a8)(a0:ah)(a1:Int):Option aS:=
 (kF N a0).bind fun r1=>cond (!r1) (some bI) (dr a1 bI ([]) a0 (List.length a0:Int) (0:Int))
def lR(N:Nat)(a0:ah)(a1:Int):Option aS:=lR.b N (lR.l5 N N) a0 a1
abbrev yV.bS:=ah→Int→Option (Bool)
def yV.dx(N:Nat)(cN:yV.bS)(x0:ah)(x4:Int):Option (Bool):=
 cond (aG x4 6) ((lR N x0 x4).bind fun r2=>(Pz N r2).bind fun r3=>cond (!ay r3 0) (some false) (cN x0 (W .i64 (x4+1)))) ((kF N x0).bind fun r5=>some r5)
def yV.l2(N:Nat):Nat→yV.bS
 |0,_,_=>none
 |n+1,x0,x4=>yV.dx N (yV.l2 N n) x0 x4
def yV.b(N:Nat)(eC:yV.bS)(a0:ah):Option (Bool):=
 eC a0 (0:Int)
def yV(N:Nat)(a0:ah):Option (Bool):=yV.b N (yV.l2 N N) a0
def Oe(N:Nat)(a0:ck):Option (Bool):=
 cond (bW 1 a0.1) (cond (bW a0.1 1099511627776) (cond (bW 1 a0.2.1) (cond (bW a0.2.1 24) (cond (bW 0 a0.2.2.1) (cond (aG a0.2.2.1 6) (cond (ay a0.2.2.2.1 1) (cond (bW 1 a0.2.2.2.2.1) (cond (bW a0.2.2.2.2.1 1000000000) (cond (bW 1 a0.2.2.2.2.2.1) (some (bW a0.2.2.2.2.2.1 1000000000000)) (some false)) (some false)) (some false)) (cond (ay a0.2.2.2.1 2) (cond (bW 1 a0.2.2.2.2.1) (cond (bW a0.2.2.2.2.1 1000000000) (cond (bW 1 a0.2.2.2.2.2.1) (some (bW a0.2.2.2.2.2.1 1000000000000)) (some false)) (some false)) (some false)) (some false))) (some false)) (some false)) (some false)) (some false)) (some false)) (some false)
abbrev xV.bS:=aT→aT→Int→Int→Option (Bool)
def xV.dx(N:Nat)(cN:xV.bS)(x0:aT)(x5:aT)(x6:Int)(x7:Int):Option (Bool):=
 cond (aG x7 x6) (cond (aH x7 (List.length x5)) ((Oe N (List.getD x5 x7.toNat dP)).bind fun r2=>cond (!r2) (some false) (cond (aG 0 x7) (let v3:Int:=W .i64 (x7-1);cond (aH v3 (List.length x0)) (cond (bW ((List.getD x5 x7.toNat dP).1) ((List.getD x0 v3.toNat dP).1)) (some false) (cN x0 x5 x6 (W .i64 (x7+1)))) (none)) (cN x0 x5 x6 (W .i64 (x7+1))))) (none)) (some (bW (List.length x0:Int) 32))
def xV.l2(N:Nat):Nat→xV.bS
 |0,_,_,_,_=>none
 |n+1,x0,x5,x6,x7=>xV.dx N (xV.l2 N n) x0 x5 x6 x7
def xV.b(N:Nat)(eC:xV.bS)(a0:aT):Option (Bool):=
 eC a0 a0 (List.length a0:Int) (0:Int)
def xV(N:Nat)(a0:aT):Option (Bool):=xV.b N (xV.l2 N N) a0
abbrev kY.aW:=Int→br→aE→Int→Int→Option (br×(Bool))
def kY.cA(N:Nat)(bz:kY.aW)(x1:Int)(x4:br)(aO:aE)(bh:Int)(bp:Int):Option (br×(Bool)):=
 cond (aG bp bh) (cond (aH bp (List.length aO)) (cond (ay ((List.getD aO bp.toNat aK).1) x1) (some (List.getD aO bp.toNat aK,true)) (bz x1 x4 aO bh (W .i64 (bp+1)))) (none)) (some (aK,false))
def kY.l4(N:Nat):Nat→kY.aW
 |0,_,_,_,_,_=>none
 |n+1,x1,x4,aO,bh,bp=>kY.cA N (kY.l4 N n) x1 x4 aO bh bp
def kY.b(N:Nat)(c3:kY.aW)(a0:aE)(a1:Int):Option (br×(Bool)):=
 (jI N a0).bind fun r1=>cond (!r1) (some (aK,false)) (c3 a1 aK a0 (List.length a0:Int) (0:Int))
def kY(N:Nat)(a0:aE)(a1:Int):Option (br×(Bool)):=kY.b N (kY.l4 N N) a0 a1
def Uu(N:Nat)(a0:af)(a1:Int):Option (Bool):=
 (kY N a0.2.1 a1).bind fun r1=>some r1.2
def Uq(N:Nat)(a0:Int):Option (Bool):=
 cond (bW 1 a0) (some (bW a0 1000000000000)) (some false)
def F84(N:Nat)(a0:Int):Option (Bool):=
 (Uq N a0).bind fun r1=>some (!r1)
abbrev ov.bS:=(List (Int))→Unit→Int→Int→Option (Int)
def ov.dx(N:Nat)(cN:ov.bS)(x0:List (Int))(x1:Unit)(x7:Int)(x8:Int):Option (Int):=
 cond (aG x8 x7) (cond (aH x8 (List.length x0)) ((F84 N (List.getD x0 x8.toNat (0:Int))).bind fun r2=>cond (r2) (some x8) (cN x0 () x7 (W .i64 (x8+1)))) (none)) (some (-1:Int))
def ov.l2(N:Nat):Nat→ov.bS
 |0,_,_,_,_=>none
 |n+1,x0,x1,x7,x8=>ov.dx N (ov.l2 N n) x0 x1 x7 x8
def ov.b(N:Nat)(eC:ov.bS)(a0:List (Int))(a1:Unit):Option (Int):=
 eC a0 () (List.length a0:Int) (0:Int)
def ov(N:Nat)(a0:List (Int))(a1:Unit):Option (Int):=ov.b N (ov.l2 N N) a0 a1
def F83(N:Nat)(a0:List (Int))(a1:Unit):Option (Bool):=
 (ov N a0 ()).bind fun r1=>some (bW 0 r1)
abbrev iq.oe:=aa→af→aT→Int→Int→Option (Bool)
abbrev iq.ju:=aa→af→ah→Int→Int→Option (Bool)
abbrev iq.aW:=aa→af→ah→Int→Int→Option (Bool)
def iq.th(N:Nat)(BA:iq.oe)(x2:aa)(x3:af)(oy:aT)(Vu:Int)(LG:Int):Option (Bool):=
 cond (aG LG Vu) (cond (aH LG (List.length oy)) ((Uu N x3 (((List.getD oy LG.toNat dP).2).1)).bind fun J4=>cond (!J4) (some false) (cond (bW (List.length x2.1:Int) ((((List.getD oy LG.toNat dP).2).2).1)) (some false) (BA x2 x3 oy Vu (W .i64 (LG+1))))) (none)) ((F83 N x3.2.2.2.2.1 ()).bind fun BB=>some (!BB))
def iq.um(N:Nat):Nat→iq.oe
 |0,_,_,_,_,_=>none
 |n+1,x2,x3,oy,Vu,LG=>iq.th N (iq.um N n) x2 x3 oy Vu LG
def iq.sg(N:Nat)(BC:iq.oe)(kM:iq.ju)(x2:aa)(x3:af)(Vv:ah)(x84:Int)(Tk:Int):Option (Bool):=
 cond (aG Tk x84) (cond (aH Tk (List.length Vv)) (cond (!ay ((List.getD Vv Tk.toNat aL).1) (0:Int)) ((Uu N x3 ((List.getD Vv Tk.toNat aL).1)).bind fun rq=>cond (!rq) (some false) (cond (bW (List.length x2.1:Int) (((List.getD Vv Tk.toNat aL).2).1)) (some false) (kM x2 x3 Vv x84 (W .i64 (Tk+1))))) (cond (bW (List.length x2.1:Int) (((List.getD Vv Tk.toNat aL).2).1)) (some false) (kM x2 x3 Vv x84 (W .i64 (Tk+1))))) (none)) (BC x2 x3 x3.2.2.2.2.2.1 (List.length x3.2.2.2.2.2.1:Int) (0:Int))
def iq.tg(N:Nat):Nat→iq.ju
 |0,_,_,_,_,_=>none
 |n+1,x2,x3,Vv,x84,Tk=>iq.sg N (iq.um N N) (iq.tg N n) x2 x3 Vv x84 Tk
def iq.cA(N:Nat)(BD:iq.ju)(bz:iq.aW)(x2:aa)(x3:af)(B0:ah)(Pd:Int)(zI:Int):Option (Bool):=
 cond (aG zI Pd) (cond (aH zI (List.length B0)) (cond (ay ((List.getD B0 zI.toNat aL).1) (5:Int)) ((Uu N x3 (((List.getD B0 zI.toNat aL).2).1)).bind fun r9=>cond (!r9) (some false) (bz x2 x3 B0 Pd (W .i64 (zI+1)))) (cond (ay ((List.getD B0 zI.toNat aL).1) (6:Int)) ((vA N x3.1 (((List.getD B0 zI.toNat aL).2).1)).bind fun jQ=>cond (ay jQ 0) (some false) (bz x2 x3 B0 Pd (W .i64 (zI+1)))) (cond (ay ((List.getD B0 zI.toNat aL).1) (7:Int)) ((vA N x3.1 (((List.getD B0 zI.toNat aL).2).1)).bind fun jy=>cond (ay jy 0) (some false) (bz x2 x3 B0 Pd (W .i64 (zI+1)))) (bz x2 x3 B0 Pd (W .i64 (zI+1)))))) (none)) (BD x2 x3 x3.2.2.2.1 (List.length x3.2.2.2.1:Int) (0:Int))
def iq.l4(N:Nat):Nat→iq.aW
 |0,_,_,_,_,_=>none
 |n+1,x2,x3,B0,Pd,zI=>iq.cA N (iq.tg N N) (iq.l4 N n) x2 x3 B0 Pd zI
def iq.b(N:Nat)(c3:iq.aW)(a0:aa)(a1:af):Option (Bool):=
 (wx N a0).bind fun r1=>cond (!r1) (some false) ((yU N a1.1 a1.2.1).bind fun r2=>cond (!r2) (some false) ((wy N a1.2.2.1).bind fun r3=>cond (!r3) (some false) ((xX N a1.2.2.1).bind fun r4=>(Pz N r4).bind fun r5=>cond (!ay r5 0) (some false) ((yV N a1.2.2.2.1).bind fun r6=>cond (!r6) (some false) ((xV N a1.2.2.2.2.2.1).bind fun r7=>cond (!r7) (some false) (cond (!ay (List.length a1.2.2.2.2.1:Int) (List.length a0.1:Int)) (some false) (c3 a0 a1 a1.2.2.1 (List.length a1.2.2.1:Int) (0:Int))))))))
def iq(N:Nat)(a0:aa)(a1:af):Option (Bool):=iq.b N (iq.l4 N N) a0 a1
abbrev k5.a8:=Int→av→ah→Int→Int→Option av
def k5.c5(N:Nat)(bc:k5.a8)(x1:Int)(x5:av)(aI:ah)(aO:Int)(bh:Int):Option av:=
 cond (aG bh aO) (cond (aH bh (List.length aI)) (cond (ay ((List.getD aI bh.toNat aL).1) x1) (cond (small (List.length x5+List.length ([(((List.getD aI bh.toNat aL).2).1,((((List.getD aI bh.toNat aL).2).2).1,()))]))) (bc x1 (x5++([(((List.getD aI bh.toNat aL).2).1,((((List.getD aI bh.toNat aL).2).2).1,()))])) aI aO (W .i64 (bh+1))) (none)) (bc x1 x5 aI aO (W .i64 (bh+1)))) (none)) (some x5)
def k5.l5(N:Nat):Nat→k5.a8
 |0,_,_,_,_,_=>none
 |n+1,x1,x5,aI,aO,bh=>k5.c5 N (k5.l5 N n) x1 x5 aI aO bh
def k5.b(N:Nat)(dr:k5.a8)(a0:ah)(a1:Int):Option av:=
 (kF N a0).bind fun r1=>cond (!r1) (some ([])) (dr a1 ([]) a0 (List.length a0:Int) (0:Int))
def k5(N:Nat)(a0:ah)(a1:Int):Option av:=k5.b N (k5.l5 N N) a0 a1
def F96(N:Nat)(a0:Int):Option (Int):=
 cond (aG a0 0) (some (W .u64 (0-(W .u64 a0)))) (some (W .u64 a0))
def N7(N:Nat)(a0:Int)(a1:Int):Option ((Int)×(Int)):=
 let v1:Int:=jC .and .u64 a0 4294967295;cond (aG 32 0) (none) (let v2:Int:=shr .u64 a0 32;let v3:Int:=jC .and .u64 a1 4294967295;cond (aG 32 0) (none) (let v4:Int:=shr .u64 a1 32;cond (aG 32 0) (none) (let v8:Int:=W .u64 ((W .u64 (v2*v3))+(shr .u64 (W .u64 (v1*v3)) (32:Int)));cond (aG 32 0) (none) (cond (aG 32 0) (none) (some ((W .u64 ((W .u64 ((W .u64 (v2*v4))+(shr .u64 v8 32)))+(shr .u64 (W .u64 ((jC .and .u64 v8 4294967295)+(W .u64 (v1*v4)))) (32:Int)))),(W .u64 (a0*a1))))))))
abbrev mv.LH:=Int→Int→aS→Option (aS×(Bool))
def mv.Kz(N:Nat)(x1:Int)(x2:Int)(x6:aS):Option (aS×(Bool)):=
 (oD N (0:Int) x2 (0:Int)).bind fun r3=>(oD N (0:Int) x1 r3.2).bind fun r4=>some (((W .i64 r4.1),(r3.1,())),true)
def mv.j7(N:Nat)(x1:Int)(x2:Int)(x6:aS):Option (aS×(Bool)):=mv.Kz N x1 x2 x6
def mv.b(N:Nat)(xe:mv.LH)(a0:Bool)(a1:Int)(a2:Int):Option (aS×(Bool)):=
 cond (!a0) (cond (bW 9223372036854775808 a1) (some (bI,false)) (some (((W .i64 a1),(a2,())),true))) (cond (aG 9223372036854775808 a1) (some (bI,false)) (cond (ay a1 9223372036854775808) (cond (aG 0 a2) (some (bI,false)) (xe a1 a2 bI)) (xe a1 a2 bI)))
def mv(N:Nat)(a0:Bool)(a1:Int)(a2:Int):Option (aS×(Bool)):=mv.b N (mv.j7 N) a0 a1 a2
def Co(N:Nat)(a0:Int)(a1:Int):Option aS:=
 (F96 N a0).bind fun r1=>(F96 N a1).bind fun r2=>(N7 N r1 r2).bind fun r3=>(mv N (!(jO .bool (aG a0 0) (aG a1 0))) r3.1 r3.2).bind fun r4=>some r4.1
def HK(N:Nat)(a0:aS)(a1:aS):Option (aS×(Bool)):=
 (oC N a0.2.1 a1.2.1 (0:Int)).bind fun r1=>(oC N (W .u64 a0.1) (W .u64 a1.1) r1.2).bind fun r4=>let v5:Int:=W .i64 r4.1;cond (jO .bool (aG a0.1 0) (aG a1.1 0)) (cond (!(jO .bool (aG v5 0) (aG a0.1 0))) (some (bI,false)) (some ((v5,(r1.1,())),true))) (some ((v5,(r1.1,())),true))
abbrev vT.a8:=aa→af→cX→av→Int→Int→Option (cX×(Int))
def vT.c5(N:Nat)(bc:vT.a8)(x2:aa)(x3:af)(x6:cX)(cQ:av)(fk:Int)(fA:Int):Option (cX×(Int)):=
 cond (aG fA fk) (cond (aH fA (List.length cQ)) (cond (aH ((List.getD cQ fA.toNat bI).1) (List.length x2.1)) (cond (aH ((List.getD x2.1 ((List.getD cQ fA.toNat bI).1).toNat aK).1) (List.length x6)) (cond (aH ((List.getD cQ fA.toNat bI).1) (List.length x3.2.2.2.2.1)) ((Co N (((List.getD cQ fA.toNat bI).2).1) (List.getD x3.2.2.2.2.1 ((List.getD cQ fA.toNat bI).1).toNat (0:Int))).bind fun r5=>(HK N (List.getD x6 ((List.getD x2.1 ((List.getD cQ fA.toNat bI).1).toNat aK).1).toNat bI) r5).bind fun r6=>cond (aH ((List.getD x2.1 ((List.getD cQ fA.toNat bI).1).toNat aK).1) (List.length x6)) (bc x2 x3 (List.set x6 ((List.getD x2.1 ((List.getD cQ fA.toNat bI).1).toNat aK).1).toNat r6.1) cQ fk (W .i64 (fA+1))) (none)) (none)) (none)) (none)) (none)) (some (x6,(0:Int)))
def vT.l5(N:Nat):Nat→vT.a8
 |0,_,_,_,_,_,_=>none
 |n+1,x2,x3,x6,cQ,fk,fA=>vT.c5 N (vT.l5 N n) x2 x3 x6 cQ fk fA
def vT.b(N:Nat)(dr:vT.a8)(a0:aa)(a1:af):Option (cX×(Int)):=
 (iq N a0 a1).bind fun r1=>cond (!r1) (some ([],(1:Int))) (cond (ga 4 4) ((k5 N a1.2.2.2.1 (0:Int)).bind fun r3=>dr a0 a1 (List.replicate (4:Int).toNat bI) r3 (List.length r3:Int) (0:Int)) (none))
def vT(N:Nat)(a0:aa)(a1:af):Option (cX×(Int)):=vT.b N (vT.l5 N N) a0 a1
def Lh(N:Nat)(a0:aS)(a1:aS):Option (aS×(Bool)):=
 (oD N a0.2.1 a1.2.1 (0:Int)).bind fun r1=>(oD N (W .u64 a0.1) (W .u64 a1.1) r1.2).bind fun r4=>let v5:Int:=W .i64 r4.1;cond (!(jO .bool (aG a0.1 0) (aG a1.1 0))) (cond (!(jO .bool (aG v5 0) (aG a0.1 0))) (some (bI,false)) (some ((v5,(r1.1,())),true))) (some ((v5,(r1.1,())),true))
def UQ(N:Nat)(a0:aS):Option (aS×(Bool)):=
 (Lh N bI a0).bind fun r1=>some (r1.1,r1.2)
def HZ(N:Nat)(a0:aS):Option (aS×(Bool)):=
 cond (aG a0.1 0) ((UQ N a0).bind fun r1=>some (r1.1,r1.2)) (some (a0,true))
abbrev lW.a8:=Int→(List (Int))→aE→Int→Int→Option (List (Int))
def lW.c5(N:Nat)(bc:lW.a8)(x1:Int)(x5:List (Int))(aO:aE)(bh:Int)(bp:Int):Option (List (Int)):=
 cond (aG bp bh) (cond (aH bp (List.length aO)) (cond (ay ((List.getD aO bp.toNat aK).1) x1) (cond (small (List.length x5+List.length ([bp]))) (bc x1 (x5++([bp])) aO bh (W .i64 (bp+1))) (none)) (bc x1 x5 aO bh (W .i64 (bp+1)))) (none)) (some x5)
def lW.l5(N:Nat):Nat→lW.a8
 |0,_,_,_,_,_=>none
 |n+1,x1,x5,aO,bh,bp=>lW.c5 N (lW.l5 N n) x1 x5 aO bh bp
def lW.b(N:Nat)(dr:lW.a8)(a0:aa)(a1:Int):Option (List (Int)):=
 (wx N a0).bind fun r1=>cond (!r1) (some ([])) (dr a1 ([]) a0.1 (List.length a0.1:Int) (0:Int))
def lW(N:Nat)(a0:aa)(a1:Int):Option (List (Int)):=lW.b N (lW.l5 N N) a0 a1
def QN(N:Nat)(a0:aS):Option ((Int)×(Int)):=
 cond (bW 0 a0.1) (some ((W .u64 a0.1),a0.2.1)) ((oD N (0:Int) a0.2.1 (0:Int)).bind fun r2=>(oD N (0:Int) (W .u64 a0.1) r2.2).bind fun r4=>some (r4.1,r2.1))
abbrev jE.LH:=Int→Int→Option (Int)
abbrev jE.acA:=Int→Int→Option (Int)
def jE.Kz(N:Nat)(x0:Int)(x2:Int):Option (Int):=
 cond (bW 256 x0) (cond (aG 8 0) (none) (let v8:Int:=W .u8 (shr .u64 x0 8);cond (aH v8 (ByteArray.size (strOf [0,1,2,2,3,3,3,3,4,4,4,4,4,4,4,4,5,5,5,5,5,5,5,5,5,5,5,5,5,5,5,5,6,6,6,6,6,6,6,6,6,6,6,6,6,6,6,6,6,6,6,6,6,6,6,6,6,6,6,6,6,6,6,6,7,7,7,7,7,7,7,7,7,7,7,7,7,7,7,7,7,7,7,7,7,7,7,7,7,7,7,7,7,7,7,7,7,7,7,7,7,7,7,7,7,7,7,7,7,7,7,7,7,7,7,7,7,7,7,7,7,7,7,7,7,7,7,7,8,8,8,8,8,8,8,8,8,8,8,8,8,8,8,8,8,8,8,8,8,8,8,8,8,8,8,8,8,8,8,8,8,8,8,8,8,8,8,8,8,8,8,8,8,8,8,8,8,8,8,8,8,8,8,8,8,8,8,8,8,8,8,8,8,8,8,8,8,8,8,8,8,8,8,8,8,8,8,8,8,8,8,8,8,8,8,8,8,8,8,8,8,8,8,8,8,8,8,8,8,8,8,8,8,8,8,8,8,8,8,8,8,8,8,8,8,8,8,8,8,8,8,8,8,8,8,8]))) (some (W .i64 ((W .i64 (x2+8))+(W .i64 (((strOf [0,1,2,2,3,3,3,3,4,4,4,4,4,4,4,4,5,5,5,5,5,5,5,5,5,5,5,5,5,5,5,5,6,6,6,6,6,6,6,6,6,6,6,6,6,6,6,6,6,6,6,6,6,6,6,6,6,6,6,6,6,6,6,6,7,7,7,7,7,7,7,7,7,7,7,7,7,7,7,7,7,7,7,7,7,7,7,7,7,7,7,7,7,7,7,7,7,7,7,7,7,7,7,7,7,7,7,7,7,7,7,7,7,7,7,7,7,7,7,7,7,7,7,7,7,7,7,7,8,8,8,8,8,8,8,8,8,8,8,8,8,8,8,8,8,8,8,8,8,8,8,8,8,8,8,8,8,8,8,8,8,8,8,8,8,8,8,8,8,8,8,8,8,8,8,8,8,8,8,8,8,8,8,8,8,8,8,8,8,8,8,8,8,8,8,8,8,8,8,8,8,8,8,8,8,8,8,8,8,8,8,8,8,8,8,8,8,8,8,8,8,8,8,8,8,8,8,8,8,8,8,8,8,8,8,8,8,8,8,8,8,8,8,8,8,8,8,8,8,8,8,8,8,8,8,8]).data.getD v8.toNat 0).toNat:Int))))) (none))) (let v11:Int:=W .u8 x0;cond (aH v11 (ByteArray.size (strOf [0,1,2,2,3,3,3,3,4,4,4,4,4,4,4,4,5,5,5,5,5,5,5,5,5,5,5,5,5,5,5,5,6,6,6,6,6,6,6,6,6,6,6,6,6,6,6,6,6,6,6,6,6,6,6,6,6,6,6,6,6,6,6,6,7,7,7,7,7,7,7,7,7,7,7,7,7,7,7,7,7,7,7,7,7,7,7,7,7,7,7,7,7,7,7,7,7,7,7,7,7,7,7,7,7,7,7,7,7,7,7,7,7,7,7,7,7,7,7,7,7,7,7,7,7,7,7,7,8,8,8,8,8,8,8,8,8,8,8,8,8,8,8,8,8,8,8,8,8,8,8,8,8,8,8,8,8,8,8,8,8,8,8,8,8,8,8,8,8,8,8,8,8,8,8,8,8,8,8,8,8,8,8,8,8,8,8,8,8,8,8,8,8,8,8,8,8,8,8,8,8,8,8,8,8,8,8,8,8,8,8,8,8,8,8,8,8,8,8,8,8,8,8,8,8,8,8,8,8,8,8,8,8,8,8,8,8,8,8,8,8,8,8,8,8,8,8,8,8,8,8,8,8,8,8,8]))) (some (W .i64 (x2+(W .i64 (((strOf [0,1,2,2,3,3,3,3,4,4,4,4,4,4,4,4,5,5,5,5,5,5,5,5,5,5,5,5,5,5,5,5,6,6,6,6,6,6,6,6,6,6,6,6,6,6,6,6,6,6,6,6,6,6,6,6,6,6,6,6,6,6,6,6,7,7,7,7,7,7,7,7,7,7,7,7,7,7,7,7,7,7,7,7,7,7,7,7,7,7,7,7,7,7,7,7,7,7,7,7,7,7,7,7,7,7,7,7,7,7,7,7,7,7,7,7,7,7,7,7,7,7,7,7,7,7,7,7,8,8,8,8,8,8,8,8,8,8,8,8,8,8,8,8,8,8,8,8,8,8,8,8,8,8,8,8,8,8,8,8,8,8,8,8,8,8,8,8,8,8,8,8,8,8,8,8,8,8,8,8,8,8,8,8,8,8,8,8,8,8,8,8,8,8,8,8,8,8,8,8,8,8,8,8,8,8,8,8,8,8,8,8,8,8,8,8,8,8,8,8,8,8,8,8,8,8,8,8,8,8,8,8,8,8,8,8,8,8,8,8,8,8,8,8,8,8,8,8,8,8,8,8,8,8,8,8]).data.getD v11.toNat 0).toNat:Int))))) (none))
def jE.j7(N:Nat)(x0:Int)(x2:Int):Option (Int):=jE.Kz N x0 x2
def jE.j4b(N:Nat)(xe:jE.LH)(x0:Int)(x2:Int):Option (Int):=
 cond (bW 65536 x0) (cond (aG 16 0) (none) (xe (shr .u64 x0 16) (W .i64 (x2+16)))) (xe x0 x2)
def jE.j4(N:Nat)(x0:Int)(x2:Int):Option (Int):=jE.j4b N (jE.j7 N) x0 x2
def jE.b(N:Nat)(Sk:jE.acA)(a0:Int):Option (Int):=
 cond (bW 4294967296 a0) (cond (aG 32 0) (none) (Sk (shr .u64 a0 32) (32:Int))) (Sk a0 (0:Int))
def jE(N:Nat)(a0:Int):Option (Int):=jE.b N (jE.j4 N) a0
def Uc(N:Nat)(a0:Int):Option (Int):=
 (jE N a0).bind fun r1=>some (W .i64 ((64:Int)-r1))
abbrev cY.aim:=Int→Int→Int→Int→Int→Int→Option ((Int)×(Int))
abbrev cY.og:=Int→Int→Int→Int→Int→Int→Int→Int→Int→Option ((Int)×(Int))
abbrev cY.Sl:=Int→Int→Int→Int→Int→Int→Int→Int→Option ((Int)×(Int))
abbrev cY.BE:=Int→Int→Int→Int→Int→Int→Int→Int→Int→Option ((Int)×(Int))
def cY.ab5(N:Nat)(x2:Int)(x8:Int)(bp:Int)(b8:Int)(cQ:Int)(fk:Int):Option ((Int)×(Int)):=
 cond (aG x8 0) (none) (some ((W .u64 ((W .u64 (b8*4294967296))+fk)),(shr .u64 (W .u64 ((W .u64 ((W .u64 (cQ*4294967296))+bp))-(W .u64 (fk*x2)))) x8)))
def cY.Z7(N:Nat)(x2:Int)(x8:Int)(bp:Int)(b8:Int)(cQ:Int)(fk:Int):Option ((Int)×(Int)):=cY.ab5 N x2 x8 bp b8 cQ fk
def cY.Aw(N:Nat)(Sm:cY.aim)(oh:cY.og)(x2:Int)(x8:Int)(x9:Int)(aQ:Int)(bp:Int)(b8:Int)(c7:Int)(cQ:Int)(fk:Int):Option ((Int)×(Int)):=
 cond (bW 4294967296 fk) (let v30:Int:=W .u64 (fk-1);let v31:Int:=W .u64 (c7+x9);cond (bW 4294967296 v31) (Sm x2 x8 bp b8 cQ v30) (oh x2 x8 x9 aQ bp b8 v31 cQ v30)) (cond (aG (W .u64 ((W .u64 ((4294967296:Int)*c7))+bp)) (W .u64 (fk*aQ))) (let v43:Int:=W .u64 (fk-1);let v44:Int:=W .u64 (c7+x9);cond (bW 4294967296 v44) (Sm x2 x8 bp b8 cQ v43) (oh x2 x8 x9 aQ bp b8 v44 cQ v43)) (Sm x2 x8 bp b8 cQ fk))
def cY.zn(N:Nat):Nat→cY.og
 |0,_,_,_,_,_,_,_,_,_=>none
 |n+1,x2,x8,x9,aQ,bp,b8,c7,cQ,fk=>cY.Aw N (cY.Z7 N) (cY.zn N n) x2 x8 x9 aQ bp b8 c7 cQ fk
def cY.KA(N:Nat)(Iq:cY.og)(x2:Int)(x8:Int)(x9:Int)(aQ:Int)(aI:Int)(bh:Int)(bp:Int)(b8:Int):Option ((Int)×(Int)):=
 let v25:Int:=W .u64 ((W .u64 ((W .u64 (aI*4294967296))+bh))-(W .u64 (b8*x2)));cond (ay x9 0) (none) (let v26:Int:=W .u64 (quo v25 x9);Iq x2 x8 x9 aQ bp b8 (W .u64 (v25-(W .u64 (v26*x9)))) v25 v26)
def cY.Pw(N:Nat)(x2:Int)(x8:Int)(x9:Int)(aQ:Int)(aI:Int)(bh:Int)(bp:Int)(b8:Int):Option ((Int)×(Int)):=cY.KA N (cY.zn N N) x2 x8 x9 aQ aI bh bp b8
def cY.Hb(N:Nat)(D0:cY.Sl)(Ni:cY.BE)(x2:Int)(x8:Int)(x9:Int)(aQ:Int)(aI:Int)(bh:Int)(bp:Int)(b8:Int)(c7:Int):Option ((Int)×(Int)):=
 cond (bW 4294967296 b8) (let v19:Int:=W .u64 (b8-1);let v20:Int:=W .u64 (c7+x9);cond (bW 4294967296 v20) (D0 x2 x8 x9 aQ aI bh bp v19) (Ni x2 x8 x9 aQ aI bh bp v19 v20)) (cond (aG (W .u64 ((W .u64 ((4294967296:Int)*c7))+bh)) (W .u64 (b8*aQ))) (let v48:Int:=W .u64 (b8-1);let v49:Int:=W .u64 (c7+x9);cond (bW 4294967296 v49) (D0 x2 x8 x9 aQ aI bh bp v48) (Ni x2 x8 x9 aQ aI bh bp v48 v49)) (D0 x2 x8 x9 aQ aI bh bp b8))
def cY.Ha(N:Nat):Nat→cY.BE
 |0,_,_,_,_,_,_,_,_,_=>none
 |n+1,x2,x8,x9,aQ,aI,bh,bp,b8,c7=>cY.Hb N (cY.Pw N) (cY.Ha N n) x2 x8 x9 aQ aI bh bp b8 c7
def cY.b(N:Nat)(Sn:cY.BE)(a0:Int)(a1:Int)(a2:Int):Option ((Int)×(Int)):=
 cond (ay a2 0) (none) (cond (bW a2 a0) (none) (cond (ay a0 0) (cond (ay a2 0) (none) (cond (ay a2 0) (none) (some ((W .u64 (quo a1 a2)),(rem a1 a2))))) ((Uc N a2).bind fun r3=>let v4:Int:=W .u64 r3;cond (aG v4 0) (none) (let v5:Int:=W .u64 (shl .u64 a2 v4);cond (aG 32 0) (none) (let v6:Int:=shr .u64 v5 32;cond (aG v4 0) (none) (let v9:Int:=W .u64 ((64:Int)-v4);cond (aG v9 0) (none) (let v11:Int:=jC .or .u64 (W .u64 (shl .u64 a0 v4)) (shr .u64 a1 v9);cond (aG v4 0) (none) (let J5:Int:=W .u64 (shl .u64 a1 v4);cond (aG 32 0) (none) (cond (ay v6 0) (none) (let Vw:Int:=W .u64 (quo v11 v6);Sn v5 v4 v6 (jC .and .u64 v5 4294967295) v11 (shr .u64 J5 32) (jC .and .u64 J5 4294967295) Vw (W .u64 (v11-(W .u64 (Vw*v6))))))))))))))
def cY(N:Nat)(a0:Int)(a1:Int)(a2:Int):Option ((Int)×(Int)):=cY.b N (cY.Ha N N) a0 a1 a2
abbrev pN.Ir:=aS→Int→Int→Int→Option (aS×(Int)×(Bool))
def pN.vv(N:Nat)(x4:aS)(aQ:Int)(aI:Int)(aO:Int):Option (aS×(Int)×(Bool)):=
 (mv N true aQ aO).bind fun jQ=>some (jQ.1,(W .i64 aI),true)
def pN.EN(N:Nat)(x4:aS)(aQ:Int)(aI:Int)(aO:Int):Option (aS×(Int)×(Bool)):=pN.vv N x4 aQ aI aO
def pN.b(N:Nat)(ra:pN.Ir)(a0:aS)(a1:Int):Option (aS×(Int)×(Bool)):=
 cond (aG a1 1) (some (bI,(0:Int),false)) ((QN N a0).bind fun r1=>let v2:Int:=W .u64 a1;(cY N (0:Int) r1.1 v2).bind fun r3=>(cY N r3.2 r1.2 v2).bind fun r4=>cond (bW 0 a0.1) (some (((W .i64 r3.1),(r4.1,())),(W .i64 r4.2),true)) (cond (aG 0 r4.2) ((oC N r4.1 (1:Int) (0:Int)).bind fun r7=>ra bI (W .u64 (r3.1+r7.2)) (W .u64 (v2-r4.2)) r7.1) (ra bI r3.1 r4.2 r4.1)))
def pN(N:Nat)(a0:aS)(a1:Int):Option (aS×(Int)×(Bool)):=pN.b N (pN.EN N) a0 a1
def Hn(N:Nat)(a0:aS):Option ((Int)×(Bool)):=
 cond (aG 63 0) (none) (cond (!ay a0.1 (shr .i64 (W .i64 a0.2.1) 63)) (some ((0:Int),false)) (some ((W .i64 a0.2.1),true)))
abbrev pZ.wh:=Int→aa→af→aE→aS→Int→Int→cX→Int→Int→Option (aE×(Int))
abbrev pZ.e9:=Int→aa→af→aE→cX→Int→Int→Option (aE×(Int))
def pZ.pS(N:Nat)(fa:pZ.e9)(x2:Int)(x3:aa)(x4:af)(aQ:aE)(aO:aS)(b8:Int)(fA:Int)(xf:cX)(Pe:Int)(FH:Int):Option (aE×(Int)):=
 cond (ay fA 0) (fa x2 x3 x4 aQ xf Pe (W .i64 (FH+1))) (let J5:Int:=W .i64 (x2+(List.length aQ:Int));(Pz N aO).bind fun jy=>cond (aG 0 jy) (cond (small (List.length aQ+List.length ([(J5,(b8,((2:Int),(fA,()))))]))) (fa x2 x3 x4 (aQ++([(J5,(b8,((2:Int),(fA,()))))])) xf Pe (W .i64 (FH+1))) (none)) (cond (small (List.length aQ+List.length ([(J5,(b8,((1:Int),(fA,()))))]))) (fa x2 x3 x4 (aQ++([(J5,(b8,((1:Int),(fA,()))))])) xf Pe (W .i64 (FH+1))) (none)))
def pZ.wA(N:Nat)(fa:pZ.e9)(x2:Int)(x3:aa)(x4:af)(aQ:aE)(aO:aS)(b8:Int)(fA:Int)(xf:cX)(Pe:Int)(FH:Int):Option (aE×(Int)):=pZ.pS N fa x2 x3 x4 aQ aO b8 fA xf Pe FH
def pZ.pJ(N:Nat)(mQ:pZ.wh)(fa:pZ.e9)(x2:Int)(x3:aa)(x4:af)(aQ:aE)(xf:cX)(Pe:Int)(FH:Int):Option (aE×(Int)):=
 cond (aG FH Pe) (cond (aH FH (List.length xf)) ((HZ N (List.getD xf FH.toNat bI)).bind fun r3=>(Cp N x3.2.2.2.2.2.2.1).bind fun r4=>(Cs N r3.1 r4).bind fun r5=>cond (bW r5 0) (fa x2 x3 x4 aQ xf Pe (W .i64 (FH+1))) ((lW N x3 FH).bind fun r7=>cond (aH 0 (List.length r7)) (cond (aH (List.getD r7 (0:Int).toNat (0:Int)) (List.length x4.2.2.2.2.1)) ((pN N r3.1 (List.getD x4.2.2.2.2.1 (List.getD r7 (0:Int).toNat (0:Int)).toNat (0:Int))).bind fun r8=>(Hn N r8.1).bind fun r9=>cond (!r9.2) (mQ x2 x3 x4 aQ (List.getD xf FH.toNat bI) (List.getD r7 (0:Int).toNat (0:Int)) (1000000000:Int) xf Pe FH) (cond (aG 1000000000 r9.1) (mQ x2 x3 x4 aQ (List.getD xf FH.toNat bI) (List.getD r7 (0:Int).toNat (0:Int)) (1000000000:Int) xf Pe FH) (mQ x2 x3 x4 aQ (List.getD xf FH.toNat bI) (List.getD r7 (0:Int).toNat (0:Int)) r9.1 xf Pe FH))) (none)) (none))) (none)) (some (aQ,(0:Int)))
def pZ.l6(N:Nat):Nat→pZ.e9
 |0,_,_,_,_,_,_,_=>none
 |n+1,x2,x3,x4,aQ,xf,Pe,FH=>pZ.pJ N (pZ.wA N (pZ.l6 N n)) (pZ.l6 N n) x2 x3 x4 aQ xf Pe FH
def pZ.b(N:Nat)(qY:pZ.e9)(a0:aa)(a1:af)(a2:Int):Option (aE×(Int)):=
 (vT N a0 a1).bind fun r1=>cond (!ay r1.2 0) (some ([],(1:Int))) (cond (aG a2 1) (some ([],(1:Int))) (cond (aG 1099511627772 a2) (some ([],(1:Int))) (qY a2 a0 a1 ([]) r1.1 (List.length r1.1:Int) (0:Int))))
def pZ(N:Nat)(a0:aa)(a1:af)(a2:Int):Option (aE×(Int)):=pZ.b N (pZ.l6 N N) a0 a1 a2
def Lo(N:Nat)(a0:Int):Option (Bool):=
 cond (bW 1 a0) (some (bW a0 1000000000)) (some false)
def F48(N:Nat)(a0:br):Option (Bool):=
 cond (bW 1 a0.1) (cond (bW a0.1 1099511627776) (cond (bW 0 a0.2.1) (cond (aG a0.2.1 6) (cond (ay a0.2.2.1 1) ((Lo N a0.2.2.2.1).bind fun r1=>some r1) (cond (ay a0.2.2.1 2) ((Lo N a0.2.2.2.1).bind fun r2=>some r2) (some false))) (some false)) (some false)) (some false)) (some false)
abbrev ep.jj:=aT→Int→ah→Int→ca→Int→aT→Int→Int→Option ah
abbrev ep.a8:=aT→Int→ah→Int→Option ah
def ep.tG(N:Nat)(bc:ep.a8)(mK:ep.jj)(x0:aT)(x1:Int)(x5:ah)(x6:Int)(x7:ca)(bh:Int)(fk:aT)(fA:Int)(uQ:Int):Option ah:=
 cond (aG uQ fA) (cond (aH uQ (List.length fk)) (cond (!ay (((List.getD fk uQ.toNat dP).2).1) x1) (mK x0 x1 x5 x6 x7 bh fk fA (W .i64 (uQ+1))) (cond (!ay ((((List.getD fk uQ.toNat dP).2).2).1) x6) (mK x0 x1 x5 x6 x7 bh fk fA (W .i64 (uQ+1))) (cond (ay (((((List.getD fk uQ.toNat dP).2).2).2).1) (1:Int)) (mK x0 x1 x5 x6 (x7.1,((W .i64 (x7.2.1+((((((List.getD fk uQ.toNat dP).2).2).2).2).1))),x7.2.2)) bh fk fA (W .i64 (uQ+1))) (mK x0 x1 x5 x6 (x7.1,(x7.2.1,((W .i64 (x7.2.2.1+((((((List.getD fk uQ.toNat dP).2).2).2).2).1))),x7.2.2.2))) bh fk fA (W .i64 (uQ+1)))))) (none)) (cond (aG 0 (W .i64 (x7.2.1+x7.2.2.1))) (cond (small (List.length x5+List.length ([x7]))) (bc x0 x1 (x5++([x7])) (W .i64 (bh+1))) (none)) (bc x0 x1 x5 (W .i64 (bh+1))))
def ep.l9(N:Nat)(bc:ep.a8):Nat→ep.jj
 |0,_,_,_,_,_,_,_,_,_=>none
 |n+1,x0,x1,x5,x6,x7,bh,fk,fA,uQ=>ep.tG N bc (ep.l9 N bc n) x0 x1 x5 x6 x7 bh fk fA uQ
def ep.c5(N:Nat)(uG:ep.jj)(bc:ep.a8)(x0:aT)(x1:Int)(x5:ah)(bh:Int):Option ah:=
 cond (aG bh 6) (uG x0 x1 x5 bh (bh,bI) bh x0 (List.length x0:Int) (0:Int)) (some x5)
def ep.l5(N:Nat):Nat→ep.a8
 |0,_,_,_,_=>none
 |n+1,x0,x1,x5,bh=>ep.c5 N (ep.l9 N (ep.l5 N n) N) (ep.l5 N n) x0 x1 x5 bh
def ep.b(N:Nat)(dr:ep.a8)(a0:aT)(a1:Int):Option ah:=
 (xV N a0).bind fun r1=>cond (!r1) (some ([])) (dr a0 a1 ([]) (0:Int))
def ep(N:Nat)(a0:aT)(a1:Int):Option ah:=ep.b N (ep.l5 N N) a0 a1
abbrev eK.LJ:=ah→ck→Int→Option ah
abbrev eK.acA:=ah→ck→Int→Option ah
abbrev eK.bS:=ah→ck→Int→Option ah
def eK.J0(N:Nat)(x0:ah)(x3:ck)(x5:Int):Option ah:=
 cond (ay x3.2.2.2.1 1) (cond (aH x5 (List.length x0)) (cond (aH x5 (List.length x0)) (some (List.set x0 x5.toNat ((List.getD x0 x5.toNat aL).1,((W .i64 ((((List.getD x0 x5.toNat aL).2).1)+x3.2.2.2.2.1)),((List.getD x0 x5.toNat aL).2).2)))) (none)) (none)) (cond (aH x5 (List.length x0)) (cond (aH x5 (List.length x0)) (some (List.set x0 x5.toNat ((List.getD x0 x5.toNat aL).1,(((List.getD x0 x5.toNat aL).2).1,((W .i64 (((((List.getD x0 x5.toNat aL).2).2).1)+x3.2.2.2.2.1)),(((List.getD x0 x5.toNat aL).2).2).2))))) (none)) (none))
def eK.j6(N:Nat)(x0:ah)(x3:ck)(x5:Int):Option ah:=eK.J0 N x0 x3 x5
def eK.j4b(N:Nat)(xg:eK.LJ)(x0:ah)(x3:ck)(x5:Int):Option ah:=
 cond (ay x5 (List.length x0:Int)) ((gR N x0 x5 ([(x3.2.2.1,bI)])).bind fun r4=>xg r4 x3 x5) (cond (aH x5 (List.length x0)) (cond (!ay ((List.getD x0 x5.toNat aL).1) x3.2.2.1) ((gR N x0 x5 ([(x3.2.2.1,bI)])).bind fun gu=>xg gu x3 x5) (xg x0 x3 x5)) (none))
def eK.j4(N:Nat)(x0:ah)(x3:ck)(x5:Int):Option ah:=eK.j4b N (eK.j6 N) x0 x3 x5
def eK.dx(N:Nat)(Sk:eK.acA)(cN:eK.bS)(x0:ah)(x3:ck)(x5:Int):Option ah:=
 cond (aG x5 (List.length x0:Int)) (cond (aH x5 (List.length x0)) (cond (aG ((List.getD x0 x5.toNat aL).1) x3.2.2.1) (cN x0 x3 (W .i64 (x5+1))) (Sk x0 x3 x5)) (none)) (Sk x0 x3 x5)
def eK.l2(N:Nat):Nat→eK.bS
 |0,_,_,_=>none
 |n+1,x0,x3,x5=>eK.dx N (eK.j4 N) (eK.l2 N n) x0 x3 x5
def eK.b(N:Nat)(eC:eK.bS)(a0:ah)(a1:ck):Option ah:=
 eC a0 a1 (0:Int)
def eK(N:Nat)(a0:ah)(a1:ck):Option ah:=eK.b N (eK.l2 N N) a0 a1
abbrev lT.bS:=av→aa→av→Int→Int→Option (Bool)
def lT.dx(N:Nat)(cN:lT.bS)(x1:av)(x2:aa)(x7:av)(x8:Int)(x9:Int):Option (Bool):=
 cond (aG x9 x8) (cond (aH x9 (List.length x7)) (cond (aG ((List.getD x7 x9.toNat bI).1) (0:Int)) (some false) (cond (bW (List.length x2.1:Int) ((List.getD x7 x9.toNat bI).1)) (some false) (cond (ay (((List.getD x7 x9.toNat bI).2).1) (0:Int)) (some false) ((KI N (((List.getD x7 x9.toNat bI).2).1)).bind fun r2=>cond (!r2) (some false) (cond (aG 0 x9) (let v3:Int:=W .i64 (x9-1);cond (aH v3 (List.length x1)) (cond (bW ((List.getD x7 x9.toNat bI).1) ((List.getD x1 v3.toNat bI).1)) (some false) (cN x1 x2 x7 x8 (W .i64 (x9+1)))) (none)) (cN x1 x2 x7 x8 (W .i64 (x9+1)))))))) (none)) ((wx N x2).bind fun r6=>some r6)
def lT.l2(N:Nat):Nat→lT.bS
 |0,_,_,_,_,_=>none
 |n+1,x1,x2,x7,x8,x9=>lT.dx N (lT.l2 N n) x1 x2 x7 x8 x9
def lT.b(N:Nat)(eC:lT.bS)(a0:aa)(a1:av):Option (Bool):=
 eC a1 a0 a1 (List.length a1:Int) (0:Int)
def lT(N:Nat)(a0:aa)(a1:av):Option (Bool):=lT.b N (lT.l2 N N) a0 a1
abbrev mc.bS:=ah→aa→ah→Int→Int→Option (Bool)
def mc.dx(N:Nat)(cN:mc.bS)(x1:ah)(x2:aa)(x7:ah)(x8:Int)(x9:Int):Option (Bool):=
 cond (aG x9 x8) (cond (aH x9 (List.length x7)) (cond (aG ((List.getD x7 x9.toNat aL).1) (0:Int)) (some false) (cond (bW (List.length x2.1:Int) ((List.getD x7 x9.toNat aL).1)) (some false) (cond (aG (((List.getD x7 x9.toNat aL).2).1) (0:Int)) (some false) (cond (aG 33000000000 (((List.getD x7 x9.toNat aL).2).1)) (some false) (cond (aG ((((List.getD x7 x9.toNat aL).2).2).1) (0:Int)) (some false) (cond (aG 33000000000 ((((List.getD x7 x9.toNat aL).2).2).1)) (some false) (cond (ay (((List.getD x7 x9.toNat aL).2).1) (0:Int)) (cond (ay ((((List.getD x7 x9.toNat aL).2).2).1) (0:Int)) (some false) (cond (aG 0 x9) (let v2:Int:=W .i64 (x9-1);cond (aH v2 (List.length x1)) (cond (bW ((List.getD x7 x9.toNat aL).1) ((List.getD x1 v2.toNat aL).1)) (some false) (cN x1 x2 x7 x8 (W .i64 (x9+1)))) (none)) (cN x1 x2 x7 x8 (W .i64 (x9+1))))) (cond (aG 0 x9) (let v5:Int:=W .i64 (x9-1);cond (aH v5 (List.length x1)) (cond (bW ((List.getD x7 x9.toNat aL).1) ((List.getD x1 v5.toNat aL).1)) (some false) (cN x1 x2 x7 x8 (W .i64 (x9+1)))) (none)) (cN x1 x2 x7 x8 (W .i64 (x9+1))))))))))) (none)) ((wx N x2).bind fun r8=>some r8)
def mc.l2(N:Nat):Nat→mc.bS
 |0,_,_,_,_,_=>none
 |n+1,x1,x2,x7,x8,x9=>mc.dx N (mc.l2 N n) x1 x2 x7 x8 x9
def mc.b(N:Nat)(eC:mc.bS)(a0:aa)(a1:ah):Option (Bool):=
 eC a1 a0 a1 (List.length a1:Int) (0:Int)
def mc(N:Nat)(a0:aa)(a1:ah):Option (Bool):=mc.b N (mc.l2 N N) a0 a1
abbrev eO.eh:=Int→aS→Int→Int→Int→ah→Int→Int→Option (aS×(Int))
abbrev eO.dj:=ah→Int→aS→Int→Int→Int→av→Int→Int→Option (aS×(Int))
def eO.kH(N:Nat)(fB:eO.eh)(x3:Int)(x8:aS)(aQ:Int)(aI:Int)(aO:Int)(B0:ah)(Pd:Int)(zI:Int):Option (aS×(Int)):=
 cond (aG zI Pd) (cond (aH zI (List.length B0)) (cond (ay ((List.getD B0 zI.toNat aL).1) x3) (fB x3 x8 aQ (((List.getD B0 zI.toNat aL).2).1) ((((List.getD B0 zI.toNat aL).2).2).1) B0 Pd (W .i64 (zI+1))) (fB x3 x8 aQ aI aO B0 Pd (W .i64 (zI+1)))) (none)) ((Cp N aQ).bind fun r9=>(Cp N aI).bind fun gu=>(HK N r9 gu).bind fun jQ=>(Cp N aQ).bind fun jg=>(Cp N aO).bind fun jy=>(Lh N jg jy).bind fun mH=>(HZ N jQ.1).bind fun nW=>(HZ N mH.1).bind fun qP=>(Cs N nW.1 qP.1).bind fun rq=>cond (aG rq 0) (some (qP.1,(0:Int))) (some (nW.1,(0:Int))))
def eO.mB(N:Nat):Nat→eO.eh
 |0,_,_,_,_,_,_,_,_=>none
 |n+1,x3,x8,aQ,aI,aO,B0,Pd,zI=>eO.kH N (eO.mB N n) x3 x8 aQ aI aO B0 Pd zI
def eO.mq(N:Nat)(pU:eO.eh)(da:eO.dj)(x2:ah)(x3:Int)(x8:aS)(aQ:Int)(aI:Int)(aO:Int)(x44:av)(x45:Int)(x46:Int):Option (aS×(Int)):=
 cond (aG x46 x45) (cond (aH x46 (List.length x44)) (cond (ay ((List.getD x44 x46.toNat bI).1) x3) (da x2 x3 x8 (((List.getD x44 x46.toNat bI).2).1) aI aO x44 x45 (W .i64 (x46+1))) (da x2 x3 x8 aQ aI aO x44 x45 (W .i64 (x46+1)))) (none)) (pU x3 x8 aQ aI aO x2 (List.length x2:Int) (0:Int))
def eO.l7(N:Nat):Nat→eO.dj
 |0,_,_,_,_,_,_,_,_,_=>none
 |n+1,x2,x3,x8,aQ,aI,aO,x44,x45,x46=>eO.mq N (eO.mB N N) (eO.l7 N n) x2 x3 x8 aQ aI aO x44 x45 x46
def eO.b(N:Nat)(ph:eO.dj)(a0:aa)(a1:av)(a2:ah)(a3:Int):Option (aS×(Int)):=
 (lT N a0 a1).bind fun r1=>cond (!r1) (some (bI,(1:Int))) ((mc N a0 a2).bind fun r2=>cond (!r2) (some (bI,(1:Int))) (cond (aG a3 0) (some (bI,(3:Int))) (cond (bW (List.length a0.1:Int) a3) (some (bI,(3:Int))) (ph a2 a3 bI (0:Int) (0:Int) (0:Int) a1 (List.length a1:Int) (0:Int)))))
def eO(N:Nat)(a0:aa)(a1:av)(a2:ah)(a3:Int):Option (aS×(Int)):=eO.b N (eO.l7 N N) a0 a1 a2 a3
def UX(N:Nat)(a0:aS)(a1:Int):Option (aS×(Bool)):=
 (QN N a0).bind fun r1=>(F96 N a1).bind fun r2=>(N7 N r1.2 r2).bind fun r3=>(N7 N r1.1 r2).bind fun r4=>(oC N r4.2 r3.1 (0:Int)).bind fun r5=>cond (!ay (W .u64 (r4.1+r5.2)) (0:Int)) (some (bI,false)) ((mv N (!(jO .bool (aG a0.1 0) (aG a1 0))) r5.1 r3.2).bind fun r7=>some (r7.1,r7.2))
abbrev m7.a8:=av→ah→aa→aS→cX→aE→Int→Int→Option (aS×(Int))
def m7.c5(N:Nat)(bc:m7.a8)(x1:av)(x2:ah)(x3:aa)(x6:aS)(x8:cX)(Nj:aE)(uR:Int)(D1:Int):Option (aS×(Int)):=
 cond (aG D1 uR) (cond (aH D1 (List.length Nj)) ((eO N x3 x1 x2 D1).bind fun r4=>(UX N r4.1 ((((List.getD Nj D1.toNat aK).2).2).1)).bind fun r5=>cond (small (List.length x8+List.length ([r5.1]))) (bc x1 x2 x3 x6 (x8++([r5.1])) Nj uR (W .i64 (D1+1))) (none)) (none)) ((jF N x8).bind fun r8=>some (r8.1,(0:Int)))
def m7.l5(N:Nat):Nat→m7.a8
 |0,_,_,_,_,_,_,_,_=>none
 |n+1,x1,x2,x3,x6,x8,Nj,uR,D1=>m7.c5 N (m7.l5 N n) x1 x2 x3 x6 x8 Nj uR D1
def m7.b(N:Nat)(dr:m7.a8)(a0:aa)(a1:av)(a2:ah):Option (aS×(Int)):=
 (lT N a0 a1).bind fun r1=>cond (!r1) (some (bI,(1:Int))) ((mc N a0 a2).bind fun r2=>cond (!r2) (some (bI,(1:Int))) (dr a1 a2 a0 bI ([]) a0.1 (List.length a0.1:Int) (0:Int)))
def m7(N:Nat)(a0:aa)(a1:av)(a2:ah):Option (aS×(Int)):=m7.b N (m7.l5 N N) a0 a1 a2
def RK(N:Nat)(a0:ck)(a1:Int):Option (aS×(Int)):=
 (Oe N a0).bind fun r1=>cond (!r1) (some (bI,(1:Int))) ((Uq N a1).bind fun r2=>cond (!r2) (some (bI,(1:Int))) ((Co N a0.2.2.2.2.1 (W .i64 (a0.2.2.2.2.2.1-a1))).bind fun r4=>cond (ay a0.2.2.2.1 2) ((Co N a0.2.2.2.2.1 (W .i64 (a1-a0.2.2.2.2.2.1))).bind fun r6=>(Pz N r6).bind fun r7=>cond (aG r7 0) (some (bI,(0:Int))) (some (r6,(0:Int)))) ((Pz N r4).bind fun r8=>cond (aG r8 0) (some (bI,(0:Int))) (some (r4,(0:Int))))))
abbrev lU.aW:=Int→Int→ah→Int→Int→Option (Int)
def lU.cA(N:Nat)(bz:lU.aW)(x1:Int)(x2:Int)(aO:ah)(bh:Int)(bp:Int):Option (Int):=
 cond (aG bp bh) (cond (aH bp (List.length aO)) (cond (ay ((List.getD aO bp.toNat aL).1) x1) (cond (ay (((List.getD aO bp.toNat aL).2).1) x2) (some ((((List.getD aO bp.toNat aL).2).2).1)) (bz x1 x2 aO bh (W .i64 (bp+1)))) (bz x1 x2 aO bh (W .i64 (bp+1)))) (none)) (some (0:Int))
def lU.l4(N:Nat):Nat→lU.aW
 |0,_,_,_,_,_=>none
 |n+1,x1,x2,aO,bh,bp=>lU.cA N (lU.l4 N n) x1 x2 aO bh bp
def lU.b(N:Nat)(c3:lU.aW)(a0:ah)(a1:Int)(a2:Int):Option (Int):=
 (wy N a0).bind fun r1=>cond (!r1) (some (0:Int)) (c3 a1 a2 a0 (List.length a0:Int) (0:Int))
def lU(N:Nat)(a0:ah)(a1:Int)(a2:Int):Option (Int):=lU.b N (lU.l4 N N) a0 a1 a2
def U0(N:Nat)(a0:Int)(a1:aS):Option (Bool):=
 (Cp N a0).bind fun r1=>(Cs N r1 a1).bind fun r2=>some (bW 0 r2)
def F50(N:Nat)(a0:aa)(a1:af)(a2:ck):Option (Int):=
 (iq N a0 a1).bind fun r1=>cond (!r1) (some (1:Int)) ((Oe N a2).bind fun r2=>cond (!r2) (some (1:Int)) ((kY N a1.2.1 a2.2.1).bind fun r3=>cond (!r3.2) (some (3:Int)) ((vA N a1.1 r3.1.2.1).bind fun r4=>cond (!ay r4 1) (some (7:Int)) (cond (bW (List.length a0.1:Int) a2.2.2.1) (some (3:Int)) ((k5 N a1.2.2.2.1 a2.2.1).bind fun r5=>(ep N a1.2.2.2.2.2.1 a2.2.1).bind fun r6=>(eK N r6 a2).bind fun r7=>(eO N a0 r5 r7 a2.2.2.1).bind fun r8=>(Cp N r3.1.2.2.2.1).bind fun r9=>(Cs N r8.1 r9).bind fun gu=>cond (aG 0 gu) (some (9:Int)) ((m7 N a0 r5 r7).bind fun jQ=>cond (aH a2.2.2.1 (List.length a1.2.2.2.2.1)) ((RK N a2 (List.getD a1.2.2.2.2.1 a2.2.2.1.toNat (0:Int))).bind fun jg=>(HK N jQ.1 jg.1).bind fun jy=>(lU N a1.2.2.1 (5:Int) a2.2.1).bind fun mH=>(U0 N mH jy.1).bind fun nW=>cond (!nW) (some (10:Int)) (some (0:Int))) (none)))))))
abbrev k6.bS:=gg→(List (Int))→Int→Option (Bool)
def k6.dx(N:Nat)(cN:k6.bS)(x1:gg)(x9:List (Int))(aQ:Int):Option (Bool):=
 cond (aG aQ 2) (cond (aH aQ 2) (cond (aG (List.getD x9 aQ.toNat (0:Int)) (0:Int)) (some false) (cond (aG 24 (List.getD x9 aQ.toNat (0:Int))) (some false) (cN x1 x9 (W .i64 (aQ+1))))) (none)) (cond (!ay x1.1 x1.2.1) (cond (bW 0 x1.2.2.1) (cond (aG x1.2.2.1 6) (cond (bW 1 x1.2.2.2.1) (cond (bW x1.2.2.2.1 1000000000) ((Uq N x1.2.2.2.2.1).bind fun r4=>some r4) (some false)) (some false)) (some false)) (some false)) (some false))
def k6.l2(N:Nat):Nat→k6.bS
 |0,_,_,_=>none
 |n+1,x1,x9,aQ=>k6.dx N (k6.l2 N n) x1 x9 aQ
def k6.b(N:Nat)(eC:k6.bS)(a0:gg):Option (Bool):=
 eC a0 (List.set (List.set (List.replicate 2 (0:Int)) 0 a0.1) 1 a0.2.1) (0:Int)
def k6(N:Nat)(a0:gg):Option (Bool):=k6.b N (k6.l2 N N) a0
def ace(N:Nat)(a0:gg):Option (Bool):=
 (k6 N a0).bind fun r1=>some (!r1)
abbrev ow.bS:=aX→Unit→Int→Int→Option (Int)
def ow.dx(N:Nat)(cN:ow.bS)(x0:aX)(x1:Unit)(x7:Int)(x8:Int):Option (Int):=
 cond (aG x8 x7) (cond (aH x8 (List.length x0)) ((ace N (List.getD x0 x8.toNat dT)).bind fun r2=>cond (r2) (some x8) (cN x0 () x7 (W .i64 (x8+1)))) (none)) (some (-1:Int))
def ow.l2(N:Nat):Nat→ow.bS
 |0,_,_,_,_=>none
 |n+1,x0,x1,x7,x8=>ow.dx N (ow.l2 N n) x0 x1 x7 x8
def ow.b(N:Nat)(eC:ow.bS)(a0:aX)(a1:Unit):Option (Int):=
 eC a0 () (List.length a0:Int) (0:Int)
def ow(N:Nat)(a0:aX)(a1:Unit):Option (Int):=ow.b N (ow.l2 N N) a0 a1
def UK(N:Nat)(a0:aX)(a1:Unit):Option (Bool):=
 (ow N a0 ()).bind fun r1=>some (bW 0 r1)
def Rl(N:Nat)(a0:Int)(a1:aS):Option o0:=
 cond (ay a0 0) (some ((2:Int),((0:Int),(a1,())))) (some ((5:Int),(a0,(a1,()))))
def Rm(N:Nat)(a0:gg)(a1:Int):Option (cF×(Int)):=
 (k6 N a0).bind fun r1=>cond (!r1) (some ([],(1:Int))) ((Uq N a1).bind fun r2=>cond (!r2) (some ([],(1:Int))) (cond (ay a1 a0.2.2.2.2.1) (some ([],(0:Int))) ((Co N a0.2.2.2.1 (W .i64 (a1-a0.2.2.2.2.1))).bind fun r4=>(Rl N a0.1 r4).bind fun r5=>(Co N a0.2.2.2.1 (W .i64 (a0.2.2.2.2.1-a1))).bind fun r7=>(Rl N a0.2.1 r7).bind fun r8=>some ([r5,r8],(0:Int)))))
def UF(N:Nat)(a0:af):Option af:=
 (kP N a0.1).bind fun r1=>(kP N a0.2.1).bind fun r2=>(kP N a0.2.2.1).bind fun r3=>(kP N a0.2.2.2.1).bind fun r4=>(kP N a0.2.2.2.2.1).bind fun r5=>(kP N a0.2.2.2.2.2.1).bind fun r6=>some (r1,(r2,(r3,(r4,(r5,(r6,()))))))
abbrev eo.e9:=ah→Int→cX→Int→ah→Int→Int→Option (Bool)
abbrev eo.bS:=ah→Int→Option (Bool)
def eo.pJ(N:Nat)(cN:eo.bS)(fa:eo.e9)(x0:ah)(x3:Int)(x4:cX)(x9:Int)(aO:ah)(bh:Int)(bp:Int):Option (Bool):=
 cond (aG bp bh) (cond (aH bp (List.length aO)) (cond (ay (((List.getD aO bp.toNat aL).2).1) x3) ((Cp N ((((List.getD aO bp.toNat aL).2).2).1)).bind fun r3=>cond (small (List.length x4+List.length ([r3]))) (fa x0 x3 (x4++([r3])) x9 aO bh (W .i64 (bp+1))) (none)) (fa x0 x3 x4 x9 aO bh (W .i64 (bp+1)))) (none)) ((jF N x4).bind fun r7=>cond (!r7.2) (some false) ((Pz N r7.1).bind fun r8=>cond (!ay r8 0) (some false) (cN x0 (W .i64 (x9+1)))))
def eo.l6(N:Nat)(cN:eo.bS):Nat→eo.e9
 |0,_,_,_,_,_,_,_=>none
 |n+1,x0,x3,x4,x9,aO,bh,bp=>eo.pJ N cN (eo.l6 N cN n) x0 x3 x4 x9 aO bh bp
def eo.dx(N:Nat)(qY:eo.e9)(cN:eo.bS)(x0:ah)(x9:Int):Option (Bool):=
 cond (aG x9 6) (qY x0 x9 ([]) x9 x0 (List.length x0:Int) (0:Int)) (some true)
def eo.l2(N:Nat):Nat→eo.bS
 |0,_,_=>none
 |n+1,x0,x9=>eo.dx N (eo.l6 N (eo.l2 N n) N) (eo.l2 N n) x0 x9
def eo.b(N:Nat)(eC:eo.bS)(a0:ah):Option (Bool):=
 eC a0 (0:Int)
def eo(N:Nat)(a0:ah):Option (Bool):=eo.b N (eo.l2 N N) a0
def Uv(N:Nat)(a0:ah):Option ah:=
 cond (gw 0 (List.length a0:Int) (List.length a0:Int) (List.length a0:Int)) (some (List.drop (0:Int).toNat (List.take (List.length a0:Int).toNat a0))) (none)
abbrev bE.aio:=ah→ah→ca→Int→ah→Int→Int→Option (ah×(Int))
abbrev bE.ju:=ah→ah→ca→Int→ah→Int→Int→Option (ah×(Int))
abbrev bE.So:=ah→ah→ca→cX→ah→Int→Int→ah→Int→Int→Option (ah×(Int))
abbrev bE.Dg:=ah→ah→ah→Int→Int→Option (ah×(Int))
abbrev bE.eh:=ah→ah→ah→Int→Int→Option (ah×(Int))
abbrev bE.aW:=ah→ah→ah→Int→Int→Option (ah×(Int))
def bE.ab7(N:Nat)(fB:bE.eh)(x1:ah)(x8:ah)(aQ:ca)(aI:Int)(Is:ah)(J6:Int)(F4:Int):Option (ah×(Int)):=
 cond (ay aI (List.length x8:Int)) ((gR N x8 aI ([(aQ.1,(aQ.2.1,((0:Int),())))])).bind fun jy=>fB x1 jy Is J6 (W .i64 (F4+1))) (cond (aH aI (List.length x8)) ((Od N aQ.1 aQ.2.1 (List.getD x8 aI.toNat aL)).bind fun nW=>cond (!ay nW 0) ((gR N x8 aI ([(aQ.1,(aQ.2.1,((0:Int),())))])).bind fun qP=>fB x1 qP Is J6 (W .i64 (F4+1))) (fB x1 x8 Is J6 (W .i64 (F4+1)))) (none))
def bE.j18(N:Nat)(fB:bE.eh)(x1:ah)(x8:ah)(aQ:ca)(aI:Int)(Is:ah)(J6:Int)(F4:Int):Option (ah×(Int)):=bE.ab7 N fB x1 x8 aQ aI Is J6 F4
def bE.sg(N:Nat)(aaq:bE.aio)(fB:bE.eh)(kM:bE.ju)(x1:ah)(x8:ah)(aQ:ca)(aI:Int)(Is:ah)(J6:Int)(F4:Int):Option (ah×(Int)):=
 cond (aG aI (List.length x8:Int)) (cond (aH aI (List.length x8)) ((Od N aQ.1 aQ.2.1 (List.getD x8 aI.toNat aL)).bind fun gu=>cond (aG 0 gu) (kM x1 x8 aQ (W .i64 (aI+1)) Is J6 F4) (aaq x1 x8 aQ aI Is J6 F4)) (none)) (aaq x1 x8 aQ aI Is J6 F4)
def bE.tg(N:Nat)(fB:bE.eh):Nat→bE.ju
 |0,_,_,_,_,_,_,_=>none
 |n+1,x1,x8,aQ,aI,Is,J6,F4=>bE.sg N (bE.j18 N fB) fB (bE.tg N fB n) x1 x8 aQ aI Is J6 F4
def bE.Uw(N:Nat)(D2:bE.Dg)(Sp:bE.So)(x1:ah)(aO:ah)(bp:ca)(b8:cX)(wi:ah)(y9:Int)(oy:Int)(FI:ah)(Pf:Int)(CE:Int):Option (ah×(Int)):=
 cond (aG CE Pf) (cond (aH CE (List.length FI)) (cond (ay ((List.getD FI CE.toNat aL).1) bp.1) (cond (ay (((List.getD FI CE.toNat aL).2).1) bp.2.1) ((Cp N ((((List.getD FI CE.toNat aL).2).2).1)).bind fun BB=>cond (small (List.length b8+List.length ([BB]))) (Sp x1 aO bp (b8++([BB])) wi y9 oy FI Pf (W .i64 (CE+1))) (none)) (Sp x1 aO bp b8 wi y9 oy FI Pf (W .i64 (CE+1)))) (Sp x1 aO bp b8 wi y9 oy FI Pf (W .i64 (CE+1)))) (none)) ((jF N b8).bind fun r28=>(Hn N r28.1).bind fun D3=>cond (!D3.2) (some (aY,(2:Int))) ((KI N D3.1).bind fun LK=>cond (!LK) (some (aY,(2:Int))) (cond (!ay D3.1 0) (cond (small (List.length aO+List.length ([(bp.1,(bp.2.1,(D3.1,())))]))) (D2 x1 (aO++([(bp.1,(bp.2.1,(D3.1,())))])) wi y9 (W .i64 (oy+1))) (none)) (D2 x1 aO wi y9 (W .i64 (oy+1))))))
def bE.l27(N:Nat)(D2:bE.Dg):Nat→bE.So
 |0,_,_,_,_,_,_,_,_,_,_=>none
 |n+1,x1,aO,bp,b8,wi,y9,oy,FI,Pf,CE=>bE.Uw N D2 (bE.l27 N D2 n) x1 aO bp b8 wi y9 oy FI Pf CE
def bE.Uy(N:Nat)(aip:bE.So)(D2:bE.Dg)(x1:ah)(aO:ah)(wi:ah)(y9:Int)(oy:Int):Option (ah×(Int)):=
 cond (aG oy y9) (cond (aH oy (List.length wi)) ((Cp N ((((List.getD wi oy.toNat aL).2).2).1)).bind fun J4=>aip x1 aO (List.getD wi oy.toNat aL) ([J4]) wi y9 oy x1 (List.length x1:Int) (0:Int)) (none)) ((Uv N aO).bind fun Sq=>some (Sq,(0:Int)))
def bE.Ux(N:Nat):Nat→bE.Dg
 |0,_,_,_,_,_=>none
 |n+1,x1,aO,wi,y9,oy=>bE.Uy N (bE.l27 N (bE.Ux N n) N) (bE.Ux N n) x1 aO wi y9 oy
def bE.kH(N:Nat)(BD:bE.ju)(aiq:bE.Dg)(fB:bE.eh)(x1:ah)(x8:ah)(Is:ah)(J6:Int)(F4:Int):Option (ah×(Int)):=
 cond (aG F4 J6) (cond (aH F4 (List.length Is)) (BD x1 x8 (List.getD Is F4.toNat aL) (0:Int) Is J6 F4) (none)) (cond (ga 0 (List.length x8:Int)) (aiq x1 (List.replicate (0:Int).toNat aL) x8 (List.length x8:Int) (0:Int)) (none))
def bE.mB(N:Nat):Nat→bE.eh
 |0,_,_,_,_,_=>none
 |n+1,x1,x8,Is,J6,F4=>bE.kH N (bE.tg N (bE.mB N n) N) (bE.Ux N N) (bE.mB N n) x1 x8 Is J6 F4
def bE.cA(N:Nat)(pU:bE.eh)(bz:bE.aW)(x0:ah)(x1:ah)(uR:ah)(D1:Int)(xh:Int):Option (ah×(Int)):=
 cond (aG xh D1) (cond (aH xh (List.length uR)) ((QP N ((List.getD uR xh.toNat aL).1) (((List.getD uR xh.toNat aL).2).1)).bind fun r3=>cond (!r3) (some (aY,(1:Int))) ((KI N ((((List.getD uR xh.toNat aL).2).2).1)).bind fun r4=>cond (!r4) (some (aY,(1:Int))) (bz x0 x1 uR D1 (W .i64 (xh+1))))) (none)) ((eo N x1).bind fun r6=>cond (!r6) (some (aY,(1:Int))) ((kP N x0).bind fun r7=>pU x1 r7 x1 (List.length x1:Int) (0:Int)))
def bE.l4(N:Nat):Nat→bE.aW
 |0,_,_,_,_,_=>none
 |n+1,x0,x1,uR,D1,xh=>bE.cA N (bE.mB N N) (bE.l4 N n) x0 x1 uR D1 xh
def bE.b(N:Nat)(c3:bE.aW)(a0:ah)(a1:ah):Option (ah×(Int)):=
 (kF N a0).bind fun r1=>cond (!r1) (some (aY,(1:Int))) (cond (aG 400 (List.length a1:Int)) (some (aY,(1:Int))) (c3 a0 a1 a1 (List.length a1:Int) (0:Int)))
def bE(N:Nat)(a0:ah)(a1:ah):Option (ah×(Int)):=bE.b N (bE.l4 N N) a0 a1
def ab9(N:Nat)(a0:ah):Option ah:=
 cond (gw 0 (List.length a0:Int) (List.length a0:Int) (List.length a0:Int)) (some (List.drop (0:Int).toNat (List.take (List.length a0:Int).toNat a0))) (none)
abbrev bF.Sl:=cF→ah→o0→Int→cF→Int→Int→Option (ah×(Int))
abbrev bF.BF:=cF→ah→o0→Int→cF→Int→Int→Option (ah×(Int))
abbrev bF.BG:=cF→ah→ca→cX→ah→Int→Int→cF→Int→Int→Option (ah×(Int))
abbrev bF.Dp:=cF→ah→ah→Int→Int→Option (ah×(Int))
abbrev bF.ju:=cF→ah→cF→Int→Int→Option (ah×(Int))
abbrev bF.a8:=ah→cF→cX→cF→Int→Int→Option (ah×(Int))
def bF.KA(N:Nat)(kM:bF.ju)(x1:cF)(aI:ah)(bh:o0)(bp:Int)(rA:cF)(CF:Int)(rf:Int):Option (ah×(Int)):=
 cond (ay bp (List.length aI:Int)) ((gR N aI bp ([(bh.1,(bh.2.1,((0:Int),())))])).bind fun nW=>kM x1 nW rA CF (W .i64 (rf+1))) (cond (aH bp (List.length aI)) ((KG N bh.1 bh.2.1 (List.getD aI bp.toNat aL)).bind fun rq=>cond (!ay rq 0) ((gR N aI bp ([(bh.1,(bh.2.1,((0:Int),())))])).bind fun uH=>kM x1 uH rA CF (W .i64 (rf+1))) (kM x1 aI rA CF (W .i64 (rf+1)))) (none))
def bF.Pw(N:Nat)(kM:bF.ju)(x1:cF)(aI:ah)(bh:o0)(bp:Int)(rA:cF)(CF:Int)(rf:Int):Option (ah×(Int)):=bF.KA N kM x1 aI bh bp rA CF rf
def bF.KW(N:Nat)(D0:bF.Sl)(kM:bF.ju)(Sr:bF.BF)(x1:cF)(aI:ah)(bh:o0)(bp:Int)(rA:cF)(CF:Int)(rf:Int):Option (ah×(Int)):=
 cond (aG bp (List.length aI:Int)) (cond (aH bp (List.length aI)) ((KG N bh.1 bh.2.1 (List.getD aI bp.toNat aL)).bind fun jg=>cond (aG 0 jg) (Sr x1 aI bh (W .i64 (bp+1)) rA CF rf) (D0 x1 aI bh bp rA CF rf)) (none)) (D0 x1 aI bh bp rA CF rf)
def bF.Ou(N:Nat)(kM:bF.ju):Nat→bF.BF
 |0,_,_,_,_,_,_,_=>none
 |n+1,x1,aI,bh,bp,rA,CF,rf=>bF.KW N (bF.Pw N kM) kM (bF.Ou N kM n) x1 aI bh bp rA CF rf
def bF.HB(N:Nat)(D4:bF.Dp)(yt:bF.BG)(x1:cF)(b8:ah)(cQ:ca)(fk:cX)(wj:ah)(za:Int)(uI:Int)(CG:cF)(Pg:Int)(BH:Int):Option (ah×(Int)):=
 cond (aG BH Pg) (cond (aH BH (List.length CG)) (cond (ay ((List.getD CG BH.toNat ((0:Int),((0:Int),(bI,())))).1) cQ.1) (cond (ay (((List.getD CG BH.toNat ((0:Int),((0:Int),(bI,())))).2).1) cQ.2.1) (cond (small (List.length fk+List.length ([(((List.getD CG BH.toNat ((0:Int),((0:Int),(bI,())))).2).2).1]))) (yt x1 b8 cQ (fk++([(((List.getD CG BH.toNat ((0:Int),((0:Int),(bI,())))).2).2).1])) wj za uI CG Pg (W .i64 (BH+1))) (none)) (yt x1 b8 cQ fk wj za uI CG Pg (W .i64 (BH+1)))) (yt x1 b8 cQ fk wj za uI CG Pg (W .i64 (BH+1)))) (none)) ((jF N fk).bind fun D3=>(Hn N D3.1).bind fun LK=>cond (!D3.2) (some (aY,(2:Int))) (cond (!LK.2) (some (aY,(2:Int))) (cond (!ay LK.1 0) (cond (small (List.length b8+List.length ([(cQ.1,(cQ.2.1,(LK.1,())))]))) (D4 x1 (b8++([(cQ.1,(cQ.2.1,(LK.1,())))])) wj za (W .i64 (uI+1))) (none)) (D4 x1 b8 wj za (W .i64 (uI+1))))))
def bF.KV(N:Nat)(D4:bF.Dp):Nat→bF.BG
 |0,_,_,_,_,_,_,_,_,_,_=>none
 |n+1,x1,b8,cQ,fk,wj,za,uI,CG,Pg,BH=>bF.HB N D4 (bF.KV N D4 n) x1 b8 cQ fk wj za uI CG Pg BH
def bF.UC(N:Nat)(Ss:bF.BG)(D4:bF.Dp)(x1:cF)(b8:ah)(wj:ah)(za:Int)(uI:Int):Option (ah×(Int)):=
 cond (aG uI za) (cond (aH uI (List.length wj)) ((Cp N ((((List.getD wj uI.toNat aL).2).2).1)).bind fun BB=>Ss x1 b8 (List.getD wj uI.toNat aL) ([BB]) wj za uI x1 (List.length x1:Int) (0:Int)) (none)) ((ab9 N b8).bind fun Sq=>some (Sq,(0:Int)))
def bF.UB(N:Nat):Nat→bF.Dp
 |0,_,_,_,_,_=>none
 |n+1,x1,b8,wj,za,uI=>bF.UC N (bF.KV N (bF.UB N n) N) (bF.UB N n) x1 b8 wj za uI
def bF.sg(N:Nat)(Su:bF.BF)(air:bF.Dp)(kM:bF.ju)(x1:cF)(aI:ah)(rA:cF)(CF:Int)(rf:Int):Option (ah×(Int)):=
 cond (aG rf CF) (cond (aH rf (List.length rA)) (Su x1 aI (List.getD rA rf.toNat ((0:Int),((0:Int),(bI,())))) (0:Int) rA CF rf) (none)) (cond (ga 0 (List.length aI:Int)) (air x1 (List.replicate (0:Int).toNat aL) aI (List.length aI:Int) (0:Int)) (none))
def bF.tg(N:Nat):Nat→bF.ju
 |0,_,_,_,_,_=>none
 |n+1,x1,aI,rA,CF,rf=>bF.sg N (bF.Ou N (bF.tg N n) N) (bF.UB N N) (bF.tg N n) x1 aI rA CF rf
def bF.c5(N:Nat)(BD:bF.ju)(bc:bF.a8)(x0:ah)(x1:cF)(x6:cX)(x36:cF)(x37:Int)(xf:Int):Option (ah×(Int)):=
 cond (aG xf x37) (cond (aH xf (List.length x36)) ((KE N ((List.getD x36 xf.toNat ((0:Int),((0:Int),(bI,())))).1) (((List.getD x36 xf.toNat ((0:Int),((0:Int),(bI,())))).2).1)).bind fun r4=>cond (!r4) (some (aY,(1:Int))) (cond (small (List.length x6+List.length ([(((List.getD x36 xf.toNat ((0:Int),((0:Int),(bI,())))).2).2).1]))) (bc x0 x1 (x6++([(((List.getD x36 xf.toNat ((0:Int),((0:Int),(bI,())))).2).2).1])) x36 x37 (W .i64 (xf+1))) (none))) (none)) ((jF N x6).bind fun r7=>cond (!r7.2) (some (aY,(1:Int))) ((Pz N r7.1).bind fun r8=>cond (!ay r8 0) (some (aY,(1:Int))) ((kP N x0).bind fun r9=>BD x1 r9 x1 (List.length x1:Int) (0:Int))))
def bF.l5(N:Nat):Nat→bF.a8
 |0,_,_,_,_,_,_=>none
 |n+1,x0,x1,x6,x36,x37,xf=>bF.c5 N (bF.tg N N) (bF.l5 N n) x0 x1 x6 x36 x37 xf
def bF.b(N:Nat)(dr:bF.a8)(a0:ah)(a1:cF):Option (ah×(Int)):=
 (wy N a0).bind fun r1=>cond (!r1) (some (aY,(1:Int))) (cond (aG 400 (List.length a1:Int)) (some (aY,(1:Int))) (cond (ga 0 (List.length a1:Int)) (dr a0 a1 (List.replicate (0:Int).toNat bI) a1 (List.length a1:Int) (0:Int)) (none)))
def bF(N:Nat)(a0:ah)(a1:cF):Option (ah×(Int)):=bF.b N (bF.l5 N N) a0 a1
def F65(N:Nat)(a0:af)(a1:ah)(a2:cF):Option (af×(Int)):=
 (UF N a0).bind fun r1=>(bE N a0.2.2.2.1 a1).bind fun r2=>cond (!ay r2.2 0) (some ((bK,(cg,(aY,(aY,(cD,(cJ,())))))),r2.2)) ((bF N a0.2.2.1 a2).bind fun r3=>cond (!ay r3.2 0) (some ((bK,(cg,(aY,(aY,(cD,(cJ,())))))),r3.2)) (some ((r1.1,(r1.2.1,(r3.1,(r2.1,r1.2.2.2.2)))),(0:Int))))
abbrev fu.eW:=af→af→ah→cF→aX→Int→Int→Option (af×(Int))
abbrev fu.aW:=aX→aa→af→af→aX→Int→Int→Option (af×(Int))
def fu.jb(N:Nat)(gN:fu.eW)(x4:af)(x6:af)(aQ:ah)(aI:cF)(rA:aX)(CF:Int)(rf:Int):Option (af×(Int)):=
 cond (aG rf CF) (cond (aH rf (List.length rA)) (let J5:Int:=W .i64 (0-(((((List.getD rA rf.toNat dT).2).2).2).1));cond (small (List.length aQ+List.length ([((List.getD rA rf.toNat dT).1,((((List.getD rA rf.toNat dT).2).2).1,(((((List.getD rA rf.toNat dT).2).2).2).1,()))),(((List.getD rA rf.toNat dT).2).1,((((List.getD rA rf.toNat dT).2).2).1,(J5,())))]))) (cond (aH ((((List.getD rA rf.toNat dT).2).2).1) (List.length x4.2.2.2.2.1)) ((Rm N (List.getD rA rf.toNat dT) (List.getD x4.2.2.2.2.1 ((((List.getD rA rf.toNat dT).2).2).1).toNat (0:Int))).bind fun mH=>cond (small (List.length aI+List.length mH.1)) (gN x4 x6 (aQ++([((List.getD rA rf.toNat dT).1,((((List.getD rA rf.toNat dT).2).2).1,(((((List.getD rA rf.toNat dT).2).2).2).1,()))),(((List.getD rA rf.toNat dT).2).1,((((List.getD rA rf.toNat dT).2).2).1,(J5,())))])) (aI++mH.1) rA CF (W .i64 (rf+1))) (none)) (none)) (none)) (none)) ((F65 N x4 aQ aI).bind fun rq=>some (rq.1,rq.2))
def fu.kd(N:Nat):Nat→fu.eW
 |0,_,_,_,_,_,_,_=>none
 |n+1,x4,x6,aQ,aI,rA,CF,rf=>fu.jb N (fu.kd N n) x4 x6 aQ aI rA CF rf
def fu.cA(N:Nat)(pV:fu.eW)(bz:fu.aW)(x2:aX)(x3:aa)(x4:af)(x6:af)(uR:aX)(D1:Int)(xh:Int):Option (af×(Int)):=
 cond (aG xh D1) (cond (aH xh (List.length uR)) (cond (!ay ((List.getD uR xh.toNat dT).1) (0:Int)) ((Uu N x4 ((List.getD uR xh.toNat dT).1)).bind fun r4=>cond (!r4) (some ((bK,(cg,(aY,(aY,(cD,(cJ,())))))),(3:Int))) (cond (!ay (((List.getD uR xh.toNat dT).2).1) (0:Int)) ((Uu N x4 (((List.getD uR xh.toNat dT).2).1)).bind fun r5=>cond (!r5) (some ((bK,(cg,(aY,(aY,(cD,(cJ,())))))),(3:Int))) (cond (bW (List.length x3.1:Int) ((((List.getD uR xh.toNat dT).2).2).1)) (some ((bK,(cg,(aY,(aY,(cD,(cJ,())))))),(3:Int))) (bz x2 x3 x4 x6 uR D1 (W .i64 (xh+1))))) (cond (bW (List.length x3.1:Int) ((((List.getD uR xh.toNat dT).2).2).1)) (some ((bK,(cg,(aY,(aY,(cD,(cJ,())))))),(3:Int))) (bz x2 x3 x4 x6 uR D1 (W .i64 (xh+1)))))) (cond (!ay (((List.getD uR xh.toNat dT).2).1) (0:Int)) ((Uu N x4 (((List.getD uR xh.toNat dT).2).1)).bind fun r8=>cond (!r8) (some ((bK,(cg,(aY,(aY,(cD,(cJ,())))))),(3:Int))) (cond (bW (List.length x3.1:Int) ((((List.getD uR xh.toNat dT).2).2).1)) (some ((bK,(cg,(aY,(aY,(cD,(cJ,())))))),(3:Int))) (bz x2 x3 x4 x6 uR D1 (W .i64 (xh+1))))) (cond (bW (List.length x3.1:Int) ((((List.getD uR xh.toNat dT).2).2).1)) (some ((bK,(cg,(aY,(aY,(cD,(cJ,())))))),(3:Int))) (bz x2 x3 x4 x6 uR D1 (W .i64 (xh+1)))))) (none)) (pV x4 x6 ([]) ([]) x2 (List.length x2:Int) (0:Int))
def fu.l4(N:Nat):Nat→fu.aW
 |0,_,_,_,_,_,_,_=>none
 |n+1,x2,x3,x4,x6,uR,D1,xh=>fu.cA N (fu.kd N N) (fu.l4 N n) x2 x3 x4 x6 uR D1 xh
def fu.b(N:Nat)(c3:fu.aW)(a0:aa)(a1:af)(a2:aX):Option (af×(Int)):=
 (iq N a0 a1).bind fun r1=>cond (!r1) (some ((bK,(cg,(aY,(aY,(cD,(cJ,())))))),(1:Int))) (cond (aG 200 (List.length a2:Int)) (some ((bK,(cg,(aY,(aY,(cD,(cJ,())))))),(1:Int))) ((UK N a2 ()).bind fun r2=>cond (r2) (some ((bK,(cg,(aY,(aY,(cD,(cJ,())))))),(1:Int))) (c3 a2 a0 a1 (bK,(cg,(aY,(aY,(cD,(cJ,())))))) a2 (List.length a2:Int) (0:Int))))
def fu(N:Nat)(a0:aa)(a1:af)(a2:aX):Option (af×(Int)):=fu.b N (fu.l4 N N) a0 a1 a2
abbrev Bt.ais:=Int→aa→af→br→af→br→gg→Option (af×br×(Int))
def Bt.acj(N:Nat)(x4:Int)(x6:aa)(x7:af)(x8:br)(aO:af)(bh:br)(cQ:gg):Option (af×br×(Int)):=
 (fu N x6 x7 ([cQ])).bind fun r8=>cond (!ay r8.2 0) (some ((bK,(cg,(aY,(aY,(cD,(cJ,())))))),aK,r8.2)) (some (r8.1,(x8.1,(x8.2.1,(x8.2.2.1,((W .i64 (x8.2.2.2.1-x4)),x8.2.2.2.2)))),(0:Int)))
def Bt.j12(N:Nat)(x4:Int)(x6:aa)(x7:af)(x8:br)(aO:af)(bh:br)(cQ:gg):Option (af×br×(Int)):=Bt.acj N x4 x6 x7 x8 aO bh cQ
def Bt.b(N:Nat)(aat:Bt.ais)(a0:aa)(a1:af)(a2:br)(a3:Int)(a4:Int)(a5:Int):Option (af×br×(Int)):=
 (iq N a0 a1).bind fun r1=>cond (!r1) (some ((bK,(cg,(aY,(aY,(cD,(cJ,())))))),aK,(1:Int))) ((F48 N a2).bind fun r2=>cond (!r2) (some ((bK,(cg,(aY,(aY,(cD,(cJ,())))))),aK,(1:Int))) ((Lo N a4).bind fun r3=>cond (!r3) (some ((bK,(cg,(aY,(aY,(cD,(cJ,())))))),aK,(1:Int))) ((Uq N a5).bind fun r4=>cond (!r4) (some ((bK,(cg,(aY,(aY,(cD,(cJ,())))))),aK,(1:Int))) (cond (aG a2.2.2.2.1 a4) (some ((bK,(cg,(aY,(aY,(cD,(cJ,())))))),aK,(9:Int))) ((F50 N a0 a1 (a2.1,(a3,(a2.2.1,((W .i64 ((3:Int)-a2.2.2.1)),(a4,(a5,()))))))).bind fun r6=>cond (!ay r6 0) (some ((bK,(cg,(aY,(aY,(cD,(cJ,())))))),aK,r6)) (cond (ay a2.2.2.1 1) (aat a4 a0 a1 a2 (bK,(cg,(aY,(aY,(cD,(cJ,())))))) aK ((0:Int),(a3,(a2.2.1,(a4,(a5,())))))) (aat a4 a0 a1 a2 (bK,(cg,(aY,(aY,(cD,(cJ,())))))) aK (a3,((0:Int),(a2.2.1,(a4,(a5,()))))))))))))
def Bt(N:Nat)(a0:aa)(a1:af)(a2:br)(a3:Int)(a4:Int)(a5:Int):Option (af×br×(Int)):=Bt.b N (Bt.j12 N) a0 a1 a2 a3 a4 a5
abbrev uP.bS:=ah→Int→Option (Bool)
def uP.dx(N:Nat)(cN:uP.bS)(x0:ah)(x3:Int):Option (Bool):=
 cond (aG x3 (List.length x0:Int)) (cond (aH x3 (List.length x0)) (cond (aG ((List.getD x0 x3.toNat aL).1) (0:Int)) (some false) (cond (aG 24 ((List.getD x0 x3.toNat aL).1)) (some false) (cond (aG (((List.getD x0 x3.toNat aL).2).1) (0:Int)) (some false) (cond (bW 6 (((List.getD x0 x3.toNat aL).2).1)) (some false) (cond (ay ((((List.getD x0 x3.toNat aL).2).2).1) (0:Int)) (some false) (cond (ay ((((List.getD x0 x3.toNat aL).2).2).1) (-9223372036854775808:Int)) (some false) (cond (aG 0 x3) (let v2:Int:=W .i64 (x3-1);cond (aH v2 (List.length x0)) (cond (aG ((List.getD x0 x3.toNat aL).1) ((List.getD x0 v2.toNat aL).1)) (some false) (let v3:Int:=W .i64 (x3-1);cond (aH v3 (List.length x0)) (cond (ay ((List.getD x0 x3.toNat aL).1) ((List.getD x0 v3.toNat aL).1)) (let v4:Int:=W .i64 (x3-1);cond (aH v4 (List.length x0)) (cond (bW (((List.getD x0 x3.toNat aL).2).1) (((List.getD x0 v4.toNat aL).2).1)) (some false) (cN x0 (W .i64 (x3+1)))) (none)) (cN x0 (W .i64 (x3+1)))) (none))) (none)) (cN x0 (W .i64 (x3+1)))))))))) (none)) (some true)
def uP.l2(N:Nat):Nat→uP.bS
 |0,_,_=>none
 |n+1,x0,x3=>uP.dx N (uP.l2 N n) x0 x3
def uP.b(N:Nat)(eC:uP.bS)(a0:ah):Option (Bool):=
 eC a0 (0:Int)
def uP(N:Nat)(a0:ah):Option (Bool):=uP.b N (uP.l2 N N) a0
abbrev wz.aW:=ah→Int→Int→Int→Option (Int)
def wz.cA(N:Nat)(bz:wz.aW)(x0:ah)(x1:Int)(x2:Int)(x7:Int):Option (Int):=
 cond (aG x7 (List.length x0:Int)) (cond (aH x7 (List.length x0)) (cond (ay ((List.getD x0 x7.toNat aL).1) x1) (cond (aH x7 (List.length x0)) (cond (ay (((List.getD x0 x7.toNat aL).2).1) x2) (cond (aH x7 (List.length x0)) (some ((((List.getD x0 x7.toNat aL).2).2).1)) (none)) (bz x0 x1 x2 (W .i64 (x7+1)))) (none)) (bz x0 x1 x2 (W .i64 (x7+1)))) (none)) (some (0:Int))
def wz.l4(N:Nat):Nat→wz.aW
 |0,_,_,_,_=>none
 |n+1,x0,x1,x2,x7=>wz.cA N (wz.l4 N n) x0 x1 x2 x7
def wz.b(N:Nat)(c3:wz.aW)(a0:ah)(a1:Int)(a2:Int):Option (Int):=
 (uP N a0).bind fun r1=>cond (!r1) (some (0:Int)) (c3 a0 a1 a2 (0:Int))
def wz(N:Nat)(a0:ah)(a1:Int)(a2:Int):Option (Int):=wz.b N (wz.l4 N N) a0 a1 a2
def KF(N:Nat)(a0:Int)(a1:Int):Option (Bool):=
 cond (ay a0 1) (some (ay a1 0)) (cond (ay a0 2) (some (ay a1 0)) (cond (ay a0 3) (some (ay a1 0)) (cond (ay a0 4) (some (ay a1 0)) (cond (ay a0 5) (cond (bW 1 a1) (some (bW a1 24)) (some false)) (cond (ay a0 6) (cond (bW 1 a1) (some (bW a1 12)) (some false)) (cond (ay a0 7) (cond (bW 1 a1) (some (bW a1 12)) (some false)) (some false)))))))
abbrev wR.bS:=ah→Int→Option (Bool)
def wR.dx(N:Nat)(cN:wR.bS)(x0:ah)(x3:Int):Option (Bool):=
 cond (aG x3 (List.length x0:Int)) (cond (aH x3 (List.length x0)) (cond (aH x3 (List.length x0)) ((KF N ((List.getD x0 x3.toNat aL).1) (((List.getD x0 x3.toNat aL).2).1)).bind fun r2=>cond (!r2) (some false) (cond (aH x3 (List.length x0)) (cond (ay ((((List.getD x0 x3.toNat aL).2).2).1) (0:Int)) (some false) (cond (aG 0 x3) (cond (aH x3 (List.length x0)) (let v3:Int:=W .i64 (x3-1);cond (aH v3 (List.length x0)) (cond (aG ((List.getD x0 x3.toNat aL).1) ((List.getD x0 v3.toNat aL).1)) (some false) (cond (aH x3 (List.length x0)) (let v4:Int:=W .i64 (x3-1);cond (aH v4 (List.length x0)) (cond (ay ((List.getD x0 x3.toNat aL).1) ((List.getD x0 v4.toNat aL).1)) (cond (aH x3 (List.length x0)) (let v5:Int:=W .i64 (x3-1);cond (aH v5 (List.length x0)) (cond (bW (((List.getD x0 x3.toNat aL).2).1) (((List.getD x0 v5.toNat aL).2).1)) (some false) (cN x0 (W .i64 (x3+1)))) (none)) (none)) (cN x0 (W .i64 (x3+1)))) (none)) (none))) (none)) (none)) (cN x0 (W .i64 (x3+1))))) (none))) (none)) (none)) (some true)
def wR.l2(N:Nat):Nat→wR.bS
 |0,_,_=>none
 |n+1,x0,x3=>wR.dx N (wR.l2 N n) x0 x3
def wR.b(N:Nat)(eC:wR.bS)(a0:ah):Option (Bool):=
 eC a0 (0:Int)
def wR(N:Nat)(a0:ah):Option (Bool):=wR.b N (wR.l2 N N) a0
abbrev qE.aW:=ah→Int→Int→Int→Option (Int)
def qE.cA(N:Nat)(bz:qE.aW)(x0:ah)(x1:Int)(x2:Int)(x7:Int):Option (Int):=
 cond (aG x7 (List.length x0:Int)) (cond (aH x7 (List.length x0)) (cond (ay ((List.getD x0 x7.toNat aL).1) x1) (cond (aH x7 (List.length x0)) (cond (ay (((List.getD x0 x7.toNat aL).2).1) x2) (cond (aH x7 (List.length x0)) (some ((((List.getD x0 x7.toNat aL).2).2).1)) (none)) (bz x0 x1 x2 (W .i64 (x7+1)))) (none)) (bz x0 x1 x2 (W .i64 (x7+1)))) (none)) (some (0:Int))
def qE.l4(N:Nat):Nat→qE.aW
 |0,_,_,_,_=>none
 |n+1,x0,x1,x2,x7=>qE.cA N (qE.l4 N n) x0 x1 x2 x7
def qE.b(N:Nat)(c3:qE.aW)(a0:ah)(a1:Int)(a2:Int):Option (Int):=
 (wR N a0).bind fun r1=>cond (!r1) (some (0:Int)) (c3 a0 a1 a2 (0:Int))
def qE(N:Nat)(a0:ah)(a1:Int)(a2:Int):Option (Int):=qE.b N (qE.l4 N N) a0 a1 a2
def F38(N:Nat):Option (Bool):=
 (F99 N).bind fun r1=>(vT N r1.1 r1.2).bind fun r2=>(pZ N r1.1 r1.2 (4:Int)).bind fun r3=>cond (!ay r2.2 0) (some false) (cond (!ay r3.2 0) (some false) (cond (!ay (List.length r2.1:Int) 4) (some false) (cond (!ay (List.length r3.1:Int) 1) (some false) (cond (aH 0 (List.length r3.1)) ((Bt N r1.1 r1.2 (List.getD r3.1 (0:Int).toNat aK) (1:Int) (2:Int) (99:Int)).bind fun r4=>cond (aH 0 (List.length r3.1)) ((Bt N r1.1 r1.2 (List.getD r3.1 (0:Int).toNat aK) (1:Int) (7:Int) (99:Int)).bind fun r5=>cond (aH 0 (List.length r2.1)) (cond (ay (((List.getD r2.1 (0:Int).toNat bI).2).1) (640:Int)) (cond (aH 0 (List.length r3.1)) (cond (jO (.pair (.int .i64) (.pair (.int .i64) (.pair (.int .i64) (.pair (.int .i64) .unit)))) (List.getD r3.1 (0:Int).toNat aK) ((4:Int),((0:Int),((2:Int),((6:Int),()))))) (cond (ay r4.2.2 0) (cond (ay r4.2.1.2.2.2.1 4) ((wz N r4.1.2.2.2.1 (0:Int) (0:Int)).bind fun r6=>cond (ay r6 3) ((qE N r4.1.2.2.1 (2:Int) (0:Int)).bind fun r7=>cond (ay r7 (-2)) (cond (ay r5.2.2 9) (cond (aH 0 (List.length r3.1)) ((F48 N (List.getD r3.1 (0:Int).toNat aK)).bind fun r8=>some r8) (none)) (some false)) (some false)) (some false)) (some false)) (some false)) (some false)) (none)) (some false)) (none)) (none)) (none)))))
def F13(N:Nat)(a0:List (Int)):Option aP:=
 some (a0,((0:Int),()))
def F42(N:Nat)(a0:aP):Option ((Int)×aP):=
 cond (aG a0.2.1 (List.length a0.1:Int)) (cond (aH a0.2.1 (List.length a0.1)) (some (List.getD a0.1 a0.2.1.toNat (0:Int),(a0.1,((W .i64 (a0.2.1+1)),a0.2.2)))) (none)) (some ((0:Int),(a0.1,((W .i64 (a0.2.1+1)),a0.2.2))))
def m8(N:Nat)(a0:aP)(a1:Int):Option ((Int)×aP):=
 (F42 N a0).bind fun r1=>let v2:Int:=W .u64 a1;cond (ay v2 0) (none) (some ((W .i64 (rem r1.1 v2)),r1.2))
def Tf(N:Nat)(a0:aP)(a1:Int):Option ((Bool)×aP):=
 (m8 N a0 a1).bind fun r1=>some (ay r1.1 (W .i64 (a1-1)),r1.2)
def J2(N:Nat)(a0:aP):Option ((Int)×aP):=
 (F42 N a0).bind fun r1=>cond (ay 8 0) (none) (let v2:Int:=rem r1.1 8;cond (ay v2 0) (cond (aG 1 0) (none) (some ((W .i64 (shr .u64 r1.1 1)),r1.2))) (cond (ay v2 1) (cond (aG 3 0) (none) (cond (ay 1000000000000 0) (none) (some ((W .i64 (rem (shr .u64 r1.1 3) 1000000000000)),r1.2)))) (cond (ay v2 2) (cond (aG 3 0) (none) (cond (ay 2 0) (none) (some ((W .i64 (rem (shr .u64 r1.1 3) 2)),r1.2)))) (cond (aG 3 0) (none) (cond (ay 5000 0) (none) (some ((W .i64 (rem (shr .u64 r1.1 3) 5000)),r1.2)))))))
abbrev qS.Sv:=aP→aa→aa→aE→Int→br→Option (aa×aP)
abbrev qS.cV:=aP→aa→aa→aE→Int→Option (aa×aP)
def qS.Te(N:Nat)(cC:qS.cV)(x0:aP)(x2:aa)(x3:aa)(Ph:aE)(x4:Int)(x5:br):Option (aa×aP):=
 (Tf N x0 (12:Int)).bind fun mH=>cond (mH.1) ((J2 N mH.2).bind fun nW=>cond (ay 1000000001 0) (none) (let Sw:Int:=rem nW.1 1000000001;(J2 N nW.2).bind fun rq=>cond (ay 1000000001 0) (none) (let v18:Int:=rem rq.1 1000000001;cond (small (List.length Ph+List.length ([(x5.1,(x5.2.1,(Sw,(v18,x5.2.2.2.2))))]))) (cC rq.2 x2 (cg,x3.2) (Ph++([(x5.1,(x5.2.1,(Sw,(v18,x5.2.2.2.2))))])) (W .i64 (x4-1))) (none)))) (cond (small (List.length Ph+List.length ([x5]))) (cC mH.2 x2 (cg,x3.2) (Ph++([x5])) (W .i64 (x4-1))) (none))
def qS.j8(N:Nat)(cC:qS.cV)(x0:aP)(x2:aa)(x3:aa)(Ph:aE)(x4:Int)(x5:br):Option (aa×aP):=qS.Te N cC x0 x2 x3 Ph x4 x5
def qS.jP(N:Nat)(It:qS.Sv)(cC:qS.cV)(x0:aP)(x2:aa)(x3:aa)(Ph:aE)(x4:Int):Option (aa×aP):=
 cond (aG 0 x4) ((m8 N x0 (3:Int)).bind fun r4=>(m8 N r4.2 (300:Int)).bind fun r5=>(m8 N r5.2 (12:Int)).bind fun r7=>(m8 N r7.2 (6:Int)).bind fun r8=>(Tf N r8.2 (12:Int)).bind fun r9=>cond (r9.1) ((J2 N r9.2).bind fun gu=>cond (ay 1000000000000 0) (none) (It gu.2 x2 x3 Ph x4 (r4.1,((W .i64 ((1:Int)+(rem gu.1 1000000000000))),(r7.1,(r8.1,())))))) (It r9.2 x2 x3 Ph x4 (r4.1,((W .i64 ((1:Int)+r5.1)),(r7.1,(r8.1,())))))) ((m8 N x0 (300:Int)).bind fun BB=>(m8 N BB.2 (5:Int)).bind fun F5=>(m8 N F5.2 (3:Int)).bind fun D5=>(m8 N D5.2 (3:Int)).bind fun yu=>(m8 N yu.2 (20:Int)).bind fun Pj=>let v28:Int:=W .i64 ((1:Int)+Pj.1);(m8 N Pj.2 (100:Int)).bind fun D3=>(Tf N D3.2 (15:Int)).bind fun LK=>cond (LK.1) ((J2 N LK.2).bind fun Nk=>some ((Ph,(Nk.1,(F5.1,(D5.1,(yu.1,(v28,(D3.1,x3.2.2.2.2.2.2.2))))))),Nk.2)) (some ((Ph,(BB.1,(F5.1,(D5.1,(yu.1,(v28,(D3.1,x3.2.2.2.2.2.2.2))))))),LK.2)))
def qS.l3(N:Nat):Nat→qS.cV
 |0,_,_,_,_,_=>none
 |n+1,x0,x2,x3,Ph,x4=>qS.jP N (qS.j8 N (qS.l3 N n)) (qS.l3 N n) x0 x2 x3 Ph x4
def qS.b(N:Nat)(ld:qS.cV)(a0:aP):Option (aa×aP):=
 (m8 N a0 (4:Int)).bind fun r1=>ld r1.2 (cg,dP) (cg,dP) cg (W .i64 ((1:Int)+r1.1))
def qS(N:Nat)(a0:aP):Option (aa×aP):=qS.b N (qS.l3 N N) a0
abbrev dO.eh:=aP→gv→Int→Option (gv×aP)
abbrev dO.jj:=aP→gv→Int→Option (gv×aP)
abbrev dO.cV:=aP→gv→Int→Option (gv×aP)
def dO.kH(N:Nat)(fB:dO.eh)(x0:aP)(x5:gv)(x8:Int):Option (gv×aP):=
 cond (bW x8 7) ((m8 N x0 (3000:Int)).bind fun nW=>let Sw:Int:=W .i64 ((200:Int)+nW.1);(m8 N nW.2 (200:Int)).bind fun rq=>let v18:Int:=W .i64 ((20:Int)+rq.1);cond (small (List.length x5+List.length ([((3:Int),((0:Int),(x8,((0:Int),((0:Int),((0:Int),(Sw,((0:Int),())))))))),((6:Int),((0:Int),(x8,((0:Int),((0:Int),((0:Int),(v18,((0:Int),()))))))))]))) (fB rq.2 (x5++([((3:Int),((0:Int),(x8,((0:Int),((0:Int),((0:Int),(Sw,((0:Int),())))))))),((6:Int),((0:Int),(x8,((0:Int),((0:Int),((0:Int),(v18,((0:Int),()))))))))])) (W .i64 (x8+1))) (none)) (some (x5,x0))
def dO.mB(N:Nat):Nat→dO.eh
 |0,_,_,_=>none
 |n+1,x0,x5,x8=>dO.kH N (dO.mB N n) x0 x5 x8
def dO.tG(N:Nat)(pU:dO.eh)(mK:dO.jj)(x0:aP)(x5:gv)(x7:Int):Option (gv×aP):=
 cond (bW x7 7) ((m8 N x0 (2:Int)).bind fun gu=>let v11:Int:=W .i64 ((1:Int)+gu.1);cond (small (List.length x5+List.length ([((2:Int),(v11,(x7,((0:Int),((2:Int),aL)))))]))) (mK gu.2 (x5++([((2:Int),(v11,(x7,((0:Int),((2:Int),aL)))))])) (W .i64 (x7+1))) (none)) (pU x0 x5 (1:Int))
def dO.l9(N:Nat):Nat→dO.jj
 |0,_,_,_=>none
 |n+1,x0,x5,x7=>dO.tG N (dO.mB N N) (dO.l9 N n) x0 x5 x7
def dO.jP(N:Nat)(uG:dO.jj)(cC:dO.cV)(x0:aP)(x5:gv)(x6:Int):Option (gv×aP):=
 cond (bW x6 4) (cond (small (List.length x5+List.length ([((1:Int),(x6,dP)),((2:Int),(x6,(x6,((0:Int),((1:Int),aL)))))]))) (let v2:List ((Int)×((Int)×((Int)×((Int)×((Int)×((Int)×((Int)×((Int)×(Unit))))))))):=x5++([((1:Int),(x6,dP)),((2:Int),(x6,(x6,((0:Int),((1:Int),aL)))))]);(Tf N x0 (5:Int)).bind fun r3=>cond (!r3.1) ((m8 N r3.2 (400:Int)).bind fun r4=>let v5:Int:=W .i64 ((1:Int)+r4.1);cond (small (List.length v2+List.length ([((5:Int),(x6,((0:Int),((0:Int),((0:Int),((0:Int),(v5,((0:Int),()))))))))]))) (cC r4.2 (v2++([((5:Int),(x6,((0:Int),((0:Int),((0:Int),((0:Int),(v5,((0:Int),()))))))))])) (W .i64 (x6+1))) (none)) (cC r3.2 v2 (W .i64 (x6+1)))) (none)) (uG x0 x5 (5:Int))
def dO.l3(N:Nat):Nat→dO.cV
 |0,_,_,_=>none
 |n+1,x0,x5,x6=>dO.jP N (dO.l9 N N) (dO.l3 N n) x0 x5 x6
def dO.b(N:Nat)(ld:dO.cV)(a0:aP)(a1:aa):Option (gv×aP):=
 ld a0 ([]) (1:Int)
def dO(N:Nat)(a0:aP)(a1:aa):Option (gv×aP):=dO.b N (dO.l3 N N) a0 a1
def OY(N:Nat)(a0:aP)(a1:aa)(a2:Int):Option (gM×aP):=
 cond (aH a2 (List.length a1.1)) ((m8 N a0 (61:Int)).bind fun r1=>(Tf N r1.2 (20:Int)).bind fun r6=>cond (r6.1) ((J2 N r6.2).bind fun r7=>cond (ay 1000000000000 0) (none) (some (((9:Int),((0:Int),((0:Int),(a2,((0:Int),((0:Int),((0:Int),((W .i64 ((1:Int)+(rem r7.1 1000000000000))),())))))))),r7.2))) (some (((9:Int),((0:Int),((0:Int),(a2,((0:Int),((0:Int),((0:Int),((mx 1 (mn 1000000000000 (W .i64 ((W .i64 ((((List.getD a1.1 a2.toNat aK).2).1)+r1.1))-30)))),())))))))),r6.2))) (none)
def RW(N:Nat)(a0:aP)(a1:aa):Option (gM×aP):=
 (m8 N a0 (List.length a1.1:Int)).bind fun r1=>(m8 N r1.2 (7:Int)).bind fun r2=>let v3:Int:=W .i64 ((1:Int)+r2.1);(m8 N r2.2 (2:Int)).bind fun r4=>let v5:Int:=W .i64 ((1:Int)+r4.1);(m8 N r4.2 (30:Int)).bind fun r6=>cond (aH r1.1 (List.length a1.1)) ((m8 N r6.2 (21:Int)).bind fun r8=>(Tf N r8.2 (30:Int)).bind fun jy=>cond (jy.1) ((J2 N jy.2).bind fun mH=>cond (ay 1000000000 0) (none) ((J2 N mH.2).bind fun rq=>cond (ay 1000000000000 0) (none) (some (((7:Int),((0:Int),(v3,(r1.1,(v5,((0:Int),((W .i64 ((1:Int)+(rem mH.1 1000000000))),((W .i64 ((1:Int)+(rem rq.1 1000000000000))),())))))))),rq.2)))) (some (((7:Int),((0:Int),(v3,(r1.1,(v5,((0:Int),((W .i64 ((1:Int)+r6.1)),((mx 1 (mn 1000000000000 (W .i64 ((W .i64 ((((List.getD a1.1 r1.1.toNat aK).2).1)+r8.1))-10)))),())))))))),jy.2))) (none)
def RX(N:Nat)(a0:aP)(a1:aa):Option (gM×aP):=
 (m8 N a0 (4:Int)).bind fun r1=>let v2:Int:=W .i64 ((1:Int)+r1.1);(m8 N r1.2 (7:Int)).bind fun r3=>let v4:Int:=W .i64 ((1:Int)+r3.1);(m8 N r3.2 (List.length a1.1:Int)).bind fun r5=>(m8 N r5.2 (36:Int)).bind fun r6=>let v7:Int:=W .i64 ((1:Int)+r6.1);cond (ay v7 1) (some ((v7,(v2,dP)),r6.2)) (cond (ay v7 11) (some ((v7,(v2,dP)),r6.2)) (cond (ay v7 12) (some ((v7,(v2,dP)),r6.2)) (cond (ay v7 13) (some ((v7,(v2,dP)),r6.2)) (cond (ay v7 2) ((m8 N r6.2 (2:Int)).bind fun r8=>some ((v7,(v2,(v4,((0:Int),((W .i64 ((1:Int)+r8.1)),aL))))),r8.2)) (cond (ay v7 3) ((J2 N r6.2).bind fun gu=>some ((v7,((0:Int),(v4,((0:Int),((0:Int),((0:Int),((mx gu.1 1),((0:Int),())))))))),gu.2)) (cond (ay v7 4) ((J2 N r6.2).bind fun jg=>some ((v7,((0:Int),(v4,((0:Int),((0:Int),((0:Int),((mx jg.1 1),((0:Int),())))))))),jg.2)) (cond (ay v7 5) ((J2 N r6.2).bind fun mH=>some ((v7,(v2,((0:Int),((0:Int),((0:Int),((0:Int),((mx mH.1 1),((0:Int),())))))))),mH.2)) (cond (ay v7 22) ((J2 N r6.2).bind fun qP=>some ((v7,(v2,((0:Int),((0:Int),((0:Int),((0:Int),((mx qP.1 1),((0:Int),())))))))),qP.2)) (cond (ay v7 6) ((J2 N r6.2).bind fun uH=>cond (ay 1000000000001 0) (none) (some ((v7,((0:Int),(v4,((0:Int),((0:Int),((0:Int),((rem uH.1 1000000000001),((0:Int),())))))))),uH.2))) (cond (ay v7 8) ((m8 N r6.2 (40:Int)).bind fun D6=>some ((v7,((0:Int),(v4,((0:Int),((0:Int),((W .i64 ((1:Int)+D6.1)),bI)))))),D6.2)) (cond (ay v7 9) ((OY N r6.2 a1 r5.1).bind fun J7=>some (J7.1,J7.2)) (cond (ay v7 10) ((m8 N r6.2 (3:Int)).bind fun BB=>some ((v7,((0:Int),((0:Int),((0:Int),((0:Int),((0:Int),((W .i64 ((1:Int)+BB.1)),((0:Int),())))))))),BB.2)) (cond (ay v7 14) (some ((v7,(v2,(v4,dT))),r6.2)) (cond (ay v7 15) (some ((v7,ZS),r6.2)) (cond (ay v7 16) (some ((v7,ZS),r6.2)) (cond (ay v7 18) (some ((v7,ZS),r6.2)) (cond (ay v7 20) (some ((v7,ZS),r6.2)) (cond (ay v7 21) (some ((v7,ZS),r6.2)) (cond (ay v7 17) ((m8 N r6.2 (60:Int)).bind fun D5=>(m8 N D5.2 (20:Int)).bind fun Pj=>cond (aH r5.1 (List.length a1.1)) (some ((v7,((0:Int),(v4,((0:Int),((0:Int),((W .i64 ((1:Int)+D5.1)),((W .i64 ((1:Int)+Pj.1)),(((List.getD a1.1 r5.1.toNat aK).2).1,())))))))),Pj.2)) (none)) (cond (ay v7 19) ((m8 N r6.2 (60:Int)).bind fun D3=>(m8 N D3.2 (80:Int)).bind fun Nk=>some ((v7,(v2,((0:Int),((0:Int),((0:Int),((W .i64 ((1:Int)+D3.1)),((0:Int),((W .i64 (Nk.1-60)),())))))))),Nk.2)) ((RW N r6.2 a1).bind fun r33=>some (r33.1,r33.2))))))))))))))))))))))
abbrev zH.cV:=aP→aa→gv→Int→Option (gv×aP)
def zH.jP(N:Nat)(cC:zH.cV)(x0:aP)(x4:aa)(x7:gv)(x8:Int):Option (gv×aP):=
 cond (aG 0 x8) ((m8 N x0 (8:Int)).bind fun r5=>cond (ay r5.1 0) ((RX N r5.2 x4).bind fun r6=>cond (small (List.length x7+List.length ([r6.1]))) (cC r6.2 x4 (x7++([r6.1])) (W .i64 (x8-1))) (none)) (cond (ay r5.1 1) ((m8 N r5.2 (List.length x4.1:Int)).bind fun r9=>(OY N r9.2 x4 r9.1).bind fun gu=>cond (small (List.length x7+List.length ([gu.1]))) (cC gu.2 x4 (x7++([gu.1])) (W .i64 (x8-1))) (none)) ((RW N r5.2 x4).bind fun jy=>cond (small (List.length x7+List.length ([jy.1]))) (cC jy.2 x4 (x7++([jy.1])) (W .i64 (x8-1))) (none)))) (some (x7,x0))
def zH.l3(N:Nat):Nat→zH.cV
 |0,_,_,_,_=>none
 |n+1,x0,x4,x7,x8=>zH.jP N (zH.l3 N n) x0 x4 x7 x8
def zH.b(N:Nat)(ld:zH.cV)(a0:aP)(a1:aa)(a2:Int):Option (gv×aP):=
 (dO N a0 a1).bind fun r1=>(m8 N r1.2 (W .i64 (a2+1))).bind fun r3=>ld r3.2 a1 r1.1 r3.1
def zH(N:Nat)(a0:aP)(a1:aa)(a2:Int):Option (gv×aP):=zH.b N (zH.l3 N N) a0 a1 a2
abbrev y8.cV:=aP→aa→gv→Int→Option (gv×aP)
def y8.jP(N:Nat)(cC:y8.cV)(x0:aP)(x3:aa)(x5:gv)(x6:Int):Option (gv×aP):=
 cond (aG 0 x6) ((Tf N x0 (2:Int)).bind fun r3=>cond (r3.1) ((m8 N r3.2 (List.length x3.1:Int)).bind fun r4=>(OY N r4.2 x3 r4.1).bind fun r5=>cond (small (List.length x5+List.length ([r5.1]))) (cC r5.2 x3 (x5++([r5.1])) (W .i64 (x6-1))) (none)) ((RX N r3.2 x3).bind fun r8=>cond (small (List.length x5+List.length ([r8.1]))) (cC r8.2 x3 (x5++([r8.1])) (W .i64 (x6-1))) (none))) (some (x5,x0))
def y8.l3(N:Nat):Nat→y8.cV
 |0,_,_,_,_=>none
 |n+1,x0,x3,x5,x6=>y8.jP N (y8.l3 N n) x0 x3 x5 x6
def y8.b(N:Nat)(ld:y8.cV)(a0:aP)(a1:aa):Option (gv×aP):=
 (m8 N a0 (3:Int)).bind fun r1=>ld r1.2 a1 ([]) r1.1
def y8(N:Nat)(a0:aP)(a1:aa):Option (gv×aP):=y8.b N (y8.l3 N N) a0 a1
def Cq(N:Nat)(a0:Int)(a1:Int)(a2:Int):Option (Bool):=
 cond (bW a1 a0) (some (bW a0 a2)) (some false)
abbrev iX.aW:=aa→Int→Option (Bool)
def iX.cA(N:Nat)(bz:iX.aW)(x1:aa)(x3:Int):Option (Bool):=
 cond (aG x3 (List.length x1.1:Int)) (cond (aH x3 (List.length x1.1)) ((Cq N ((List.getD x1.1 x3.toNat aK).1) (0:Int) (3:Int)).bind fun r2=>cond (!r2) (some false) ((Cq N (((List.getD x1.1 x3.toNat aK).2).1) (1:Int) (1000000000000:Int)).bind fun r3=>cond (!r3) (some false) ((Cq N ((((List.getD x1.1 x3.toNat aK).2).2).1) (0:Int) (1000000000:Int)).bind fun r4=>cond (!r4) (some false) ((Cq N (((((List.getD x1.1 x3.toNat aK).2).2).2).1) (0:Int) (1000000000:Int)).bind fun r5=>cond (!r5) (some false) (bz x1 (W .i64 (x3+1))))))) (none)) (cond (bW 0 x1.2.1) ((Cq N x1.2.2.1 (0:Int) (4:Int)).bind fun r7=>cond (r7) ((Cq N x1.2.2.2.1 (0:Int) (1000000:Int)).bind fun r8=>cond (r8) ((Cq N x1.2.2.2.2.1 (0:Int) (1000000:Int)).bind fun r9=>cond (r9) ((Cq N x1.2.2.2.2.2.1 (1:Int) (4611686018427387904:Int)).bind fun gu=>cond (gu) (some (bW 0 x1.2.2.2.2.2.2.1)) (some false)) (some false)) (some false)) (some false)) (some false))
def iX.l4(N:Nat):Nat→iX.aW
 |0,_,_=>none
 |n+1,x1,x3=>iX.cA N (iX.l4 N n) x1 x3
def iX.b(N:Nat)(c3:iX.aW)(a0:aa):Option (Bool):=
 cond (aG (List.length a0.1:Int) 1) (some false) (cond (aG 6 (List.length a0.1:Int)) (some false) (c3 a0 (0:Int)))
def iX(N:Nat)(a0:aa):Option (Bool):=iX.b N (iX.l4 N N) a0
abbrev hZ.dj:=aa→af→af→(List (Int))→Int→Option (af×(Int))
abbrev hZ.LJ:=aa→af→af→(List (Int))→Option (af×(Int))
def hZ.mq(N:Nat)(da:hZ.dj)(x1:aa)(x2:af)(x4:af)(Vx:List (Int))(x5:Int):Option (af×(Int)):=
 cond (aG x5 (List.length x1.1:Int)) (cond (aH x5 (List.length x1.1)) (cond (small (List.length Vx+List.length ([((List.getD x1.1 x5.toNat aK).2).1]))) (da x1 x2 (x4.1,(x4.2.1,(x4.2.2.1,(x4.2.2.2.1,(cD,x4.2.2.2.2.2))))) (Vx++([((List.getD x1.1 x5.toNat aK).2).1])) (W .i64 (x5+1))) (none)) (none)) (some ((x4.1,(x4.2.1,(x4.2.2.1,(x4.2.2.2.1,(Vx,x4.2.2.2.2.2))))),(0:Int)))
def hZ.l7(N:Nat):Nat→hZ.dj
 |0,_,_,_,_,_=>none
 |n+1,x1,x2,x4,Vx,x5=>hZ.mq N (hZ.l7 N n) x1 x2 x4 Vx x5
def hZ.J0(N:Nat)(ph:hZ.dj)(x1:aa)(x2:af)(x4:af)(Vx:List (Int)):Option (af×(Int)):=
 ph x1 x2 x4 Vx (0:Int)
def hZ.j6(N:Nat)(x1:aa)(x2:af)(x4:af)(Vx:List (Int)):Option (af×(Int)):=hZ.J0 N (hZ.l7 N N) x1 x2 x4 Vx
def hZ.b(N:Nat)(xg:hZ.LJ)(a0:aa):Option (af×(Int)):=
 (iX N a0).bind fun r1=>cond (!r1) (some ((bK,(cg,(aY,(aY,(cD,(cJ,())))))),(1:Int))) (cond (!ay a0.2.1 0) (xg a0 (bK,(cg,(aY,(aY,(cD,(cJ,())))))) (bK,(cg,([((1:Int),((0:Int),((W .i64 (0-a0.2.1)),()))),((3:Int),((0:Int),(a0.2.1,())))],(aY,(cD,(cJ,())))))) cD) (xg a0 (bK,(cg,(aY,(aY,(cD,(cJ,())))))) (bK,(cg,(aY,(aY,(cD,(cJ,())))))) cD))
def hZ(N:Nat)(a0:aa):Option (af×(Int)):=hZ.b N (hZ.j6 N) a0
def aiu(N:Nat)(a0:aa):Option (aV×(Int)):=
 (hZ N a0).bind fun r1=>cond (!ay r1.2 0) (some (((0:Int),((0:Int),((bK,(cg,(aY,(aY,(cD,(cJ,())))))),(((0:Int),((0:Int),((0:Int),((0:Int),(cg,(([]:List ((Int)×((List ((Int)×((Int)×(Unit))))×((Int)×((Int)×((Int)×((Int)×(Unit)))))))),(cg,(cD,(bK,(bK,())))))))))),(((0:Int),((0:Int),(zi,((0:Int),())))),()))))),r1.2)) (some (((0:Int),((1:Int),(r1.1,(((0:Int),((0:Int),((0:Int),((0:Int),(cg,(([]:List ((Int)×((List ((Int)×((Int)×(Unit))))×((Int)×((Int)×((Int)×((Int)×(Unit)))))))),(cg,(cD,(bK,(bK,())))))))))),(((0:Int),((0:Int),(zi,((0:Int),())))),()))))),(0:Int)))
def aco(N:Nat)(a0:Int):Option (Bool):=
 cond (bW 1 a0) (some (bW a0 22)) (some false)
def Vc(N:Nat)(a0:Int):Option (ByteArray):=
 cond (ay a0 1) (some (strOf [77])) (cond (ay a0 11) (some (strOf [77])) (cond (ay a0 12) (some (strOf [77])) (cond (ay a0 13) (some (strOf [77])) (cond (ay a0 2) (some (strOf [77,65,83])) (cond (ay a0 3) (some (strOf [65,81])) (cond (ay a0 4) (some (strOf [65,81])) (cond (ay a0 6) (some (strOf [65,81])) (cond (ay a0 5) (some (strOf [77,81])) (cond (ay a0 22) (some (strOf [77,81])) (cond (ay a0 7) (some (strOf [65,73,83,81,80])) (cond (ay a0 8) (some (strOf [65,68])) (cond (ay a0 9) (some (strOf [73,80])) (cond (ay a0 10) (some (strOf [81])) (cond (ay a0 14) (some (strOf [77,65])) (cond (ay a0 17) (some (strOf [65,68,81,80])) (cond (ay a0 19) (some (strOf [77,68,80])) (some (strOf []))))))))))))))))))
def acm(N:Nat)(a0:Int):Option ((Int)×(Int)):=
 cond (ay a0 6) (some ((0:Int),(1000000000000:Int))) (cond (ay a0 7) (some ((1:Int),(1000000000:Int))) (cond (ay a0 17) (some ((1:Int),(1000000000:Int))) (cond (ay a0 10) (some ((1:Int),(1000000:Int))) (some ((1:Int),(9223372036854775807:Int))))))
def acn(N:Nat)(a0:Int):Option ((Int)×(Int)):=
 cond (ay a0 19) (some ((-1152921504606846976:Int),(1152921504606846976:Int))) (some ((1:Int),(1000000000000:Int)))
def Vd(N:Nat)(a0:Int)(a1:Int):Option ((Int)×(Int)):=
 cond (ay a1 77) (some ((1:Int),(12:Int))) (cond (ay a1 65) (some ((1:Int),(24:Int))) (cond (ay a1 73) (some ((0:Int),(5:Int))) (cond (ay a1 83) (some ((1:Int),(2:Int))) (cond (ay a1 68) (some ((1:Int),(1099511627776:Int))) (cond (ay a1 81) ((acm N a0).bind fun r1=>some (r1.1,r1.2)) ((acn N a0).bind fun r2=>some (r2.1,r2.2)))))))
def Ve(N:Nat)(a0:gM)(a1:Int):Option (Int):=
 cond (ay a1 77) (some a0.2.1) (cond (ay a1 65) (some a0.2.2.1) (cond (ay a1 73) (some a0.2.2.2.1) (cond (ay a1 83) (some a0.2.2.2.2.1) (cond (ay a1 68) (some a0.2.2.2.2.2.1) (cond (ay a1 81) (some a0.2.2.2.2.2.2.1) (some a0.2.2.2.2.2.2.2.1))))))
def Vf(N:Nat)(a0:gM)(a1:Int)(a2:Int):Option gM:=
 cond (ay a1 77) (some (a0.1,(a2,a0.2.2))) (cond (ay a1 65) (some (a0.1,(a0.2.1,(a2,a0.2.2.2)))) (cond (ay a1 73) (some (a0.1,(a0.2.1,(a0.2.2.1,(a2,a0.2.2.2.2))))) (cond (ay a1 83) (some (a0.1,(a0.2.1,(a0.2.2.1,(a0.2.2.2.1,(a2,a0.2.2.2.2.2)))))) (cond (ay a1 68) (some (a0.1,(a0.2.1,(a0.2.2.1,(a0.2.2.2.1,(a0.2.2.2.2.1,(a2,a0.2.2.2.2.2.2))))))) (cond (ay a1 81) (some (a0.1,(a0.2.1,(a0.2.2.1,(a0.2.2.2.1,(a0.2.2.2.2.1,(a0.2.2.2.2.2.1,(a2,a0.2.2.2.2.2.2.2)))))))) (some (a0.1,(a0.2.1,(a0.2.2.1,(a0.2.2.2.1,(a0.2.2.2.2.1,(a0.2.2.2.2.2.1,(a0.2.2.2.2.2.2.1,(a2,a0.2.2.2.2.2.2.2.2))))))))))))))
abbrev nX.e9:=gM→ByteArray→gM→Int→Option (Bool)
def nX.pJ(N:Nat)(fa:nX.e9)(x1:gM)(x3:ByteArray)(x4:gM)(x5:Int):Option (Bool):=
 cond (aG x5 (ByteArray.size x3:Int)) (cond (aH x5 (ByteArray.size x3)) ((Vd N x1.1 ((x3.data.getD x5.toNat 0).toNat:Int)).bind fun r4=>cond (aH x5 (ByteArray.size x3)) ((Ve N x1 ((x3.data.getD x5.toNat 0).toNat:Int)).bind fun r5=>cond (aG r5 r4.1) (some false) (cond (aG r4.2 r5) (some false) (cond (aH x5 (ByteArray.size x3)) ((Vf N x4 ((x3.data.getD x5.toNat 0).toNat:Int) r5).bind fun r6=>fa x1 x3 r6 (W .i64 (x5+1))) (none)))) (none)) (none)) (some (jO (.pair (.int .i64) (.pair (.int .i64) (.pair (.int .i64) (.pair (.int .i64) (.pair (.int .i64) (.pair (.int .i64) (.pair (.int .i64) (.pair (.int .i64) .unit)))))))) x4 x1))
def nX.l6(N:Nat):Nat→nX.e9
 |0,_,_,_,_=>none
 |n+1,x1,x3,x4,x5=>nX.pJ N (nX.l6 N n) x1 x3 x4 x5
def nX.b(N:Nat)(qY:nX.e9)(a0:gM):Option (Bool):=
 (aco N a0.1).bind fun r1=>cond (!r1) (some false) ((Vc N a0.1).bind fun r2=>qY a0 r2 (a0.1,ZS) (0:Int))
def nX(N:Nat)(a0:gM):Option (Bool):=nX.b N (nX.l6 N N) a0
abbrev kE.bS:=av→Int→Option (Bool)
def kE.dx(N:Nat)(cN:kE.bS)(x0:av)(x3:Int):Option (Bool):=
 cond (aG x3 (List.length x0:Int)) (cond (aH x3 (List.length x0)) (cond (aG ((List.getD x0 x3.toNat bI).1) (1:Int)) (some false) (cond (aH x3 (List.length x0)) (cond (aG 12 ((List.getD x0 x3.toNat bI).1)) (some false) (cond (aH x3 (List.length x0)) (cond (aG (((List.getD x0 x3.toNat bI).2).1) (1:Int)) (some false) (cond (aH x3 (List.length x0)) (cond (aG 4 (((List.getD x0 x3.toNat bI).2).1)) (some false) (cond (aG 0 x3) (cond (aH x3 (List.length x0)) (let v2:Int:=W .i64 (x3-1);cond (aH v2 (List.length x0)) (cond (bW ((List.getD x0 x3.toNat bI).1) ((List.getD x0 v2.toNat bI).1)) (some false) (cN x0 (W .i64 (x3+1)))) (none)) (none)) (cN x0 (W .i64 (x3+1))))) (none))) (none))) (none))) (none)) (some true)
def kE.l2(N:Nat):Nat→kE.bS
 |0,_,_=>none
 |n+1,x0,x3=>kE.dx N (kE.l2 N n) x0 x3
def kE.b(N:Nat)(eC:kE.bS)(a0:av):Option (Bool):=
 eC a0 (0:Int)
def kE(N:Nat)(a0:av):Option (Bool):=kE.b N (kE.l2 N N) a0
abbrev jH.bS:=av→Int→Int→Option (Int)
def jH.dx(N:Nat)(cN:jH.bS)(x0:av)(x1:Int)(x5:Int):Option (Int):=
 cond (aG x5 (List.length x0:Int)) (cond (aH x5 (List.length x0)) (cond (ay ((List.getD x0 x5.toNat bI).1) x1) (cond (aH x5 (List.length x0)) (some (((List.getD x0 x5.toNat bI).2).1)) (none)) (cN x0 x1 (W .i64 (x5+1)))) (none)) (some (0:Int))
def jH.l2(N:Nat):Nat→jH.bS
 |0,_,_,_=>none
 |n+1,x0,x1,x5=>jH.dx N (jH.l2 N n) x0 x1 x5
def jH.b(N:Nat)(eC:jH.bS)(a0:av)(a1:Int):Option (Int):=
 eC a0 a1 (0:Int)
def jH(N:Nat)(a0:av)(a1:Int):Option (Int):=jH.b N (jH.l2 N N) a0 a1
abbrev hX.LM:=av→Int→av→Int→Option (av×(Int))
abbrev hX.dj:=av→Int→av→Int→Option (av×(Int))
def hX.KB(N:Nat)(x0:av)(x1:Int)(x6:av)(x7:Int):Option (av×(Int)):=
 cond (gw 0 x7 (List.length x0:Int) (List.length x0:Int)) (let v6:List ((Int)×((Int)×(Unit))):=List.drop (0:Int).toNat (List.take x7.toNat x0);cond (small (List.length x6+List.length v6)) (let v7:List ((Int)×((Int)×(Unit))):=x6++v6;cond (small (List.length v7+List.length ([(x1,((1:Int),()))]))) (let v8:List ((Int)×((Int)×(Unit))):=v7++([(x1,((1:Int),()))]);cond (gw x7 (List.length x0:Int) (List.length x0:Int) (List.length x0:Int)) (let v9:List ((Int)×((Int)×(Unit))):=List.drop x7.toNat (List.take (List.length x0:Int).toNat x0);cond (small (List.length v8+List.length v9)) (some ((v8++v9),(0:Int))) (none)) (none)) (none)) (none)) (none)
def hX.j9(N:Nat)(x0:av)(x1:Int)(x6:av)(x7:Int):Option (av×(Int)):=hX.KB N x0 x1 x6 x7
def hX.mq(N:Nat)(BI:hX.LM)(da:hX.dj)(x0:av)(x1:Int)(x6:av)(x7:Int):Option (av×(Int)):=
 cond (aG x7 (List.length x0:Int)) (cond (aH x7 (List.length x0)) (cond (aG ((List.getD x0 x7.toNat bI).1) x1) (da x0 x1 x6 (W .i64 (x7+1))) (BI x0 x1 x6 x7)) (none)) (BI x0 x1 x6 x7)
def hX.l7(N:Nat):Nat→hX.dj
 |0,_,_,_,_=>none
 |n+1,x0,x1,x6,x7=>hX.mq N (hX.j9 N) (hX.l7 N n) x0 x1 x6 x7
def hX.b(N:Nat)(ph:hX.dj)(a0:av)(a1:Int):Option (av×(Int)):=
 (kE N a0).bind fun r1=>cond (!r1) (some ([],(1:Int))) (cond (aG a1 1) (some ([],(1:Int))) (cond (aG 12 a1) (some ([],(1:Int))) ((jH N a0 a1).bind fun r2=>cond (!ay r2 0) (some ([],(4:Int))) (ph a0 a1 ([]) (0:Int)))))
def hX(N:Nat)(a0:av)(a1:Int):Option (av×(Int)):=hX.b N (hX.l7 N N) a0 a1
def eQ(N:Nat)(a0:Int):Option ca:=
 some (a0,bI)
abbrev iQ.fQ:=aE→Int→br→Int→Option (Bool)
abbrev iQ.LH:=aE→Int→br→Option (Bool)
abbrev iQ.bS:=aE→Int→Option (Bool)
def iQ.zt(N:Nat)(cN:iQ.bS)(dS:iQ.fQ)(x0:aE)(x3:Int)(x4:br)(x5:Int):Option (Bool):=
 cond (aG x5 x3) (cond (ay x4.2.2.1 1) (cond (aH x5 (List.length x0)) (cond (ay ((((List.getD x0 x5.toNat aK).2).2).1) (1:Int)) (cond (aH x5 (List.length x0)) (cond (ay (((List.getD x0 x5.toNat aK).2).1) x4.2.1) (some false) (dS x0 x3 x4 (W .i64 (x5+1)))) (none)) (dS x0 x3 x4 (W .i64 (x5+1)))) (none)) (dS x0 x3 x4 (W .i64 (x5+1)))) (cN x0 (W .i64 (x3+1)))
def iQ.l8(N:Nat)(cN:iQ.bS):Nat→iQ.fQ
 |0,_,_,_,_=>none
 |n+1,x0,x3,x4,x5=>iQ.zt N cN (iQ.l8 N cN n) x0 x3 x4 x5
def iQ.Kz(N:Nat)(BJ:iQ.fQ)(cN:iQ.bS)(x0:aE)(x3:Int)(x4:br):Option (Bool):=
 BJ x0 x3 x4 (0:Int)
def iQ.j7(N:Nat)(cN:iQ.bS)(x0:aE)(x3:Int)(x4:br):Option (Bool):=iQ.Kz N (iQ.l8 N cN N) cN x0 x3 x4
def iQ.dx(N:Nat)(xe:iQ.LH)(cN:iQ.bS)(x0:aE)(x3:Int):Option (Bool):=
 cond (aG x3 (List.length x0:Int)) (cond (aH x3 (List.length x0)) (cond (aG ((List.getD x0 x3.toNat aK).1) (1:Int)) (some false) (cond (aG 24 ((List.getD x0 x3.toNat aK).1)) (some false) (cond (aG (((List.getD x0 x3.toNat aK).2).1) (1:Int)) (some false) (cond (aG 12 (((List.getD x0 x3.toNat aK).2).1)) (some false) (cond (!ay ((((List.getD x0 x3.toNat aK).2).2).1) (1:Int)) (cond (!ay ((((List.getD x0 x3.toNat aK).2).2).1) (2:Int)) (some false) (cond (aG (((((List.getD x0 x3.toNat aK).2).2).2).1) (0:Int)) (some false) (cond (aG 1000000000000 (((((List.getD x0 x3.toNat aK).2).2).2).1)) (some false) (cond (aG 0 x3) (let v2:Int:=W .i64 (x3-1);cond (aH v2 (List.length x0)) (cond (bW ((List.getD x0 x3.toNat aK).1) ((List.getD x0 v2.toNat aK).1)) (some false) (xe x0 x3 (List.getD x0 x3.toNat aK))) (none)) (xe x0 x3 (List.getD x0 x3.toNat aK)))))) (cond (aG (((((List.getD x0 x3.toNat aK).2).2).2).1) (0:Int)) (some false) (cond (aG 1000000000000 (((((List.getD x0 x3.toNat aK).2).2).2).1)) (some false) (cond (aG 0 x3) (let v9:Int:=W .i64 (x3-1);cond (aH v9 (List.length x0)) (cond (bW ((List.getD x0 x3.toNat aK).1) ((List.getD x0 v9.toNat aK).1)) (some false) (xe x0 x3 (List.getD x0 x3.toNat aK))) (none)) (xe x0 x3 (List.getD x0 x3.toNat aK)))))))))) (none)) (some true)
def iQ.l2(N:Nat):Nat→iQ.bS
 |0,_,_=>none
 |n+1,x0,x3=>iQ.dx N (iQ.j7 N (iQ.l2 N n)) (iQ.l2 N n) x0 x3
def iQ.b(N:Nat)(eC:iQ.bS)(a0:aE):Option (Bool):=
 eC a0 (0:Int)
def iQ(N:Nat)(a0:aE):Option (Bool):=iQ.b N (iQ.l2 N N) a0
abbrev kZ.aW:=av→aE→Int→Option (Bool)
def kZ.cA(N:Nat)(bz:kZ.aW)(x0:av)(x1:aE)(x5:Int):Option (Bool):=
 cond (aG x5 (List.length x1:Int)) (cond (aH x5 (List.length x1)) ((jH N x0 (((List.getD x1 x5.toNat aK).2).1)).bind fun r4=>cond (ay r4 0) (some false) (bz x0 x1 (W .i64 (x5+1)))) (none)) (some true)
def kZ.l4(N:Nat):Nat→kZ.aW
 |0,_,_,_=>none
 |n+1,x0,x1,x5=>kZ.cA N (kZ.l4 N n) x0 x1 x5
def kZ.b(N:Nat)(c3:kZ.aW)(a0:av)(a1:aE):Option (Bool):=
 (kE N a0).bind fun r1=>cond (!r1) (some false) ((iQ N a1).bind fun r2=>cond (!r2) (some false) (c3 a0 a1 (0:Int)))
def kZ(N:Nat)(a0:av)(a1:aE):Option (Bool):=kZ.b N (kZ.l4 N N) a0 a1
abbrev kG.bS:=aE→Int→br→Int→Option (br×(Bool))
def kG.dx(N:Nat)(cN:kG.bS)(x0:aE)(x1:Int)(x4:br)(x6:Int):Option (br×(Bool)):=
 cond (aG x6 (List.length x0:Int)) (cond (aH x6 (List.length x0)) (cond (ay ((List.getD x0 x6.toNat aK).1) x1) (cond (aH x6 (List.length x0)) (some (List.getD x0 x6.toNat aK,true)) (none)) (cN x0 x1 x4 (W .i64 (x6+1)))) (none)) (some (aK,false))
def kG.l2(N:Nat):Nat→kG.bS
 |0,_,_,_,_=>none
 |n+1,x0,x1,x4,x6=>kG.dx N (kG.l2 N n) x0 x1 x4 x6
def kG.b(N:Nat)(eC:kG.bS)(a0:aE)(a1:Int):Option (br×(Bool)):=
 eC a0 a1 aK (0:Int)
def kG(N:Nat)(a0:aE)(a1:Int):Option (br×(Bool)):=kG.b N (kG.l2 N N) a0 a1
abbrev ui.aW:=aE→Int→Int→Option (Int)
def ui.cA(N:Nat)(bz:ui.aW)(x0:aE)(x1:Int)(x5:Int):Option (Int):=
 cond (aG x5 (List.length x0:Int)) (cond (aH x5 (List.length x0)) (cond (ay (((List.getD x0 x5.toNat aK).2).1) x1) (cond (aH x5 (List.length x0)) (cond (ay ((((List.getD x0 x5.toNat aK).2).2).1) (1:Int)) (cond (aH x5 (List.length x0)) (some ((List.getD x0 x5.toNat aK).1)) (none)) (bz x0 x1 (W .i64 (x5+1)))) (none)) (bz x0 x1 (W .i64 (x5+1)))) (none)) (some (0:Int))
def ui.l4(N:Nat):Nat→ui.aW
 |0,_,_,_=>none
 |n+1,x0,x1,x5=>ui.cA N (ui.l4 N n) x0 x1 x5
def ui.b(N:Nat)(c3:ui.aW)(a0:aE)(a1:Int):Option (Int):=
 (iQ N a0).bind fun r1=>cond (!r1) (some (0:Int)) (c3 a0 a1 (0:Int))
def ui(N:Nat)(a0:aE)(a1:Int):Option (Int):=ui.b N (ui.l4 N N) a0 a1
abbrev eP.wh:=aE→br→aE→Int→Option (aE×(Int))
abbrev eP.eh:=aE→br→aE→Int→Option (aE×(Int))
abbrev eP.Iu:=aE→br→Option (aE×(Int))
def eP.pS(N:Nat)(x1:aE)(x5:br)(aI:aE)(aO:Int):Option (aE×(Int)):=
 cond (gw 0 aO (List.length x1:Int) (List.length x1:Int)) (let v10:List ((Int)×((Int)×((Int)×((Int)×(Unit))))):=List.drop (0:Int).toNat (List.take aO.toNat x1);cond (small (List.length aI+List.length v10)) (let v11:List ((Int)×((Int)×((Int)×((Int)×(Unit))))):=aI++v10;cond (small (List.length v11+List.length ([x5]))) (let J5:List ((Int)×((Int)×((Int)×((Int)×(Unit))))):=v11++([x5]);cond (gw aO (List.length x1:Int) (List.length x1:Int) (List.length x1:Int)) (let v13:List ((Int)×((Int)×((Int)×((Int)×(Unit))))):=List.drop aO.toNat (List.take (List.length x1:Int).toNat x1);cond (small (List.length J5+List.length v13)) (some ((J5++v13),(0:Int))) (none)) (none)) (none)) (none)) (none)
def eP.wA(N:Nat)(x1:aE)(x5:br)(aI:aE)(aO:Int):Option (aE×(Int)):=eP.pS N x1 x5 aI aO
def eP.kH(N:Nat)(mQ:eP.wh)(fB:eP.eh)(x1:aE)(x5:br)(aI:aE)(aO:Int):Option (aE×(Int)):=
 cond (aG aO (List.length x1:Int)) (cond (aH aO (List.length x1)) (cond (aG ((List.getD x1 aO.toNat aK).1) x5.1) (fB x1 x5 aI (W .i64 (aO+1))) (mQ x1 x5 aI aO)) (none)) (mQ x1 x5 aI aO)
def eP.mB(N:Nat):Nat→eP.eh
 |0,_,_,_,_=>none
 |n+1,x1,x5,aI,aO=>eP.kH N (eP.wA N) (eP.mB N n) x1 x5 aI aO
def eP.Bx(N:Nat)(pU:eP.eh)(x1:aE)(x5:br):Option (aE×(Int)):=
 pU x1 x5 ([]) (0:Int)
def eP.J3(N:Nat)(x1:aE)(x5:br):Option (aE×(Int)):=eP.Bx N (eP.mB N N) x1 x5
def eP.b(N:Nat)(yv:eP.Iu)(a0:av)(a1:aE)(a2:br):Option (aE×(Int)):=
 (kZ N a0 a1).bind fun r1=>cond (!r1) (some ([],(1:Int))) ((iQ N ([a2])).bind fun r2=>cond (!r2) (some ([],(1:Int))) ((jH N a0 a2.2.1).bind fun r3=>cond (ay r3 0) (some ([],(3:Int))) (cond (!ay r3 1) (some ([],(7:Int))) ((kG N a1 a2.1).bind fun r4=>cond (r4.2) (some ([],(4:Int))) (cond (ay a2.2.2.1 1) ((ui N a1 a2.2.1).bind fun r5=>cond (!ay r5 0) (some ([],(4:Int))) (yv a1 a2)) (yv a1 a2))))))
def eP(N:Nat)(a0:av)(a1:aE)(a2:br):Option (aE×(Int)):=eP.b N (eP.J3 N) a0 a1 a2
def AG(N:Nat)(a0:aE)(a1:Int):Option (br×(Bool)):=
 (iQ N a0).bind fun r1=>cond (!r1) (some (aK,false)) ((kG N a0 a1).bind fun r2=>some (r2.1,r2.2))
def Sj(N:Nat)(a0:aV)(a1:Int):Option (Bool):=
 (AG N a0.2.2.1.2.1 a1).bind fun r1=>some r1.2
abbrev kV.bS:=(List (Int))→Int→Option (List (Int))
def kV.dx(N:Nat)(cN:kV.bS)(x0:List (Int))(x3:Int):Option (List (Int)):=
 cond (aG 0 x3) (let v2:Int:=W .i64 (x3-1);cond (aH v2 (List.length x0)) (cond (ay (List.getD x0 v2.toNat (0:Int)) (0:Int)) (cN x0 (W .i64 (x3-1))) (cond (gw 0 x3 x3 (List.length x0:Int)) (some (List.drop (0:Int).toNat (List.take x3.toNat x0))) (none))) (none)) (cond (gw 0 x3 x3 (List.length x0:Int)) (some (List.drop (0:Int).toNat (List.take x3.toNat x0))) (none))
def kV.l2(N:Nat):Nat→kV.bS
 |0,_,_=>none
 |n+1,x0,x3=>kV.dx N (kV.l2 N n) x0 x3
def kV.b(N:Nat)(eC:kV.bS)(a0:List (Int)):Option (List (Int)):=
 eC a0 (List.length a0:Int)
def kV(N:Nat)(a0:List (Int)):Option (List (Int)):=kV.b N (kV.l2 N N) a0
def F67(N:Nat)(a0:Int):Option (List (Int)):=
 cond (aG 32 0) (none) ((kV N ([(jC .and .u64 a0 4294967295),(shr .u64 a0 32)])).bind fun r3=>some r3)
def N8(N:Nat)(a0:Bool)(a1:List (Int)):Option aw:=
 (kV N a1).bind fun r1=>cond (a0) (some (aG 0 (List.length r1:Int),(r1,()))) (some (false,(r1,())))
def fN(N:Nat)(a0:Int):Option aw:=
 let v1:Int:=W .u64 a0;cond (aG a0 0) ((F67 N (W .u64 (0-v1))).bind fun r3=>(N8 N (aG a0 0) r3).bind fun r4=>some r4) ((F67 N v1).bind fun r5=>(N8 N (aG a0 0) r5).bind fun r6=>some r6)
def Px(N:Nat)(a0:aw):Option aw:=
 (N8 N (!a0.1) a0.2.1).bind fun r1=>some r1
def By(N:Nat)(a0:Int)(a1:Int)(a2:Int)(a3:Int)(a4:aw):Option bw:=
 (Px N a4).bind fun r1=>some ([(a0,(a1,(r1,()))),(a2,(a3,(a4,())))])
def Ue(N:Nat)(a0:List (Int))(a1:Int):Option (Int):=
 cond (aG a1 (List.length a0:Int)) (cond (aH a1 (List.length a0)) (some (List.getD a0 a1.toNat (0:Int))) (none)) (some (0:Int))
abbrev q8.LJ:=(List (Int))→(List (Int))→(List (Int))→Int→Int→Option (List (Int))
abbrev q8.aW:=(List (Int))→(List (Int))→(List (Int))→Int→Int→Option (List (Int))
def q8.J0(N:Nat)(bz:q8.aW)(x0:List (Int))(x1:List (Int))(x5:List (Int))(x6:Int)(x7:Int):Option (List (Int)):=
 (Ue N x0 x7).bind fun r3=>(Ue N x1 x7).bind fun r4=>let v6:Int:=W .u64 (x6+(W .u64 (r3+r4)));let v7:Int:=jC .and .u64 v6 4294967295;cond (small (List.length x5+List.length ([v7]))) (cond (aG 32 0) (none) (bz x0 x1 (x5++([v7])) (shr .u64 v6 32) (W .i64 (x7+1)))) (none)
def q8.j6(N:Nat)(bz:q8.aW)(x0:List (Int))(x1:List (Int))(x5:List (Int))(x6:Int)(x7:Int):Option (List (Int)):=q8.J0 N bz x0 x1 x5 x6 x7
def q8.cA(N:Nat)(xg:q8.LJ)(bz:q8.aW)(x0:List (Int))(x1:List (Int))(x5:List (Int))(x6:Int)(x7:Int):Option (List (Int)):=
 cond (aG x7 (List.length x0:Int)) (xg x0 x1 x5 x6 x7) (cond (aG x7 (List.length x1:Int)) (xg x0 x1 x5 x6 x7) (cond (aG 0 x6) (xg x0 x1 x5 x6 x7) (some x5)))
def q8.l4(N:Nat):Nat→q8.aW
 |0,_,_,_,_,_=>none
 |n+1,x0,x1,x5,x6,x7=>q8.cA N (q8.j6 N (q8.l4 N n)) (q8.l4 N n) x0 x1 x5 x6 x7
def q8.b(N:Nat)(c3:q8.aW)(a0:List (Int))(a1:List (Int)):Option (List (Int)):=
 c3 a0 a1 ([]) (0:Int) (0:Int)
def q8(N:Nat)(a0:List (Int))(a1:List (Int)):Option (List (Int)):=q8.b N (q8.l4 N N) a0 a1
abbrev yQ.e9:=(List (Int))→(List (Int))→Int→Option (Int)
def yQ.pJ(N:Nat)(fa:yQ.e9)(x0:List (Int))(x1:List (Int))(x5:Int):Option (Int):=
 cond (bW 0 x5) (cond (aH x5 (List.length x0)) (cond (aH x5 (List.length x1)) (cond (aG (List.getD x0 x5.toNat (0:Int)) (List.getD x1 x5.toNat (0:Int))) (some (-1:Int)) (cond (aH x5 (List.length x0)) (cond (aH x5 (List.length x1)) (cond (aG (List.getD x1 x5.toNat (0:Int)) (List.getD x0 x5.toNat (0:Int))) (some (1:Int)) (fa x0 x1 (W .i64 (x5-1)))) (none)) (none))) (none)) (none)) (some (0:Int))
def yQ.l6(N:Nat):Nat→yQ.e9
 |0,_,_,_=>none
 |n+1,x0,x1,x5=>yQ.pJ N (yQ.l6 N n) x0 x1 x5
def yQ.b(N:Nat)(qY:yQ.e9)(a0:List (Int))(a1:List (Int)):Option (Int):=
 cond (!ay (List.length a0:Int) (List.length a1:Int)) (cond (aG (List.length a0:Int) (List.length a1:Int)) (some (-1:Int)) (some (1:Int))) (qY a0 a1 (W .i64 ((List.length a0:Int)-1)))
def yQ(N:Nat)(a0:List (Int))(a1:List (Int)):Option (Int):=yQ.b N (yQ.l6 N N) a0 a1
abbrev zo.aW:=(List (Int))→(List (Int))→(List (Int))→Int→Int→Option (List (Int))
def zo.cA(N:Nat)(bz:zo.aW)(x0:List (Int))(x1:List (Int))(x5:List (Int))(x6:Int)(x7:Int):Option (List (Int)):=
 cond (aG x7 (List.length x0:Int)) (cond (aH x7 (List.length x0)) ((Ue N x1 x7).bind fun r2=>let v3:Int:=W .u64 (r2+x6);cond (aG (List.getD x0 x7.toNat (0:Int)) v3) (let v5:Int:=W .u64 ((W .u64 ((List.getD x0 x7.toNat (0:Int))+4294967296))-v3);cond (small (List.length x5+List.length ([v5]))) (bz x0 x1 (x5++([v5])) (1:Int) (W .i64 (x7+1))) (none)) (let v8:Int:=W .u64 ((List.getD x0 x7.toNat (0:Int))-v3);cond (small (List.length x5+List.length ([v8]))) (bz x0 x1 (x5++([v8])) (0:Int) (W .i64 (x7+1))) (none))) (none)) (some x5)
def zo.l4(N:Nat):Nat→zo.aW
 |0,_,_,_,_,_=>none
 |n+1,x0,x1,x5,x6,x7=>zo.cA N (zo.l4 N n) x0 x1 x5 x6 x7
def zo.b(N:Nat)(c3:zo.aW)(a0:List (Int))(a1:List (Int)):Option (List (Int)):=
 c3 a0 a1 ([]) (0:Int) (0:Int)
def zo(N:Nat)(a0:List (Int))(a1:List (Int)):Option (List (Int)):=zo.b N (zo.l4 N N) a0 a1
def tF(N:Nat)(a0:aw)(a1:aw):Option aw:=
 cond (jO .bool a0.1 a1.1) ((q8 N a0.2.1 a1.2.1).bind fun r1=>(N8 N a0.1 r1).bind fun r2=>some r2) ((yQ N a0.2.1 a1.2.1).bind fun r3=>cond (bW 0 r3) ((zo N a0.2.1 a1.2.1).bind fun r4=>(N8 N a0.1 r4).bind fun r5=>some r5) ((zo N a1.2.1 a0.2.1).bind fun r6=>(N8 N a1.1 r6).bind fun r7=>some r7))
def sa(N:Nat)(a0:aw):Option ((Int)×(Bool)):=
 cond (aG 2 (List.length a0.2.1:Int)) (some ((0:Int),false)) ((Ue N a0.2.1 (0:Int)).bind fun r1=>(Ue N a0.2.1 (1:Int)).bind fun r2=>cond (aG 32 0) (none) (let v4:Int:=jC .or .u64 r1 (W .u64 (shl .u64 r2 32));cond (a0.1) (cond (aG 9223372036854775808 v4) (some ((0:Int),false)) (some ((W .i64 (W .u64 (0-v4))),true))) (cond (aG 9223372036854775807 v4) (some ((0:Int),false)) (some ((W .i64 v4),true)))))
def KT(N:Nat)(a0:aw):Option ((Int)×(Bool)):=
 (sa N a0).bind fun r1=>cond (!r1.2) (some ((0:Int),false)) (cond (ay r1.1 (-9223372036854775808)) (some ((0:Int),false)) (some (r1.1,true)))
abbrev bJ.BK:=ah→ah→ah→Int→Int→Int→Int→Bool→aw→Int→Option (ah×(Bool))
abbrev bJ.Ir:=ah→ah→ah→Int→Int→Int→Int→Bool→Option (ah×(Bool))
abbrev bJ.dj:=ah→ah→ah→Int→Int→Int→Option (ah×(Bool))
abbrev bJ.aW:=ah→ah→ah→Int→Int→Option (ah×(Bool))
def bJ.EY(N:Nat)(bz:bJ.aW)(da:bJ.dj)(D7:bJ.BK)(x0:ah)(x1:ah)(x6:ah)(x7:Int)(x8:Int)(x9:Int)(aQ:Int)(aI:Bool)(aO:aw)(bh:Int):Option (ah×(Bool)):=
 cond (aG bh (List.length x1:Int)) (cond (aH bh (List.length x1)) (cond (ay ((List.getD x1 bh.toNat aL).1) x8) (cond (aH bh (List.length x1)) (cond (ay (((List.getD x1 bh.toNat aL).2).1) x9) (cond (aH bh (List.length x1)) ((fN N ((((List.getD x1 bh.toNat aL).2).2).1)).bind fun r6=>(tF N aO r6).bind fun r7=>D7 x0 x1 x6 x7 x8 x9 aQ true r7 (W .i64 (bh+1))) (none)) (D7 x0 x1 x6 x7 x8 x9 aQ aI aO (W .i64 (bh+1)))) (none)) (D7 x0 x1 x6 x7 x8 x9 aQ aI aO (W .i64 (bh+1)))) (none)) (cond (aI) ((fN N aQ).bind fun jQ=>(tF N aO jQ).bind fun jg=>(KT N jg).bind fun jy=>cond (!jy.2) (some ([],false)) (cond (!ay jy.1 0) (cond (small (List.length x6+List.length ([(x8,(x9,(jy.1,())))]))) (da x0 x1 (x6++([(x8,(x9,(jy.1,())))])) x7 x8 (W .i64 (x9+1))) (none)) (da x0 x1 x6 x7 x8 (W .i64 (x9+1))))) (cond (!ay aQ 0) (cond (small (List.length x6+List.length ([(x8,(x9,(aQ,())))]))) (da x0 x1 (x6++([(x8,(x9,(aQ,())))])) x7 x8 (W .i64 (x9+1))) (none)) (da x0 x1 x6 x7 x8 (W .i64 (x9+1)))))
def bJ.F1(N:Nat)(bz:bJ.aW)(da:bJ.dj):Nat→bJ.BK
 |0,_,_,_,_,_,_,_,_,_,_=>none
 |n+1,x0,x1,x6,x7,x8,x9,aQ,aI,aO,bh=>bJ.EY N bz da (bJ.F1 N bz da n) x0 x1 x6 x7 x8 x9 aQ aI aO bh
def bJ.vv(N:Nat)(Sx:bJ.BK)(bz:bJ.aW)(da:bJ.dj)(x0:ah)(x1:ah)(x6:ah)(x7:Int)(x8:Int)(x9:Int)(aQ:Int)(aI:Bool):Option (ah×(Bool)):=
 Sx x0 x1 x6 x7 x8 x9 aQ aI (false,kQ) (0:Int)
def bJ.EN(N:Nat)(bz:bJ.aW)(da:bJ.dj)(x0:ah)(x1:ah)(x6:ah)(x7:Int)(x8:Int)(x9:Int)(aQ:Int)(aI:Bool):Option (ah×(Bool)):=bJ.vv N (bJ.F1 N bz da N) bz da x0 x1 x6 x7 x8 x9 aQ aI
def bJ.mq(N:Nat)(ra:bJ.Ir)(bz:bJ.aW)(da:bJ.dj)(x0:ah)(x1:ah)(x6:ah)(x7:Int)(x8:Int)(x9:Int):Option (ah×(Bool)):=
 cond (aG x9 6) (cond (aG x7 (List.length x0:Int)) (cond (aH x7 (List.length x0)) (cond (ay ((List.getD x0 x7.toNat aL).1) x8) (cond (aH x7 (List.length x0)) (cond (ay (((List.getD x0 x7.toNat aL).2).1) x9) (cond (aH x7 (List.length x0)) (ra x0 x1 x6 (W .i64 (x7+1)) x8 x9 ((((List.getD x0 x7.toNat aL).2).2).1) false) (none)) (ra x0 x1 x6 x7 x8 x9 (0:Int) false)) (none)) (ra x0 x1 x6 x7 x8 x9 (0:Int) false)) (none)) (ra x0 x1 x6 x7 x8 x9 (0:Int) false)) (bz x0 x1 x6 x7 (W .i64 (x8+1)))
def bJ.l7(N:Nat)(bz:bJ.aW):Nat→bJ.dj
 |0,_,_,_,_,_,_=>none
 |n+1,x0,x1,x6,x7,x8,x9=>bJ.mq N (bJ.EN N bz (bJ.l7 N bz n)) bz (bJ.l7 N bz n) x0 x1 x6 x7 x8 x9
def bJ.cA(N:Nat)(ph:bJ.dj)(bz:bJ.aW)(x0:ah)(x1:ah)(x6:ah)(x7:Int)(x8:Int):Option (ah×(Bool)):=
 cond (bW x8 24) (ph x0 x1 x6 x7 x8 (0:Int)) (some (x6,true))
def bJ.l4(N:Nat):Nat→bJ.aW
 |0,_,_,_,_,_=>none
 |n+1,x0,x1,x6,x7,x8=>bJ.cA N (bJ.l7 N (bJ.l4 N n) N) (bJ.l4 N n) x0 x1 x6 x7 x8
def bJ.b(N:Nat)(c3:bJ.aW)(a0:ah)(a1:ah):Option (ah×(Bool)):=
 c3 a0 a1 ([]) (0:Int) (0:Int)
def bJ(N:Nat)(a0:ah)(a1:ah):Option (ah×(Bool)):=bJ.b N (bJ.l4 N N) a0 a1
abbrev ki.cV:=Int→Int→Int→bw→aw→Bool→Int→Option ((Int)×(Bool))
def ki.jP(N:Nat)(cC:ki.cV)(x0:Int)(x1:Int)(x2:Int)(x3:bw)(aQ:aw)(aI:Bool)(aO:Int):Option ((Int)×(Bool)):=
 cond (aG aO (List.length x3:Int)) (cond (aH aO (List.length x3)) (cond (ay ((List.getD x3 aO.toNat ((0:Int),((0:Int),((false,kQ),())))).1) x1) (cond (aH aO (List.length x3)) (cond (ay (((List.getD x3 aO.toNat ((0:Int),((0:Int),((false,kQ),())))).2).1) x2) (cond (aH aO (List.length x3)) ((tF N aQ ((((List.getD x3 aO.toNat ((0:Int),((0:Int),((false,kQ),())))).2).2).1)).bind fun r2=>cC x0 x1 x2 x3 r2 true (W .i64 (aO+1))) (none)) (cC x0 x1 x2 x3 aQ aI (W .i64 (aO+1)))) (none)) (cC x0 x1 x2 x3 aQ aI (W .i64 (aO+1)))) (none)) (cond (!aI) (some (x0,true)) ((fN N x0).bind fun r6=>(tF N aQ r6).bind fun r7=>(sa N r7).bind fun r8=>some (r8.1,r8.2)))
def ki.l3(N:Nat):Nat→ki.cV
 |0,_,_,_,_,_,_,_=>none
 |n+1,x0,x1,x2,x3,aQ,aI,aO=>ki.jP N (ki.l3 N n) x0 x1 x2 x3 aQ aI aO
def ki.b(N:Nat)(ld:ki.cV)(a0:Int)(a1:Int)(a2:Int)(a3:bw):Option ((Int)×(Bool)):=
 ld a0 a1 a2 a3 (false,kQ) false (0:Int)
def ki(N:Nat)(a0:Int)(a1:Int)(a2:Int)(a3:bw):Option ((Int)×(Bool)):=ki.b N (ki.l3 N N) a0 a1 a2 a3
abbrev cH.Ir:=ah→bw→ah→Int→Int→Int→Int→Option (ah×(Bool))
abbrev cH.dj:=ah→bw→ah→Int→Int→Int→Option (ah×(Bool))
abbrev cH.aW:=ah→bw→ah→Int→Int→Option (ah×(Bool))
def cH.vv(N:Nat)(bz:cH.aW)(da:cH.dj)(x0:ah)(x1:bw)(x6:ah)(x7:Int)(x8:Int)(x9:Int)(aQ:Int):Option (ah×(Bool)):=
 (ki N aQ x8 x9 x1).bind fun r5=>cond (!r5.2) (some ([],false)) (cond (!ay r5.1 0) (cond (small (List.length x6+List.length ([(x8,(x9,(r5.1,())))]))) (da x0 x1 (x6++([(x8,(x9,(r5.1,())))])) x7 x8 (W .i64 (x9+1))) (none)) (da x0 x1 x6 x7 x8 (W .i64 (x9+1))))
def cH.EN(N:Nat)(bz:cH.aW)(da:cH.dj)(x0:ah)(x1:bw)(x6:ah)(x7:Int)(x8:Int)(x9:Int)(aQ:Int):Option (ah×(Bool)):=cH.vv N bz da x0 x1 x6 x7 x8 x9 aQ
def cH.mq(N:Nat)(ra:cH.Ir)(bz:cH.aW)(da:cH.dj)(x0:ah)(x1:bw)(x6:ah)(x7:Int)(x8:Int)(x9:Int):Option (ah×(Bool)):=
 cond (bW x9 24) (cond (aG x7 (List.length x0:Int)) (cond (aH x7 (List.length x0)) (cond (ay ((List.getD x0 x7.toNat aL).1) x8) (cond (aH x7 (List.length x0)) (cond (ay (((List.getD x0 x7.toNat aL).2).1) x9) (cond (aH x7 (List.length x0)) (ra x0 x1 x6 (W .i64 (x7+1)) x8 x9 ((((List.getD x0 x7.toNat aL).2).2).1)) (none)) (ra x0 x1 x6 x7 x8 x9 (0:Int))) (none)) (ra x0 x1 x6 x7 x8 x9 (0:Int))) (none)) (ra x0 x1 x6 x7 x8 x9 (0:Int))) (bz x0 x1 x6 x7 (W .i64 (x8+1)))
def cH.l7(N:Nat)(bz:cH.aW):Nat→cH.dj
 |0,_,_,_,_,_,_=>none
 |n+1,x0,x1,x6,x7,x8,x9=>cH.mq N (cH.EN N bz (cH.l7 N bz n)) bz (cH.l7 N bz n) x0 x1 x6 x7 x8 x9
def cH.cA(N:Nat)(ph:cH.dj)(bz:cH.aW)(x0:ah)(x1:bw)(x6:ah)(x7:Int)(x8:Int):Option (ah×(Bool)):=
 cond (bW x8 7) (ph x0 x1 x6 x7 x8 (0:Int)) (some (x6,true))
def cH.l4(N:Nat):Nat→cH.aW
 |0,_,_,_,_,_=>none
 |n+1,x0,x1,x6,x7,x8=>cH.cA N (cH.l7 N (cH.l4 N n) N) (cH.l4 N n) x0 x1 x6 x7 x8
def cH.b(N:Nat)(c3:cH.aW)(a0:ah)(a1:bw):Option (ah×(Bool)):=
 c3 a0 a1 ([]) (0:Int) (1:Int)
def cH(N:Nat)(a0:ah)(a1:bw):Option (ah×(Bool)):=cH.b N (cH.l4 N N) a0 a1
def wZ(N:Nat)(a0:af)(a1:ah)(a2:bw):Option (af×(Int)):=
 (bJ N a0.2.2.2.1 a1).bind fun r1=>cond (!r1.2) (some ((bK,(cg,(aY,(aY,(cD,(cJ,())))))),(2:Int))) ((cH N a0.2.2.1 a2).bind fun r2=>cond (!r2.2) (some ((bK,(cg,(aY,(aY,(cD,(cJ,())))))),(2:Int))) (some ((a0.1,(a0.2.1,(r2.1,(r1.1,a0.2.2.2.2)))),(0:Int))))
def Pb(N:Nat)(a0:aV)(a1:Int)(a2:Int)(a3:Int)(a4:Int)(a5:Int):Option (aV×ca):=
 (fN N a5).bind fun r1=>(By N a1 a2 a3 a4 r1).bind fun r2=>(wZ N a0.2.2.1 aY r2).bind fun r3=>some ((a0.1,(a0.2.1,(r3.1,a0.2.2.2))),(r3.2,bI))
abbrev lS.a8:=ah→Int→aw→aw→Int→Option aw
def lS.c5(N:Nat)(bc:lS.a8)(x0:ah)(x1:Int)(x4:aw)(x5:aw)(x6:Int):Option aw:=
 cond (aG x6 (List.length x0:Int)) (cond (aH x6 (List.length x0)) (cond (ay (((List.getD x0 x6.toNat aL).2).1) x1) (cond (aH x6 (List.length x0)) ((fN N ((((List.getD x0 x6.toNat aL).2).2).1)).bind fun r3=>(tF N x5 r3).bind fun r4=>bc x0 x1 x4 r4 (W .i64 (x6+1))) (none)) (bc x0 x1 x4 x5 (W .i64 (x6+1)))) (none)) (some x5)
def lS.l5(N:Nat):Nat→lS.a8
 |0,_,_,_,_,_=>none
 |n+1,x0,x1,x4,x5,x6=>lS.c5 N (lS.l5 N n) x0 x1 x4 x5 x6
def lS.b(N:Nat)(dr:lS.a8)(a0:ah)(a1:Int):Option aw:=
 (uP N a0).bind fun r1=>cond (!r1) (some (false,kQ)) (dr a0 a1 (false,kQ) (false,kQ) (0:Int))
def lS(N:Nat)(a0:ah)(a1:Int):Option aw:=lS.b N (lS.l5 N N) a0 a1
def MF(N:Nat)(a0:aw):Option (Int):=
 cond (ay (List.length a0.2.1:Int) 0) (some (0:Int)) (cond (a0.1) (some (-1:Int)) (some (1:Int)))
abbrev mz.bS:=ah→Int→Option (Bool)
def mz.dx(N:Nat)(cN:mz.bS)(x0:ah)(x3:Int):Option (Bool):=
 cond (aG x3 6) ((lS N x0 x3).bind fun r2=>(MF N r2).bind fun r3=>cond (!ay r3 0) (some false) (cN x0 (W .i64 (x3+1)))) ((uP N x0).bind fun r5=>some r5)
def mz.l2(N:Nat):Nat→mz.bS
 |0,_,_=>none
 |n+1,x0,x3=>mz.dx N (mz.l2 N n) x0 x3
def mz.b(N:Nat)(eC:mz.bS)(a0:ah):Option (Bool):=
 eC a0 (0:Int)
def mz(N:Nat)(a0:ah):Option (Bool):=mz.b N (mz.l2 N N) a0
def yT(N:Nat)(a0:Int):Option (Bool):=
 cond (bW 1 a0) (some (bW a0 1000000000000)) (some false)
def KK(N:Nat)(a0:ck):Option (Bool):=
 cond (bW 1 a0.1) (cond (bW a0.1 1099511627776) (cond (bW 1 a0.2.1) (cond (bW a0.2.1 24) (cond (bW 0 a0.2.2.1) (cond (aG a0.2.2.1 6) (cond (ay a0.2.2.2.1 1) (cond (bW 1 a0.2.2.2.2.1) (cond (bW a0.2.2.2.2.1 1000000000) ((yT N a0.2.2.2.2.2.1).bind fun r1=>some r1) (some false)) (some false)) (cond (ay a0.2.2.2.1 2) (cond (bW 1 a0.2.2.2.2.1) (cond (bW a0.2.2.2.2.1 1000000000) ((yT N a0.2.2.2.2.2.1).bind fun r2=>some r2) (some false)) (some false)) (some false))) (some false)) (some false)) (some false)) (some false)) (some false)) (some false)
abbrev jG.aW:=aT→Int→Option (Bool)
def jG.cA(N:Nat)(bz:jG.aW)(x0:aT)(x3:Int):Option (Bool):=
 cond (aG x3 (List.length x0:Int)) (cond (aH x3 (List.length x0)) ((KK N (List.getD x0 x3.toNat dP)).bind fun r2=>cond (!r2) (some false) (cond (aG 0 x3) (cond (aH x3 (List.length x0)) (let v3:Int:=W .i64 (x3-1);cond (aH v3 (List.length x0)) (cond (bW ((List.getD x0 x3.toNat dP).1) ((List.getD x0 v3.toNat dP).1)) (some false) (bz x0 (W .i64 (x3+1)))) (none)) (none)) (bz x0 (W .i64 (x3+1))))) (none)) (some true)
def jG.l4(N:Nat):Nat→jG.aW
 |0,_,_=>none
 |n+1,x0,x3=>jG.cA N (jG.l4 N n) x0 x3
def jG.b(N:Nat)(c3:jG.aW)(a0:aT):Option (Bool):=
 cond (aG 32 (List.length a0:Int)) (some false) (c3 a0 (0:Int))
def jG(N:Nat)(a0:aT):Option (Bool):=jG.b N (jG.l4 N N) a0
abbrev lQ.a8:=ah→aw→aw→Int→Option aw
def lQ.c5(N:Nat)(bc:lQ.a8)(x0:ah)(x2:aw)(x3:aw)(x4:Int):Option aw:=
 cond (aG x4 (List.length x0:Int)) (cond (aH x4 (List.length x0)) ((fN N ((((List.getD x0 x4.toNat aL).2).2).1)).bind fun r3=>(tF N x3 r3).bind fun r4=>bc x0 x2 r4 (W .i64 (x4+1))) (none)) (some x3)
def lQ.l5(N:Nat):Nat→lQ.a8
 |0,_,_,_,_=>none
 |n+1,x0,x2,x3,x4=>lQ.c5 N (lQ.l5 N n) x0 x2 x3 x4
def lQ.b(N:Nat)(dr:lQ.a8)(a0:ah):Option aw:=
 (wR N a0).bind fun r1=>cond (!r1) (some (false,kQ)) (dr a0 (false,kQ) (false,kQ) (0:Int))
def lQ(N:Nat)(a0:ah):Option aw:=lQ.b N (lQ.l5 N N) a0
def EU(N:Nat)(a0:af)(a1:Int):Option (Bool):=
 (AG N a0.2.1 a1).bind fun r1=>cond (r1.2) (some true) (some (ay a1 0))
def vB(N:Nat)(a0:av)(a1:Int):Option (Int):=
 (kE N a0).bind fun r1=>cond (!r1) (some (0:Int)) ((jH N a0 a1).bind fun r2=>some r2)
abbrev bR.oe:=aa→af→Int→Option (Bool)
abbrev bR.BE:=aa→af→Int→Option (Bool)
abbrev bR.eW:=aa→af→Int→Option (Bool)
abbrev bR.e9:=aa→af→Int→Option (Bool)
def bR.th(N:Nat)(BA:bR.oe)(x2:aa)(x3:af)(x9:Int):Option (Bool):=
 cond (aG x9 (List.length x3.2.2.2.2.2.1:Int)) (cond (aH x9 (List.length x3.2.2.2.2.2.1)) ((EU N x3 (((List.getD x3.2.2.2.2.2.1 x9.toNat dP).2).1)).bind fun Pj=>cond (!Pj) (some false) (cond (aH x9 (List.length x3.2.2.2.2.2.1)) (cond (bW (List.length x2.1:Int) ((((List.getD x3.2.2.2.2.2.1 x9.toNat dP).2).2).1)) (some false) (BA x2 x3 (W .i64 (x9+1)))) (none))) (none)) (some true)
def bR.um(N:Nat):Nat→bR.oe
 |0,_,_,_=>none
 |n+1,x2,x3,x9=>bR.th N (bR.um N n) x2 x3 x9
def bR.Hb(N:Nat)(BC:bR.oe)(Ni:bR.BE)(x2:aa)(x3:af)(x8:Int):Option (Bool):=
 cond (aG x8 (List.length x3.2.2.2.2.1:Int)) (cond (aH x8 (List.length x3.2.2.2.2.1)) ((yT N (List.getD x3.2.2.2.2.1 x8.toNat (0:Int))).bind fun F5=>cond (!F5) (some false) (Ni x2 x3 (W .i64 (x8+1)))) (none)) (BC x2 x3 (0:Int))
def bR.Ha(N:Nat):Nat→bR.BE
 |0,_,_,_=>none
 |n+1,x2,x3,x8=>bR.Hb N (bR.um N N) (bR.Ha N n) x2 x3 x8
def bR.jb(N:Nat)(Sn:bR.BE)(gN:bR.eW)(x2:aa)(x3:af)(x7:Int):Option (Bool):=
 cond (aG x7 (List.length x3.2.2.2.1:Int)) (cond (aH x7 (List.length x3.2.2.2.1)) ((EU N x3 ((List.getD x3.2.2.2.1 x7.toNat aL).1)).bind fun J4=>cond (!J4) (some false) (cond (aH x7 (List.length x3.2.2.2.1)) (cond (bW (List.length x2.1:Int) (((List.getD x3.2.2.2.1 x7.toNat aL).2).1)) (some false) (gN x2 x3 (W .i64 (x7+1)))) (none))) (none)) (Sn x2 x3 (0:Int))
def bR.kd(N:Nat):Nat→bR.eW
 |0,_,_,_=>none
 |n+1,x2,x3,x7=>bR.jb N (bR.Ha N N) (bR.kd N n) x2 x3 x7
def bR.pJ(N:Nat)(pV:bR.eW)(fa:bR.e9)(x2:aa)(x3:af)(x5:Int):Option (Bool):=
 cond (aG x5 (List.length x3.2.2.1:Int)) (cond (aH x5 (List.length x3.2.2.1)) (cond (ay ((List.getD x3.2.2.1 x5.toNat aL).1) (5:Int)) ((EU N x3 (((List.getD x3.2.2.1 x5.toNat aL).2).1)).bind fun r9=>cond (!r9) (some false) (cond (ay ((List.getD x3.2.2.1 x5.toNat aL).1) (6:Int)) ((vB N x3.1 (((List.getD x3.2.2.1 x5.toNat aL).2).1)).bind fun gu=>cond (ay gu 0) (some false) (fa x2 x3 (W .i64 (x5+1)))) (cond (ay ((List.getD x3.2.2.1 x5.toNat aL).1) (7:Int)) ((vB N x3.1 (((List.getD x3.2.2.1 x5.toNat aL).2).1)).bind fun jg=>cond (ay jg 0) (some false) (fa x2 x3 (W .i64 (x5+1)))) (fa x2 x3 (W .i64 (x5+1)))))) (cond (ay ((List.getD x3.2.2.1 x5.toNat aL).1) (6:Int)) ((vB N x3.1 (((List.getD x3.2.2.1 x5.toNat aL).2).1)).bind fun nW=>cond (ay nW 0) (some false) (fa x2 x3 (W .i64 (x5+1)))) (cond (ay ((List.getD x3.2.2.1 x5.toNat aL).1) (7:Int)) ((vB N x3.1 (((List.getD x3.2.2.1 x5.toNat aL).2).1)).bind fun rq=>cond (ay rq 0) (some false) (fa x2 x3 (W .i64 (x5+1)))) (fa x2 x3 (W .i64 (x5+1)))))) (none)) (pV x2 x3 (0:Int))
def bR.l6(N:Nat):Nat→bR.e9
 |0,_,_,_=>none
 |n+1,x2,x3,x5=>bR.pJ N (bR.kd N N) (bR.l6 N n) x2 x3 x5
def bR.b(N:Nat)(qY:bR.e9)(a0:aa)(a1:af):Option (Bool):=
 (iX N a0).bind fun r1=>cond (!r1) (some false) ((kZ N a1.1 a1.2.1).bind fun r2=>cond (!r2) (some false) ((wR N a1.2.2.1).bind fun r3=>cond (!r3) (some false) ((mz N a1.2.2.2.1).bind fun r4=>cond (!r4) (some false) ((jG N a1.2.2.2.2.2.1).bind fun r5=>cond (!r5) (some false) (cond (!ay (List.length a1.2.2.2.2.1:Int) (List.length a0.1:Int)) (some false) ((lQ N a1.2.2.1).bind fun r6=>(MF N r6).bind fun r7=>cond (!ay r7 0) (some false) (qY a0 a1 (0:Int))))))))
def bR(N:Nat)(a0:aa)(a1:af):Option (Bool):=bR.b N (bR.l6 N N) a0 a1
def J1(N:Nat)(a0:aw)(a1:aw):Option aw:=
 (Px N a1).bind fun r1=>(tF N a0 r1).bind fun r2=>some r2
abbrev tK.a8:=ah→Int→av→Int→Option av
def tK.c5(N:Nat)(bc:tK.a8)(x0:ah)(x1:Int)(x5:av)(x6:Int):Option av:=
 cond (aG x6 (List.length x0:Int)) (cond (aH x6 (List.length x0)) (cond (ay ((List.getD x0 x6.toNat aL).1) x1) (cond (aH x6 (List.length x0)) (cond (aH x6 (List.length x0)) (cond (small (List.length x5+List.length ([(((List.getD x0 x6.toNat aL).2).1,((((List.getD x0 x6.toNat aL).2).2).1,()))]))) (bc x0 x1 (x5++([(((List.getD x0 x6.toNat aL).2).1,((((List.getD x0 x6.toNat aL).2).2).1,()))])) (W .i64 (x6+1))) (none)) (none)) (none)) (bc x0 x1 x5 (W .i64 (x6+1)))) (none)) (some x5)
def tK.l5(N:Nat):Nat→tK.a8
 |0,_,_,_,_=>none
 |n+1,x0,x1,x5,x6=>tK.c5 N (tK.l5 N n) x0 x1 x5 x6
def tK.b(N:Nat)(dr:tK.a8)(a0:ah)(a1:Int):Option av:=
 (uP N a0).bind fun r1=>cond (!r1) (some ([])) (dr a0 a1 ([]) (0:Int))
def tK(N:Nat)(a0:ah)(a1:Int):Option av:=tK.b N (tK.l5 N N) a0 a1
abbrev di.dj:=aT→Int→ah→Int→ca→Int→Option ah
abbrev di.cV:=aT→Int→ah→Int→Option ah
def di.mq(N:Nat)(cC:di.cV)(da:di.dj)(x0:aT)(x1:Int)(x5:ah)(x6:Int)(x7:ca)(x8:Int):Option ah:=
 cond (aG x8 (List.length x0:Int)) (cond (aH x8 (List.length x0)) (cond (!ay (((List.getD x0 x8.toNat dP).2).1) x1) (da x0 x1 x5 x6 x7 (W .i64 (x8+1))) (cond (aH x8 (List.length x0)) (cond (!ay ((((List.getD x0 x8.toNat dP).2).2).1) x6) (da x0 x1 x5 x6 x7 (W .i64 (x8+1))) (cond (aH x8 (List.length x0)) (cond (ay (((((List.getD x0 x8.toNat dP).2).2).2).1) (1:Int)) (cond (aH x8 (List.length x0)) (da x0 x1 x5 x6 (x7.1,((W .i64 (x7.2.1+((((((List.getD x0 x8.toNat dP).2).2).2).2).1))),x7.2.2)) (W .i64 (x8+1))) (none)) (cond (aH x8 (List.length x0)) (da x0 x1 x5 x6 (x7.1,(x7.2.1,((W .i64 (x7.2.2.1+((((((List.getD x0 x8.toNat dP).2).2).2).2).1))),x7.2.2.2))) (W .i64 (x8+1))) (none))) (none))) (none))) (none)) (cond (aG 0 x7.2.1) (cond (small (List.length x5+List.length ([x7]))) (cC x0 x1 (x5++([x7])) (W .i64 (x6+1))) (none)) (cond (aG 0 x7.2.2.1) (cond (small (List.length x5+List.length ([x7]))) (cC x0 x1 (x5++([x7])) (W .i64 (x6+1))) (none)) (cC x0 x1 x5 (W .i64 (x6+1)))))
def di.l7(N:Nat)(cC:di.cV):Nat→di.dj
 |0,_,_,_,_,_,_=>none
 |n+1,x0,x1,x5,x6,x7,x8=>di.mq N cC (di.l7 N cC n) x0 x1 x5 x6 x7 x8
def di.jP(N:Nat)(ph:di.dj)(cC:di.cV)(x0:aT)(x1:Int)(x5:ah)(x6:Int):Option ah:=
 cond (aG x6 6) (ph x0 x1 x5 x6 (x6,bI) (0:Int)) (some x5)
def di.l3(N:Nat):Nat→di.cV
 |0,_,_,_,_=>none
 |n+1,x0,x1,x5,x6=>di.jP N (di.l7 N (di.l3 N n) N) (di.l3 N n) x0 x1 x5 x6
def di.b(N:Nat)(ld:di.cV)(a0:aT)(a1:Int):Option ah:=
 ld a0 a1 ([]) (0:Int)
def di(N:Nat)(a0:aT)(a1:Int):Option ah:=di.b N (di.l3 N N) a0 a1
abbrev kf.aW:=av→aa→Int→Option (Bool)
def kf.cA(N:Nat)(bz:kf.aW)(x1:av)(x2:aa)(x5:Int):Option (Bool):=
 cond (aG x5 (List.length x1:Int)) (cond (aH x5 (List.length x1)) (cond (aG ((List.getD x1 x5.toNat bI).1) (0:Int)) (some false) (cond (aH x5 (List.length x1)) (cond (bW (List.length x2.1:Int) ((List.getD x1 x5.toNat bI).1)) (some false) (cond (aH x5 (List.length x1)) (cond (ay (((List.getD x1 x5.toNat bI).2).1) (0:Int)) (some false) (cond (aH x5 (List.length x1)) (cond (ay (((List.getD x1 x5.toNat bI).2).1) (-9223372036854775808:Int)) (some false) (cond (aG 0 x5) (cond (aH x5 (List.length x1)) (let v3:Int:=W .i64 (x5-1);cond (aH v3 (List.length x1)) (cond (bW ((List.getD x1 x5.toNat bI).1) ((List.getD x1 v3.toNat bI).1)) (some false) (bz x1 x2 (W .i64 (x5+1)))) (none)) (none)) (bz x1 x2 (W .i64 (x5+1))))) (none))) (none))) (none))) (none)) (some true)
def kf.l4(N:Nat):Nat→kf.aW
 |0,_,_,_=>none
 |n+1,x1,x2,x5=>kf.cA N (kf.l4 N n) x1 x2 x5
def kf.b(N:Nat)(c3:kf.aW)(a0:aa)(a1:av):Option (Bool):=
 (iX N a0).bind fun r1=>cond (!r1) (some false) (c3 a1 a0 (0:Int))
def kf(N:Nat)(a0:aa)(a1:av):Option (Bool):=kf.b N (kf.l4 N N) a0 a1
abbrev iK.a8:=ah→aa→Int→Int→Option (Bool)
def iK.c5(N:Nat)(bc:iK.a8)(x1:ah)(x2:aa)(x5:Int)(x6:Int):Option (Bool):=
 cond (aG x6 (List.length x1:Int)) (cond (aH x6 (List.length x1)) (cond (aG ((List.getD x1 x6.toNat aL).1) (0:Int)) (some false) (cond (bW (List.length x2.1:Int) ((List.getD x1 x6.toNat aL).1)) (some false) (cond (aG (((List.getD x1 x6.toNat aL).2).1) (0:Int)) (some false) (cond (aG x5 (((List.getD x1 x6.toNat aL).2).1)) (some false) (cond (aG ((((List.getD x1 x6.toNat aL).2).2).1) (0:Int)) (some false) (cond (aG x5 ((((List.getD x1 x6.toNat aL).2).2).1)) (some false) (cond (ay (((List.getD x1 x6.toNat aL).2).1) (0:Int)) (cond (ay ((((List.getD x1 x6.toNat aL).2).2).1) (0:Int)) (some false) (cond (aG 0 x6) (let v3:Int:=W .i64 (x6-1);cond (aH v3 (List.length x1)) (cond (bW ((List.getD x1 x6.toNat aL).1) ((List.getD x1 v3.toNat aL).1)) (some false) (bc x1 x2 x5 (W .i64 (x6+1)))) (none)) (bc x1 x2 x5 (W .i64 (x6+1))))) (cond (aG 0 x6) (let v6:Int:=W .i64 (x6-1);cond (aH v6 (List.length x1)) (cond (bW ((List.getD x1 x6.toNat aL).1) ((List.getD x1 v6.toNat aL).1)) (some false) (bc x1 x2 x5 (W .i64 (x6+1)))) (none)) (bc x1 x2 x5 (W .i64 (x6+1))))))))))) (none)) (some true)
def iK.l5(N:Nat):Nat→iK.a8
 |0,_,_,_,_=>none
 |n+1,x1,x2,x5,x6=>iK.c5 N (iK.l5 N n) x1 x2 x5 x6
def iK.b(N:Nat)(dr:iK.a8)(a0:aa)(a1:ah):Option (Bool):=
 (iX N a0).bind fun r1=>cond (!r1) (some false) (dr a1 a0 (33000000000:Int) (0:Int))
def iK(N:Nat)(a0:aa)(a1:ah):Option (Bool):=iK.b N (iK.l5 N N) a0 a1
def N9(N:Nat)(a0:aw):Option aw:=
 (N8 N false a0.2.1).bind fun r1=>some r1
def C3(N:Nat)(a0:aw)(a1:aw):Option (Int):=
 (J1 N a0 a1).bind fun r1=>(MF N r1).bind fun r2=>some r2
abbrev dI.eW:=ah→Int→aw→aw→aw→aw→Int→Option (aw×(Int))
abbrev dI.dj:=av→ah→Int→aw→aw→aw→aw→Int→Option (aw×(Int))
def dI.jb(N:Nat)(gN:dI.eW)(x2:ah)(x3:Int)(x8:aw)(aQ:aw)(aI:aw)(aO:aw)(bp:Int):Option (aw×(Int)):=
 cond (aG bp (List.length x2:Int)) (cond (aH bp (List.length x2)) (cond (ay ((List.getD x2 bp.toNat aL).1) x3) (cond (aH bp (List.length x2)) ((fN N (((List.getD x2 bp.toNat aL).2).1)).bind fun r8=>cond (aH bp (List.length x2)) ((fN N ((((List.getD x2 bp.toNat aL).2).2).1)).bind fun r9=>gN x2 x3 x8 aQ r8 r9 (W .i64 (bp+1))) (none)) (none)) (gN x2 x3 x8 aQ aI aO (W .i64 (bp+1)))) (none)) ((tF N aQ aI).bind fun jg=>(N9 N jg).bind fun jy=>(J1 N aQ aO).bind fun mH=>(N9 N mH).bind fun nW=>(C3 N nW jy).bind fun qP=>cond (aG 0 qP) (some (nW,(0:Int))) (some (jy,(0:Int))))
def dI.kd(N:Nat):Nat→dI.eW
 |0,_,_,_,_,_,_,_=>none
 |n+1,x2,x3,x8,aQ,aI,aO,bp=>dI.jb N (dI.kd N n) x2 x3 x8 aQ aI aO bp
def dI.mq(N:Nat)(pV:dI.eW)(da:dI.dj)(x1:av)(x2:ah)(x3:Int)(x8:aw)(aQ:aw)(aI:aw)(aO:aw)(bh:Int):Option (aw×(Int)):=
 cond (aG bh (List.length x1:Int)) (cond (aH bh (List.length x1)) (cond (ay ((List.getD x1 bh.toNat bI).1) x3) (cond (aH bh (List.length x1)) ((fN N (((List.getD x1 bh.toNat bI).2).1)).bind fun r4=>da x1 x2 x3 x8 r4 aI aO (W .i64 (bh+1))) (none)) (da x1 x2 x3 x8 aQ aI aO (W .i64 (bh+1)))) (none)) (pV x2 x3 x8 aQ aI aO (0:Int))
def dI.l7(N:Nat):Nat→dI.dj
 |0,_,_,_,_,_,_,_,_=>none
 |n+1,x1,x2,x3,x8,aQ,aI,aO,bh=>dI.mq N (dI.kd N N) (dI.l7 N n) x1 x2 x3 x8 aQ aI aO bh
def dI.b(N:Nat)(ph:dI.dj)(a0:aa)(a1:av)(a2:ah)(a3:Int):Option (aw×(Int)):=
 (kf N a0 a1).bind fun r1=>cond (!r1) (some ((false,kQ),(1:Int))) ((iK N a0 a2).bind fun r2=>cond (!r2) (some ((false,kQ),(1:Int))) (cond (aG a3 0) (some ((false,kQ),(3:Int))) (cond (bW (List.length a0.1:Int) a3) (some ((false,kQ),(3:Int))) (ph a1 a2 a3 (false,kQ) (false,kQ) (false,kQ) (false,kQ) (0:Int)))))
def dI(N:Nat)(a0:aa)(a1:av)(a2:ah)(a3:Int):Option (aw×(Int)):=dI.b N (dI.l7 N N) a0 a1 a2 a3
abbrev fZ.LM:=aw→aw→aw→(List (Int))→Int→Int→Int→Option aw
abbrev fZ.dj:=aw→aw→aw→(List (Int))→Int→Int→Int→Option aw
abbrev fZ.cV:=aw→aw→aw→(List (Int))→Int→Option aw
def fZ.KB(N:Nat)(cC:fZ.cV)(da:fZ.dj)(x2:aw)(x3:aw)(x4:aw)(x5:List (Int))(x6:Int)(x7:Int)(x8:Int):Option aw:=
 let v7:Int:=W .i64 (x6+x8);cond (aH v7 (List.length x5)) (cond (aH x6 (List.length x2.2.1)) ((Ue N x3.2.1 x8).bind fun r8=>let v11:Int:=W .u64 (x7+(W .u64 ((List.getD x5 v7.toNat (0:Int))+(W .u64 ((List.getD x2.2.1 x6.toNat (0:Int))*r8)))));let J5:Int:=W .i64 (x6+x8);cond (aH J5 (List.length x5)) (cond (aG 32 0) (none) (da x2 x3 x4 (List.set x5 J5.toNat (jC .and .u64 v11 4294967295)) x6 (shr .u64 v11 32) (W .i64 (x8+1)))) (none)) (none)) (none)
def fZ.j9(N:Nat)(cC:fZ.cV)(da:fZ.dj)(x2:aw)(x3:aw)(x4:aw)(x5:List (Int))(x6:Int)(x7:Int)(x8:Int):Option aw:=fZ.KB N cC da x2 x3 x4 x5 x6 x7 x8
def fZ.mq(N:Nat)(BI:fZ.LM)(cC:fZ.cV)(da:fZ.dj)(x2:aw)(x3:aw)(x4:aw)(x5:List (Int))(x6:Int)(x7:Int)(x8:Int):Option aw:=
 cond (aG x8 (List.length x3.2.1:Int)) (BI x2 x3 x4 x5 x6 x7 x8) (cond (aG 0 x7) (BI x2 x3 x4 x5 x6 x7 x8) (cC x2 x3 x4 x5 (W .i64 (x6+1))))
def fZ.l7(N:Nat)(cC:fZ.cV):Nat→fZ.dj
 |0,_,_,_,_,_,_,_=>none
 |n+1,x2,x3,x4,x5,x6,x7,x8=>fZ.mq N (fZ.j9 N cC (fZ.l7 N cC n)) cC (fZ.l7 N cC n) x2 x3 x4 x5 x6 x7 x8
def fZ.jP(N:Nat)(ph:fZ.dj)(cC:fZ.cV)(x2:aw)(x3:aw)(x4:aw)(x5:List (Int))(x6:Int):Option aw:=
 cond (aG x6 (List.length x2.2.1:Int)) (ph x2 x3 x4 x5 x6 (0:Int) (0:Int)) ((N8 N (!(jO .bool x2.1 x3.1)) x5).bind fun uH=>some uH)
def fZ.l3(N:Nat):Nat→fZ.cV
 |0,_,_,_,_,_=>none
 |n+1,x2,x3,x4,x5,x6=>fZ.jP N (fZ.l7 N (fZ.l3 N n) N) (fZ.l3 N n) x2 x3 x4 x5 x6
def fZ.b(N:Nat)(ld:fZ.cV)(a0:aw)(a1:aw):Option aw:=
 let v2:Int:=W .i64 ((W .i64 ((List.length a0.2.1:Int)+(List.length a1.2.1:Int)))+1);cond (ga v2 v2) (ld a0 a1 (false,kQ) (List.replicate v2.toNat (0:Int)) (0:Int)) (none)
def fZ(N:Nat)(a0:aw)(a1:aw):Option aw:=fZ.b N (fZ.l3 N N) a0 a1
abbrev jh.a8:=av→ah→aa→aw→aw→Int→Option (aw×(Int))
def jh.c5(N:Nat)(bc:jh.a8)(x1:av)(x2:ah)(x3:aa)(x6:aw)(x8:aw)(x9:Int):Option (aw×(Int)):=
 cond (aG x9 (List.length x3.1:Int)) ((dI N x3 x1 x2 x9).bind fun r4=>cond (aH x9 (List.length x3.1)) ((fN N ((((List.getD x3.1 x9.toNat aK).2).2).1)).bind fun r5=>(fZ N r4.1 r5).bind fun r6=>(tF N x8 r6).bind fun r7=>bc x1 x2 x3 x6 r7 (W .i64 (x9+1))) (none)) (some (x8,(0:Int)))
def jh.l5(N:Nat):Nat→jh.a8
 |0,_,_,_,_,_,_=>none
 |n+1,x1,x2,x3,x6,x8,x9=>jh.c5 N (jh.l5 N n) x1 x2 x3 x6 x8 x9
def jh.b(N:Nat)(dr:jh.a8)(a0:aa)(a1:av)(a2:ah):Option (aw×(Int)):=
 (kf N a0 a1).bind fun r1=>cond (!r1) (some ((false,kQ),(1:Int))) ((iK N a0 a2).bind fun r2=>cond (!r2) (some ((false,kQ),(1:Int))) (dr a1 a2 a0 (false,kQ) (false,kQ) (0:Int)))
def jh(N:Nat)(a0:aa)(a1:av)(a2:ah):Option (aw×(Int)):=jh.b N (jh.l5 N N) a0 a1 a2
def Ln(N:Nat)(a0:aa)(a1:af)(a2:Int)(a3:aT):Option aw:=
 cond (small (List.length cJ+List.length a1.2.2.2.2.2.1)) (let v1:List ((Int)×((Int)×((Int)×((Int)×((Int)×((Int)×(Unit))))))):=cJ++a1.2.2.2.2.2.1;cond (small (List.length v1+List.length a3)) ((tK N a1.2.2.2.1 a2).bind fun r3=>(di N (v1++a3) a2).bind fun r4=>(jh N a0 r3 r4).bind fun r5=>some r5.1) (none)) (none)
def Vl(N:Nat)(a0:aa)(a1:af)(a2:Int)(a3:Int):Option (af×(Int)):=
 (bR N a0 a1).bind fun r1=>cond (!r1) (some ((bK,(cg,(aY,(aY,(cD,(cJ,())))))),(1:Int))) (cond (aG a3 1) (some ((bK,(cg,(aY,(aY,(cD,(cJ,())))))),(1:Int))) ((AG N a1.2.1 a2).bind fun r2=>cond (!r2.2) (some ((bK,(cg,(aY,(aY,(cD,(cJ,())))))),(3:Int))) ((vB N a1.1 r2.1.2.1).bind fun r3=>cond (!ay r3 1) (some ((bK,(cg,(aY,(aY,(cD,(cJ,())))))),(7:Int))) ((qE N a1.2.2.1 (5:Int) a2).bind fun r4=>(fN N r4).bind fun r5=>(fN N a3).bind fun r6=>(J1 N r5 r6).bind fun r7=>(Ln N a0 a1 a2 cJ).bind fun r8=>(C3 N r7 r8).bind fun r9=>cond (aG r9 0) (some ((bK,(cg,(aY,(aY,(cD,(cJ,())))))),(10:Int))) ((fN N a3).bind fun gu=>(By N (5:Int) a2 (1:Int) (0:Int) gu).bind fun jQ=>(wZ N a1 aY jQ).bind fun jg=>some (jg.1,jg.2))))))
def FG(N:Nat)(a0:aV)(a1:Int):Option (Int):=
 (vB N a0.2.2.1.1 a1).bind fun r1=>some r1
abbrev nY.fQ:=Int→Int→aE→Int→Option (aE×(Int))
def nY.zt(N:Nat)(dS:nY.fQ)(x1:Int)(x2:Int)(aQ:aE)(aI:Int):Option (aE×(Int)):=
 cond (aG aI (List.length aQ:Int)) (cond (aH aI (List.length aQ)) (cond (ay ((List.getD aQ aI.toNat aK).1) x1) (cond (aH aI (List.length aQ)) (dS x1 x2 (List.set aQ aI.toNat ((List.getD aQ aI.toNat aK).1,(((List.getD aQ aI.toNat aK).2).1,((((List.getD aQ aI.toNat aK).2).2).1,(x2,((((List.getD aQ aI.toNat aK).2).2).2).2))))) (W .i64 (aI+1))) (none)) (dS x1 x2 aQ (W .i64 (aI+1)))) (none)) (some (aQ,(0:Int)))
def nY.l8(N:Nat):Nat→nY.fQ
 |0,_,_,_,_=>none
 |n+1,x1,x2,aQ,aI=>nY.zt N (nY.l8 N n) x1 x2 aQ aI
def nY.b(N:Nat)(BJ:nY.fQ)(a0:aE)(a1:Int)(a2:Int):Option (aE×(Int)):=
 (iQ N a0).bind fun r1=>cond (!r1) (some ([],(1:Int))) (cond (aG a2 0) (some ([],(1:Int))) (cond (aG 1000000000000 a2) (some ([],(1:Int))) ((kG N a0 a1).bind fun r2=>cond (!r2.2) (some ([],(3:Int))) (cond (small (List.length cg+List.length a0)) (BJ a1 a2 (cg++a0) (0:Int)) (none)))))
def nY(N:Nat)(a0:aE)(a1:Int)(a2:Int):Option (aE×(Int)):=nY.b N (nY.l8 N N) a0 a1 a2
def Lm(N:Nat)(a0:ck)(a1:Int):Option (aw×(Int)):=
 (KK N a0).bind fun r1=>cond (!r1) (some ((false,kQ),(1:Int))) ((yT N a1).bind fun r2=>cond (!r2) (some ((false,kQ),(1:Int))) (let v3:Int:=W .i64 (a0.2.2.2.2.2.1-a1);cond (ay a0.2.2.2.1 2) (let v4:Int:=W .i64 (a1-a0.2.2.2.2.2.1);cond (aG v4 0) (some ((false,kQ),(0:Int))) ((fN N a0.2.2.2.2.1).bind fun r5=>(fN N v4).bind fun r6=>(fZ N r5 r6).bind fun r7=>some (r7,(0:Int)))) (cond (aG v3 0) (some ((false,kQ),(0:Int))) ((fN N a0.2.2.2.2.1).bind fun r8=>(fN N v3).bind fun r9=>(fZ N r8 r9).bind fun gu=>some (gu,(0:Int))))))
def Ic(N:Nat)(a0:aa)(a1:af)(a2:ck):Option (Int):=
 (bR N a0 a1).bind fun r1=>cond (!r1) (some (1:Int)) ((KK N a2).bind fun r2=>cond (!r2) (some (1:Int)) ((AG N a1.2.1 a2.2.1).bind fun r3=>cond (!r3.2) (some (3:Int)) ((vB N a1.1 r3.1.2.1).bind fun r4=>cond (!ay r4 1) (some (7:Int)) (cond (bW (List.length a0.1:Int) a2.2.2.1) (some (3:Int)) (cond (small (List.length cJ+List.length a1.2.2.2.2.2.1)) (let v5:List ((Int)×((Int)×((Int)×((Int)×((Int)×((Int)×(Unit))))))):=cJ++a1.2.2.2.2.2.1;cond (small (List.length v5+List.length ([a2]))) ((tK N a1.2.2.2.1 a2.2.1).bind fun r7=>(di N (v5++([a2])) a2.2.1).bind fun r8=>(dI N a0 r7 r8 a2.2.2.1).bind fun r9=>(fN N r3.1.2.2.2.1).bind fun gu=>(C3 N r9.1 gu).bind fun jQ=>cond (aG 0 jQ) (some (9:Int)) (cond (aH a2.2.2.1 (List.length a1.2.2.2.2.1)) ((Lm N a2 (List.getD a1.2.2.2.2.1 a2.2.2.1.toNat (0:Int))).bind fun jg=>(qE N a1.2.2.1 (5:Int) a2.2.1).bind fun jy=>(fN N jy).bind fun mH=>(J1 N mH jg.1).bind fun nW=>(Ln N a0 a1 a2.2.1 ([a2])).bind fun qP=>(C3 N nW qP).bind fun rq=>cond (aG rq 0) (some (10:Int)) (some (0:Int))) (none))) (none)) (none))))))
def Vi(N:Nat)(a0:ck)(a1:ck):Option (Bool):=
 cond (!ay a0.2.2.2.2.2.1 a1.2.2.2.2.2.1) (some (jO .bool (aG a1.2.2.2.2.2.1 a0.2.2.2.2.2.1) (ay a0.2.2.2.1 1))) (some (aG a0.1 a1.1))
abbrev dt.Iu:=aT→Int→Int→aT→Int→Int→Option aT
abbrev dt.jj:=aT→Int→Int→aT→Int→Int→Option aT
abbrev dt.a8:=aT→Int→Int→aT→Int→Option aT
def dt.Bx(N:Nat)(bc:dt.a8)(x0:aT)(x1:Int)(x2:Int)(x7:aT)(x8:Int)(x9:Int):Option aT:=
 cond (gw 0 x9 (List.length x7:Int) (List.length x7:Int)) (let v9:List ((Int)×((Int)×((Int)×((Int)×((Int)×((Int)×(Unit))))))):=List.drop (0:Int).toNat (List.take x9.toNat x7);cond (small (List.length v9)) (cond (aH x8 (List.length x0)) (cond (small (List.length v9+List.length ([List.getD x0 x8.toNat dP]))) (let v10:List ((Int)×((Int)×((Int)×((Int)×((Int)×((Int)×(Unit))))))):=v9++([List.getD x0 x8.toNat dP]);cond (gw x9 (List.length x7:Int) (List.length x7:Int) (List.length x7:Int)) (let v11:List ((Int)×((Int)×((Int)×((Int)×((Int)×((Int)×(Unit))))))):=List.drop x9.toNat (List.take (List.length x7:Int).toNat x7);cond (small (List.length v10+List.length v11)) (bc x0 x1 x2 (v10++v11) (W .i64 (x8+1))) (none)) (none)) (none)) (none)) (none)) (none)
def dt.J3(N:Nat)(bc:dt.a8)(x0:aT)(x1:Int)(x2:Int)(x7:aT)(x8:Int)(x9:Int):Option aT:=dt.Bx N bc x0 x1 x2 x7 x8 x9
def dt.tG(N:Nat)(yv:dt.Iu)(bc:dt.a8)(mK:dt.jj)(x0:aT)(x1:Int)(x2:Int)(x7:aT)(x8:Int)(x9:Int):Option aT:=
 cond (aG x9 (List.length x7:Int)) (cond (aH x9 (List.length x7)) (cond (aH x8 (List.length x0)) ((Vi N (List.getD x7 x9.toNat dP) (List.getD x0 x8.toNat dP)).bind fun r6=>cond (r6) (mK x0 x1 x2 x7 x8 (W .i64 (x9+1))) (yv x0 x1 x2 x7 x8 x9)) (none)) (none)) (yv x0 x1 x2 x7 x8 x9)
def dt.l9(N:Nat)(bc:dt.a8):Nat→dt.jj
 |0,_,_,_,_,_,_=>none
 |n+1,x0,x1,x2,x7,x8,x9=>dt.tG N (dt.J3 N bc) bc (dt.l9 N bc n) x0 x1 x2 x7 x8 x9
def dt.c5(N:Nat)(uG:dt.jj)(bc:dt.a8)(x0:aT)(x1:Int)(x2:Int)(x7:aT)(x8:Int):Option aT:=
 cond (aG x8 (List.length x0:Int)) (cond (aH x8 (List.length x0)) (cond (!ay ((((List.getD x0 x8.toNat dP).2).2).1) x1) (bc x0 x1 x2 x7 (W .i64 (x8+1))) (cond (aH x8 (List.length x0)) (cond (!ay (((((List.getD x0 x8.toNat dP).2).2).2).1) x2) (bc x0 x1 x2 x7 (W .i64 (x8+1))) (uG x0 x1 x2 x7 x8 (0:Int))) (none))) (none)) (some x7)
def dt.l5(N:Nat):Nat→dt.a8
 |0,_,_,_,_,_=>none
 |n+1,x0,x1,x2,x7,x8=>dt.c5 N (dt.l9 N (dt.l5 N n) N) (dt.l5 N n) x0 x1 x2 x7 x8
def dt.b(N:Nat)(dr:dt.a8)(a0:aT)(a1:Int)(a2:Int):Option aT:=
 (jG N a0).bind fun r1=>cond (!r1) (some ([])) (dr a0 a1 a2 ([]) (0:Int))
def dt(N:Nat)(a0:aT)(a1:Int)(a2:Int):Option aT:=dt.b N (dt.l5 N N) a0 a1 a2
abbrev bX.og:=aT→Int→aX→aT→Int→Option (aT×aX×(Int)×(Int))
abbrev bX.aiv:=aT→Int→aX→Option (aT×aX×(Int)×(Int))
abbrev bX.sC:=ck→aT→Int→aX→aT→Int→Int→Int→Option (aT×aX×(Int)×(Int))
abbrev bX.wh:=ck→aT→Int→aX→aT→Int→Int→gg→Option (aT×aX×(Int)×(Int))
abbrev bX.Sy:=ck→aT→Int→aX→aT→Int→Option (aT×aX×(Int)×(Int))
abbrev bX.dj:=ck→aT→Int→aX→aT→Int→Option (aT×aX×(Int)×(Int))
def bX.Aw(N:Nat)(oh:bX.og)(x8:aT)(x9:Int)(aQ:aX)(c7:aT)(cQ:Int):Option (aT×aX×(Int)×(Int)):=
 cond (aG cQ (List.length x8:Int)) (cond (aH cQ (List.length x8)) (cond (aG 0 ((((((List.getD x8 cQ.toNat dP).2).2).2).2).1)) (cond (aH cQ (List.length x8)) (cond (small (List.length c7+List.length ([List.getD x8 cQ.toNat dP]))) (oh x8 x9 aQ (c7++([List.getD x8 cQ.toNat dP])) (W .i64 (cQ+1))) (none)) (none)) (oh x8 x9 aQ c7 (W .i64 (cQ+1)))) (none)) (some (c7,aQ,x9,(0:Int)))
def bX.zn(N:Nat):Nat→bX.og
 |0,_,_,_,_,_=>none
 |n+1,x8,x9,aQ,c7,cQ=>bX.Aw N (bX.zn N n) x8 x9 aQ c7 cQ
def bX.acp(N:Nat)(Iq:bX.og)(x8:aT)(x9:Int)(aQ:aX):Option (aT×aX×(Int)×(Int)):=
 Iq x8 x9 aQ ([]) (0:Int)
def bX.j22(N:Nat)(x8:aT)(x9:Int)(aQ:aX):Option (aT×aX×(Int)×(Int)):=bX.acp N (bX.zn N N) x8 x9 aQ
def bX.CD(N:Nat)(da:bX.dj)(BL:bX.sC)(x3:ck)(x8:aT)(x9:Int)(aQ:aX)(aI:aT)(aO:Int)(bh:Int)(b8:Int):Option (aT×aX×(Int)×(Int)):=
 cond (aG b8 (List.length x8:Int)) (cond (aH b8 (List.length x8)) (cond (aH aO (List.length aI)) (cond (ay ((List.getD x8 b8.toNat dP).1) ((List.getD aI aO.toNat dP).1)) (cond (aH b8 (List.length x8)) (cond (aH b8 (List.length x8)) (BL x3 (List.set x8 b8.toNat ((List.getD x8 b8.toNat dP).1,(((List.getD x8 b8.toNat dP).2).1,((((List.getD x8 b8.toNat dP).2).2).1,(((((List.getD x8 b8.toNat dP).2).2).2).1,((W .i64 (((((((List.getD x8 b8.toNat dP).2).2).2).2).1)-bh)),(((((List.getD x8 b8.toNat dP).2).2).2).2).2)))))) x9 aQ aI aO bh (W .i64 (b8+1))) (none)) (none)) (BL x3 x8 x9 aQ aI aO bh (W .i64 (b8+1)))) (none)) (none)) (da x3 x8 x9 aQ aI (W .i64 (aO+1)))
def bX.F3(N:Nat)(da:bX.dj):Nat→bX.sC
 |0,_,_,_,_,_,_,_,_=>none
 |n+1,x3,x8,x9,aQ,aI,aO,bh,b8=>bX.CD N da (bX.F3 N da n) x3 x8 x9 aQ aI aO bh b8
def bX.pS(N:Nat)(Iv:bX.sC)(da:bX.dj)(x3:ck)(x8:aT)(x9:Int)(aQ:aX)(aI:aT)(aO:Int)(bh:Int)(bp:gg):Option (aT×aX×(Int)×(Int)):=
 cond (small (List.length aQ+List.length ([bp]))) (Iv x3 x8 (W .i64 (x9-bh)) (aQ++([bp])) aI aO bh (0:Int)) (none)
def bX.wA(N:Nat)(da:bX.dj)(x3:ck)(x8:aT)(x9:Int)(aQ:aX)(aI:aT)(aO:Int)(bh:Int)(bp:gg):Option (aT×aX×(Int)×(Int)):=bX.pS N (bX.F3 N da N) da x3 x8 x9 aQ aI aO bh bp
def bX.Lw(N:Nat)(mQ:bX.wh)(da:bX.dj)(x3:ck)(x8:aT)(x9:Int)(aQ:aX)(aI:aT)(aO:Int):Option (aT×aX×(Int)×(Int)):=
 cond (aH aO (List.length aI)) (cond (ay (((List.getD aI aO.toNat dP).2).1) x3.2.1) (da x3 x8 x9 aQ aI (W .i64 (aO+1))) (cond (aH aO (List.length aI)) (let v14:Int:=mn x9 ((((((List.getD aI aO.toNat dP).2).2).2).2).1);cond (aH aO (List.length aI)) (cond (aH aO (List.length aI)) (cond (ay x3.2.2.2.1 2) (cond (aH aO (List.length aI)) (mQ x3 x8 x9 aQ aI aO v14 (((List.getD aI aO.toNat dP).2).1,(x3.2.1,(x3.2.2.1,(v14,(((((((List.getD aI aO.toNat dP).2).2).2).2).2).1,())))))) (none)) (mQ x3 x8 x9 aQ aI aO v14 (x3.2.1,(((List.getD aI aO.toNat dP).2).1,(x3.2.2.1,(v14,(((((((List.getD aI aO.toNat dP).2).2).2).2).2).1,()))))))) (none)) (none)) (none))) (none)
def bX.R8(N:Nat)(da:bX.dj)(x3:ck)(x8:aT)(x9:Int)(aQ:aX)(aI:aT)(aO:Int):Option (aT×aX×(Int)×(Int)):=bX.Lw N (bX.wA N da) da x3 x8 x9 aQ aI aO
def bX.mq(N:Nat)(Iw:bX.aiv)(BM:bX.Sy)(da:bX.dj)(x3:ck)(x8:aT)(x9:Int)(aQ:aX)(aI:aT)(aO:Int):Option (aT×aX×(Int)×(Int)):=
 cond (aG aO (List.length aI:Int)) (cond (aG 0 x9) (cond (ay x3.2.2.2.1 1) (cond (aH aO (List.length aI)) (cond (aG x3.2.2.2.2.2.1 (((((((List.getD aI aO.toNat dP).2).2).2).2).2).1)) (Iw x8 x9 aQ) (cond (ay x3.2.2.2.1 2) (cond (aH aO (List.length aI)) (cond (aG (((((((List.getD aI aO.toNat dP).2).2).2).2).2).1) x3.2.2.2.2.2.1) (Iw x8 x9 aQ) (BM x3 x8 x9 aQ aI aO)) (none)) (BM x3 x8 x9 aQ aI aO))) (none)) (cond (ay x3.2.2.2.1 2) (cond (aH aO (List.length aI)) (cond (aG (((((((List.getD aI aO.toNat dP).2).2).2).2).2).1) x3.2.2.2.2.2.1) (Iw x8 x9 aQ) (BM x3 x8 x9 aQ aI aO)) (none)) (BM x3 x8 x9 aQ aI aO))) (Iw x8 x9 aQ)) (Iw x8 x9 aQ)
def bX.l7(N:Nat):Nat→bX.dj
 |0,_,_,_,_,_,_=>none
 |n+1,x3,x8,x9,aQ,aI,aO=>bX.mq N (bX.j22 N) (bX.R8 N (bX.l7 N n)) (bX.l7 N n) x3 x8 x9 aQ aI aO
def bX.b(N:Nat)(ph:bX.dj)(a0:aT)(a1:ck):Option (aT×aX×(Int)×(Int)):=
 (jG N a0).bind fun r1=>cond (!r1) (some ([],[],(0:Int),(1:Int))) ((KK N a1).bind fun r2=>cond (!r2) (some ([],[],(0:Int),(1:Int))) (cond (small (List.length cJ+List.length a0)) ((dt N a0 a1.2.2.1 (W .i64 ((3:Int)-a1.2.2.2.1))).bind fun r5=>ph a1 (cJ++a0) a1.2.2.2.2.1 ([]) r5 (0:Int)) (none)))
def bX(N:Nat)(a0:aT)(a1:ck):Option (aT×aX×(Int)×(Int)):=bX.b N (bX.l7 N N) a0 a1
def Rk(N:Nat)(a0:gg):Option (Bool):=
 cond (bW 0 a0.1) (cond (bW a0.1 24) (cond (bW 0 a0.2.1) (cond (bW a0.2.1 24) (cond (!ay a0.1 a0.2.1) (cond (bW 0 a0.2.2.1) (cond (aG a0.2.2.1 6) (cond (bW 1 a0.2.2.2.1) (cond (bW a0.2.2.2.1 1000000000) ((yT N a0.2.2.2.2.1).bind fun r1=>some r1) (some false)) (some false)) (some false)) (some false)) (some false)) (some false)) (some false)) (some false)) (some false)
def E3(N:Nat)(a0:Int):Option ((Int)×(Int)):=
 cond (ay a0 0) (some ((2:Int),(0:Int))) (some ((5:Int),a0))
def K3(N:Nat)(a0:gg)(a1:Int):Option (bw×(Int)):=
 (Rk N a0).bind fun r1=>cond (!r1) (some ([],(1:Int))) ((yT N a1).bind fun r2=>cond (!r2) (some ([],(1:Int))) ((fN N (W .i64 (a1-a0.2.2.2.2.1))).bind fun r4=>(fN N a0.2.2.2.1).bind fun r5=>(fZ N r4 r5).bind fun r6=>(MF N r6).bind fun r7=>cond (ay r7 0) (some ([],(0:Int))) ((E3 N a0.1).bind fun r8=>(E3 N a0.2.1).bind fun r9=>(Px N r6).bind fun gu=>some ([(r8.1,(r8.2,(r6,()))),(r9.1,(r9.2,(gu,())))],(0:Int)))))
abbrev ea.sD:=aX→aa→af→af→ah→bw→Int→Option (af×(Int))
abbrev ea.aW:=aX→aa→af→af→Int→Option (af×(Int))
def ea.w1(N:Nat)(wk:ea.sD)(x2:aX)(x3:aa)(x4:af)(x6:af)(x9:ah)(aQ:bw)(aI:Int):Option (af×(Int)):=
 cond (aG aI (List.length x2:Int)) (cond (aH aI (List.length x2)) ((EU N x4 ((List.getD x2 aI.toNat dT).1)).bind fun r6=>cond (!r6) (some ((bK,(cg,(aY,(aY,(cD,(cJ,())))))),(3:Int))) ((EU N x4 (((List.getD x2 aI.toNat dT).2).1)).bind fun r7=>cond (!r7) (some ((bK,(cg,(aY,(aY,(cD,(cJ,())))))),(3:Int))) (cond (bW (List.length x3.1:Int) ((((List.getD x2 aI.toNat dT).2).2).1)) (some ((bK,(cg,(aY,(aY,(cD,(cJ,())))))),(3:Int))) (let v8:Int:=W .i64 (0-(((((List.getD x2 aI.toNat dT).2).2).2).1));cond (small (List.length x9+List.length ([((List.getD x2 aI.toNat dT).1,((((List.getD x2 aI.toNat dT).2).2).1,(((((List.getD x2 aI.toNat dT).2).2).2).1,()))),(((List.getD x2 aI.toNat dT).2).1,((((List.getD x2 aI.toNat dT).2).2).1,(v8,())))]))) (cond (aH ((((List.getD x2 aI.toNat dT).2).2).1) (List.length x4.2.2.2.2.1)) ((K3 N (List.getD x2 aI.toNat dT) (List.getD x4.2.2.2.2.1 ((((List.getD x2 aI.toNat dT).2).2).1).toNat (0:Int))).bind fun gu=>cond (small (List.length aQ+List.length gu.1)) (wk x2 x3 x4 x6 (x9++([((List.getD x2 aI.toNat dT).1,((((List.getD x2 aI.toNat dT).2).2).1,(((((List.getD x2 aI.toNat dT).2).2).2).1,()))),(((List.getD x2 aI.toNat dT).2).1,((((List.getD x2 aI.toNat dT).2).2).1,(v8,())))])) (aQ++gu.1) (W .i64 (aI+1))) (none)) (none)) (none))))) (none)) ((wZ N x4 x9 aQ).bind fun jy=>some (jy.1,jy.2))
def ea.zy(N:Nat):Nat→ea.sD
 |0,_,_,_,_,_,_,_=>none
 |n+1,x2,x3,x4,x6,x9,aQ,aI=>ea.w1 N (ea.zy N n) x2 x3 x4 x6 x9 aQ aI
def ea.cA(N:Nat)(Ix:ea.sD)(bz:ea.aW)(x2:aX)(x3:aa)(x4:af)(x6:af)(x8:Int):Option (af×(Int)):=
 cond (aG x8 (List.length x2:Int)) (cond (aH x8 (List.length x2)) ((Rk N (List.getD x2 x8.toNat dT)).bind fun r3=>cond (!r3) (some ((bK,(cg,(aY,(aY,(cD,(cJ,())))))),(1:Int))) (bz x2 x3 x4 x6 (W .i64 (x8+1)))) (none)) (Ix x2 x3 x4 x6 ([]) ([]) (0:Int))
def ea.l4(N:Nat):Nat→ea.aW
 |0,_,_,_,_,_=>none
 |n+1,x2,x3,x4,x6,x8=>ea.cA N (ea.zy N N) (ea.l4 N n) x2 x3 x4 x6 x8
def ea.b(N:Nat)(c3:ea.aW)(a0:aa)(a1:af)(a2:aX):Option (af×(Int)):=
 (bR N a0 a1).bind fun r1=>cond (!r1) (some ((bK,(cg,(aY,(aY,(cD,(cJ,())))))),(1:Int))) (cond (aG 200 (List.length a2:Int)) (some ((bK,(cg,(aY,(aY,(cD,(cJ,())))))),(1:Int))) (c3 a2 a0 a1 (bK,(cg,(aY,(aY,(cD,(cJ,())))))) (0:Int)))
def ea(N:Nat)(a0:aa)(a1:af)(a2:aX):Option (af×(Int)):=ea.b N (ea.l4 N N) a0 a1 a2
abbrev jK.Sy:=aa→af→ck→af→aT→aX→Int→Option (af×aX×(Int)×(Int))
abbrev jK.LH:=aa→af→ck→af→Option (af×aX×(Int)×(Int))
def jK.Lw(N:Nat)(x3:aa)(x4:af)(x5:ck)(x6:af)(aO:aT)(bh:aX)(bp:Int):Option (af×aX×(Int)×(Int)):=
 (ea N x3 x4 bh).bind fun r6=>cond (!ay r6.2 0) (some ((bK,(cg,(aY,(aY,(cD,(cJ,())))))),zi,(0:Int),r6.2)) (cond (aG 0 bp) (cond (small (List.length aO+List.length ([(x5.1,(x5.2.1,(x5.2.2.1,(x5.2.2.2.1,(bp,x5.2.2.2.2.2)))))]))) (some ((r6.1.1,(r6.1.2.1,(r6.1.2.2.1,(r6.1.2.2.2.1,(r6.1.2.2.2.2.1,((aO++([(x5.1,(x5.2.1,(x5.2.2.1,(x5.2.2.2.1,(bp,x5.2.2.2.2.2)))))])),r6.1.2.2.2.2.2.2)))))),bh,bp,(0:Int))) (none)) (some ((r6.1.1,(r6.1.2.1,(r6.1.2.2.1,(r6.1.2.2.2.1,(r6.1.2.2.2.2.1,(aO,r6.1.2.2.2.2.2.2)))))),bh,bp,(0:Int))))
def jK.R8(N:Nat)(x3:aa)(x4:af)(x5:ck)(x6:af)(aO:aT)(bh:aX)(bp:Int):Option (af×aX×(Int)×(Int)):=jK.Lw N x3 x4 x5 x6 aO bh bp
def jK.Kz(N:Nat)(BM:jK.Sy)(x3:aa)(x4:af)(x5:ck)(x6:af):Option (af×aX×(Int)×(Int)):=
 (bX N x4.2.2.2.2.2.1 x5).bind fun r4=>cond (aG 0 r4.2.2.1) (cond (ay (List.length r4.1:Int) 32) (some ((bK,(cg,(aY,(aY,(cD,(cJ,())))))),zi,(0:Int),(5:Int))) (BM x3 x4 x5 x6 r4.1 r4.2.1 r4.2.2.1)) (BM x3 x4 x5 x6 r4.1 r4.2.1 r4.2.2.1)
def jK.j7(N:Nat)(x3:aa)(x4:af)(x5:ck)(x6:af):Option (af×aX×(Int)×(Int)):=jK.Kz N (jK.R8 N) x3 x4 x5 x6
def jK.b(N:Nat)(xe:jK.LH)(a0:aa)(a1:af)(a2:ck):Option (af×aX×(Int)×(Int)):=
 (Ic N a0 a1 a2).bind fun r1=>cond (!ay r1 0) (some ((bK,(cg,(aY,(aY,(cD,(cJ,())))))),zi,(0:Int),r1)) (cond (aG 0 (List.length a1.2.2.2.2.2.1:Int)) (let v2:Int:=W .i64 ((List.length a1.2.2.2.2.2.1:Int)-1);cond (aH v2 (List.length a1.2.2.2.2.2.1)) (cond (bW a2.1 ((List.getD a1.2.2.2.2.2.1 v2.toNat dP).1)) (some ((bK,(cg,(aY,(aY,(cD,(cJ,())))))),zi,(0:Int),(1:Int))) (xe a0 a1 a2 (bK,(cg,(aY,(aY,(cD,(cJ,())))))))) (none)) (xe a0 a1 a2 (bK,(cg,(aY,(aY,(cD,(cJ,()))))))))
def jK(N:Nat)(a0:aa)(a1:af)(a2:ck):Option (af×aX×(Int)×(Int)):=jK.b N (jK.j7 N) a0 a1 a2
abbrev n4.a8:=aT→Int→Int→aT→Int→Option (aT×(Int))
def n4.c5(N:Nat)(bc:n4.a8)(x0:aT)(x1:Int)(x2:Int)(x8:aT)(x9:Int):Option (aT×(Int)):=
 cond (aG x9 (List.length x0:Int)) (cond (aH x9 (List.length x0)) (cond (!ay ((List.getD x0 x9.toNat dP).1) x2) (cond (aH x9 (List.length x0)) (cond (small (List.length x8+List.length ([List.getD x0 x9.toNat dP]))) (bc x0 x1 x2 (x8++([List.getD x0 x9.toNat dP])) (W .i64 (x9+1))) (none)) (none)) (cond (aH x9 (List.length x0)) (cond (!ay (((List.getD x0 x9.toNat dP).2).1) x1) (cond (aH x9 (List.length x0)) (cond (small (List.length x8+List.length ([List.getD x0 x9.toNat dP]))) (bc x0 x1 x2 (x8++([List.getD x0 x9.toNat dP])) (W .i64 (x9+1))) (none)) (none)) (bc x0 x1 x2 x8 (W .i64 (x9+1)))) (none))) (none)) (cond (ay (List.length x8:Int) (List.length x0:Int)) (some ([],(3:Int))) (some (x8,(0:Int))))
def n4.l5(N:Nat):Nat→n4.a8
 |0,_,_,_,_,_=>none
 |n+1,x0,x1,x2,x8,x9=>n4.c5 N (n4.l5 N n) x0 x1 x2 x8 x9
def n4.b(N:Nat)(dr:n4.a8)(a0:aT)(a1:Int)(a2:Int):Option (aT×(Int)):=
 (jG N a0).bind fun r1=>cond (!r1) (some ([],(1:Int))) (dr a0 a1 a2 ([]) (0:Int))
def n4(N:Nat)(a0:aT)(a1:Int)(a2:Int):Option (aT×(Int)):=n4.b N (n4.l5 N N) a0 a1 a2
abbrev n5.e9:=ah→Int→bw→aw→Int→Option (bw×(Int))
def n5.pJ(N:Nat)(fa:n5.e9)(x0:ah)(x1:Int)(aQ:bw)(aI:aw)(aO:Int):Option (bw×(Int)):=
 cond (aG aO (List.length x0:Int)) (cond (aH aO (List.length x0)) (cond (!ay (((List.getD x0 aO.toNat aL).2).1) x1) (fa x0 x1 aQ aI (W .i64 (aO+1))) ((MF N aI).bind fun r9=>cond (ay r9 0) (fa x0 x1 aQ aI (W .i64 (aO+1))) (cond (aH aO (List.length x0)) ((E3 N ((List.getD x0 aO.toNat aL).1)).bind fun jQ=>cond (aH aO (List.length x0)) ((fN N ((((List.getD x0 aO.toNat aL).2).2).1)).bind fun jg=>(fZ N jg aI).bind fun jy=>cond (small (List.length aQ+List.length ([(jQ.1,(jQ.2,(jy,())))]))) (fa x0 x1 (aQ++([(jQ.1,(jQ.2,(jy,())))])) aI (W .i64 (aO+1))) (none)) (none)) (none)))) (none)) (some (aQ,(0:Int)))
def n5.l6(N:Nat):Nat→n5.e9
 |0,_,_,_,_,_=>none
 |n+1,x0,x1,aQ,aI,aO=>n5.pJ N (n5.l6 N n) x0 x1 aQ aI aO
def n5.b(N:Nat)(qY:n5.e9)(a0:ah)(a1:Int)(a2:Int)(a3:Int):Option (bw×(Int)):=
 (uP N a0).bind fun r1=>cond (!r1) (some ([],(1:Int))) ((yT N a2).bind fun r2=>cond (!r2) (some ([],(1:Int))) ((yT N a3).bind fun r3=>cond (!r3) (some ([],(1:Int))) ((fN N a3).bind fun r4=>(fN N a2).bind fun r5=>(J1 N r4 r5).bind fun r6=>qY a0 a1 ([]) r6 (0:Int))))
def n5(N:Nat)(a0:ah)(a1:Int)(a2:Int)(a3:Int):Option (bw×(Int)):=n5.b N (n5.l6 N N) a0 a1 a2 a3
def Vk(N:Nat)(a0:aa)(a1:af)(a2:Int)(a3:Int):Option (af×bw×(Int)):=
 (bR N a0 a1).bind fun r1=>cond (!r1) (some ((bK,(cg,(aY,(aY,(cD,(cJ,())))))),([]:List ((Int)×((Int)×(((Bool)×((List (Int))×(Unit)))×(Unit))))),(1:Int))) ((yT N a3).bind fun r2=>cond (!r2) (some ((bK,(cg,(aY,(aY,(cD,(cJ,())))))),([]:List ((Int)×((Int)×(((Bool)×((List (Int))×(Unit)))×(Unit))))),(1:Int))) (cond (aG a2 0) (some ((bK,(cg,(aY,(aY,(cD,(cJ,())))))),([]:List ((Int)×((Int)×(((Bool)×((List (Int))×(Unit)))×(Unit))))),(3:Int))) (cond (bW (List.length a0.1:Int) a2) (some ((bK,(cg,(aY,(aY,(cD,(cJ,())))))),([]:List ((Int)×((Int)×(((Bool)×((List (Int))×(Unit)))×(Unit))))),(3:Int))) (cond (aH a2 (List.length a1.2.2.2.2.1)) ((n5 N a1.2.2.2.1 a2 (List.getD a1.2.2.2.2.1 a2.toNat (0:Int)) a3).bind fun r3=>(wZ N a1 aY r3.1).bind fun r4=>cond (!ay r4.2 0) (some ((bK,(cg,(aY,(aY,(cD,(cJ,())))))),([]:List ((Int)×((Int)×(((Bool)×((List (Int))×(Unit)))×(Unit))))),r4.2)) (cond (small (List.length cD+List.length a1.2.2.2.2.1)) (let v5:List (Int):=cD++a1.2.2.2.2.1;cond (aH a2 (List.length v5)) (some ((r4.1.1,(r4.1.2.1,(r4.1.2.2.1,(r4.1.2.2.2.1,((List.set v5 a2.toNat a3),r4.1.2.2.2.2.2))))),r3.1,(0:Int))) (none)) (none))) (none)))))
abbrev m9.bS:=av→Int→Option (Bool)
def m9.dx(N:Nat)(cN:m9.bS)(x0:av)(x3:Int):Option (Bool):=
 cond (aG x3 (List.length x0:Int)) (cond (aH x3 (List.length x0)) (cond (aG ((List.getD x0 x3.toNat bI).1) (1:Int)) (some false) (cond (aH x3 (List.length x0)) (cond (aG 24 ((List.getD x0 x3.toNat bI).1)) (some false) (cond (aH x3 (List.length x0)) (cond (ay (((List.getD x0 x3.toNat bI).2).1) (0:Int)) (some false) (cond (aG 0 x3) (cond (aH x3 (List.length x0)) (let v2:Int:=W .i64 (x3-1);cond (aH v2 (List.length x0)) (cond (bW ((List.getD x0 x3.toNat bI).1) ((List.getD x0 v2.toNat bI).1)) (some false) (cN x0 (W .i64 (x3+1)))) (none)) (none)) (cN x0 (W .i64 (x3+1))))) (none))) (none))) (none)) (some true)
def m9.l2(N:Nat):Nat→m9.bS
 |0,_,_=>none
 |n+1,x0,x3=>m9.dx N (m9.l2 N n) x0 x3
def m9.b(N:Nat)(eC:m9.bS)(a0:av):Option (Bool):=
 eC a0 (0:Int)
def m9(N:Nat)(a0:av):Option (Bool):=m9.b N (m9.l2 N N) a0
abbrev dk.sE:=av→bw→av→Int→aw→Int→Option (av×(Int))
abbrev dk.jj:=av→bw→av→Int→aw→Int→Option (av×(Int))
abbrev dk.a8:=av→bw→av→Int→Option (av×(Int))
def dk.Cy(N:Nat)(bc:dk.a8)(yw:dk.sE)(x0:av)(x1:bw)(x6:av)(x7:Int)(x8:aw)(aQ:Int):Option (av×(Int)):=
 cond (aG aQ (List.length x1:Int)) (cond (aH aQ (List.length x1)) (cond (ay ((List.getD x1 aQ.toNat ((0:Int),((0:Int),((false,kQ),())))).1) (5:Int)) (cond (aH aQ (List.length x1)) (cond (ay (((List.getD x1 aQ.toNat ((0:Int),((0:Int),((false,kQ),())))).2).1) x7) (cond (aH aQ (List.length x1)) ((tF N x8 ((((List.getD x1 aQ.toNat ((0:Int),((0:Int),((false,kQ),())))).2).2).1)).bind fun r8=>yw x0 x1 x6 x7 r8 (W .i64 (aQ+1))) (none)) (yw x0 x1 x6 x7 x8 (W .i64 (aQ+1)))) (none)) (yw x0 x1 x6 x7 x8 (W .i64 (aQ+1)))) (none)) ((sa N x8).bind fun jg=>cond (!jg.2) (some ([],(2:Int))) (cond (!ay jg.1 0) (cond (small (List.length x6+List.length ([(x7,(jg.1,()))]))) (bc x0 x1 (x6++([(x7,(jg.1,()))])) (W .i64 (x7+1))) (none)) (bc x0 x1 x6 (W .i64 (x7+1)))))
def dk.F2(N:Nat)(bc:dk.a8):Nat→dk.sE
 |0,_,_,_,_,_,_=>none
 |n+1,x0,x1,x6,x7,x8,aQ=>dk.Cy N bc (dk.F2 N bc n) x0 x1 x6 x7 x8 aQ
def dk.tG(N:Nat)(Iy:dk.sE)(bc:dk.a8)(mK:dk.jj)(x0:av)(x1:bw)(x6:av)(x7:Int)(x8:aw)(x9:Int):Option (av×(Int)):=
 cond (aG x9 (List.length x0:Int)) (cond (aH x9 (List.length x0)) (cond (ay ((List.getD x0 x9.toNat bI).1) x7) (cond (aH x9 (List.length x0)) ((fN N (((List.getD x0 x9.toNat bI).2).1)).bind fun r4=>mK x0 x1 x6 x7 r4 (W .i64 (x9+1))) (none)) (mK x0 x1 x6 x7 x8 (W .i64 (x9+1)))) (none)) (Iy x0 x1 x6 x7 x8 (0:Int))
def dk.l9(N:Nat)(bc:dk.a8):Nat→dk.jj
 |0,_,_,_,_,_,_=>none
 |n+1,x0,x1,x6,x7,x8,x9=>dk.tG N (dk.F2 N bc N) bc (dk.l9 N bc n) x0 x1 x6 x7 x8 x9
def dk.c5(N:Nat)(uG:dk.jj)(bc:dk.a8)(x0:av)(x1:bw)(x6:av)(x7:Int):Option (av×(Int)):=
 cond (bW x7 24) (uG x0 x1 x6 x7 (false,kQ) (0:Int)) (some (x6,(0:Int)))
def dk.l5(N:Nat):Nat→dk.a8
 |0,_,_,_,_=>none
 |n+1,x0,x1,x6,x7=>dk.c5 N (dk.l9 N (dk.l5 N n) N) (dk.l5 N n) x0 x1 x6 x7
def dk.b(N:Nat)(dr:dk.a8)(a0:av)(a1:bw):Option (av×(Int)):=
 (m9 N a0).bind fun r1=>cond (!r1) (some ([],(1:Int))) (dr a0 a1 ([]) (1:Int))
def dk(N:Nat)(a0:av)(a1:bw):Option (av×(Int)):=dk.b N (dk.l5 N N) a0 a1
def O9(N:Nat)(a0:aV)(a1:Int):Option ((Int)×(Bool)):=
 (fN N a0.1).bind fun r1=>(fN N a1).bind fun r2=>(tF N r1 r2).bind fun r3=>(sa N r3).bind fun r4=>some (r4.1,r4.2)
def Vg(N:Nat)(a0:Int)(a1:Int):Option ((Int)×(Bool)):=
 cond (ay a0 0) (cond (ay a1 1) (some ((1:Int),true)) (cond (ay a0 1) (cond (ay a1 11) (some ((2:Int),true)) (cond (ay a0 2) (cond (ay a1 12) (some ((1:Int),true)) (cond (ay a0 2) (cond (ay a1 13) (some ((3:Int),true)) (cond (ay a0 3) (cond (ay a1 21) (some ((4:Int),true)) (some ((0:Int),false))) (some ((0:Int),false)))) (cond (ay a0 3) (cond (ay a1 21) (some ((4:Int),true)) (some ((0:Int),false))) (some ((0:Int),false))))) (cond (ay a0 2) (cond (ay a1 13) (some ((3:Int),true)) (cond (ay a0 3) (cond (ay a1 21) (some ((4:Int),true)) (some ((0:Int),false))) (some ((0:Int),false)))) (cond (ay a0 3) (cond (ay a1 21) (some ((4:Int),true)) (some ((0:Int),false))) (some ((0:Int),false)))))) (cond (ay a0 2) (cond (ay a1 12) (some ((1:Int),true)) (cond (ay a0 2) (cond (ay a1 13) (some ((3:Int),true)) (cond (ay a0 3) (cond (ay a1 21) (some ((4:Int),true)) (some ((0:Int),false))) (some ((0:Int),false)))) (cond (ay a0 3) (cond (ay a1 21) (some ((4:Int),true)) (some ((0:Int),false))) (some ((0:Int),false))))) (cond (ay a0 2) (cond (ay a1 13) (some ((3:Int),true)) (cond (ay a0 3) (cond (ay a1 21) (some ((4:Int),true)) (some ((0:Int),false))) (some ((0:Int),false)))) (cond (ay a0 3) (cond (ay a1 21) (some ((4:Int),true)) (some ((0:Int),false))) (some ((0:Int),false))))))) (cond (ay a0 1) (cond (ay a1 11) (some ((2:Int),true)) (cond (ay a0 2) (cond (ay a1 12) (some ((1:Int),true)) (cond (ay a0 2) (cond (ay a1 13) (some ((3:Int),true)) (cond (ay a0 3) (cond (ay a1 21) (some ((4:Int),true)) (some ((0:Int),false))) (some ((0:Int),false)))) (cond (ay a0 3) (cond (ay a1 21) (some ((4:Int),true)) (some ((0:Int),false))) (some ((0:Int),false))))) (cond (ay a0 2) (cond (ay a1 13) (some ((3:Int),true)) (cond (ay a0 3) (cond (ay a1 21) (some ((4:Int),true)) (some ((0:Int),false))) (some ((0:Int),false)))) (cond (ay a0 3) (cond (ay a1 21) (some ((4:Int),true)) (some ((0:Int),false))) (some ((0:Int),false)))))) (cond (ay a0 2) (cond (ay a1 12) (some ((1:Int),true)) (cond (ay a0 2) (cond (ay a1 13) (some ((3:Int),true)) (cond (ay a0 3) (cond (ay a1 21) (some ((4:Int),true)) (some ((0:Int),false))) (some ((0:Int),false)))) (cond (ay a0 3) (cond (ay a1 21) (some ((4:Int),true)) (some ((0:Int),false))) (some ((0:Int),false))))) (cond (ay a0 2) (cond (ay a1 13) (some ((3:Int),true)) (cond (ay a0 3) (cond (ay a1 21) (some ((4:Int),true)) (some ((0:Int),false))) (some ((0:Int),false)))) (cond (ay a0 3) (cond (ay a1 21) (some ((4:Int),true)) (some ((0:Int),false))) (some ((0:Int),false))))))
abbrev mh.sD:=Int→Int→av→Int→Option (av×(Int))
def mh.w1(N:Nat)(wk:mh.sD)(x1:Int)(x9:Int)(aI:av)(aO:Int):Option (av×(Int)):=
 cond (aG aO (List.length aI:Int)) (cond (aH aO (List.length aI)) (cond (ay ((List.getD aI aO.toNat bI).1) x1) (cond (aH aO (List.length aI)) (wk x1 x9 (List.set aI aO.toNat ((List.getD aI aO.toNat bI).1,(x9,((List.getD aI aO.toNat bI).2).2))) (W .i64 (aO+1))) (none)) (wk x1 x9 aI (W .i64 (aO+1)))) (none)) (some (aI,(0:Int)))
def mh.zy(N:Nat):Nat→mh.sD
 |0,_,_,_,_=>none
 |n+1,x1,x9,aI,aO=>mh.w1 N (mh.zy N n) x1 x9 aI aO
def mh.b(N:Nat)(Ix:mh.sD)(a0:av)(a1:Int)(a2:Int):Option (av×(Int)):=
 (kE N a0).bind fun r1=>cond (!r1) (some ([],(1:Int))) ((jH N a0 a1).bind fun r2=>cond (ay r2 0) (some ([],(3:Int))) ((Vg N r2 a2).bind fun r3=>cond (!r3.2) (some ([],(8:Int))) (cond (small (List.length bK+List.length a0)) (Ix a1 r3.1 (bK++a0) (0:Int)) (none))))
def mh(N:Nat)(a0:av)(a1:Int)(a2:Int):Option (av×(Int)):=mh.b N (mh.zy N N) a0 a1 a2
abbrev n0.a8:=aE→Int→(List (Int))→Int→Option (List (Int))
def n0.c5(N:Nat)(bc:n0.a8)(x0:aE)(x1:Int)(x5:List (Int))(x6:Int):Option (List (Int)):=
 cond (aG x6 (List.length x0:Int)) (cond (aH x6 (List.length x0)) (cond (ay (((List.getD x0 x6.toNat aK).2).1) x1) (cond (aH x6 (List.length x0)) (cond (small (List.length x5+List.length ([(List.getD x0 x6.toNat aK).1]))) (bc x0 x1 (x5++([(List.getD x0 x6.toNat aK).1])) (W .i64 (x6+1))) (none)) (none)) (bc x0 x1 x5 (W .i64 (x6+1)))) (none)) (some x5)
def n0.l5(N:Nat):Nat→n0.a8
 |0,_,_,_,_=>none
 |n+1,x0,x1,x5,x6=>n0.c5 N (n0.l5 N n) x0 x1 x5 x6
def n0.b(N:Nat)(dr:n0.a8)(a0:aE)(a1:Int):Option (List (Int)):=
 (iQ N a0).bind fun r1=>cond (!r1) (some ([])) (dr a0 a1 ([]) (0:Int))
def n0(N:Nat)(a0:aE)(a1:Int):Option (List (Int)):=n0.b N (n0.l5 N N) a0 a1
abbrev fh.jj:=aT→(List (Int))→aT→Int→Bool→Int→Option aT
abbrev fh.a8:=aT→(List (Int))→aT→Int→Option aT
def fh.tG(N:Nat)(bc:fh.a8)(mK:fh.jj)(x0:aT)(x1:List (Int))(x5:aT)(x6:Int)(x7:Bool)(x8:Int):Option aT:=
 cond (aG x8 (List.length x1:Int)) (cond (x7) (mK x0 x1 x5 x6 true (W .i64 (x8+1))) (cond (aH x8 (List.length x1)) (cond (aH x6 (List.length x0)) (mK x0 x1 x5 x6 (ay (List.getD x1 x8.toNat (0:Int)) (((List.getD x0 x6.toNat dP).2).1)) (W .i64 (x8+1))) (none)) (none))) (cond (!x7) (cond (aH x6 (List.length x0)) (cond (small (List.length x5+List.length ([List.getD x0 x6.toNat dP]))) (bc x0 x1 (x5++([List.getD x0 x6.toNat dP])) (W .i64 (x6+1))) (none)) (none)) (bc x0 x1 x5 (W .i64 (x6+1))))
def fh.l9(N:Nat)(bc:fh.a8):Nat→fh.jj
 |0,_,_,_,_,_,_=>none
 |n+1,x0,x1,x5,x6,x7,x8=>fh.tG N bc (fh.l9 N bc n) x0 x1 x5 x6 x7 x8
def fh.c5(N:Nat)(uG:fh.jj)(bc:fh.a8)(x0:aT)(x1:List (Int))(x5:aT)(x6:Int):Option aT:=
 cond (aG x6 (List.length x0:Int)) (uG x0 x1 x5 x6 false (0:Int)) (some x5)
def fh.l5(N:Nat):Nat→fh.a8
 |0,_,_,_,_=>none
 |n+1,x0,x1,x5,x6=>fh.c5 N (fh.l9 N (fh.l5 N n) N) (fh.l5 N n) x0 x1 x5 x6
def fh.b(N:Nat)(dr:fh.a8)(a0:aT)(a1:List (Int)):Option aT:=
 (jG N a0).bind fun r1=>cond (!r1) (some ([])) (dr a0 a1 ([]) (0:Int))
def fh(N:Nat)(a0:aT)(a1:List (Int)):Option aT:=fh.b N (fh.l5 N N) a0 a1
def R6(N:Nat)(a0:aa)(a1:af)(a2:Int):Option (af×(Int)):=
 (bR N a0 a1).bind fun r1=>cond (!r1) (some ((bK,(cg,(aY,(aY,(cD,(cJ,())))))),(1:Int))) ((vB N a1.1 a2).bind fun r2=>cond (ay r2 0) (some ((bK,(cg,(aY,(aY,(cD,(cJ,())))))),(3:Int))) ((n0 N a1.2.1 a2).bind fun r3=>(fh N a1.2.2.2.2.2.1 r3).bind fun r4=>some ((a1.1,(a1.2.1,(a1.2.2.1,(a1.2.2.2.1,(a1.2.2.2.2.1,(r4,a1.2.2.2.2.2.2)))))),(0:Int))))
def acD(N:Nat)(a0:br):Option (Bool):=
 cond (bW 1 a0.1) (cond (bW a0.1 1099511627776) (cond (bW 1 a0.2.1) (cond (bW a0.2.1 1099511627776) (cond (bW 1 a0.2.2.1) (cond (bW a0.2.2.1 12) (cond (bW (-1152921504606846976) a0.2.2.2.1) (some (bW a0.2.2.2.1 1152921504606846976)) (some false)) (some false)) (some false)) (some false)) (some false)) (some false)) (some false)
abbrev ec.jj:=aE→Int→Int→Option (Bool)
abbrev ec.Sv:=aE→Int→Option (Bool)
abbrev ec.aW:=aE→Int→Option (Bool)
def ec.tG(N:Nat)(bz:ec.aW)(mK:ec.jj)(x0:aE)(x3:Int)(x4:Int):Option (Bool):=
 cond (aG x4 x3) (cond (aH x4 (List.length x0)) (cond (aH x3 (List.length x0)) (cond (ay ((((List.getD x0 x4.toNat aK).2).2).1) ((((List.getD x0 x3.toNat aK).2).2).1)) (cond (aH x4 (List.length x0)) (cond (aH x3 (List.length x0)) (cond (ay (((List.getD x0 x4.toNat aK).2).1) (((List.getD x0 x3.toNat aK).2).1)) (some false) (mK x0 x3 (W .i64 (x4+1)))) (none)) (none)) (mK x0 x3 (W .i64 (x4+1)))) (none)) (none)) (bz x0 (W .i64 (x3+1)))
def ec.l9(N:Nat)(bz:ec.aW):Nat→ec.jj
 |0,_,_,_=>none
 |n+1,x0,x3,x4=>ec.tG N bz (ec.l9 N bz n) x0 x3 x4
def ec.Te(N:Nat)(uG:ec.jj)(bz:ec.aW)(x0:aE)(x3:Int):Option (Bool):=
 uG x0 x3 (0:Int)
def ec.j8(N:Nat)(bz:ec.aW)(x0:aE)(x3:Int):Option (Bool):=ec.Te N (ec.l9 N bz N) bz x0 x3
def ec.cA(N:Nat)(It:ec.Sv)(bz:ec.aW)(x0:aE)(x3:Int):Option (Bool):=
 cond (aG x3 (List.length x0:Int)) (cond (aH x3 (List.length x0)) ((acD N (List.getD x0 x3.toNat aK)).bind fun r2=>cond (!r2) (some false) (cond (aG 0 x3) (cond (aH x3 (List.length x0)) (let v3:Int:=W .i64 (x3-1);cond (aH v3 (List.length x0)) (cond (bW ((List.getD x0 x3.toNat aK).1) ((List.getD x0 v3.toNat aK).1)) (some false) (It x0 x3)) (none)) (none)) (It x0 x3))) (none)) (some true)
def ec.l4(N:Nat):Nat→ec.aW
 |0,_,_=>none
 |n+1,x0,x3=>ec.cA N (ec.j8 N (ec.l4 N n)) (ec.l4 N n) x0 x3
def ec.b(N:Nat)(c3:ec.aW)(a0:aE):Option (Bool):=
 cond (aG 40 (List.length a0:Int)) (some false) (c3 a0 (0:Int))
def ec(N:Nat)(a0:aE):Option (Bool):=ec.b N (ec.l4 N N) a0
abbrev rr.a8:=aE→Int→aE→Int→Option aE
def rr.c5(N:Nat)(bc:rr.a8)(x0:aE)(x1:Int)(x5:aE)(x6:Int):Option aE:=
 cond (aG x6 (List.length x0:Int)) (cond (aH x6 (List.length x0)) (cond (!ay ((((List.getD x0 x6.toNat aK).2).2).1) x1) (cond (aH x6 (List.length x0)) (cond (small (List.length x5+List.length ([List.getD x0 x6.toNat aK]))) (bc x0 x1 (x5++([List.getD x0 x6.toNat aK])) (W .i64 (x6+1))) (none)) (none)) (bc x0 x1 x5 (W .i64 (x6+1)))) (none)) (some x5)
def rr.l5(N:Nat):Nat→rr.a8
 |0,_,_,_,_=>none
 |n+1,x0,x1,x5,x6=>rr.c5 N (rr.l5 N n) x0 x1 x5 x6
def rr.b(N:Nat)(dr:rr.a8)(a0:aE)(a1:Int):Option aE:=
 (ec N a0).bind fun r1=>cond (!r1) (some ([])) (dr a0 a1 ([]) (0:Int))
def rr(N:Nat)(a0:aE)(a1:Int):Option aE:=rr.b N (rr.l5 N N) a0 a1
def Vt(N:Nat)(a0:aV)(a1:Int):Option (Bool):=
 cond (ay a1 14) (cond (ay a0.2.2.2.1.2.1 1) (some (aG a0.1 a0.2.2.2.1.2.2.1)) (some false)) (cond (ay a1 15) (cond (ay a0.2.2.2.1.2.1 1) (some (bW a0.2.2.2.1.2.2.1 a0.1)) (some false)) (cond (ay a1 19) (cond (ay a0.2.2.2.1.2.1 3) (some (aG a0.1 a0.2.2.2.1.2.2.1)) (some false)) (cond (ay a1 20) (cond (ay a0.2.2.2.1.2.1 3) (some (bW a0.2.2.2.1.2.2.1 a0.1)) (some false)) (some (ay a0.2.2.2.1.2.1 2)))))
def FC(N:Nat)(a0:af)(a1:Int):Option (Int):=
 (vB N a0.1 a1).bind fun r1=>some r1
abbrev mJ.a8:=av→Bool→aa→aw→aw→Int→Option (aw×(Int))
def mJ.c5(N:Nat)(bc:mJ.a8)(x1:av)(x2:Bool)(x3:aa)(x6:aw)(x8:aw)(x9:Int):Option (aw×(Int)):=
 cond (aG x9 (List.length x1:Int)) (cond (aH x9 (List.length x1)) (cond (aH ((List.getD x1 x9.toNat bI).1) (List.length x3.1)) (cond (x2) (cond (aH x9 (List.length x1)) (cond (aH ((List.getD x1 x9.toNat bI).1) (List.length x3.1)) (cond (aH x9 (List.length x1)) ((fN N (((List.getD x1 x9.toNat bI).2).1)).bind fun r3=>(N9 N r3).bind fun r4=>(fN N (((((List.getD x3.1 ((List.getD x1 x9.toNat bI).1).toNat aK).2).2).2).1)).bind fun r5=>(fZ N r4 r5).bind fun r6=>(tF N x8 r6).bind fun r7=>bc x1 x2 x3 x6 r7 (W .i64 (x9+1))) (none)) (none)) (none)) (cond (aH x9 (List.length x1)) ((fN N (((List.getD x1 x9.toNat bI).2).1)).bind fun r9=>(N9 N r9).bind fun gu=>(fN N ((((List.getD x3.1 ((List.getD x1 x9.toNat bI).1).toNat aK).2).2).1)).bind fun jQ=>(fZ N gu jQ).bind fun jg=>(tF N x8 jg).bind fun jy=>bc x1 x2 x3 x6 jy (W .i64 (x9+1))) (none))) (none)) (none)) (some (x8,(0:Int)))
def mJ.l5(N:Nat):Nat→mJ.a8
 |0,_,_,_,_,_,_=>none
 |n+1,x1,x2,x3,x6,x8,x9=>mJ.c5 N (mJ.l5 N n) x1 x2 x3 x6 x8 x9
def mJ.b(N:Nat)(dr:mJ.a8)(a0:aa)(a1:av)(a2:Bool):Option (aw×(Int)):=
 (kf N a0 a1).bind fun r1=>cond (!r1) (some ((false,kQ),(1:Int))) (dr a1 a2 a0 (false,kQ) (false,kQ) (0:Int))
def mJ(N:Nat)(a0:aa)(a1:av)(a2:Bool):Option (aw×(Int)):=mJ.b N (mJ.l5 N N) a0 a1 a2
def acu(N:Nat)(a0:aa)(a1:av):Option (aw×(Int)):=
 (mJ N a0 a1 false).bind fun r1=>some (r1.1,r1.2)
def Lx(N:Nat)(a0:af)(a1:Int):Option (Int):=
 (qE N a0.2.2.1 (5:Int) a1).bind fun r1=>some r1
def Vn(N:Nat)(a0:aa)(a1:af)(a2:Int)(a3:Int)(a4:Int):Option (Int):=
 (bR N a0 a1).bind fun r1=>cond (!r1) (some (1:Int)) ((AG N a1.2.1 a4).bind fun r2=>cond (!r2.2) (some (3:Int)) ((FC N a1 a2).bind fun r3=>cond (ay r3 0) (some (3:Int)) ((FC N a1 a3).bind fun r4=>cond (ay r4 0) (some (3:Int)) (cond (!ay r2.1.2.1 a2) (some (8:Int)) (cond (!ay r2.1.2.2.1 2) (some (8:Int)) ((FC N a1 a3).bind fun r5=>cond (!ay r5 1) (some (7:Int)) ((tK N a1.2.2.2.1 a4).bind fun r6=>(acu N a0 r6).bind fun r7=>(Lx N a1 a4).bind fun r8=>(fN N r8).bind fun r9=>(C3 N r9 r7.1).bind fun gu=>cond (aG gu 0) (some (10:Int)) (some (0:Int)))))))))
abbrev nZ.eh:=Int→Int→aE→Int→Option (aE×(Int))
def nZ.kH(N:Nat)(fB:nZ.eh)(x2:Int)(x3:Int)(bh:aE)(bp:Int):Option (aE×(Int)):=
 cond (aG bp (List.length bh:Int)) (cond (aH bp (List.length bh)) (cond (ay ((List.getD bh bp.toNat aK).1) x2) (cond (aH bp (List.length bh)) (fB x2 x3 (List.set bh bp.toNat ((List.getD bh bp.toNat aK).1,(x3,((List.getD bh bp.toNat aK).2).2))) (W .i64 (bp+1))) (none)) (fB x2 x3 bh (W .i64 (bp+1)))) (none)) (some (bh,(0:Int)))
def nZ.mB(N:Nat):Nat→nZ.eh
 |0,_,_,_,_=>none
 |n+1,x2,x3,bh,bp=>nZ.kH N (nZ.mB N n) x2 x3 bh bp
def nZ.b(N:Nat)(pU:nZ.eh)(a0:av)(a1:aE)(a2:Int)(a3:Int):Option (aE×(Int)):=
 (kZ N a0 a1).bind fun r1=>cond (!r1) (some ([],(1:Int))) ((kG N a1 a2).bind fun r2=>(jH N a0 a3).bind fun r3=>cond (!r2.2) (some ([],(3:Int))) (cond (ay r3 0) (some ([],(3:Int))) (cond (!ay r2.1.2.2.1 2) (some ([],(8:Int))) (cond (!ay r3 1) (some ([],(7:Int))) (cond (small (List.length cg+List.length a1)) (pU a2 a3 (cg++a1) (0:Int)) (none))))))
def nZ(N:Nat)(a0:av)(a1:aE)(a2:Int)(a3:Int):Option (aE×(Int)):=nZ.b N (nZ.mB N N) a0 a1 a2 a3
def Vm(N:Nat)(a0:aa)(a1:af)(a2:Int)(a3:Int)(a4:Int):Option (af×(Int)):=
 (Vn N a0 a1 a2 a3 a4).bind fun r1=>cond (!ay r1 0) (some ((bK,(cg,(aY,(aY,(cD,(cJ,())))))),r1)) ((nZ N a1.1 a1.2.1 a4 a3).bind fun r2=>cond (!ay r2.2 0) (some ((bK,(cg,(aY,(aY,(cD,(cJ,())))))),r2.2)) (some ((a1.1,(r2.1,a1.2.2)),(0:Int))))
def Sd(N:Nat)(a0:aa)(a1:av):Option (aw×(Int)):=
 (mJ N a0 a1 true).bind fun r1=>some (r1.1,r1.2)
def Vs(N:Nat)(a0:aa)(a1:af)(a2:Int):Option ((Int)×(Int)):=
 (bR N a0 a1).bind fun r1=>cond (!r1) (some ((0:Int),(1:Int))) ((AG N a1.2.1 a2).bind fun r2=>cond (!r2.2) (some ((0:Int),(3:Int))) ((tK N a1.2.2.2.1 a2).bind fun r3=>(Sd N a0 r3).bind fun r4=>(Lx N a1 a2).bind fun r5=>cond (bW r5 0) (some ((0:Int),(0:Int))) ((sa N r4.1).bind fun r6=>cond (r6.2) (cond (aG r6.1 r5) (some (r6.1,(0:Int))) (some (r5,(0:Int)))) (some (r5,(0:Int))))))
abbrev nf.a8:=ah→Int→Int→ah→Int→Option ah
def nf.c5(N:Nat)(bc:nf.a8)(x0:ah)(x1:Int)(x2:Int)(x7:ah)(x8:Int):Option ah:=
 cond (aG x8 (List.length x0:Int)) (cond (aH x8 (List.length x0)) (cond (ay ((List.getD x0 x8.toNat aL).1) x1) (cond (aH x8 (List.length x0)) (cond (aH x8 (List.length x0)) (let v3:Int:=W .i64 (0-((((List.getD x0 x8.toNat aL).2).2).1));cond (aH x8 (List.length x0)) (cond (aH x8 (List.length x0)) (cond (small (List.length x7+List.length ([(x1,(((List.getD x0 x8.toNat aL).2).1,(v3,()))),(x2,(((List.getD x0 x8.toNat aL).2).1,((((List.getD x0 x8.toNat aL).2).2).1,())))]))) (bc x0 x1 x2 (x7++([(x1,(((List.getD x0 x8.toNat aL).2).1,(v3,()))),(x2,(((List.getD x0 x8.toNat aL).2).1,((((List.getD x0 x8.toNat aL).2).2).1,())))])) (W .i64 (x8+1))) (none)) (none)) (none)) (none)) (none)) (bc x0 x1 x2 x7 (W .i64 (x8+1)))) (none)) (some x7)
def nf.l5(N:Nat):Nat→nf.a8
 |0,_,_,_,_,_=>none
 |n+1,x0,x1,x2,x7,x8=>nf.c5 N (nf.l5 N n) x0 x1 x2 x7 x8
def nf.b(N:Nat)(dr:nf.a8)(a0:ah)(a1:Int)(a2:Int):Option ah:=
 (uP N a0).bind fun r1=>cond (!r1) (some ([])) (cond (ay a1 a2) (some ([])) (cond (aG a1 0) (some ([])) (cond (aG 24 a1) (some ([])) (cond (aG a2 0) (some ([])) (cond (aG 24 a2) (some ([])) (dr a0 a1 a2 ([]) (0:Int)))))))
def nf(N:Nat)(a0:ah)(a1:Int)(a2:Int):Option ah:=nf.b N (nf.l5 N N) a0 a1 a2
abbrev fY.wh:=Int→aa→af→af→ah→bw→Int→br→Option (af×(Int))
abbrev fY.fQ:=Int→aa→af→af→ah→bw→Int→Option (af×(Int))
def fY.pS(N:Nat)(dS:fY.fQ)(x2:Int)(x3:aa)(x4:af)(x6:af)(x8:ah)(x9:bw)(aQ:Int)(aI:br):Option (af×(Int)):=
 (Lx N x4 aI.1).bind fun gu=>cond (aG gu 0) ((fN N gu).bind fun jQ=>(Px N jQ).bind fun jg=>(By N (2:Int) (0:Int) (5:Int) aI.1 jg).bind fun jy=>cond (small (List.length x9+List.length jy)) ((nf N x4.2.2.2.1 aI.1 (0:Int)).bind fun nW=>cond (small (List.length x8+List.length nW)) (dS x2 x3 x4 x6 (x8++nW) (x9++jy) (W .i64 (aQ+1))) (none)) (none)) ((nf N x4.2.2.2.1 aI.1 (0:Int)).bind fun uH=>cond (small (List.length x8+List.length uH)) (dS x2 x3 x4 x6 (x8++uH) x9 (W .i64 (aQ+1))) (none))
def fY.wA(N:Nat)(dS:fY.fQ)(x2:Int)(x3:aa)(x4:af)(x6:af)(x8:ah)(x9:bw)(aQ:Int)(aI:br):Option (af×(Int)):=fY.pS N dS x2 x3 x4 x6 x8 x9 aQ aI
def fY.zt(N:Nat)(mQ:fY.wh)(dS:fY.fQ)(x2:Int)(x3:aa)(x4:af)(x6:af)(x8:ah)(x9:bw)(aQ:Int):Option (af×(Int)):=
 cond (aG aQ (List.length x4.2.1:Int)) (cond (aH aQ (List.length x4.2.1)) (cond (!ay (((List.getD x4.2.1 aQ.toNat aK).2).1) x2) (dS x2 x3 x4 x6 x8 x9 (W .i64 (aQ+1))) (cond (ay ((((List.getD x4.2.1 aQ.toNat aK).2).2).1) (2:Int)) ((Vs N x3 x4 ((List.getD x4.2.1 aQ.toNat aK).1)).bind fun r5=>(fN N r5.1).bind fun r6=>(By N (5:Int) ((List.getD x4.2.1 aQ.toNat aK).1) (2:Int) (0:Int) r6).bind fun r7=>cond (small (List.length x9+List.length r7)) (mQ x2 x3 x4 x6 x8 (x9++r7) aQ (List.getD x4.2.1 aQ.toNat aK)) (none)) (mQ x2 x3 x4 x6 x8 x9 aQ (List.getD x4.2.1 aQ.toNat aK)))) (none)) ((wZ N x4 x8 x9).bind fun J4=>some (J4.1,J4.2))
def fY.l8(N:Nat):Nat→fY.fQ
 |0,_,_,_,_,_,_,_=>none
 |n+1,x2,x3,x4,x6,x8,x9,aQ=>fY.zt N (fY.wA N (fY.l8 N n)) (fY.l8 N n) x2 x3 x4 x6 x8 x9 aQ
def fY.b(N:Nat)(BJ:fY.fQ)(a0:aa)(a1:af)(a2:Int):Option (af×(Int)):=
 (bR N a0 a1).bind fun r1=>cond (!r1) (some ((bK,(cg,(aY,(aY,(cD,(cJ,())))))),(1:Int))) ((FC N a1 a2).bind fun r2=>cond (ay r2 0) (some ((bK,(cg,(aY,(aY,(cD,(cJ,())))))),(3:Int))) (BJ a2 a0 a1 (bK,(cg,(aY,(aY,(cD,(cJ,())))))) ([]) ([]) (0:Int)))
def fY(N:Nat)(a0:aa)(a1:af)(a2:Int):Option (af×(Int)):=fY.b N (fY.l8 N N) a0 a1 a2
abbrev jJ.a8:=aa→af→ij→Int→Option (ij×(Int))
def jJ.c5(N:Nat)(bc:jJ.a8)(x2:aa)(x3:af)(x6:ij)(x7:Int):Option (ij×(Int)):=
 cond (aG x7 (List.length x2.1:Int)) (cond (aH x7 (List.length x2.1)) (cond (aH ((List.getD x2.1 x7.toNat aK).1) (List.length x6)) ((wz N x3.2.2.2.1 (0:Int) x7).bind fun r4=>(fN N r4).bind fun r5=>cond (aH x7 (List.length x3.2.2.2.2.1)) ((fN N (List.getD x3.2.2.2.2.1 x7.toNat (0:Int))).bind fun r6=>(fZ N r5 r6).bind fun r7=>(tF N (List.getD x6 ((List.getD x2.1 x7.toNat aK).1).toNat (false,kQ)) r7).bind fun r8=>cond (aH ((List.getD x2.1 x7.toNat aK).1) (List.length x6)) (bc x2 x3 (List.set x6 ((List.getD x2.1 x7.toNat aK).1).toNat r8) (W .i64 (x7+1))) (none)) (none)) (none)) (none)) (some (x6,(0:Int)))
def jJ.l5(N:Nat):Nat→jJ.a8
 |0,_,_,_,_=>none
 |n+1,x2,x3,x6,x7=>jJ.c5 N (jJ.l5 N n) x2 x3 x6 x7
def jJ.b(N:Nat)(dr:jJ.a8)(a0:aa)(a1:af):Option (ij×(Int)):=
 (bR N a0 a1).bind fun r1=>cond (!r1) (some ([],(1:Int))) (cond (ga 4 4) (dr a0 a1 (List.replicate (4:Int).toNat (false,kQ)) (0:Int)) (none))
def jJ(N:Nat)(a0:aa)(a1:af):Option (ij×(Int)):=jJ.b N (jJ.l5 N N) a0 a1
abbrev ye.a8:=Int→aa→(List (Int))→Int→Option (List (Int))
def ye.c5(N:Nat)(bc:ye.a8)(x1:Int)(x2:aa)(x5:List (Int))(x6:Int):Option (List (Int)):=
 cond (aG x6 (List.length x2.1:Int)) (cond (aH x6 (List.length x2.1)) (cond (ay ((List.getD x2.1 x6.toNat aK).1) x1) (cond (small (List.length x5+List.length ([x6]))) (bc x1 x2 (x5++([x6])) (W .i64 (x6+1))) (none)) (bc x1 x2 x5 (W .i64 (x6+1)))) (none)) (some x5)
def ye.l5(N:Nat):Nat→ye.a8
 |0,_,_,_,_=>none
 |n+1,x1,x2,x5,x6=>ye.c5 N (ye.l5 N n) x1 x2 x5 x6
def ye.b(N:Nat)(dr:ye.a8)(a0:aa)(a1:Int):Option (List (Int)):=
 (iX N a0).bind fun r1=>cond (!r1) (some ([])) (dr a1 a0 ([]) (0:Int))
def ye(N:Nat)(a0:aa)(a1:Int):Option (List (Int)):=ye.b N (ye.l5 N N) a0 a1
abbrev mu.aW:=(List (Int))→(List (Int))→Int→Int→Option ((List (Int))×(Int))
def mu.cA(N:Nat)(bz:mu.aW)(x0:List (Int))(x4:List (Int))(x5:Int)(x6:Int):Option ((List (Int))×(Int)):=
 cond (bW 0 x6) (cond (aG 32 0) (none) (cond (aH x6 (List.length x0)) (let v5:Int:=jC .or .u64 (W .u64 (shl .u64 x5 32)) (List.getD x0 x6.toNat (0:Int));cond (aG 1 0) (none) (cond (aH x6 (List.length x4)) (bz x0 (List.set x4 x6.toNat (shr .u64 v5 1)) (jC .and .u64 v5 1) (W .i64 (x6-1))) (none))) (none))) ((kV N x4).bind fun gu=>some (gu,x5))
def mu.l4(N:Nat):Nat→mu.aW
 |0,_,_,_,_=>none
 |n+1,x0,x4,x5,x6=>mu.cA N (mu.l4 N n) x0 x4 x5 x6
def mu.b(N:Nat)(c3:mu.aW)(a0:List (Int)):Option ((List (Int))×(Int)):=
 cond (ga (List.length a0:Int) (List.length a0:Int)) (c3 a0 (List.replicate (List.length a0:Int).toNat (0:Int)) (0:Int) (W .i64 ((List.length a0:Int)-1))) (none)
def mu(N:Nat)(a0:List (Int)):Option ((List (Int))×(Int)):=mu.b N (mu.l4 N N) a0
abbrev fg.jj:=aw→aw→aw→aw→(List (Int))→aw→aw→Int→Option (aw×aw)
abbrev fg.cV:=aw→aw→aw→aw→(List (Int))→(List (Int))→Option (aw×aw)
def fg.tG(N:Nat)(mK:fg.jj)(x2:aw)(x3:aw)(x4:aw)(x5:aw)(x6:List (Int))(aQ:aw)(aI:aw)(aO:Int):Option (aw×aw):=
 cond (bW 0 aO) ((tF N aQ aQ).bind fun r6=>(tF N aI aI).bind fun r7=>cond (aH aO (List.length x6)) (cond (ay (List.getD x6 aO.toNat (0:Int)) (1:Int)) ((fN N (1:Int)).bind fun r8=>(tF N r7 r8).bind fun r9=>(C3 N r9 x3).bind fun gu=>cond (bW 0 gu) ((J1 N r9 x3).bind fun jQ=>(fN N (1:Int)).bind fun jg=>(tF N r6 jg).bind fun jy=>mK x2 x3 x4 x5 x6 jy jQ (W .i64 (aO-1))) (mK x2 x3 x4 x5 x6 r6 r9 (W .i64 (aO-1)))) ((C3 N r7 x3).bind fun qP=>cond (bW 0 qP) ((J1 N r7 x3).bind fun rq=>(fN N (1:Int)).bind fun uH=>(tF N r6 uH).bind fun Iz=>mK x2 x3 x4 x5 x6 Iz rq (W .i64 (aO-1))) (mK x2 x3 x4 x5 x6 r6 r7 (W .i64 (aO-1))))) (none)) (cond (!x2.1) (some (aQ,aI)) ((MF N aI).bind fun J7=>cond (ay J7 0) ((Px N aQ).bind fun BB=>some (BB,aI)) ((Px N aQ).bind fun F5=>(fN N (1:Int)).bind fun D5=>(J1 N F5 D5).bind fun yu=>(J1 N x3 aI).bind fun Pj=>some (yu,Pj))))
def fg.l9(N:Nat):Nat→fg.jj
 |0,_,_,_,_,_,_,_,_=>none
 |n+1,x2,x3,x4,x5,x6,aQ,aI,aO=>fg.tG N (fg.l9 N n) x2 x3 x4 x5 x6 aQ aI aO
def fg.jP(N:Nat)(uG:fg.jj)(cC:fg.cV)(x2:aw)(x3:aw)(x4:aw)(x5:aw)(x6:List (Int))(x7:List (Int)):Option (aw×aw):=
 cond (aG 0 (List.length x7:Int)) ((mu N x7).bind fun r2=>cond (small (List.length x6+List.length ([r2.2]))) (cC x2 x3 x4 x5 (x6++([r2.2])) r2.1) (none)) (uG x2 x3 x4 x5 x6 (false,kQ) (false,kQ) (W .i64 ((List.length x6:Int)-1)))
def fg.l3(N:Nat):Nat→fg.cV
 |0,_,_,_,_,_,_=>none
 |n+1,x2,x3,x4,x5,x6,x7=>fg.jP N (fg.l9 N N) (fg.l3 N n) x2 x3 x4 x5 x6 x7
def fg.b(N:Nat)(ld:fg.cV)(a0:aw)(a1:aw):Option (aw×aw):=
 ld a0 a1 (false,kQ) (false,kQ) ([]) a0.2.1
def fg(N:Nat)(a0:aw)(a1:aw):Option (aw×aw):=fg.b N (fg.l3 N N) a0 a1
abbrev mG.wh:=Int→aa→af→ij→aE→Int→(List (Int))→Int→Option (aE×(Int))
abbrev mG.e9:=Int→aa→af→ij→aE→Int→Option (aE×(Int))
def mG.pS(N:Nat)(fa:mG.e9)(x2:Int)(x3:aa)(x4:af)(x8:ij)(aQ:aE)(aI:Int)(aO:List (Int))(c7:Int):Option (aE×(Int)):=
 cond (ay c7 0) (fa x2 x3 x4 x8 aQ (W .i64 (aI+1))) (cond (aH 0 (List.length aO)) (cond (aH aI (List.length x8)) ((MF N (List.getD x8 aI.toNat (false,kQ))).bind fun mH=>cond (aG 0 mH) (cond (small (List.length aQ+List.length ([(x2,(List.getD aO (0:Int).toNat (0:Int),((2:Int),(c7,()))))]))) (fa (W .i64 (x2+1)) x3 x4 x8 (aQ++([(x2,(List.getD aO (0:Int).toNat (0:Int),((2:Int),(c7,()))))])) (W .i64 (aI+1))) (none)) (cond (small (List.length aQ+List.length ([(x2,(List.getD aO (0:Int).toNat (0:Int),((1:Int),(c7,()))))]))) (fa (W .i64 (x2+1)) x3 x4 x8 (aQ++([(x2,(List.getD aO (0:Int).toNat (0:Int),((1:Int),(c7,()))))])) (W .i64 (aI+1))) (none))) (none)) (none))
def mG.wA(N:Nat)(fa:mG.e9)(x2:Int)(x3:aa)(x4:af)(x8:ij)(aQ:aE)(aI:Int)(aO:List (Int))(c7:Int):Option (aE×(Int)):=mG.pS N fa x2 x3 x4 x8 aQ aI aO c7
def mG.pJ(N:Nat)(mQ:mG.wh)(fa:mG.e9)(x2:Int)(x3:aa)(x4:af)(x8:ij)(aQ:aE)(aI:Int):Option (aE×(Int)):=
 cond (aG aI 4) ((ye N x3 aI).bind fun r3=>cond (aH aI (List.length x8)) ((N9 N (List.getD x8 aI.toNat (false,kQ))).bind fun r4=>cond (ay (List.length r3:Int) 0) (fa x2 x3 x4 x8 aQ (W .i64 (aI+1))) ((fN N x3.2.2.2.2.2.2.1).bind fun r6=>(C3 N r4 r6).bind fun r7=>cond (bW r7 0) (fa x2 x3 x4 x8 aQ (W .i64 (aI+1))) (cond (aH 0 (List.length r3)) (cond (aH (List.getD r3 (0:Int).toNat (0:Int)) (List.length x4.2.2.2.2.1)) ((fN N (List.getD x4.2.2.2.2.1 (List.getD r3 (0:Int).toNat (0:Int)).toNat (0:Int))).bind fun r9=>(fg N r4 r9).bind fun gu=>(sa N gu.1).bind fun jQ=>cond (!jQ.2) (mQ x2 x3 x4 x8 aQ aI r3 (1000000000:Int)) (cond (aG 1000000000 jQ.1) (mQ x2 x3 x4 x8 aQ aI r3 (1000000000:Int)) (mQ x2 x3 x4 x8 aQ aI r3 jQ.1))) (none)) (none)))) (none)) (some (aQ,(0:Int)))
def mG.l6(N:Nat):Nat→mG.e9
 |0,_,_,_,_,_,_=>none
 |n+1,x2,x3,x4,x8,aQ,aI=>mG.pJ N (mG.wA N (mG.l6 N n)) (mG.l6 N n) x2 x3 x4 x8 aQ aI
def mG.b(N:Nat)(qY:mG.e9)(a0:aa)(a1:af)(a2:Int):Option (aE×(Int)):=
 (jJ N a0 a1).bind fun r1=>cond (!ay r1.2 0) (some ([],(1:Int))) (cond (aG a2 1) (some ([],(1:Int))) (cond (aG 1099511627772 a2) (some ([],(1:Int))) (qY a2 a0 a1 r1.1 ([]) (0:Int))))
def mG(N:Nat)(a0:aa)(a1:af)(a2:Int):Option (aE×(Int)):=mG.b N (mG.l6 N N) a0 a1 a2
def OW(N:Nat)(a0:br):Option (Bool):=
 cond (bW 1 a0.1) (cond (bW a0.1 1099511627776) (cond (bW 0 a0.2.1) (cond (aG a0.2.1 6) (cond (ay a0.2.2.1 1) (cond (bW 1 a0.2.2.2.1) (some (bW a0.2.2.2.1 1000000000)) (some false)) (cond (ay a0.2.2.1 2) (cond (bW 1 a0.2.2.2.1) (some (bW a0.2.2.2.1 1000000000)) (some false)) (some false))) (some false)) (some false)) (some false)) (some false)
abbrev me.aiw:=Int→aa→af→br→af→br→gg→Option (af×br×(Int))
def me.U2(N:Nat)(x4:Int)(x6:aa)(x7:af)(x8:br)(aO:af)(bh:br)(cQ:gg):Option (af×br×(Int)):=
 (ea N x6 x7 ([cQ])).bind fun r6=>cond (!ay r6.2 0) (some ((bK,(cg,(aY,(aY,(cD,(cJ,())))))),aK,r6.2)) (some (r6.1,(x8.1,(x8.2.1,(x8.2.2.1,((W .i64 (x8.2.2.2.1-x4)),x8.2.2.2.2)))),(0:Int)))
def me.j14(N:Nat)(x4:Int)(x6:aa)(x7:af)(x8:br)(aO:af)(bh:br)(cQ:gg):Option (af×br×(Int)):=me.U2 N x4 x6 x7 x8 aO bh cQ
def me.b(N:Nat)(aav:me.aiw)(a0:aa)(a1:af)(a2:br)(a3:Int)(a4:Int)(a5:Int):Option (af×br×(Int)):=
 (bR N a0 a1).bind fun r1=>cond (!r1) (some ((bK,(cg,(aY,(aY,(cD,(cJ,())))))),aK,(1:Int))) ((OW N a2).bind fun r2=>cond (!r2) (some ((bK,(cg,(aY,(aY,(cD,(cJ,())))))),aK,(1:Int))) (cond (aG a4 1) (some ((bK,(cg,(aY,(aY,(cD,(cJ,())))))),aK,(1:Int))) (cond (aG 1000000000 a4) (some ((bK,(cg,(aY,(aY,(cD,(cJ,())))))),aK,(1:Int))) (cond (aG a5 1) (some ((bK,(cg,(aY,(aY,(cD,(cJ,())))))),aK,(1:Int))) (cond (aG 1000000000000 a5) (some ((bK,(cg,(aY,(aY,(cD,(cJ,())))))),aK,(1:Int))) (cond (aG a2.2.2.2.1 a4) (some ((bK,(cg,(aY,(aY,(cD,(cJ,())))))),aK,(9:Int))) (cond (aG a3 1) (some ((bK,(cg,(aY,(aY,(cD,(cJ,())))))),aK,(1:Int))) (cond (aG 24 a3) (some ((bK,(cg,(aY,(aY,(cD,(cJ,())))))),aK,(1:Int))) ((Ic N a0 a1 (a2.1,(a3,(a2.2.1,((W .i64 ((3:Int)-a2.2.2.1)),(a4,(a5,()))))))).bind fun r4=>cond (!ay r4 0) (some ((bK,(cg,(aY,(aY,(cD,(cJ,())))))),aK,r4)) (cond (ay a2.2.2.1 2) (aav a4 a0 a1 a2 (bK,(cg,(aY,(aY,(cD,(cJ,())))))) aK (a3,((0:Int),(a2.2.1,(a4,(a5,())))))) (aav a4 a0 a1 a2 (bK,(cg,(aY,(aY,(cD,(cJ,())))))) aK ((0:Int),(a3,(a2.2.1,(a4,(a5,()))))))))))))))))
def me(N:Nat)(a0:aa)(a1:af)(a2:br)(a3:Int)(a4:Int)(a5:Int):Option (af×br×(Int)):=me.b N (me.j14 N) a0 a1 a2 a3 a4 a5
abbrev oc.a8:=aa→aV→gM→aV→ca→aE→Bool→Int→Int→Option (aV×ca)
def oc.c5(N:Nat)(bc:oc.a8)(x3:aa)(x4:aV)(x5:gM)(x6:aV)(x7:ca)(x8:aE)(x9:Bool)(aQ:Int)(aI:Int):Option (aV×ca):=
 cond (aG aI (List.length x4.2.2.2.1.2.2.2.2.1:Int)) (cond (aH aI (List.length x4.2.2.2.1.2.2.2.2.1)) (cond (ay ((List.getD x4.2.2.2.1.2.2.2.2.1 aI.toNat aK).1) x5.2.2.2.2.2.1) ((me N x3 x4.2.2.1 (List.getD x4.2.2.2.1.2.2.2.2.1 aI.toNat aK) x5.2.2.1 x5.2.2.2.2.2.2.1 x5.2.2.2.2.2.2.2.1).bind fun r2=>cond (!ay r2.2.2 0) ((eQ N r2.2.2).bind fun r3=>some (x4,r3)) (cond (aG 0 r2.2.1.2.2.2.1) (cond (small (List.length x8+List.length ([r2.2.1]))) (bc x3 (x4.1,(x4.2.1,(r2.1,x4.2.2.2))) x5 x6 x7 (x8++([r2.2.1])) true r2.2.1.2.2.2.1 (W .i64 (aI+1))) (none)) (bc x3 (x4.1,(x4.2.1,(r2.1,x4.2.2.2))) x5 x6 x7 x8 true r2.2.1.2.2.2.1 (W .i64 (aI+1))))) (cond (aG 0 (((((List.getD x4.2.2.2.1.2.2.2.2.1 aI.toNat aK).2).2).2).1)) (cond (small (List.length x8+List.length ([List.getD x4.2.2.2.1.2.2.2.2.1 aI.toNat aK]))) (bc x3 x4 x5 x6 x7 (x8++([List.getD x4.2.2.2.1.2.2.2.2.1 aI.toNat aK])) x9 aQ (W .i64 (aI+1))) (none)) (bc x3 x4 x5 x6 x7 x8 x9 aQ (W .i64 (aI+1))))) (none)) (cond (!x9) ((eQ N (3:Int)).bind fun gu=>some (x4,gu)) (some ((x4.1,(x4.2.1,(x4.2.2.1,((x4.2.2.2.1.1,(x4.2.2.2.1.2.1,(x4.2.2.2.1.2.2.1,(x4.2.2.2.1.2.2.2.1,(x8,x4.2.2.2.1.2.2.2.2.2))))),x4.2.2.2.2)))),((0:Int),((0:Int),(aQ,()))))))
def oc.l5(N:Nat):Nat→oc.a8
 |0,_,_,_,_,_,_,_,_,_=>none
 |n+1,x3,x4,x5,x6,x7,x8,x9,aQ,aI=>oc.c5 N (oc.l5 N n) x3 x4 x5 x6 x7 x8 x9 aQ aI
def oc.b(N:Nat)(dr:oc.a8)(a0:aa)(a1:aV)(a2:gM):Option (aV×ca):=
 dr a0 a1 a2 ((0:Int),((0:Int),((bK,(cg,(aY,(aY,(cD,(cJ,())))))),(((0:Int),((0:Int),((0:Int),((0:Int),(cg,(([]:List ((Int)×((List ((Int)×((Int)×(Unit))))×((Int)×((Int)×((Int)×((Int)×(Unit)))))))),(cg,(cD,(bK,(bK,())))))))))),(((0:Int),((0:Int),(zi,((0:Int),())))),()))))) aL ([]) false (0:Int) (0:Int)
def oc(N:Nat)(a0:aa)(a1:aV)(a2:gM):Option (aV×ca):=oc.b N (oc.l5 N N) a0 a1 a2
abbrev n6.aW:=Int→aw→Int→Option (Int)
def n6.cA(N:Nat)(bz:n6.aW)(x1:Int)(x2:aw)(x5:Int):Option (Int):=
 cond (aG x5 3) ((fN N x5).bind fun r3=>(fN N x1).bind fun r4=>(fZ N r3 r4).bind fun r5=>(C3 N r5 x2).bind fun r6=>cond (aG r6 0) (bz x1 x2 (W .i64 (x5+1))) (some x5)) (some x5)
def n6.l4(N:Nat):Nat→n6.aW
 |0,_,_,_=>none
 |n+1,x1,x2,x5=>n6.cA N (n6.l4 N n) x1 x2 x5
def n6.b(N:Nat)(c3:n6.aW)(a0:aw)(a1:Int):Option (Int):=
 (MF N a0).bind fun r1=>cond (bW r1 0) (some (0:Int)) (cond (aG a1 1) (some (0:Int)) (c3 a1 a0 (1:Int)))
def n6(N:Nat)(a0:aw)(a1:Int):Option (Int):=n6.b N (n6.l4 N N) a0 a1
abbrev mF.aW:=(List (Int))→Int→Option (Bool)
def mF.cA(N:Nat)(bz:mF.aW)(x1:List (Int))(x5:Int):Option (Bool):=
 cond (aG x5 (List.length x1:Int)) (cond (aH x5 (List.length x1)) (cond (aG (List.getD x1 x5.toNat (0:Int)) (0:Int)) (some true) (bz x1 (W .i64 (x5+1)))) (none)) (some false)
def mF.l4(N:Nat):Nat→mF.aW
 |0,_,_=>none
 |n+1,x1,x5=>mF.cA N (mF.l4 N n) x1 x5
def mF.b(N:Nat)(c3:mF.aW)(a0:Int)(a1:List (Int)):Option (Bool):=
 cond (aG a0 0) (some true) (cond (aG 64 (List.length a1:Int)) (some true) (c3 a1 (0:Int)))
def mF(N:Nat)(a0:Int)(a1:List (Int)):Option (Bool):=mF.b N (mF.l4 N N) a0 a1
abbrev mo.cV:=(List (Int))→aw→aw→Int→Option aw
def mo.jP(N:Nat)(cC:mo.cV)(x0:List (Int))(x2:aw)(x3:aw)(x4:Int):Option aw:=
 cond (aG x4 (List.length x0:Int)) (cond (aH x4 (List.length x0)) ((fN N (List.getD x0 x4.toNat (0:Int))).bind fun r2=>(tF N x3 r2).bind fun r3=>cC x0 x2 r3 (W .i64 (x4+1))) (none)) (some x3)
def mo.l3(N:Nat):Nat→mo.cV
 |0,_,_,_,_=>none
 |n+1,x0,x2,x3,x4=>mo.jP N (mo.l3 N n) x0 x2 x3 x4
def mo.b(N:Nat)(ld:mo.cV)(a0:List (Int)):Option aw:=
 ld a0 (false,kQ) (false,kQ) (0:Int)
def mo(N:Nat)(a0:List (Int)):Option aw:=mo.b N (mo.l3 N N) a0
abbrev dF.Sv:=(List (Int))→(List (Int))→Int→Int→Option (List (Int))
abbrev dF.e9:=(List (Int))→(List (Int))→Int→Int→Option (List (Int))
abbrev dF.cV:=(List (Int))→(List (Int))→Int→Option (List (Int))
def dF.Te(N:Nat)(cC:dF.cV)(x0:List (Int))(x3:List (Int))(x4:Int)(x5:Int):Option (List (Int)):=
 cond (gw 0 x5 (List.length x3:Int) (List.length x3:Int)) (let v5:List (Int):=List.drop (0:Int).toNat (List.take x5.toNat x3);cond (small (List.length v5)) (cond (small (List.length v5+List.length ([x4]))) (let v6:List (Int):=v5++([x4]);cond (gw x5 (List.length x3:Int) (List.length x3:Int) (List.length x3:Int)) (let v7:List (Int):=List.drop x5.toNat (List.take (List.length x3:Int).toNat x3);cond (small (List.length v6+List.length v7)) (cC x0 (v6++v7) (W .i64 (x4+1))) (none)) (none)) (none)) (none)) (none)
def dF.j8(N:Nat)(cC:dF.cV)(x0:List (Int))(x3:List (Int))(x4:Int)(x5:Int):Option (List (Int)):=dF.Te N cC x0 x3 x4 x5
def dF.pJ(N:Nat)(It:dF.Sv)(cC:dF.cV)(fa:dF.e9)(x0:List (Int))(x3:List (Int))(x4:Int)(x5:Int):Option (List (Int)):=
 cond (aG x5 (List.length x3:Int)) (cond (aH x5 (List.length x3)) (cond (aH (List.getD x3 x5.toNat (0:Int)) (List.length x0)) (cond (aH x4 (List.length x0)) (cond (bW (List.getD x0 x4.toNat (0:Int)) (List.getD x0 (List.getD x3 x5.toNat (0:Int)).toNat (0:Int))) (fa x0 x3 x4 (W .i64 (x5+1))) (It x0 x3 x4 x5)) (none)) (none)) (none)) (It x0 x3 x4 x5)
def dF.l6(N:Nat)(cC:dF.cV):Nat→dF.e9
 |0,_,_,_,_=>none
 |n+1,x0,x3,x4,x5=>dF.pJ N (dF.j8 N cC) cC (dF.l6 N cC n) x0 x3 x4 x5
def dF.jP(N:Nat)(qY:dF.e9)(cC:dF.cV)(x0:List (Int))(x3:List (Int))(x4:Int):Option (List (Int)):=
 cond (aG x4 (List.length x0:Int)) (qY x0 x3 x4 (0:Int)) (some x3)
def dF.l3(N:Nat):Nat→dF.cV
 |0,_,_,_=>none
 |n+1,x0,x3,x4=>dF.jP N (dF.l6 N (dF.l3 N n) N) (dF.l3 N n) x0 x3 x4
def dF.b(N:Nat)(ld:dF.cV)(a0:List (Int)):Option (List (Int)):=
 ld a0 ([]) (0:Int)
def dF(N:Nat)(a0:List (Int)):Option (List (Int)):=dF.b N (dF.l3 N N) a0
abbrev dM.oe:=(List (Int))→Int→(List (Int))→Int→Option ((List (Int))×(Int))
abbrev dM.sE:=Int→(List (Int))→aw→(List (Int))→(List (Int))→Int→Int→Option ((List (Int))×(Int))
abbrev dM.LJ:=Int→(List (Int))→aw→Option ((List (Int))×(Int))
def dM.th(N:Nat)(BA:dM.oe)(x9:List (Int))(aI:Int)(b8:List (Int))(c7:Int):Option ((List (Int))×(Int)):=
 cond (aG c7 (List.length b8:Int)) (cond (aG 0 aI) (cond (aH c7 (List.length b8)) (cond (aH (List.getD b8 c7.toNat (0:Int)) (List.length x9)) (cond (aH (List.getD b8 c7.toNat (0:Int)) (List.length x9)) (BA (List.set x9 (List.getD b8 c7.toNat (0:Int)).toNat (W .i64 ((List.getD x9 (List.getD b8 c7.toNat (0:Int)).toNat (0:Int))+1))) (W .i64 (aI-1)) b8 (W .i64 (c7+1))) (none)) (none)) (none)) (some (x9,(0:Int)))) (some (x9,(0:Int)))
def dM.um(N:Nat):Nat→dM.oe
 |0,_,_,_,_=>none
 |n+1,x9,aI,b8,c7=>dM.th N (dM.um N n) x9 aI b8 c7
def dM.Cy(N:Nat)(BC:dM.oe)(yw:dM.sE)(x0:Int)(x1:List (Int))(x6:aw)(x9:List (Int))(aQ:List (Int))(aI:Int)(aO:Int):Option ((List (Int))×(Int)):=
 cond (aG aO (List.length x1:Int)) ((fN N x0).bind fun gu=>cond (aH aO (List.length x1)) ((fN N (List.getD x1 aO.toNat (0:Int))).bind fun jQ=>(fZ N gu jQ).bind fun jg=>(fg N jg x6).bind fun jy=>(sa N jy.1).bind fun mH=>cond (aH aO (List.length x9)) (let Vw:List (Int):=List.set x9 aO.toNat mH.1;(sa N jy.2).bind fun qP=>cond (aH aO (List.length aQ)) (cond (aH aO (List.length Vw)) (yw x0 x1 x6 Vw (List.set aQ aO.toNat qP.1) (W .i64 (aI-(List.getD Vw aO.toNat (0:Int)))) (W .i64 (aO+1))) (none)) (none)) (none)) (none)) ((dF N aQ).bind fun D6=>BC x9 aI D6 (0:Int))
def dM.F2(N:Nat):Nat→dM.sE
 |0,_,_,_,_,_,_,_=>none
 |n+1,x0,x1,x6,x9,aQ,aI,aO=>dM.Cy N (dM.um N N) (dM.F2 N n) x0 x1 x6 x9 aQ aI aO
def dM.J0(N:Nat)(Iy:dM.sE)(x0:Int)(x1:List (Int))(x6:aw):Option ((List (Int))×(Int)):=
 (sa N x6).bind fun r5=>cond (!r5.2) (some ([],(2:Int))) (cond (ga (List.length x1:Int) (List.length x1:Int)) (let v6:List (Int):=List.replicate (List.length x1:Int).toNat (0:Int);cond (ga (List.length x1:Int) (List.length x1:Int)) ((MF N x6).bind fun r8=>cond (ay r8 0) (some (v6,(0:Int))) (Iy x0 x1 x6 v6 (List.replicate (List.length x1:Int).toNat (0:Int)) x0 (0:Int))) (none)) (none))
def dM.j6(N:Nat)(x0:Int)(x1:List (Int))(x6:aw):Option ((List (Int))×(Int)):=dM.J0 N (dM.F2 N N) x0 x1 x6
def dM.b(N:Nat)(xg:dM.LJ)(a0:Int)(a1:List (Int)):Option ((List (Int))×(Int)):=
 (mF N a0 a1).bind fun r1=>cond (r1) (some ([],(1:Int))) ((mo N a1).bind fun r2=>(MF N r2).bind fun r3=>cond (ay r3 0) (cond (!ay a0 0) (some ([],(1:Int))) (xg a0 a1 r2)) (xg a0 a1 r2))
def dM(N:Nat)(a0:Int)(a1:List (Int)):Option ((List (Int))×(Int)):=dM.b N (dM.j6 N) a0 a1
abbrev nT.a8:=Int→Int→(List (Int))→Int→Option ((List (Int))×(Int))
def nT.c5(N:Nat)(bc:nT.a8)(x0:Int)(x1:Int)(x6:List (Int))(x7:Int):Option ((List (Int))×(Int)):=
 cond (aG x7 x1) (cond (aH x7 (List.length x6)) (bc x0 x1 (List.set x6 x7.toNat (1:Int)) (W .i64 (x7+1))) (none)) ((dM N x0 x6).bind fun r5=>some (r5.1,r5.2))
def nT.l5(N:Nat):Nat→nT.a8
 |0,_,_,_,_=>none
 |n+1,x0,x1,x6,x7=>nT.c5 N (nT.l5 N n) x0 x1 x6 x7
def nT.b(N:Nat)(dr:nT.a8)(a0:Int)(a1:Int):Option ((List (Int))×(Int)):=
 cond (aG a0 0) (some ([],(1:Int))) (cond (aG a1 1) (some ([],(1:Int))) (cond (aG 64 a1) (some ([],(1:Int))) (cond (ga a1 a1) (dr a0 a1 (List.replicate a1.toNat (0:Int)) (0:Int)) (none))))
def nT(N:Nat)(a0:Int)(a1:Int):Option ((List (Int))×(Int)):=nT.b N (nT.l5 N N) a0 a1
abbrev c6.aix:=Int→aa→av→bb→Int→av→Int→Int→ik→av→Int→(List (Int))→Option (bb×(Int))
abbrev c6.Sz:=Int→aa→av→bb→Int→av→Int→Int→ik→av→Int→Int→Option (bb×(Int))
abbrev c6.og:=Int→aa→av→bb→Int→av→Int→Int→ik→av→Int→Option (bb×(Int))
abbrev c6.pW:=Int→aa→av→bb→Int→av→Int→Int→Option (bb×(Int))
abbrev c6.eh:=Int→aa→av→bb→Int→av→aw→Int→Option (bb×(Int))
abbrev c6.fQ:=Int→aa→av→bb→Int→Option (bb×(Int))
def c6.acv(N:Nat)(dS:c6.fQ)(jB:c6.pW)(oh:c6.og)(x2:Int)(x3:aa)(x8:av)(x9:bb)(aQ:Int)(aI:av)(bp:Int)(b8:Int)(c7:ik)(qZ:av)(cQ:Int)(fA:List (Int)):Option (bb×(Int)):=
 cond (aH b8 (List.length fA)) (cond (!ay (List.getD fA b8.toNat (0:Int)) (0:Int)) (cond (aH cQ (List.length aI)) (cond (aH b8 (List.length fA)) (cond (small (List.length qZ+List.length ([((List.getD aI cQ.toNat bI).1,(List.getD fA b8.toNat (0:Int),()))]))) (oh x2 x3 x8 x9 aQ aI bp b8 (c7.1,(bK,c7.2.2)) (qZ++([((List.getD aI cQ.toNat bI).1,(List.getD fA b8.toNat (0:Int),()))])) (W .i64 (cQ+1))) (none)) (none)) (none)) (oh x2 x3 x8 x9 aQ aI bp b8 c7 qZ (W .i64 (cQ+1)))) (none)
def c6.j32(N:Nat)(dS:c6.fQ)(jB:c6.pW)(oh:c6.og)(x2:Int)(x3:aa)(x8:av)(x9:bb)(aQ:Int)(aI:av)(bp:Int)(b8:Int)(c7:ik)(qZ:av)(cQ:Int)(fA:List (Int)):Option (bb×(Int)):=c6.acv N dS jB oh x2 x3 x8 x9 aQ aI bp b8 c7 qZ cQ fA
def c6.O3(N:Nat)(aaw:c6.aix)(dS:c6.fQ)(jB:c6.pW)(oh:c6.og)(x2:Int)(x3:aa)(x8:av)(x9:bb)(aQ:Int)(aI:av)(bp:Int)(b8:Int)(c7:ik)(qZ:av)(cQ:Int)(fk:Int):Option (bb×(Int)):=
 (nT N fk bp).bind fun qP=>cond (aH cQ (List.length aI)) (cond (aG (((List.getD aI cQ.toNat bI).2).1) (0:Int)) (cond (aH b8 (List.length qP.1)) (cond (aH b8 (List.length qP.1)) (aaw x2 x3 x8 x9 aQ aI bp b8 c7 qZ cQ (List.set qP.1 b8.toNat (W .i64 (0-(List.getD qP.1 b8.toNat (0:Int)))))) (none)) (none)) (aaw x2 x3 x8 x9 aQ aI bp b8 c7 qZ cQ qP.1)) (none)
def c6.Vo(N:Nat)(dS:c6.fQ)(jB:c6.pW)(oh:c6.og)(x2:Int)(x3:aa)(x8:av)(x9:bb)(aQ:Int)(aI:av)(bp:Int)(b8:Int)(c7:ik)(qZ:av)(cQ:Int)(fk:Int):Option (bb×(Int)):=c6.O3 N (c6.j32 N dS jB oh) dS jB oh x2 x3 x8 x9 aQ aI bp b8 c7 qZ cQ fk
def c6.Aw(N:Nat)(IA:c6.Sz)(dS:c6.fQ)(jB:c6.pW)(oh:c6.og)(x2:Int)(x3:aa)(x8:av)(x9:bb)(aQ:Int)(aI:av)(bp:Int)(b8:Int)(c7:ik)(qZ:av)(cQ:Int):Option (bb×(Int)):=
 cond (aG cQ (List.length aI:Int)) (cond (aH cQ (List.length aI)) (cond (aG (((List.getD aI cQ.toNat bI).2).1) (0:Int)) (IA x2 x3 x8 x9 aQ aI bp b8 c7 qZ cQ (W .i64 (0-(((List.getD aI cQ.toNat bI).2).1)))) (IA x2 x3 x8 x9 aQ aI bp b8 c7 qZ cQ (((List.getD aI cQ.toNat bI).2).1))) (none)) (cond (ay (List.length qZ:Int) 0) (jB x2 x3 x8 x9 aQ aI bp (W .i64 (b8+1))) ((Sd N x3 qZ).bind fun F5=>(Px N F5.1).bind fun D5=>(sa N D5).bind fun yu=>cond (!yu.2) (some ([],(2:Int))) (cond (small (List.length x9+List.length ([(c7.1,(qZ,(yu.1,c7.2.2.2)))]))) (jB (W .i64 (x2+1)) x3 x8 (x9++([(c7.1,(qZ,(yu.1,c7.2.2.2)))])) aQ aI bp (W .i64 (b8+1))) (none))))
def c6.zn(N:Nat)(dS:c6.fQ)(jB:c6.pW):Nat→c6.og
 |0,_,_,_,_,_,_,_,_,_,_,_=>none
 |n+1,x2,x3,x8,x9,aQ,aI,bp,b8,c7,qZ,cQ=>c6.Aw N (c6.Vo N dS jB (c6.zn N dS jB n)) dS jB (c6.zn N dS jB n) x2 x3 x8 x9 aQ aI bp b8 c7 qZ cQ
def c6.LA(N:Nat)(Iq:c6.og)(dS:c6.fQ)(jB:c6.pW)(x2:Int)(x3:aa)(x8:av)(x9:bb)(aQ:Int)(aI:av)(bp:Int)(b8:Int):Option (bb×(Int)):=
 cond (aG b8 bp) (Iq x2 x3 x8 x9 aQ aI bp b8 (x2,(bK,((0:Int),((1:Int),bI)))) bK (0:Int)) (dS x2 x3 x8 x9 (W .i64 (aQ+1)))
def c6.FD(N:Nat)(dS:c6.fQ):Nat→c6.pW
 |0,_,_,_,_,_,_,_,_=>none
 |n+1,x2,x3,x8,x9,aQ,aI,bp,b8=>c6.LA N (c6.zn N dS (c6.FD N dS n) N) dS (c6.FD N dS n) x2 x3 x8 x9 aQ aI bp b8
def c6.kH(N:Nat)(SA:c6.pW)(dS:c6.fQ)(fB:c6.eh)(x2:Int)(x3:aa)(x8:av)(x9:bb)(aQ:Int)(aI:av)(aO:aw)(bh:Int):Option (bb×(Int)):=
 cond (aG bh (List.length x8:Int)) (cond (aH bh (List.length x8)) (cond (aH ((List.getD x8 bh.toNat bI).1) (List.length x3.1)) (cond (ay ((List.getD x3.1 ((List.getD x8 bh.toNat bI).1).toNat aK).1) aQ) (cond (aH bh (List.length x8)) (cond (small (List.length aI+List.length ([List.getD x8 bh.toNat bI]))) (cond (aH bh (List.length x8)) ((fN N (((List.getD x8 bh.toNat bI).2).1)).bind fun r6=>(N9 N r6).bind fun r7=>(tF N aO r7).bind fun r8=>fB x2 x3 x8 x9 aQ (aI++([List.getD x8 bh.toNat bI])) r8 (W .i64 (bh+1))) (none)) (none)) (none)) (fB x2 x3 x8 x9 aQ aI aO (W .i64 (bh+1)))) (none)) (none)) ((n6 N aO x3.2.2.2.2.2.1).bind fun jQ=>SA x2 x3 x8 x9 aQ aI jQ (0:Int))
def c6.mB(N:Nat)(dS:c6.fQ):Nat→c6.eh
 |0,_,_,_,_,_,_,_,_=>none
 |n+1,x2,x3,x8,x9,aQ,aI,aO,bh=>c6.kH N (c6.FD N dS N) dS (c6.mB N dS n) x2 x3 x8 x9 aQ aI aO bh
def c6.zt(N:Nat)(pU:c6.eh)(dS:c6.fQ)(x2:Int)(x3:aa)(x8:av)(x9:bb)(aQ:Int):Option (bb×(Int)):=
 cond (aG aQ 4) (pU x2 x3 x8 x9 aQ ([]) (false,kQ) (0:Int)) (some (x9,(0:Int)))
def c6.l8(N:Nat):Nat→c6.fQ
 |0,_,_,_,_,_=>none
 |n+1,x2,x3,x8,x9,aQ=>c6.zt N (c6.mB N (c6.l8 N n) N) (c6.l8 N n) x2 x3 x8 x9 aQ
def c6.b(N:Nat)(BJ:c6.fQ)(a0:aa)(a1:af)(a2:Int):Option (bb×(Int)):=
 (bR N a0 a1).bind fun r1=>cond (!r1) (some ([],(1:Int))) (cond (aG a2 1) (some ([],(1:Int))) (cond (aG 1099511627764 a2) (some ([],(1:Int))) ((tK N a1.2.2.2.1 (0:Int)).bind fun r2=>cond (ay (List.length r2:Int) 0) (some ([],(3:Int))) (BJ a2 a0 r2 ([]) (0:Int)))))
def c6(N:Nat)(a0:aa)(a1:af)(a2:Int):Option (bb×(Int)):=c6.b N (c6.l8 N N) a0 a1 a2
abbrev n7.a8:=af→(List (Int))→Int→Option ((List (Int))×(Int))
def n7.c5(N:Nat)(bc:n7.a8)(x3:af)(x6:List (Int))(x7:Int):Option ((List (Int))×(Int)):=
 cond (aG x7 (List.length x3.1:Int)) (cond (aH x7 (List.length x3.1)) (cond (ay (((List.getD x3.1 x7.toNat bI).2).1) (1:Int)) (cond (aH x7 (List.length x3.1)) ((qE N x3.2.2.1 (6:Int) ((List.getD x3.1 x7.toNat bI).1)).bind fun r3=>cond (aG 0 r3) (cond (aH x7 (List.length x3.1)) (cond (small (List.length x6+List.length ([(List.getD x3.1 x7.toNat bI).1]))) (bc x3 (x6++([(List.getD x3.1 x7.toNat bI).1])) (W .i64 (x7+1))) (none)) (none)) (bc x3 x6 (W .i64 (x7+1)))) (none)) (bc x3 x6 (W .i64 (x7+1)))) (none)) (some (x6,(0:Int)))
def n7.l5(N:Nat):Nat→n7.a8
 |0,_,_,_=>none
 |n+1,x3,x6,x7=>n7.c5 N (n7.l5 N n) x3 x6 x7
def n7.b(N:Nat)(dr:n7.a8)(a0:aa)(a1:af):Option ((List (Int))×(Int)):=
 (bR N a0 a1).bind fun r1=>cond (!r1) (some ([],(1:Int))) (dr a1 ([]) (0:Int))
def n7(N:Nat)(a0:aa)(a1:af):Option ((List (Int))×(Int)):=n7.b N (n7.l5 N N) a0 a1
abbrev fC.LM:=bb→aa→Int→ik→Option (Bool)
abbrev fC.aW:=bb→aa→Int→Option (Bool)
def fC.KB(N:Nat)(bz:fC.aW)(x1:bb)(x2:aa)(x5:Int)(x6:ik):Option (Bool):=
 cond (ay x6.2.2.2.1 1) (cond (!ay x6.2.2.2.2.1 0) (some false) (cond (!ay x6.2.2.2.2.2.1 0) (some false) (bz x1 x2 (W .i64 (x5+1))))) (cond (ay x6.2.2.2.1 3) (cond (!ay x6.2.2.2.2.1 0) (some false) (cond (!ay x6.2.2.2.2.2.1 0) (some false) (bz x1 x2 (W .i64 (x5+1))))) (cond (ay x6.2.2.2.1 2) (cond (aG x6.2.2.2.2.1 1) (some false) (cond (aG 12 x6.2.2.2.2.1) (some false) (cond (aG x6.2.2.2.2.2.1 (-1152921504606846976)) (some false) (cond (aG 1152921504606846976 x6.2.2.2.2.2.1) (some false) (bz x1 x2 (W .i64 (x5+1))))))) (some false)))
def fC.j9(N:Nat)(bz:fC.aW)(x1:bb)(x2:aa)(x5:Int)(x6:ik):Option (Bool):=fC.KB N bz x1 x2 x5 x6
def fC.cA(N:Nat)(BI:fC.LM)(bz:fC.aW)(x1:bb)(x2:aa)(x5:Int):Option (Bool):=
 cond (aG x5 (List.length x1:Int)) (cond (aH x5 (List.length x1)) (cond (aG ((List.getD x1 x5.toNat ((0:Int),(bK,aK))).1) (1:Int)) (some false) (cond (aG 1099511627776 ((List.getD x1 x5.toNat ((0:Int),(bK,aK))).1)) (some false) (cond (aG 0 x5) (let v3:Int:=W .i64 (x5-1);cond (aH v3 (List.length x1)) (cond (bW ((List.getD x1 x5.toNat ((0:Int),(bK,aK))).1) ((List.getD x1 v3.toNat ((0:Int),(bK,aK))).1)) (some false) (cond (ay (List.length (((List.getD x1 x5.toNat ((0:Int),(bK,aK))).2).1):Int) (0:Int)) (some false) ((kf N x2 (((List.getD x1 x5.toNat ((0:Int),(bK,aK))).2).1)).bind fun r4=>cond (!r4) (some false) (cond (aG 0 ((((List.getD x1 x5.toNat ((0:Int),(bK,aK))).2).2).1)) (some false) (BI x1 x2 x5 (List.getD x1 x5.toNat ((0:Int),(bK,aK)))))))) (none)) (cond (ay (List.length (((List.getD x1 x5.toNat ((0:Int),(bK,aK))).2).1):Int) (0:Int)) (some false) ((kf N x2 (((List.getD x1 x5.toNat ((0:Int),(bK,aK))).2).1)).bind fun r9=>cond (!r9) (some false) (cond (aG 0 ((((List.getD x1 x5.toNat ((0:Int),(bK,aK))).2).2).1)) (some false) (BI x1 x2 x5 (List.getD x1 x5.toNat ((0:Int),(bK,aK)))))))))) (none)) (some true)
def fC.l4(N:Nat):Nat→fC.aW
 |0,_,_,_=>none
 |n+1,x1,x2,x5=>fC.cA N (fC.j9 N (fC.l4 N n)) (fC.l4 N n) x1 x2 x5
def fC.b(N:Nat)(c3:fC.aW)(a0:aa)(a1:bb):Option (Bool):=
 (iX N a0).bind fun r1=>cond (!r1) (some false) (cond (aG 12 (List.length a1:Int)) (some false) (c3 a1 a0 (0:Int)))
def fC(N:Nat)(a0:aa)(a1:bb):Option (Bool):=fC.b N (fC.l4 N N) a0 a1
abbrev nc.bS:=bb→Int→ik→Int→Option (ik×(Bool))
def nc.dx(N:Nat)(cN:nc.bS)(x0:bb)(x1:Int)(x4:ik)(x6:Int):Option (ik×(Bool)):=
 cond (aG x6 (List.length x0:Int)) (cond (aH x6 (List.length x0)) (cond (ay ((List.getD x0 x6.toNat ((0:Int),(bK,aK))).1) x1) (cond (aH x6 (List.length x0)) (some (List.getD x0 x6.toNat ((0:Int),(bK,aK)),true)) (none)) (cN x0 x1 x4 (W .i64 (x6+1)))) (none)) (some (((0:Int),(bK,aK)),false))
def nc.l2(N:Nat):Nat→nc.bS
 |0,_,_,_,_=>none
 |n+1,x0,x1,x4,x6=>nc.dx N (nc.l2 N n) x0 x1 x4 x6
def nc.b(N:Nat)(eC:nc.bS)(a0:bb)(a1:Int):Option (ik×(Bool)):=
 eC a0 a1 ((0:Int),(bK,aK)) (0:Int)
def nc(N:Nat)(a0:bb)(a1:Int):Option (ik×(Bool)):=nc.b N (nc.l2 N N) a0 a1
abbrev dm.eW:=av→av→av→Int→aw→Int→Option (av×(Bool))
abbrev dm.dj:=av→av→av→Int→aw→Int→Option (av×(Bool))
abbrev dm.cV:=av→av→av→Int→Option (av×(Bool))
def dm.jb(N:Nat)(cC:dm.cV)(gN:dm.eW)(x0:av)(x1:av)(x6:av)(x7:Int)(x8:aw)(aQ:Int):Option (av×(Bool)):=
 cond (aG aQ (List.length x1:Int)) (cond (aH aQ (List.length x1)) (cond (ay ((List.getD x1 aQ.toNat bI).1) x7) (cond (aH aQ (List.length x1)) ((fN N (((List.getD x1 aQ.toNat bI).2).1)).bind fun r8=>(tF N x8 r8).bind fun r9=>gN x0 x1 x6 x7 r9 (W .i64 (aQ+1))) (none)) (gN x0 x1 x6 x7 x8 (W .i64 (aQ+1)))) (none)) ((KT N x8).bind fun jg=>cond (!jg.2) (some ([],false)) (cond (!ay jg.1 0) (cond (small (List.length x6+List.length ([(x7,(jg.1,()))]))) (cC x0 x1 (x6++([(x7,(jg.1,()))])) (W .i64 (x7+1))) (none)) (cC x0 x1 x6 (W .i64 (x7+1)))))
def dm.kd(N:Nat)(cC:dm.cV):Nat→dm.eW
 |0,_,_,_,_,_,_=>none
 |n+1,x0,x1,x6,x7,x8,aQ=>dm.jb N cC (dm.kd N cC n) x0 x1 x6 x7 x8 aQ
def dm.mq(N:Nat)(pV:dm.eW)(cC:dm.cV)(da:dm.dj)(x0:av)(x1:av)(x6:av)(x7:Int)(x8:aw)(x9:Int):Option (av×(Bool)):=
 cond (aG x9 (List.length x0:Int)) (cond (aH x9 (List.length x0)) (cond (ay ((List.getD x0 x9.toNat bI).1) x7) (cond (aH x9 (List.length x0)) ((fN N (((List.getD x0 x9.toNat bI).2).1)).bind fun r3=>(tF N x8 r3).bind fun r4=>da x0 x1 x6 x7 r4 (W .i64 (x9+1))) (none)) (da x0 x1 x6 x7 x8 (W .i64 (x9+1)))) (none)) (pV x0 x1 x6 x7 x8 (0:Int))
def dm.l7(N:Nat)(cC:dm.cV):Nat→dm.dj
 |0,_,_,_,_,_,_=>none
 |n+1,x0,x1,x6,x7,x8,x9=>dm.mq N (dm.kd N cC N) cC (dm.l7 N cC n) x0 x1 x6 x7 x8 x9
def dm.jP(N:Nat)(ph:dm.dj)(cC:dm.cV)(x0:av)(x1:av)(x6:av)(x7:Int):Option (av×(Bool)):=
 cond (aG x7 6) (ph x0 x1 x6 x7 (false,kQ) (0:Int)) (some (x6,true))
def dm.l3(N:Nat):Nat→dm.cV
 |0,_,_,_,_=>none
 |n+1,x0,x1,x6,x7=>dm.jP N (dm.l7 N (dm.l3 N n) N) (dm.l3 N n) x0 x1 x6 x7
def dm.b(N:Nat)(ld:dm.cV)(a0:av)(a1:av):Option (av×(Bool)):=
 ld a0 a1 ([]) (0:Int)
def dm(N:Nat)(a0:av)(a1:av):Option (av×(Bool)):=dm.b N (dm.l3 N N) a0 a1
def aiy(N:Nat)(a0:aT)(a1:Int):Option ah:=
 (jG N a0).bind fun r1=>cond (!r1) (some ([])) ((di N a0 a1).bind fun r2=>some r2)
abbrev mL.eh:=aE→aa→af→br→ik→Int→Int→Option (Int)
abbrev mL.aoi:=bb→aE→aa→af→br→Option (Int)
def mL.kH(N:Nat)(fB:mL.eh)(x3:aE)(x5:aa)(x6:af)(x9:br)(aO:ik)(bp:Int)(b8:Int):Option (Int):=
 cond (aG b8 (List.length x3:Int)) (cond (aH b8 (List.length x3)) (cond (ay ((((List.getD x3 b8.toNat aK).2).2).1) x9.2.2.1) (cond (aH b8 (List.length x3)) (cond (ay (((List.getD x3 b8.toNat aK).2).1) x9.2.1) (some (4:Int)) (fB x3 x5 x6 x9 aO bp (W .i64 (b8+1)))) (none)) (fB x3 x5 x6 x9 aO bp (W .i64 (b8+1)))) (none)) (cond (ay (List.length x3:Int) 40) (some (5:Int)) ((fN N x9.2.2.2.1).bind fun jy=>(fN N (4:Int)).bind fun mH=>(fN N aO.2.2.1).bind fun nW=>(fZ N mH nW).bind fun qP=>(C3 N jy qP).bind fun rq=>cond (aG rq 0) (some (11:Int)) ((tK N x6.2.2.2.1 bp).bind fun uH=>(dm N uH aO.2.1).bind fun Iz=>cond (!Iz.2) (some (2:Int)) ((aiy N x6.2.2.2.2.2.1 bp).bind fun D6=>(jh N x5 Iz.1 D6).bind fun J4=>(Lx N x6 bp).bind fun J7=>(fN N J7).bind fun BB=>(fN N x9.2.2.2.1).bind fun F5=>(J1 N BB F5).bind fun D5=>(C3 N D5 J4.1).bind fun yu=>cond (aG yu 0) (some (10:Int)) (some (0:Int))))))
def mL.mB(N:Nat):Nat→mL.eh
 |0,_,_,_,_,_,_,_=>none
 |n+1,x3,x5,x6,x9,aO,bp,b8=>mL.kH N (mL.mB N n) x3 x5 x6 x9 aO bp b8
def mL.j3b(N:Nat)(pU:mL.eh)(x2:bb)(x3:aE)(x5:aa)(x6:af)(x9:br):Option (Int):=
 (FC N x6 x9.2.2.1).bind fun r7=>cond (ay r7 0) (some (3:Int)) (cond (!ay r7 1) (some (7:Int)) ((nc N x2 x9.2.1).bind fun r8=>(ui N x6.2.1 x9.2.2.1).bind fun r9=>cond (!r8.2) (some (3:Int)) (cond (!ay r8.1.2.2.2.1 1) (some (3:Int)) (cond (ay r9 0) (some (3:Int)) (pU x3 x5 x6 x9 r8.1 r9 (0:Int))))))
def mL.j3(N:Nat)(x2:bb)(x3:aE)(x5:aa)(x6:af)(x9:br):Option (Int):=mL.j3b N (mL.mB N N) x2 x3 x5 x6 x9
def mL.b(N:Nat)(aiz:mL.aoi)(a0:aa)(a1:af)(a2:bb)(a3:aE)(a4:br):Option (Int):=
 (bR N a0 a1).bind fun r1=>cond (!r1) (some (1:Int)) ((fC N a0 a2).bind fun r2=>cond (!r2) (some (1:Int)) ((ec N a3).bind fun r3=>cond (!r3) (some (1:Int)) ((acD N a4).bind fun r4=>cond (!r4) (some (1:Int)) (cond (aG 0 (List.length a3:Int)) (let v5:Int:=W .i64 ((List.length a3:Int)-1);cond (aH v5 (List.length a3)) (cond (bW a4.1 ((List.getD a3 v5.toNat aK).1)) (some (1:Int)) (aiz a2 a3 a0 a1 a4)) (none)) (aiz a2 a3 a0 a1 a4)))))
def mL(N:Nat)(a0:aa)(a1:af)(a2:bb)(a3:aE)(a4:br):Option (Int):=mL.b N (mL.j3 N) a0 a1 a2 a3 a4
def aiA(N:Nat)(a0:aa)(a1:af)(a2:bb)(a3:aE)(a4:br):Option (aE×(Int)):=
 (mL N a0 a1 a2 a3 a4).bind fun r1=>cond (!ay r1 0) (some ([],r1)) (cond (small (List.length cg+List.length a3)) (let v2:List ((Int)×((Int)×((Int)×((Int)×(Unit))))):=cg++a3;cond (small (List.length v2+List.length ([a4]))) (some ((v2++([a4])),(0:Int))) (none)) (none))
abbrev IB.e9:=aE→Int→br→br→Bool→Int→Option (br×(Bool))
def IB.pJ(N:Nat)(fa:IB.e9)(x0:aE)(x1:Int)(x4:br)(x6:br)(x7:Bool)(x8:Int):Option (br×(Bool)):=
 cond (aG x8 (List.length x0:Int)) (cond (aH x8 (List.length x0)) (cond (ay (((List.getD x0 x8.toNat aK).2).1) x1) (cond (!x7) (cond (aH x8 (List.length x0)) (fa x0 x1 x4 (List.getD x0 x8.toNat aK) true (W .i64 (x8+1))) (none)) (cond (aH x8 (List.length x0)) (cond (aG x6.2.2.2.1 (((((List.getD x0 x8.toNat aK).2).2).2).1)) (cond (aH x8 (List.length x0)) (fa x0 x1 x4 (List.getD x0 x8.toNat aK) true (W .i64 (x8+1))) (none)) (fa x0 x1 x4 x6 x7 (W .i64 (x8+1)))) (none))) (fa x0 x1 x4 x6 x7 (W .i64 (x8+1)))) (none)) (some (x6,x7))
def IB.l6(N:Nat):Nat→IB.e9
 |0,_,_,_,_,_,_=>none
 |n+1,x0,x1,x4,x6,x7,x8=>IB.pJ N (IB.l6 N n) x0 x1 x4 x6 x7 x8
def IB.b(N:Nat)(qY:IB.e9)(a0:aE)(a1:Int):Option (br×(Bool)):=
 (ec N a0).bind fun r1=>cond (!r1) (some (aK,false)) (qY a0 a1 aK aK false (0:Int))
def IB(N:Nat)(a0:aE)(a1:Int):Option (br×(Bool)):=IB.b N (IB.l6 N N) a0 a1
abbrev tO.oe:=bb→aE→af→af→ah→bw→bb→Int→ik→br→Int→Int→Option (af×bb×(Int))
abbrev tO.dj:=bb→aE→af→af→ah→bw→bb→Int→Option (af×bb×(Int))
def tO.th(N:Nat)(da:tO.dj)(BA:tO.oe)(x2:bb)(x3:aE)(x5:af)(x8:af)(aI:ah)(aO:bw)(bh:bb)(bp:Int)(b8:ik)(c7:br)(fk:Int)(fA:Int):Option (af×bb×(Int)):=
 cond (aG fA (List.length b8.2.1:Int)) (cond (aH fA (List.length b8.2.1)) (cond (aH fA (List.length b8.2.1)) (let v14:Int:=W .i64 (0-(((List.getD b8.2.1 fA.toNat bI).2).1));cond (aH fA (List.length b8.2.1)) (cond (aH fA (List.length b8.2.1)) (cond (small (List.length aI+List.length ([((0:Int),((List.getD b8.2.1 fA.toNat bI).1,(v14,()))),(fk,((List.getD b8.2.1 fA.toNat bI).1,(((List.getD b8.2.1 fA.toNat bI).2).1,())))]))) (BA x2 x3 x5 x8 (aI++([((0:Int),((List.getD b8.2.1 fA.toNat bI).1,(v14,()))),(fk,((List.getD b8.2.1 fA.toNat bI).1,(((List.getD b8.2.1 fA.toNat bI).2).1,())))])) aO bh bp b8 c7 fk (W .i64 (fA+1))) (none)) (none)) (none)) (none)) (none)) ((fN N c7.2.2.2.1).bind fun rq=>(By N (5:Int) fk (2:Int) (0:Int) rq).bind fun uH=>cond (small (List.length aO+List.length uH)) (cond (small (List.length bh+List.length ([b8]))) (da x2 x3 x5 x8 aI (aO++uH) (bh++([b8])) (W .i64 (bp+1))) (none)) (none))
def tO.um(N:Nat)(da:tO.dj):Nat→tO.oe
 |0,_,_,_,_,_,_,_,_,_,_,_,_=>none
 |n+1,x2,x3,x5,x8,aI,aO,bh,bp,b8,c7,fk,fA=>tO.th N da (tO.um N da n) x2 x3 x5 x8 aI aO bh bp b8 c7 fk fA
def tO.mq(N:Nat)(BC:tO.oe)(da:tO.dj)(x2:bb)(x3:aE)(x5:af)(x8:af)(aI:ah)(aO:bw)(bh:bb)(bp:Int):Option (af×bb×(Int)):=
 cond (aG bp (List.length x2:Int)) (cond (aH bp (List.length x2)) (cond (small (List.length bK+List.length (((List.getD x2 bp.toNat ((0:Int),(bK,aK))).2).1))) (let v5:List ((Int)×((Int)×(Unit))):=bK++(((List.getD x2 bp.toNat ((0:Int),(bK,aK))).2).1);cond (!ay (((((List.getD x2 bp.toNat ((0:Int),(bK,aK))).2).2).2).1) (1:Int)) (cond (small (List.length bh+List.length ([((List.getD x2 bp.toNat ((0:Int),(bK,aK))).1,(v5,((List.getD x2 bp.toNat ((0:Int),(bK,aK))).2).2))]))) (da x2 x3 x5 x8 aI aO (bh++([((List.getD x2 bp.toNat ((0:Int),(bK,aK))).1,(v5,((List.getD x2 bp.toNat ((0:Int),(bK,aK))).2).2))])) (W .i64 (bp+1))) (none)) ((IB N x3 ((List.getD x2 bp.toNat ((0:Int),(bK,aK))).1)).bind fun r8=>cond (!r8.2) (cond (small (List.length bh+List.length ([((List.getD x2 bp.toNat ((0:Int),(bK,aK))).1,(v5,((((List.getD x2 bp.toNat ((0:Int),(bK,aK))).2).2).1,((3:Int),((((List.getD x2 bp.toNat ((0:Int),(bK,aK))).2).2).2).2))))]))) (da x2 x3 x5 x8 aI aO (bh++([((List.getD x2 bp.toNat ((0:Int),(bK,aK))).1,(v5,((((List.getD x2 bp.toNat ((0:Int),(bK,aK))).2).2).1,((3:Int),((((List.getD x2 bp.toNat ((0:Int),(bK,aK))).2).2).2).2))))])) (W .i64 (bp+1))) (none)) ((ui N x5.2.1 r8.1.2.2.1).bind fun jQ=>cond (ay jQ 0) (some ((bK,(cg,(aY,(aY,(cD,(cJ,())))))),[],(3:Int))) ((FC N x5 r8.1.2.2.1).bind fun jg=>cond (ay jg 0) (some ((bK,(cg,(aY,(aY,(cD,(cJ,())))))),[],(3:Int))) (BC x2 x3 x5 x8 aI aO bh bp ((List.getD x2 bp.toNat ((0:Int),(bK,aK))).1,(v5,((((List.getD x2 bp.toNat ((0:Int),(bK,aK))).2).2).1,((2:Int),(r8.1.2.2.1,(r8.1.2.2.2.1,((((((List.getD x2 bp.toNat ((0:Int),(bK,aK))).2).2).2).2).2).2)))))) r8.1 jQ (0:Int)))))) (none)) (none)) ((wZ N x5 aI aO).bind fun J7=>cond (!ay J7.2 0) (some ((bK,(cg,(aY,(aY,(cD,(cJ,())))))),[],J7.2)) (some (J7.1,bh,(0:Int))))
def tO.l7(N:Nat):Nat→tO.dj
 |0,_,_,_,_,_,_,_,_=>none
 |n+1,x2,x3,x5,x8,aI,aO,bh,bp=>tO.mq N (tO.um N (tO.l7 N n) N) (tO.l7 N n) x2 x3 x5 x8 aI aO bh bp
def tO.b(N:Nat)(ph:tO.dj)(a0:aa)(a1:af)(a2:bb)(a3:aE):Option (af×bb×(Int)):=
 (bR N a0 a1).bind fun r1=>cond (!r1) (some ((bK,(cg,(aY,(aY,(cD,(cJ,())))))),[],(1:Int))) ((fC N a0 a2).bind fun r2=>cond (!r2) (some ((bK,(cg,(aY,(aY,(cD,(cJ,())))))),[],(1:Int))) ((ec N a3).bind fun r3=>cond (!r3) (some ((bK,(cg,(aY,(aY,(cD,(cJ,())))))),[],(1:Int))) (ph a2 a3 a1 (bK,(cg,(aY,(aY,(cD,(cJ,())))))) ([]) ([]) ([]) (0:Int))))
def tO(N:Nat)(a0:aa)(a1:af)(a2:bb)(a3:aE):Option (af×bb×(Int)):=tO.b N (tO.l7 N N) a0 a1 a2 a3
abbrev mi.bS:=av→Int→Option (Bool)
def mi.dx(N:Nat)(cN:mi.bS)(x0:av)(x3:Int):Option (Bool):=
 cond (aG x3 (List.length x0:Int)) (cond (aH x3 (List.length x0)) (cond (aG ((List.getD x0 x3.toNat bI).1) (1:Int)) (some false) (cond (aH x3 (List.length x0)) (cond (aG 12 ((List.getD x0 x3.toNat bI).1)) (some false) (cond (aH x3 (List.length x0)) (cond (aG (((List.getD x0 x3.toNat bI).2).1) (1:Int)) (some false) (cond (aH x3 (List.length x0)) (cond (aG 4 (((List.getD x0 x3.toNat bI).2).1)) (some false) (cond (aG 0 x3) (cond (aH x3 (List.length x0)) (let v2:Int:=W .i64 (x3-1);cond (aH v2 (List.length x0)) (cond (bW ((List.getD x0 x3.toNat bI).1) ((List.getD x0 v2.toNat bI).1)) (some false) (cN x0 (W .i64 (x3+1)))) (none)) (none)) (cN x0 (W .i64 (x3+1))))) (none))) (none))) (none))) (none)) (some true)
def mi.l2(N:Nat):Nat→mi.bS
 |0,_,_=>none
 |n+1,x0,x3=>mi.dx N (mi.l2 N n) x0 x3
def mi.b(N:Nat)(eC:mi.bS)(a0:av):Option (Bool):=
 eC a0 (0:Int)
def mi(N:Nat)(a0:av):Option (Bool):=mi.b N (mi.l2 N N) a0
abbrev n8.bS:=(List (Int))→Int→Option (Bool)
def n8.dx(N:Nat)(cN:n8.bS)(x0:List (Int))(x3:Int):Option (Bool):=
 cond (aG x3 (List.length x0:Int)) (cond (aH x3 (List.length x0)) (cond (aG (List.getD x0 x3.toNat (0:Int)) (1:Int)) (some false) (cond (aH x3 (List.length x0)) (cond (aG 12 (List.getD x0 x3.toNat (0:Int))) (some false) (cond (aG 0 x3) (cond (aH x3 (List.length x0)) (let v2:Int:=W .i64 (x3-1);cond (aH v2 (List.length x0)) (cond (bW (List.getD x0 x3.toNat (0:Int)) (List.getD x0 v2.toNat (0:Int))) (some false) (cN x0 (W .i64 (x3+1)))) (none)) (none)) (cN x0 (W .i64 (x3+1))))) (none))) (none)) (some true)
def n8.l2(N:Nat):Nat→n8.bS
 |0,_,_=>none
 |n+1,x0,x3=>n8.dx N (n8.l2 N n) x0 x3
def n8.b(N:Nat)(eC:n8.bS)(a0:List (Int)):Option (Bool):=
 eC a0 (0:Int)
def n8(N:Nat)(a0:List (Int)):Option (Bool):=n8.b N (n8.l2 N N) a0
abbrev fX.eW:=Int→bb→Int→Int→Option (Int)
abbrev fX.cV:=Int→bb→aE→Int→Int→Option (Int)
def fX.jb(N:Nat)(gN:fX.eW)(x0:Int)(x1:bb)(x7:Int)(aO:Int):Option (Int):=
 cond (aG aO (List.length x1:Int)) (cond (aH aO (List.length x1)) (cond (ay (((((List.getD x1 aO.toNat ((0:Int),(bK,aK))).2).2).2).1) (2:Int)) (cond (aH aO (List.length x1)) (cond (ay ((((((List.getD x1 aO.toNat ((0:Int),(bK,aK))).2).2).2).2).1) x0) (gN x0 x1 (4:Int) (W .i64 (aO+1))) (gN x0 x1 x7 (W .i64 (aO+1)))) (none)) (gN x0 x1 x7 (W .i64 (aO+1)))) (none)) (some x7)
def fX.kd(N:Nat):Nat→fX.eW
 |0,_,_,_,_=>none
 |n+1,x0,x1,x7,aO=>fX.jb N (fX.kd N n) x0 x1 x7 aO
def fX.jP(N:Nat)(pV:fX.eW)(cC:fX.cV)(x0:Int)(x1:bb)(x2:aE)(x7:Int)(x8:Int):Option (Int):=
 cond (aG x8 (List.length x2:Int)) (cond (aH x8 (List.length x2)) (cond (!ay ((((List.getD x2 x8.toNat aK).2).2).1) x0) (cC x0 x1 x2 x7 (W .i64 (x8+1))) (cond (aH x8 (List.length x2)) ((nc N x1 (((List.getD x2 x8.toNat aK).2).1)).bind fun r3=>cond (r3.2) (cond (aH x8 (List.length x2)) (cond (bW r3.1.2.2.1 (((((List.getD x2 x8.toNat aK).2).2).2).1)) (cC x0 x1 x2 (mx x7 3) (W .i64 (x8+1))) (cC x0 x1 x2 (mx x7 2) (W .i64 (x8+1)))) (none)) (cC x0 x1 x2 (mx x7 2) (W .i64 (x8+1)))) (none))) (none)) (pV x0 x1 x7 (0:Int))
def fX.l3(N:Nat):Nat→fX.cV
 |0,_,_,_,_,_=>none
 |n+1,x0,x1,x2,x7,x8=>fX.jP N (fX.kd N N) (fX.l3 N n) x0 x1 x2 x7 x8
def fX.b(N:Nat)(ld:fX.cV)(a0:Int)(a1:bb)(a2:aE):Option (Int):=
 ld a0 a1 a2 (1:Int) (0:Int)
def fX(N:Nat)(a0:Int)(a1:bb)(a2:aE):Option (Int):=fX.b N (fX.l3 N N) a0 a1 a2
abbrev dn.sC:=av→(List (Int))→bb→aE→av→Int→Int→Bool→Int→Option (av×(Int))
abbrev dn.sE:=av→(List (Int))→bb→aE→av→Int→Int→Bool→Int→Option (av×(Int))
abbrev dn.jj:=av→(List (Int))→bb→aE→av→Int→Int→Bool→Int→Option (av×(Int))
abbrev dn.a8:=av→(List (Int))→bb→aE→av→Int→Option (av×(Int))
def dn.CD(N:Nat)(bc:dn.a8)(BL:dn.sC)(x1:av)(x2:List (Int))(x3:bb)(x4:aE)(aO:av)(bh:Int)(bp:Int)(b8:Bool)(fk:Int):Option (av×(Int)):=
 cond (aG fk (List.length x4:Int)) (cond (b8) (BL x1 x2 x3 x4 aO bh bp true (W .i64 (fk+1))) (cond (aH fk (List.length x4)) (BL x1 x2 x3 x4 aO bh bp (ay ((((List.getD x4 fk.toNat aK).2).2).1) bh) (W .i64 (fk+1))) (none))) (cond (b8) ((fX N bh x3 x4).bind fun nW=>let Sw:Int:=mx bp nW;cond (small (List.length aO+List.length ([(bh,(Sw,()))]))) (bc x1 x2 x3 x4 (aO++([(bh,(Sw,()))])) (W .i64 (bh+1))) (none)) (bc x1 x2 x3 x4 aO (W .i64 (bh+1))))
def dn.F3(N:Nat)(bc:dn.a8):Nat→dn.sC
 |0,_,_,_,_,_,_,_,_,_=>none
 |n+1,x1,x2,x3,x4,aO,bh,bp,b8,fk=>dn.CD N bc (dn.F3 N bc n) x1 x2 x3 x4 aO bh bp b8 fk
def dn.Cy(N:Nat)(Iv:dn.sC)(bc:dn.a8)(yw:dn.sE)(x1:av)(x2:List (Int))(x3:bb)(x4:aE)(aO:av)(bh:Int)(bp:Int)(b8:Bool)(cQ:Int):Option (av×(Int)):=
 cond (aG cQ (List.length x2:Int)) (cond (b8) (yw x1 x2 x3 x4 aO bh bp true (W .i64 (cQ+1))) (cond (aH cQ (List.length x2)) (yw x1 x2 x3 x4 aO bh bp (ay (List.getD x2 cQ.toNat (0:Int)) bh) (W .i64 (cQ+1))) (none))) (Iv x1 x2 x3 x4 aO bh bp b8 (0:Int))
def dn.F2(N:Nat)(bc:dn.a8):Nat→dn.sE
 |0,_,_,_,_,_,_,_,_,_=>none
 |n+1,x1,x2,x3,x4,aO,bh,bp,b8,cQ=>dn.Cy N (dn.F3 N bc N) bc (dn.F2 N bc n) x1 x2 x3 x4 aO bh bp b8 cQ
def dn.tG(N:Nat)(Iy:dn.sE)(bc:dn.a8)(mK:dn.jj)(x1:av)(x2:List (Int))(x3:bb)(x4:aE)(aO:av)(bh:Int)(bp:Int)(b8:Bool)(c7:Int):Option (av×(Int)):=
 cond (aG c7 (List.length x1:Int)) (cond (aH c7 (List.length x1)) (cond (ay ((List.getD x1 c7.toNat bI).1) bh) (cond (aH c7 (List.length x1)) (mK x1 x2 x3 x4 aO bh (((List.getD x1 c7.toNat bI).2).1) true (W .i64 (c7+1))) (none)) (mK x1 x2 x3 x4 aO bh bp b8 (W .i64 (c7+1)))) (none)) (Iy x1 x2 x3 x4 aO bh bp b8 (0:Int))
def dn.l9(N:Nat)(bc:dn.a8):Nat→dn.jj
 |0,_,_,_,_,_,_,_,_,_=>none
 |n+1,x1,x2,x3,x4,aO,bh,bp,b8,c7=>dn.tG N (dn.F2 N bc N) bc (dn.l9 N bc n) x1 x2 x3 x4 aO bh bp b8 c7
def dn.c5(N:Nat)(uG:dn.jj)(bc:dn.a8)(x1:av)(x2:List (Int))(x3:bb)(x4:aE)(aO:av)(bh:Int):Option (av×(Int)):=
 cond (bW bh 12) (uG x1 x2 x3 x4 aO bh (0:Int) false (0:Int)) (some (aO,(0:Int)))
def dn.l5(N:Nat):Nat→dn.a8
 |0,_,_,_,_,_,_=>none
 |n+1,x1,x2,x3,x4,aO,bh=>dn.c5 N (dn.l9 N (dn.l5 N n) N) (dn.l5 N n) x1 x2 x3 x4 aO bh
def dn.b(N:Nat)(dr:dn.a8)(a0:aa)(a1:av)(a2:List (Int))(a3:bb)(a4:aE):Option (av×(Int)):=
 (mi N a1).bind fun r1=>cond (!r1) (some ([],(1:Int))) ((n8 N a2).bind fun r2=>cond (!r2) (some ([],(1:Int))) ((fC N a0 a3).bind fun r3=>cond (!r3) (some ([],(1:Int))) ((ec N a4).bind fun r4=>cond (!r4) (some ([],(1:Int))) (dr a1 a2 a3 a4 ([]) (1:Int)))))
def dn(N:Nat)(a0:aa)(a1:av)(a2:List (Int))(a3:bb)(a4:aE):Option (av×(Int)):=dn.b N (dn.l5 N N) a0 a1 a2 a3 a4
def LC(N:Nat)(a0:aX)(a1:af)(a2:Int)(a3:Int)(a4:Int):Option aX:=
 (qE N a1.2.2.1 a3 a4).bind fun r1=>cond (aG 0 r1) (cond (small (List.length a0+List.length ([(a2,(a3,(a4,(r1,((0:Int),())))))]))) (some (a0++([(a2,(a3,(a4,(r1,((0:Int),())))))]))) (none)) (some a0)
def Sf(N:Nat)(a0:Int):Option (Bool):=
 cond (ay a0 1) (some true) (some (ay a0 2))
abbrev n9.aW:=av→Int→Int→Option (Int)
def n9.cA(N:Nat)(bz:n9.aW)(x0:av)(x1:Int)(x5:Int):Option (Int):=
 cond (aG x5 (List.length x0:Int)) (cond (aH x5 (List.length x0)) (cond (ay ((List.getD x0 x5.toNat bI).1) x1) (cond (aH x5 (List.length x0)) (some (((List.getD x0 x5.toNat bI).2).1)) (none)) (bz x0 x1 (W .i64 (x5+1)))) (none)) (some (1:Int))
def n9.l4(N:Nat):Nat→n9.aW
 |0,_,_,_=>none
 |n+1,x0,x1,x5=>n9.cA N (n9.l4 N n) x0 x1 x5
def n9.b(N:Nat)(c3:n9.aW)(a0:av)(a1:Int):Option (Int):=
 (mi N a0).bind fun r1=>cond (!r1) (some (0:Int)) (c3 a0 a1 (0:Int))
def n9(N:Nat)(a0:av)(a1:Int):Option (Int):=n9.b N (n9.l4 N N) a0 a1
abbrev oa.a8:=av→Int→Int→af→(List (Int))→Int→Option ((List (Int))×(Int))
def oa.c5(N:Nat)(bc:oa.a8)(x2:av)(x3:Int)(x4:Int)(x6:af)(aO:List (Int))(bh:Int):Option ((List (Int))×(Int)):=
 cond (aG bh (List.length x6.1:Int)) (cond (aH bh (List.length x6.1)) ((Sf N (((List.getD x6.1 bh.toNat bI).2).1)).bind fun r4=>cond (r4) (cond (!ay ((List.getD x6.1 bh.toNat bI).1) x3) ((qE N x6.2.2.1 (6:Int) ((List.getD x6.1 bh.toNat bI).1)).bind fun r5=>cond (aG 0 r5) ((n9 N x2 ((List.getD x6.1 bh.toNat bI).1)).bind fun r6=>cond (ay r6 x4) (cond (small (List.length aO+List.length ([(List.getD x6.1 bh.toNat bI).1]))) (bc x2 x3 x4 x6 (aO++([(List.getD x6.1 bh.toNat bI).1])) (W .i64 (bh+1))) (none)) (bc x2 x3 x4 x6 aO (W .i64 (bh+1)))) (bc x2 x3 x4 x6 aO (W .i64 (bh+1)))) (bc x2 x3 x4 x6 aO (W .i64 (bh+1)))) (bc x2 x3 x4 x6 aO (W .i64 (bh+1)))) (none)) (some (aO,(0:Int)))
def oa.l5(N:Nat):Nat→oa.a8
 |0,_,_,_,_,_,_=>none
 |n+1,x2,x3,x4,x6,aO,bh=>oa.c5 N (oa.l5 N n) x2 x3 x4 x6 aO bh
def oa.b(N:Nat)(dr:oa.a8)(a0:aa)(a1:af)(a2:av)(a3:Int)(a4:Int):Option ((List (Int))×(Int)):=
 (bR N a0 a1).bind fun r1=>cond (!r1) (some ([],(1:Int))) ((mi N a2).bind fun r2=>cond (!r2) (some ([],(1:Int))) (dr a2 a3 a4 a1 ([]) (0:Int)))
def oa(N:Nat)(a0:aa)(a1:af)(a2:av)(a3:Int)(a4:Int):Option ((List (Int))×(Int)):=oa.b N (oa.l5 N N) a0 a1 a2 a3 a4
abbrev cv.ju:=Int→av→av→aa→af→aX→Int→(List (Int))→Int→Option (aX×(Int))
abbrev cv.BG:=Int→av→af→aX→Int→Option (aX×(Int))
abbrev cv.pW:=Int→av→aa→af→aX→Int→Option (aX×(Int))
abbrev cv.eW:=Int→av→av→aa→af→aX→Int→Option (aX×(Int))
abbrev cv.LM:=Int→av→av→aa→af→aX→Option (aX×(Int))
def cv.sg(N:Nat)(gN:cv.eW)(kM:cv.ju)(x2:Int)(x3:av)(x4:av)(x5:aa)(x6:af)(aO:aX)(bp:Int)(b8:List (Int))(cQ:Int):Option (aX×(Int)):=
 cond (aG cQ (List.length b8:Int)) (cond (aH cQ (List.length b8)) ((LC N aO x6 (W .i64 ((W .i64 ((4:Int)+bp))-1)) (6:Int) (List.getD b8 cQ.toNat (0:Int))).bind fun nW=>kM x2 x3 x4 x5 x6 nW bp b8 (W .i64 (cQ+1))) (none)) (gN x2 x3 x4 x5 x6 aO (W .i64 (bp+1)))
def cv.tg(N:Nat)(gN:cv.eW):Nat→cv.ju
 |0,_,_,_,_,_,_,_,_,_=>none
 |n+1,x2,x3,x4,x5,x6,aO,bp,b8,cQ=>cv.sg N gN (cv.tg N gN n) x2 x3 x4 x5 x6 aO bp b8 cQ
def cv.HB(N:Nat)(yt:cv.BG)(x2:Int)(x4:av)(x6:af)(aO:aX)(Pk:Int):Option (aX×(Int)):=
 cond (aG Pk (List.length x4:Int)) (cond (aH Pk (List.length x4)) ((AG N x6.2.1 ((List.getD x4 Pk.toNat bI).1)).bind fun Nk=>cond (aH Pk (List.length x4)) (cond (aH Pk (List.length x4)) ((qE N x6.2.2.1 (5:Int) ((List.getD x4 Pk.toNat bI).1)).bind fun r32=>let v33:Int:=mn (((List.getD x4 Pk.toNat bI).2).1) r32;cond (Nk.2) (cond (!ay Nk.1.2.1 x2) (cond (aG 0 v33) (cond (small (List.length aO+List.length ([((9:Int),((5:Int),(Nk.1.1,(v33,((0:Int),())))))]))) (yt x2 x4 x6 (aO++([((9:Int),((5:Int),(Nk.1.1,(v33,((0:Int),())))))])) (W .i64 (Pk+1))) (none)) (yt x2 x4 x6 aO (W .i64 (Pk+1)))) (yt x2 x4 x6 aO (W .i64 (Pk+1)))) (yt x2 x4 x6 aO (W .i64 (Pk+1)))) (none)) (none)) (none)) (some (aO,(0:Int)))
def cv.KV(N:Nat):Nat→cv.BG
 |0,_,_,_,_,_=>none
 |n+1,x2,x4,x6,aO,Pk=>cv.HB N (cv.KV N n) x2 x4 x6 aO Pk
def cv.LA(N:Nat)(Ss:cv.BG)(jB:cv.pW)(x2:Int)(x4:av)(x5:aa)(x6:af)(aO:aX)(fk:Int):Option (aX×(Int)):=
 cond (aG fk (List.length x6.1:Int)) (cond (aH fk (List.length x6.1)) ((Sf N (((List.getD x6.1 fk.toNat bI).2).1)).bind fun Iz=>cond (!Iz) (jB x2 x4 x5 x6 aO (W .i64 (fk+1))) (cond (ay ((List.getD x6.1 fk.toNat bI).1) x2) (jB x2 x4 x5 x6 aO (W .i64 (fk+1))) ((fN N x5.2.2.1).bind fun J7=>(qE N x6.2.2.1 (6:Int) ((List.getD x6.1 fk.toNat bI).1)).bind fun BB=>(fN N BB).bind fun F5=>(fZ N J7 F5).bind fun D5=>(sa N D5).bind fun yu=>cond (!yu.2) (some ([],(2:Int))) (cond (aG 0 yu.1) (cond (small (List.length aO+List.length ([((8:Int),((7:Int),((List.getD x6.1 fk.toNat bI).1,(yu.1,((0:Int),())))))]))) (jB x2 x4 x5 x6 (aO++([((8:Int),((7:Int),((List.getD x6.1 fk.toNat bI).1,(yu.1,((0:Int),())))))])) (W .i64 (fk+1))) (none)) (jB x2 x4 x5 x6 aO (W .i64 (fk+1))))))) (none)) (Ss x2 x4 x6 aO (0:Int))
def cv.FD(N:Nat):Nat→cv.pW
 |0,_,_,_,_,_,_=>none
 |n+1,x2,x4,x5,x6,aO,fk=>cv.LA N (cv.KV N N) (cv.FD N n) x2 x4 x5 x6 aO fk
def cv.jb(N:Nat)(BD:cv.ju)(SA:cv.pW)(gN:cv.eW)(x2:Int)(x3:av)(x4:av)(x5:aa)(x6:af)(aO:aX)(bp:Int):Option (aX×(Int)):=
 cond (bW bp 4) ((oa N x5 x6 x3 x2 bp).bind fun jQ=>BD x2 x3 x4 x5 x6 aO bp jQ.1 (0:Int)) (SA x2 x4 x5 x6 aO (0:Int))
def cv.kd(N:Nat):Nat→cv.eW
 |0,_,_,_,_,_,_,_=>none
 |n+1,x2,x3,x4,x5,x6,aO,bp=>cv.jb N (cv.tg N (cv.kd N n) N) (cv.FD N N) (cv.kd N n) x2 x3 x4 x5 x6 aO bp
def cv.KB(N:Nat)(pV:cv.eW)(x2:Int)(x3:av)(x4:av)(x5:aa)(x6:af)(aO:aX):Option (aX×(Int)):=
 (LC N aO x6 (2:Int) (6:Int) x2).bind fun r8=>(LC N r8 x6 (3:Int) (3:Int) (0:Int)).bind fun r9=>pV x2 x3 x4 x5 x6 r9 (1:Int)
def cv.j9(N:Nat)(x2:Int)(x3:av)(x4:av)(x5:aa)(x6:af)(aO:aX):Option (aX×(Int)):=cv.KB N (cv.kd N N) x2 x3 x4 x5 x6 aO
def cv.b(N:Nat)(BI:cv.LM)(a0:aa)(a1:af)(a2:Int)(a3:av)(a4:av):Option (aX×(Int)):=
 (bR N a0 a1).bind fun r1=>cond (!r1) (some ([],(1:Int))) ((mi N a3).bind fun r2=>cond (!r2) (some ([],(1:Int))) ((m9 N a4).bind fun r3=>cond (!r3) (some ([],(1:Int))) ((vB N a1.1 a2).bind fun r4=>cond (ay r4 0) (some ([],(3:Int))) ((ui N a1.2.1 a2).bind fun r5=>cond (!ay r5 0) ((LC N ([]) a1 (1:Int) (5:Int) r5).bind fun r6=>BI a2 a3 a4 a0 a1 r6) (BI a2 a3 a4 a0 a1 ([]))))))
def cv(N:Nat)(a0:aa)(a1:af)(a2:Int)(a3:av)(a4:av):Option (aX×(Int)):=cv.b N (cv.j9 N) a0 a1 a2 a3 a4
def Vp(N:Nat)(a0:aa)(a1:af):Option ((Int)×(Int)):=
 (bR N a0 a1).bind fun r1=>cond (!r1) (some ((0:Int),(1:Int))) ((qE N a1.2.2.1 (2:Int) (0:Int)).bind fun r2=>cond (ay r2 (-9223372036854775808)) (some ((0:Int),(2:Int))) (some ((mx (W .i64 (0-r2)) (0:Int)),(0:Int))))
abbrev ob.aW:=aX→Int→Option (Bool)
def ob.cA(N:Nat)(bz:ob.aW)(x0:aX)(x3:Int):Option (Bool):=
 cond (aG x3 (List.length x0:Int)) (cond (aH x3 (List.length x0)) (cond (aG ((List.getD x0 x3.toNat dT).1) (1:Int)) (some false) (cond (aG 9 ((List.getD x0 x3.toNat dT).1)) (some false) ((KF N (((List.getD x0 x3.toNat dT).2).1) ((((List.getD x0 x3.toNat dT).2).2).1)).bind fun r2=>cond (!r2) (some false) (cond (aG (((((List.getD x0 x3.toNat dT).2).2).2).1) (1:Int)) (some false) (cond (aG ((((((List.getD x0 x3.toNat dT).2).2).2).2).1) (0:Int)) (some false) (cond (aG (((((List.getD x0 x3.toNat dT).2).2).2).1) ((((((List.getD x0 x3.toNat dT).2).2).2).2).1)) (some false) (cond (aG 0 x3) (let v3:Int:=W .i64 (x3-1);cond (aH v3 (List.length x0)) (cond (aG ((List.getD x0 x3.toNat dT).1) ((List.getD x0 v3.toNat dT).1)) (some false) (let v4:Int:=W .i64 (x3-1);cond (aH v4 (List.length x0)) (cond (ay ((List.getD x0 x3.toNat dT).1) ((List.getD x0 v4.toNat dT).1)) (let v5:Int:=W .i64 (x3-1);cond (aH v5 (List.length x0)) (cond (!ay (((List.getD x0 x3.toNat dT).2).1) (((List.getD x0 v5.toNat dT).2).1)) (some false) (let v6:Int:=W .i64 (x3-1);cond (aH v6 (List.length x0)) (cond (bW ((((List.getD x0 x3.toNat dT).2).2).1) ((((List.getD x0 v6.toNat dT).2).2).1)) (some false) (bz x0 (W .i64 (x3+1)))) (none))) (none)) (bz x0 (W .i64 (x3+1)))) (none))) (none)) (bz x0 (W .i64 (x3+1)))))))))) (none)) (some true)
def ob.l4(N:Nat):Nat→ob.aW
 |0,_,_=>none
 |n+1,x0,x3=>ob.cA N (ob.l4 N n) x0 x3
def ob.b(N:Nat)(c3:ob.aW)(a0:aX):Option (Bool):=
 cond (aG 64 (List.length a0:Int)) (some false) (c3 a0 (0:Int))
def ob(N:Nat)(a0:aX):Option (Bool):=ob.b N (ob.l4 N N) a0
abbrev cP.sC:=aX→Int→Int→Int→(List (Int))→Int→Option (aX×(Int)×(Int))
abbrev cP.Iu:=aX→Int→Int→Int→(List (Int))→Option (aX×(Int)×(Int))
abbrev cP.fQ:=aX→Int→Int→Int→(List (Int))→Option (aX×(Int)×(Int))
abbrev cP.a8:=aX→Int→Int→Option (aX×(Int)×(Int))
def cP.CD(N:Nat)(bc:cP.a8)(BL:cP.sC)(x7:aX)(x8:Int)(x9:Int)(aQ:Int)(bp:List (Int))(c7:Int):Option (aX×(Int)×(Int)):=
 cond (aG c7 aQ) (let v13:Int:=W .i64 (c7-x9);cond (aH v13 (List.length bp)) (cond (aH c7 (List.length x7)) (let Vw:Int:=W .i64 (c7-x9);cond (aH Vw (List.length bp)) (BL (List.set x7 c7.toNat ((List.getD x7 c7.toNat dT).1,(((List.getD x7 c7.toNat dT).2).1,((((List.getD x7 c7.toNat dT).2).2).1,(((((List.getD x7 c7.toNat dT).2).2).2).1,(List.getD bp v13.toNat (0:Int),(((((List.getD x7 c7.toNat dT).2).2).2).2).2)))))) (W .i64 (x8-(List.getD bp Vw.toNat (0:Int)))) x9 aQ bp (W .i64 (c7+1))) (none)) (none)) (none)) (bc x7 x8 aQ)
def cP.F3(N:Nat)(bc:cP.a8):Nat→cP.sC
 |0,_,_,_,_,_,_=>none
 |n+1,x7,x8,x9,aQ,bp,c7=>cP.CD N bc (cP.F3 N bc n) x7 x8 x9 aQ bp c7
def cP.Bx(N:Nat)(Iv:cP.sC)(bc:cP.a8)(x7:aX)(x8:Int)(x9:Int)(aQ:Int)(aI:List (Int)):Option (aX×(Int)×(Int)):=
 (mo N aI).bind fun r8=>(sa N r8).bind fun r9=>cond (!r9.2) (some ([],(0:Int),(2:Int))) ((dM N (mn r9.1 x8) aI).bind fun jQ=>cond (!ay jQ.2 0) (some ([],(0:Int),jQ.2)) (Iv x7 x8 x9 aQ jQ.1 x9))
def cP.J3(N:Nat)(bc:cP.a8)(x7:aX)(x8:Int)(x9:Int)(aQ:Int)(aI:List (Int)):Option (aX×(Int)×(Int)):=cP.Bx N (cP.F3 N bc N) bc x7 x8 x9 aQ aI
def cP.zt(N:Nat)(yv:cP.Iu)(bc:cP.a8)(dS:cP.fQ)(x7:aX)(x8:Int)(x9:Int)(aQ:Int)(aI:List (Int)):Option (aX×(Int)×(Int)):=
 cond (aG aQ (List.length x7:Int)) (cond (aH aQ (List.length x7)) (cond (aH x9 (List.length x7)) (cond (ay ((List.getD x7 aQ.toNat dT).1) ((List.getD x7 x9.toNat dT).1)) (cond (aH aQ (List.length x7)) (cond (small (List.length aI+List.length ([((((List.getD x7 aQ.toNat dT).2).2).2).1]))) (dS x7 x8 x9 (W .i64 (aQ+1)) (aI++([((((List.getD x7 aQ.toNat dT).2).2).2).1]))) (none)) (none)) (yv x7 x8 x9 aQ aI)) (none)) (none)) (yv x7 x8 x9 aQ aI)
def cP.l8(N:Nat)(bc:cP.a8):Nat→cP.fQ
 |0,_,_,_,_,_=>none
 |n+1,x7,x8,x9,aQ,aI=>cP.zt N (cP.J3 N bc) bc (cP.l8 N bc n) x7 x8 x9 aQ aI
def cP.c5(N:Nat)(BJ:cP.fQ)(bc:cP.a8)(x7:aX)(x8:Int)(x9:Int):Option (aX×(Int)×(Int)):=
 cond (aG x9 (List.length x7:Int)) (BJ x7 x8 x9 x9 ([])) (some (x7,x8,(0:Int)))
def cP.l5(N:Nat):Nat→cP.a8
 |0,_,_,_=>none
 |n+1,x7,x8,x9=>cP.c5 N (cP.l8 N (cP.l5 N n) N) (cP.l5 N n) x7 x8 x9
def cP.b(N:Nat)(dr:cP.a8)(a0:aX)(a1:Int):Option (aX×(Int)×(Int)):=
 (ob N a0).bind fun r1=>cond (!r1) (some ([],(0:Int),(1:Int))) (cond (aG a1 0) (some ([],(0:Int),(1:Int))) (cond (small (List.length zi+List.length a0)) (dr (zi++a0) a1 (0:Int)) (none)))
def cP(N:Nat)(a0:aX)(a1:Int):Option (aX×(Int)×(Int)):=cP.b N (cP.l5 N N) a0 a1
def Vq(N:Nat)(a0:aa)(a1:af):Option ((Int)×(Int)):=
 (bR N a0 a1).bind fun r1=>cond (!r1) (some ((0:Int),(1:Int))) ((qE N a1.2.2.1 (2:Int) (0:Int)).bind fun r2=>some ((mx r2 0),(0:Int)))
abbrev ia.aiB:=af→af→c8→bw→c8→aX→Int→Int→Int→Option (af×c8×(Int))
abbrev ia.BK:=Int→aa→af→af→c8→aX→Int→bw→c8→aX→Int→Option (af×c8×(Int))
def ia.acx(N:Nat)(x6:af)(aQ:af)(aI:c8)(fk:bw)(fA:c8)(BN:aX)(x21:Int)(x23:Int)(x24:Int):Option (af×c8×(Int)):=
 (fN N x21).bind fun rq=>(By N (2:Int) (0:Int) x23 x24 rq).bind fun uH=>cond (small (List.length fk+List.length uH)) ((wZ N x6 aY (fk++uH)).bind fun D6=>cond (!ay D6.2 0) (some ((bK,(cg,(aY,(aY,(cD,(cJ,())))))),((0:Int),((0:Int),(zi,((0:Int),())))),D6.2)) (some (D6.1,(fA.1,(fA.2.1,(BN,fA.2.2.2))),(0:Int)))) (none)
def ia.j26(N:Nat)(x6:af)(aQ:af)(aI:c8)(fk:bw)(fA:c8)(BN:aX)(x21:Int)(x23:Int)(x24:Int):Option (af×c8×(Int)):=ia.acx N x6 aQ aI fk fA BN x21 x23 x24
def ia.EY(N:Nat)(aay:ia.aiB)(D7:ia.BK)(x2:Int)(x5:aa)(x6:af)(aQ:af)(aI:c8)(bh:aX)(cQ:Int)(fk:bw)(fA:c8)(BN:aX)(uQ:Int):Option (af×c8×(Int)):=
 cond (aG uQ (List.length bh:Int)) (cond (aH uQ (List.length bh)) (cond (aG 0 ((((((List.getD bh uQ.toNat dT).2).2).2).2).1)) (cond (aH uQ (List.length bh)) (cond (small (List.length BN+List.length ([List.getD bh uQ.toNat dT]))) (cond (aH uQ (List.length bh)) (cond (aH uQ (List.length bh)) (cond (aH uQ (List.length bh)) ((fN N ((((((List.getD bh uQ.toNat dT).2).2).2).2).1)).bind fun r6=>(By N (((List.getD bh uQ.toNat dT).2).1) ((((List.getD bh uQ.toNat dT).2).2).1) (2:Int) (0:Int) r6).bind fun r7=>cond (small (List.length fk+List.length r7)) (D7 x2 x5 x6 aQ aI bh cQ (fk++r7) (fA.1,(fA.2.1,(zi,fA.2.2.2))) (BN++([List.getD bh uQ.toNat dT])) (W .i64 (uQ+1))) (none)) (none)) (none)) (none)) (none)) (none)) (D7 x2 x5 x6 aQ aI bh cQ fk fA BN (W .i64 (uQ+1)))) (none)) ((fN N cQ).bind fun jQ=>(By N (4:Int) (0:Int) (2:Int) (0:Int) jQ).bind fun jg=>cond (small (List.length fk+List.length jg)) (let v13:List ((Int)×((Int)×(((Bool)×((List (Int))×(Unit)))×(Unit)))):=fk++jg;(Vq N x5 x6).bind fun mH=>(ui N x6.2.1 x2).bind fun nW=>cond (!ay nW 0) (aay x6 aQ aI v13 fA BN mH.1 (5:Int) nW) (aay x6 aQ aI v13 fA BN mH.1 (6:Int) x2)) (none))
def ia.F1(N:Nat):Nat→ia.BK
 |0,_,_,_,_,_,_,_,_,_,_,_=>none
 |n+1,x2,x5,x6,aQ,aI,bh,cQ,fk,fA,BN,uQ=>ia.EY N (ia.j26 N) (ia.F1 N n) x2 x5 x6 aQ aI bh cQ fk fA BN uQ
def ia.b(N:Nat)(Sx:ia.BK)(a0:aa)(a1:af)(a2:Int)(a3:av)(a4:av):Option (af×c8×(Int)):=
 (cv N a0 a1 a2 a3 a4).bind fun r1=>cond (ay r1.2 1) (some ((bK,(cg,(aY,(aY,(cD,(cJ,())))))),((0:Int),((0:Int),(zi,((0:Int),())))),r1.2)) (cond (ay r1.2 3) (some ((bK,(cg,(aY,(aY,(cD,(cJ,())))))),((0:Int),((0:Int),(zi,((0:Int),())))),r1.2)) ((Vp N a0 a1).bind fun r2=>cond (!ay r2.2 0) (some ((bK,(cg,(aY,(aY,(cD,(cJ,())))))),((0:Int),((0:Int),(zi,((0:Int),())))),r2.2)) (cond (!ay r1.2 0) (some ((bK,(cg,(aY,(aY,(cD,(cJ,())))))),((0:Int),((0:Int),(zi,((0:Int),())))),r1.2)) ((cP N r1.1 r2.1).bind fun r3=>cond (!ay r3.2.2 0) (some ((bK,(cg,(aY,(aY,(cD,(cJ,())))))),((0:Int),((0:Int),(zi,((0:Int),())))),r3.2.2)) (Sx a2 a0 a1 (bK,(cg,(aY,(aY,(cD,(cJ,())))))) ((0:Int),((0:Int),(zi,((0:Int),())))) r3.1 r3.2.1 ([]) (a2,(r2.1,(zi,(r3.2.1,())))) zi (0:Int))))))
def ia(N:Nat)(a0:aa)(a1:af)(a2:Int)(a3:av)(a4:av):Option (af×c8×(Int)):=ia.b N (ia.F1 N N) a0 a1 a2 a3 a4
abbrev dg.BF:=(List (Int))→(List (Int))→(List (Int))→Int→Int→(List (Int))→Int→Option ((List (Int))×(Int)×(Int))
abbrev dg.eW:=(List (Int))→(List (Int))→(List (Int))→Int→Int→(List (Int))→Bool→Int→Option ((List (Int))×(Int)×(Int))
abbrev dg.fQ:=(List (Int))→(List (Int))→(List (Int))→Int→Int→Option ((List (Int))×(Int)×(Int))
def dg.KW(N:Nat)(dS:dg.fQ)(Sr:dg.BF)(x1:List (Int))(x2:List (Int))(aI:List (Int))(aO:Int)(bh:Int)(cQ:List (Int))(fA:Int):Option ((List (Int))×(Int)×(Int)):=
 cond (aG fA (List.length x1:Int)) (cond (aH fA (List.length cQ)) (cond (aH fA (List.length x2)) (cond (aH fA (List.length aI)) (let Sw:Int:=mn (List.getD cQ fA.toNat (0:Int)) (W .i64 ((List.getD x2 fA.toNat (0:Int))-(List.getD aI fA.toNat (0:Int))));cond (aH fA (List.length aI)) (cond (aH fA (List.length aI)) (Sr x1 x2 (List.set aI fA.toNat (W .i64 ((List.getD aI fA.toNat (0:Int))+Sw))) (W .i64 (aO-Sw)) bh cQ (W .i64 (fA+1))) (none)) (none)) (none)) (none)) (none)) (dS x1 x2 aI aO (W .i64 (bh+1)))
def dg.Ou(N:Nat)(dS:dg.fQ):Nat→dg.BF
 |0,_,_,_,_,_,_,_=>none
 |n+1,x1,x2,aI,aO,bh,cQ,fA=>dg.KW N dS (dg.Ou N dS n) x1 x2 aI aO bh cQ fA
def dg.jb(N:Nat)(Su:dg.BF)(dS:dg.fQ)(gN:dg.eW)(x1:List (Int))(x2:List (Int))(aI:List (Int))(aO:Int)(bh:Int)(bp:List (Int))(b8:Bool)(c7:Int):Option ((List (Int))×(Int)×(Int)):=
 cond (aG c7 (List.length x1:Int)) (cond (aH c7 (List.length x1)) (cond (aG 0 (List.getD x1 c7.toNat (0:Int))) (cond (aH c7 (List.length aI)) (cond (aH c7 (List.length x2)) (cond (aG (List.getD aI c7.toNat (0:Int)) (List.getD x2 c7.toNat (0:Int))) (cond (aH c7 (List.length x1)) (cond (aH c7 (List.length bp)) (gN x1 x2 aI aO bh (List.set bp c7.toNat (List.getD x1 c7.toNat (0:Int))) true (W .i64 (c7+1))) (none)) (none)) (gN x1 x2 aI aO bh bp b8 (W .i64 (c7+1)))) (none)) (none)) (gN x1 x2 aI aO bh bp b8 (W .i64 (c7+1)))) (none)) (cond (ay aO 0) (some (aI,aO,(0:Int))) (cond (!b8) (some (aI,aO,(0:Int))) ((dM N aO bp).bind fun jy=>Su x1 x2 aI aO bh jy.1 (0:Int))))
def dg.kd(N:Nat)(dS:dg.fQ):Nat→dg.eW
 |0,_,_,_,_,_,_,_,_=>none
 |n+1,x1,x2,aI,aO,bh,bp,b8,c7=>dg.jb N (dg.Ou N dS N) dS (dg.kd N dS n) x1 x2 aI aO bh bp b8 c7
def dg.zt(N:Nat)(pV:dg.eW)(dS:dg.fQ)(x1:List (Int))(x2:List (Int))(aI:List (Int))(aO:Int)(bh:Int):Option ((List (Int))×(Int)×(Int)):=
 cond (bW bh (List.length x1:Int)) (cond (ga (List.length x1:Int) (List.length x1:Int)) (pV x1 x2 aI aO bh (List.replicate (List.length x1:Int).toNat (0:Int)) false (0:Int)) (none)) (some (aI,aO,(0:Int)))
def dg.l8(N:Nat):Nat→dg.fQ
 |0,_,_,_,_,_=>none
 |n+1,x1,x2,aI,aO,bh=>dg.zt N (dg.kd N (dg.l8 N n) N) (dg.l8 N n) x1 x2 aI aO bh
def dg.b(N:Nat)(BJ:dg.fQ)(a0:Int)(a1:List (Int))(a2:List (Int)):Option ((List (Int))×(Int)×(Int)):=
 (mF N a0 a1).bind fun r1=>cond (r1) (some ([],(0:Int),(1:Int))) (cond (!ay (List.length a2:Int) (List.length a1:Int)) (some ([],(0:Int),(1:Int))) ((mF N (0:Int) a2).bind fun r2=>cond (r2) (some ([],(0:Int),(1:Int))) ((mo N a1).bind fun r3=>(sa N r3).bind fun r4=>cond (!r4.2) (some ([],(0:Int),(2:Int))) (cond (ga (List.length a1:Int) (List.length a1:Int)) (BJ a1 a2 (List.replicate (List.length a1:Int).toNat (0:Int)) a0 (0:Int)) (none)))))
def dg(N:Nat)(a0:Int)(a1:List (Int))(a2:List (Int)):Option ((List (Int))×(Int)×(Int)):=dg.b N (dg.l8 N N) a0 a1 a2
abbrev qU.SB:=Int→Int→(List (Int))→(List (Int))→ah→Int→Option (ah×(Int))
abbrev qU.sD:=Int→af→Int→(List (Int))→(List (Int))→Int→Option (ah×(Int))
def qU.acz(N:Nat)(Nl:qU.SB)(x2:Int)(x8:Int)(x9:List (Int))(bh:List (Int))(c7:ah)(cQ:Int):Option (ah×(Int)):=
 cond (aG cQ (List.length bh:Int)) (cond (aH cQ (List.length bh)) (cond (aG x8 0) (let v17:Int:=W .i64 (0-(List.getD bh cQ.toNat (0:Int)));cond (!ay v17 0) (cond (aH cQ (List.length x9)) (cond (small (List.length c7+List.length ([(List.getD x9 cQ.toNat (0:Int),(x2,(v17,())))]))) (Nl x2 x8 x9 bh (c7++([(List.getD x9 cQ.toNat (0:Int),(x2,(v17,())))])) (W .i64 (cQ+1))) (none)) (none)) (Nl x2 x8 x9 bh c7 (W .i64 (cQ+1)))) (cond (!ay (List.getD bh cQ.toNat (0:Int)) (0:Int)) (cond (aH cQ (List.length x9)) (cond (small (List.length c7+List.length ([(List.getD x9 cQ.toNat (0:Int),(x2,(List.getD bh cQ.toNat (0:Int),())))]))) (Nl x2 x8 x9 bh (c7++([(List.getD x9 cQ.toNat (0:Int),(x2,(List.getD bh cQ.toNat (0:Int),())))])) (W .i64 (cQ+1))) (none)) (none)) (Nl x2 x8 x9 bh c7 (W .i64 (cQ+1))))) (none)) (some (c7,(0:Int)))
def qU.l21(N:Nat):Nat→qU.SB
 |0,_,_,_,_,_,_=>none
 |n+1,x2,x8,x9,bh,c7,cQ=>qU.acz N (qU.l21 N n) x2 x8 x9 bh c7 cQ
def qU.w1(N:Nat)(aiC:qU.SB)(wk:qU.sD)(x2:Int)(x4:af)(x8:Int)(x9:List (Int))(aQ:List (Int))(aI:Int):Option (ah×(Int)):=
 cond (aG aI (List.length x4.2.2.2.1:Int)) (cond (aH aI (List.length x4.2.2.2.1)) (cond (!ay ((List.getD x4.2.2.2.1 aI.toNat aL).1) (0:Int)) (cond (ay (((List.getD x4.2.2.2.1 aI.toNat aL).2).1) x2) (cond (!(jO .bool (aG 0 ((((List.getD x4.2.2.2.1 aI.toNat aL).2).2).1)) (aG 0 x8))) (cond (small (List.length x9+List.length ([(List.getD x4.2.2.2.1 aI.toNat aL).1]))) (let v6:Int:=mx ((((List.getD x4.2.2.2.1 aI.toNat aL).2).2).1) (W .i64 (0-((((List.getD x4.2.2.2.1 aI.toNat aL).2).2).1)));cond (small (List.length aQ+List.length ([v6]))) (wk x2 x4 x8 (x9++([(List.getD x4.2.2.2.1 aI.toNat aL).1])) (aQ++([v6])) (W .i64 (aI+1))) (none)) (none)) (wk x2 x4 x8 x9 aQ (W .i64 (aI+1)))) (wk x2 x4 x8 x9 aQ (W .i64 (aI+1)))) (wk x2 x4 x8 x9 aQ (W .i64 (aI+1)))) (none)) ((dg N (mx x8 (W .i64 (0-x8))) aQ aQ).bind fun mH=>cond (!ay mH.2.2 0) (some ([],mH.2.2)) (aiC x2 x8 x9 mH.1 ([((0:Int),(x2,((W .i64 (0-x8)),())))]) (0:Int)))
def qU.zy(N:Nat):Nat→qU.sD
 |0,_,_,_,_,_,_=>none
 |n+1,x2,x4,x8,x9,aQ,aI=>qU.w1 N (qU.l21 N N) (qU.zy N n) x2 x4 x8 x9 aQ aI
def qU.b(N:Nat)(Ix:qU.sD)(a0:aa)(a1:af)(a2:Int):Option (ah×(Int)):=
 (bR N a0 a1).bind fun r1=>cond (!r1) (some ([],(1:Int))) (cond (aG a2 0) (some ([],(3:Int))) (cond (bW (List.length a0.1:Int) a2) (some ([],(3:Int))) ((wz N a1.2.2.2.1 (0:Int) a2).bind fun r2=>cond (ay r2 0) (some ([],(0:Int))) (Ix a2 a1 r2 ([]) ([]) (0:Int)))))
def qU(N:Nat)(a0:aa)(a1:af)(a2:Int):Option (ah×(Int)):=qU.b N (qU.zy N N) a0 a1 a2
abbrev Bz.a8:=aa→af→af→ah→Int→Option (af×(Int))
def Bz.c5(N:Nat)(bc:Bz.a8)(x2:aa)(x3:af)(x4:af)(x6:ah)(x7:Int):Option (af×(Int)):=
 cond (aG x7 (List.length x2.1:Int)) ((qU N x2 x3 x7).bind fun r3=>cond (!ay r3.2 0) (some ((bK,(cg,(aY,(aY,(cD,(cJ,())))))),r3.2)) (cond (small (List.length x6+List.length r3.1)) (bc x2 x3 x4 (x6++r3.1) (W .i64 (x7+1))) (none))) ((wZ N x3 x6 ([]:List ((Int)×((Int)×(((Bool)×((List (Int))×(Unit)))×(Unit)))))).bind fun r6=>some (r6.1,r6.2))
def Bz.l5(N:Nat):Nat→Bz.a8
 |0,_,_,_,_,_=>none
 |n+1,x2,x3,x4,x6,x7=>Bz.c5 N (Bz.l5 N n) x2 x3 x4 x6 x7
def Bz.b(N:Nat)(dr:Bz.a8)(a0:aa)(a1:af):Option (af×(Int)):=
 (bR N a0 a1).bind fun r1=>cond (!r1) (some ((bK,(cg,(aY,(aY,(cD,(cJ,())))))),(1:Int))) (dr a0 a1 (bK,(cg,(aY,(aY,(cD,(cJ,())))))) ([]) (0:Int))
def Bz(N:Nat)(a0:aa)(a1:af):Option (af×(Int)):=Bz.b N (Bz.l5 N N) a0 a1
abbrev sF.SC:=aV→aV→ca→bb→Int→Int→Option (aV×ca)
def sF.aiD(N:Nat)(aaz:sF.SC)(x4:aV)(x6:aV)(x7:ca)(bp:bb)(c7:Int)(cQ:Int):Option (aV×ca):=
 cond (aG cQ (List.length bp:Int)) (cond (aH cQ (List.length bp)) (cond (ay (((((List.getD bp cQ.toNat ((0:Int),(bK,aK))).2).2).2).1) (2:Int)) (aaz x4 x6 x7 bp (W .i64 (c7+1)) (W .i64 (cQ+1))) (aaz x4 x6 x7 bp c7 (W .i64 (cQ+1)))) (none)) (some (x4,((0:Int),(c7,((0:Int),())))))
def sF.l41(N:Nat):Nat→sF.SC
 |0,_,_,_,_,_,_=>none
 |n+1,x4,x6,x7,bp,c7,cQ=>sF.aiD N (sF.l41 N n) x4 x6 x7 bp c7 cQ
def sF.b(N:Nat)(aiE:sF.SC)(a0:aa)(a1:aV)(a2:gM):Option (aV×ca):=
 cond (ay a2.1 14) ((Vm N a0 a1.2.2.1 a1.2.2.2.1.1 a2.2.1 a2.2.2.1).bind fun r1=>(eQ N r1.2).bind fun r2=>some ((a1.1,(a1.2.1,(r1.1,a1.2.2.2))),r2)) (cond (ay a2.1 15) ((fY N a0 a1.2.2.1 a1.2.2.2.1.1).bind fun r3=>(eQ N r3.2).bind fun r4=>some ((a1.1,(a1.2.1,(r3.1,((a1.2.2.2.1.1,((2:Int),((0:Int),a1.2.2.2.1.2.2.2))),a1.2.2.2.2)))),r4)) (cond (ay a2.1 16) ((mG N a0 a1.2.2.1 a1.2.1).bind fun r5=>some ((a1.1,((W .i64 (a1.2.1+(List.length r5.1:Int))),(a1.2.2.1,((a1.2.2.2.1.1,(a1.2.2.2.1.2.1,(a1.2.2.2.1.2.2.1,(a1.2.2.2.1.2.2.2.1,(r5.1,a1.2.2.2.1.2.2.2.2.2))))),a1.2.2.2.2)))),(r5.2,((List.length r5.1:Int),((0:Int),()))))) (cond (ay a2.1 17) ((oc N a0 a1 a2).bind fun r7=>some (r7.1,r7.2)) (cond (ay a2.1 18) (cond (ay a1.2.2.2.1.2.2.2.1 3) ((eQ N (5:Int)).bind fun r8=>some (a1,r8)) ((c6 N a0 a1.2.2.1 a1.2.1).bind fun r9=>cond (!ay r9.2 0) ((eQ N r9.2).bind fun gu=>some (a1,gu)) ((O9 N a1 a0.2.2.2.2.1).bind fun jQ=>cond (!jQ.2) ((eQ N (2:Int)).bind fun jg=>some (a1,jg)) ((n7 N a0 a1.2.2.1).bind fun mH=>some ((a1.1,((W .i64 (a1.2.1+(List.length r9.1:Int))),(a1.2.2.1,((a1.2.2.2.1.1,((3:Int),(jQ.1,((W .i64 (a1.2.2.2.1.2.2.2.1+1)),(cg,(r9.1,(cg,(mH.1,a1.2.2.2.1.2.2.2.2.2.2.2.2)))))))),a1.2.2.2.2)))),((0:Int),((List.length r9.1:Int),((0:Int),())))))))) (cond (ay a2.1 19) ((aiA N a0 a1.2.2.1 a1.2.2.2.1.2.2.2.2.2.1 a1.2.2.2.1.2.2.2.2.2.2.1 (a1.2.1,(a2.2.2.2.2.2.1,(a2.2.1,(a2.2.2.2.2.2.2.2.1,()))))).bind fun qP=>let v17:Int:=W .i64 (a1.2.1+1);some ((a1.1,(v17,(a1.2.2.1,((a1.2.2.2.1.1,(a1.2.2.2.1.2.1,(a1.2.2.2.1.2.2.1,(a1.2.2.2.1.2.2.2.1,(a1.2.2.2.1.2.2.2.2.1,(a1.2.2.2.1.2.2.2.2.2.1,(qP.1,a1.2.2.2.1.2.2.2.2.2.2.2))))))),a1.2.2.2.2)))),(qP.2,((W .i64 (v17-1)),((0:Int),()))))) (cond (ay a2.1 20) ((tO N a0 a1.2.2.1 a1.2.2.2.1.2.2.2.2.2.1 a1.2.2.2.1.2.2.2.2.2.2.1).bind fun Iz=>cond (!ay Iz.2.2 0) ((eQ N Iz.2.2).bind fun D6=>some (a1,D6)) ((dn N a0 a1.2.2.2.1.2.2.2.2.2.2.2.2.1 a1.2.2.2.1.2.2.2.2.2.2.2.1 Iz.2.1 a1.2.2.2.1.2.2.2.2.2.2.1).bind fun J4=>aiE (a1.1,(a1.2.1,(Iz.1,((a1.2.2.2.1.1,((2:Int),((0:Int),(a1.2.2.2.1.2.2.2.1,(a1.2.2.2.1.2.2.2.2.1,(Iz.2.1,(a1.2.2.2.1.2.2.2.2.2.2.1,(a1.2.2.2.1.2.2.2.2.2.2.2.1,(J4.1,a1.2.2.2.1.2.2.2.2.2.2.2.2.2))))))))),a1.2.2.2.2)))) ((0:Int),((0:Int),((bK,(cg,(aY,(aY,(cD,(cJ,())))))),(((0:Int),((0:Int),((0:Int),((0:Int),(cg,(([]:List ((Int)×((List ((Int)×((Int)×(Unit))))×((Int)×((Int)×((Int)×((Int)×(Unit)))))))),(cg,(cD,(bK,(bK,())))))))))),(((0:Int),((0:Int),(zi,((0:Int),())))),()))))) aL Iz.2.1 (0:Int) (0:Int))) (cond (ay a2.1 21) ((ia N a0 a1.2.2.1 a1.2.2.2.1.1 a1.2.2.2.1.2.2.2.2.2.2.2.2.1 a1.2.2.2.1.2.2.2.2.2.2.2.2.2.1).bind fun yu=>cond (!ay yu.2.2 0) ((eQ N yu.2.2).bind fun Pj=>some (a1,Pj)) ((Bz N a0 yu.1).bind fun r28=>cond (!ay r28.2 0) ((eQ N r28.2).bind fun D3=>some (a1,D3)) ((mh N r28.1.1 a1.2.2.2.1.1 a2.1).bind fun LK=>some ((a1.1,(a1.2.1,((LK.1,r28.1.2),(((0:Int),((0:Int),((0:Int),((0:Int),(cg,(([]:List ((Int)×((List ((Int)×((Int)×(Unit))))×((Int)×((Int)×((Int)×((Int)×(Unit)))))))),(cg,(cD,(bK,(bK,())))))))))),(yu.2.1,a1.2.2.2.2.2))))),(LK.2,((0:Int),(yu.2.1.2.1,()))))))) ((eQ N (0:Int)).bind fun Nk=>some (a1,Nk)))))))))
def sF(N:Nat)(a0:aa)(a1:aV)(a2:gM):Option (aV×ca):=sF.b N (sF.l41 N N) a0 a1 a2
abbrev xi.Sz:=aa→aV→gM→aV→ca→Option (aV×ca)
def xi.O3(N:Nat)(x3:aa)(x4:aV)(x5:gM)(x6:aV)(x7:ca):Option (aV×ca):=
 (Vt N x4 x5.1).bind fun Pj=>cond (!Pj) ((eQ N (6:Int)).bind fun r28=>some (x4,r28)) ((sF N x3 x4 x5).bind fun D3=>some (D3.1,D3.2))
def xi.Vo(N:Nat)(x3:aa)(x4:aV)(x5:gM)(x6:aV)(x7:ca):Option (aV×ca):=xi.O3 N x3 x4 x5 x6 x7
def xi.b(N:Nat)(IA:xi.Sz)(a0:aa)(a1:aV)(a2:gM):Option (aV×ca):=
 cond (ay a2.1 11) ((mh N a1.2.2.1.1 a2.2.1 a2.1).bind fun r1=>cond (ay r1.2 0) (cond (ay a2.1 11) ((R6 N a0 (r1.1,a1.2.2.1.2) a2.2.1).bind fun r2=>cond (ay a1.2.2.2.1.2.1 3) ((rr N a1.2.2.2.1.2.2.2.2.2.2.1 a2.2.1).bind fun r3=>(eQ N r1.2).bind fun r4=>some ((a1.1,(a1.2.1,(r2.1,((a1.2.2.2.1.1,(a1.2.2.2.1.2.1,(a1.2.2.2.1.2.2.1,(a1.2.2.2.1.2.2.2.1,(a1.2.2.2.1.2.2.2.2.1,(a1.2.2.2.1.2.2.2.2.2.1,(r3,a1.2.2.2.1.2.2.2.2.2.2.2))))))),a1.2.2.2.2)))),r4)) ((eQ N r1.2).bind fun r5=>some ((a1.1,(a1.2.1,(r2.1,a1.2.2.2))),r5))) ((eQ N r1.2).bind fun r6=>some ((a1.1,(a1.2.1,((r1.1,a1.2.2.1.2),a1.2.2.2))),r6))) ((eQ N r1.2).bind fun r7=>some ((a1.1,(a1.2.1,((r1.1,a1.2.2.1.2),a1.2.2.2))),r7))) (cond (ay a2.1 12) ((mh N a1.2.2.1.1 a2.2.1 a2.1).bind fun r8=>cond (ay r8.2 0) (cond (ay a2.1 11) ((R6 N a0 (r8.1,a1.2.2.1.2) a2.2.1).bind fun r9=>cond (ay a1.2.2.2.1.2.1 3) ((rr N a1.2.2.2.1.2.2.2.2.2.2.1 a2.2.1).bind fun gu=>(eQ N r8.2).bind fun jQ=>some ((a1.1,(a1.2.1,(r9.1,((a1.2.2.2.1.1,(a1.2.2.2.1.2.1,(a1.2.2.2.1.2.2.1,(a1.2.2.2.1.2.2.2.1,(a1.2.2.2.1.2.2.2.2.1,(a1.2.2.2.1.2.2.2.2.2.1,(gu,a1.2.2.2.1.2.2.2.2.2.2.2))))))),a1.2.2.2.2)))),jQ)) ((eQ N r8.2).bind fun jg=>some ((a1.1,(a1.2.1,(r9.1,a1.2.2.2))),jg))) ((eQ N r8.2).bind fun jy=>some ((a1.1,(a1.2.1,((r8.1,a1.2.2.1.2),a1.2.2.2))),jy))) ((eQ N r8.2).bind fun mH=>some ((a1.1,(a1.2.1,((r8.1,a1.2.2.1.2),a1.2.2.2))),mH))) (cond (ay a2.1 13) ((FG N a1 a2.2.1).bind fun nW=>cond (ay nW 0) ((eQ N (3:Int)).bind fun qP=>some (a1,qP)) (cond (!ay a1.2.2.2.1.2.1 0) ((eQ N (6:Int)).bind fun rq=>some (a1,rq)) ((mh N a1.2.2.1.1 a2.2.1 a2.1).bind fun uH=>cond (!ay uH.2 0) ((eQ N uH.2).bind fun Iz=>some ((a1.1,(a1.2.1,((uH.1,a1.2.2.1.2),a1.2.2.2))),Iz)) ((O9 N (a1.1,(a1.2.1,((uH.1,a1.2.2.1.2),a1.2.2.2))) a0.2.2.2.1).bind fun D6=>cond (!D6.2) ((eQ N (2:Int)).bind fun J4=>some ((a1.1,(a1.2.1,((uH.1,a1.2.2.1.2),a1.2.2.2))),J4)) (some ((a1.1,(a1.2.1,((uH.1,a1.2.2.1.2),((a2.2.1,((1:Int),(D6.1,((0:Int),(cg,(([]:List ((Int)×((List ((Int)×((Int)×(Unit))))×((Int)×((Int)×((Int)×((Int)×(Unit)))))))),(cg,(cD,(bK,(bK,())))))))))),a1.2.2.2.2)))),aL)))))) (cond (ay a2.1 19) ((FG N a1 a2.2.1).bind fun J7=>cond (ay J7 0) ((eQ N (3:Int)).bind fun BB=>some (a1,BB)) ((FG N a1 a2.2.1).bind fun F5=>cond (!ay F5 1) ((eQ N (7:Int)).bind fun D5=>some (a1,D5)) (IA a0 a1 a2 ((0:Int),((0:Int),((bK,(cg,(aY,(aY,(cD,(cJ,())))))),(((0:Int),((0:Int),((0:Int),((0:Int),(cg,(([]:List ((Int)×((List ((Int)×((Int)×(Unit))))×((Int)×((Int)×((Int)×((Int)×(Unit)))))))),(cg,(cD,(bK,(bK,())))))))))),(((0:Int),((0:Int),(zi,((0:Int),())))),()))))) aL))) (IA a0 a1 a2 ((0:Int),((0:Int),((bK,(cg,(aY,(aY,(cD,(cJ,())))))),(((0:Int),((0:Int),((0:Int),((0:Int),(cg,(([]:List ((Int)×((List ((Int)×((Int)×(Unit))))×((Int)×((Int)×((Int)×((Int)×(Unit)))))))),(cg,(cD,(bK,(bK,())))))))))),(((0:Int),((0:Int),(zi,((0:Int),())))),()))))) aL))))
def xi(N:Nat)(a0:aa)(a1:aV)(a2:gM):Option (aV×ca):=xi.b N (xi.Vo N) a0 a1 a2
def aiF(N:Nat)(a0:aa)(a1:aV)(a2:gM):Option (aV×ca):=
 cond (ay a2.1 1) ((hX N a1.2.2.1.1 a2.2.1).bind fun r1=>(eQ N r1.2).bind fun r2=>some ((a1.1,(a1.2.1,((r1.1,a1.2.2.1.2),a1.2.2.2))),r2)) (cond (ay a2.1 2) ((eP N a1.2.2.1.1 a1.2.2.1.2.1 (a2.2.2.1,(a2.2.1,(a2.2.2.2.2.1,((0:Int),()))))).bind fun r3=>(eQ N r3.2).bind fun r4=>some ((a1.1,(a1.2.1,((a1.2.2.1.1,(r3.1,a1.2.2.1.2.2)),a1.2.2.2))),r4)) (cond (ay a2.1 3) ((Sj N a1 a2.2.2.1).bind fun r5=>cond (!r5) ((eQ N (3:Int)).bind fun r6=>some (a1,r6)) ((Pb N a1 (1:Int) (0:Int) (5:Int) a2.2.2.1 a2.2.2.2.2.2.2.1).bind fun r7=>some (r7.1,r7.2))) (cond (ay a2.1 4) ((Vl N a0 a1.2.2.1 a2.2.2.1 a2.2.2.2.2.2.2.1).bind fun r8=>(eQ N r8.2).bind fun r9=>some ((a1.1,(a1.2.1,(r8.1,a1.2.2.2))),r9)) (cond (ay a2.1 5) ((FG N a1 a2.2.1).bind fun gu=>cond (ay gu 0) ((eQ N (3:Int)).bind fun jQ=>some (a1,jQ)) ((FG N a1 a2.2.1).bind fun jg=>cond (!ay jg 1) ((eQ N (7:Int)).bind fun jy=>some (a1,jy)) ((Pb N a1 (1:Int) (0:Int) (6:Int) a2.2.1 a2.2.2.2.2.2.2.1).bind fun mH=>some (mH.1,mH.2)))) (cond (ay a2.1 22) ((FG N a1 a2.2.1).bind fun nW=>cond (ay nW 0) ((eQ N (3:Int)).bind fun qP=>some (a1,qP)) ((qE N a1.2.2.1.2.2.1 (7:Int) a2.2.1).bind fun rq=>(fN N rq).bind fun uH=>(Px N uH).bind fun Iz=>(fN N a2.2.2.2.2.2.2.1).bind fun D6=>(C3 N D6 Iz).bind fun J4=>cond (aG 0 J4) ((eQ N (9:Int)).bind fun J7=>some (a1,J7)) ((Pb N a1 (1:Int) (0:Int) (7:Int) a2.2.1 a2.2.2.2.2.2.2.1).bind fun BB=>some (BB.1,BB.2)))) (cond (ay a2.1 6) ((nY N a1.2.2.1.2.1 a2.2.2.1 a2.2.2.2.2.2.2.1).bind fun F5=>(eQ N F5.2).bind fun D5=>some ((a1.1,(a1.2.1,((a1.2.2.1.1,(F5.1,a1.2.2.1.2.2)),a1.2.2.2))),D5)) (cond (ay a2.1 7) ((jK N a0 a1.2.2.1 (a1.2.1,(a2.2.2.1,(a2.2.2.2.1,(a2.2.2.2.2.1,(a2.2.2.2.2.2.2.1,(a2.2.2.2.2.2.2.2.1,()))))))).bind fun yu=>let v27:Int:=W .i64 (a1.2.1+1);some ((a1.1,(v27,(yu.1,a1.2.2.2))),(yu.2.2.2,((W .i64 (v27-1)),((W .i64 (a2.2.2.2.2.2.2.1-yu.2.2.1)),()))))) (cond (ay a2.1 8) ((Sj N a1 a2.2.2.1).bind fun LK=>cond (!LK) ((eQ N (3:Int)).bind fun Nk=>some (a1,Nk)) ((n4 N a1.2.2.1.2.2.2.2.2.1 a2.2.2.1 a2.2.2.2.2.2.1).bind fun r32=>(eQ N r32.2).bind fun r33=>some ((a1.1,(a1.2.1,((a1.2.2.1.1,(a1.2.2.1.2.1,(a1.2.2.1.2.2.1,(a1.2.2.1.2.2.2.1,(a1.2.2.1.2.2.2.2.1,(r32.1,a1.2.2.1.2.2.2.2.2.2)))))),a1.2.2.2))),r33))) (cond (ay a2.1 9) ((Vk N a0 a1.2.2.1 a2.2.2.2.1 a2.2.2.2.2.2.2.2.1).bind fun Sq=>cond (ay Sq.2.2 0) (cond (!ay a1.2.2.2.1.2.1 0) ((dk N a1.2.2.2.1.2.2.2.2.2.2.2.2.2.1 Sq.2.1).bind fun r35=>(eQ N r35.2).bind fun r36=>some ((a1.1,(a1.2.1,(Sq.1,((a1.2.2.2.1.1,(a1.2.2.2.1.2.1,(a1.2.2.2.1.2.2.1,(a1.2.2.2.1.2.2.2.1,(a1.2.2.2.1.2.2.2.2.1,(a1.2.2.2.1.2.2.2.2.2.1,(a1.2.2.2.1.2.2.2.2.2.2.1,(a1.2.2.2.1.2.2.2.2.2.2.2.1,(a1.2.2.2.1.2.2.2.2.2.2.2.2.1,(r35.1,a1.2.2.2.1.2.2.2.2.2.2.2.2.2.2)))))))))),a1.2.2.2.2)))),r36)) ((eQ N Sq.2.2).bind fun r37=>some ((a1.1,(a1.2.1,(Sq.1,a1.2.2.2))),r37))) ((eQ N Sq.2.2).bind fun r38=>some ((a1.1,(a1.2.1,(Sq.1,a1.2.2.2))),r38))) (cond (ay a2.1 10) ((O9 N a1 a2.2.2.2.2.2.2.1).bind fun r39=>cond (!r39.2) ((eQ N (2:Int)).bind fun r40=>some (a1,r40)) (some ((r39.1,a1.2),aL))) ((xi N a0 a1 a2).bind fun r41=>some (r41.1,r41.2))))))))))))
def aiG(N:Nat)(a0:aa)(a1:aV)(a2:gM):Option (aV×ca):=
 (iX N a0).bind fun r1=>cond (!r1) (some (a1,((1:Int),bI))) ((nX N a2).bind fun r2=>cond (!r2) (some (a1,((1:Int),bI))) ((aiF N a0 a1 a2).bind fun r3=>cond (!ay r3.2.1 0) (some (a1,(r3.2.1,bI))) (some (r3.1,r3.2))))
abbrev IC.e9:=gv→aa→aV→aV→ah→Int→Option (aV×ah)
def IC.pJ(N:Nat)(fa:IC.e9)(x1:gv)(x2:aa)(x4:aV)(x6:aV)(x8:ah)(x9:Int):Option (aV×ah):=
 cond (aG x9 (List.length x1:Int)) (cond (aH x9 (List.length x1)) ((aiG N x2 x6 (List.getD x1 x9.toNat zz8)).bind fun r3=>cond (small (List.length x8+List.length ([r3.2]))) (fa x1 x2 x4 r3.1 (x8++([r3.2])) (W .i64 (x9+1))) (none)) (none)) (some (x6,x8))
def IC.l6(N:Nat):Nat→IC.e9
 |0,_,_,_,_,_,_=>none
 |n+1,x1,x2,x4,x6,x8,x9=>IC.pJ N (IC.l6 N n) x1 x2 x4 x6 x8 x9
def IC.b(N:Nat)(qY:IC.e9)(a0:aa)(a1:gv):Option (aV×ah):=
 (aiu N a0).bind fun r1=>cond (!ay r1.2 0) (some (((0:Int),((0:Int),((bK,(cg,(aY,(aY,(cD,(cJ,())))))),(((0:Int),((0:Int),((0:Int),((0:Int),(cg,(([]:List ((Int)×((List ((Int)×((Int)×(Unit))))×((Int)×((Int)×((Int)×((Int)×(Unit)))))))),(cg,(cD,(bK,(bK,())))))))))),(((0:Int),((0:Int),(zi,((0:Int),())))),()))))),[])) (qY a1 a0 ((0:Int),((0:Int),((bK,(cg,(aY,(aY,(cD,(cJ,())))))),(((0:Int),((0:Int),((0:Int),((0:Int),(cg,(([]:List ((Int)×((List ((Int)×((Int)×(Unit))))×((Int)×((Int)×((Int)×((Int)×(Unit)))))))),(cg,(cD,(bK,(bK,())))))))))),(((0:Int),((0:Int),(zi,((0:Int),())))),()))))) r1.1 ([]) (0:Int))
def IC(N:Nat)(a0:aa)(a1:gv):Option (aV×ah):=IC.b N (IC.l6 N N) a0 a1
def F28(N:Nat)(a0:aP)(a1:aa)(a2:Int):Option (aV×aP):=
 (zH N a0 a1 a2).bind fun r1=>(m8 N r1.2 (2:Int)).bind fun r2=>let v3:Int:=W .i64 ((1:Int)+r2.1);cond (small (List.length r1.1+List.length ([((11:Int),(v3,dP)),((13:Int),(v3,dP))]))) (let v4:List ((Int)×((Int)×((Int)×((Int)×((Int)×((Int)×((Int)×((Int)×(Unit))))))))):=r1.1++([((11:Int),(v3,dP)),((13:Int),(v3,dP))]);(y8 N r2.2 a1).bind fun r5=>cond (small (List.length v4+List.length r5.1)) (let v6:List ((Int)×((Int)×((Int)×((Int)×((Int)×((Int)×((Int)×((Int)×(Unit))))))))):=v4++r5.1;cond (small (List.length v6+List.length ([((10:Int),((0:Int),((0:Int),((0:Int),((0:Int),((0:Int),((2:Int),((0:Int),())))))))),((15:Int),ZS)]))) (let v7:List ((Int)×((Int)×((Int)×((Int)×((Int)×((Int)×((Int)×((Int)×(Unit))))))))):=v6++([((10:Int),((0:Int),((0:Int),((0:Int),((0:Int),((0:Int),((2:Int),((0:Int),())))))))),((15:Int),ZS)]);(y8 N r5.2 a1).bind fun r8=>cond (small (List.length v7+List.length r8.1)) ((IC N a1 (v7++r8.1)).bind fun gu=>some (gu.1,r8.2)) (none)) (none)) (none)) (none)
abbrev mI.aW:=aE→aE→Int→Option (Bool)
def mI.cA(N:Nat)(bz:mI.aW)(x0:aE)(x1:aE)(x5:Int):Option (Bool):=
 cond (aG x5 (List.length x0:Int)) (cond (aH x5 (List.length x0)) (cond (aH x5 (List.length x1)) (cond (!(jO (.pair (.int .i64) (.pair (.int .i64) (.pair (.int .i64) (.pair (.int .i64) .unit)))) (List.getD x0 x5.toNat aK) (List.getD x1 x5.toNat aK))) (some false) (bz x0 x1 (W .i64 (x5+1)))) (none)) (none)) (some true)
def mI.l4(N:Nat):Nat→mI.aW
 |0,_,_,_=>none
 |n+1,x0,x1,x5=>mI.cA N (mI.l4 N n) x0 x1 x5
def mI.b(N:Nat)(c3:mI.aW)(a0:aE)(a1:aE):Option (Bool):=
 cond (!ay (List.length a0:Int) (List.length a1:Int)) (some false) (c3 a0 a1 (0:Int))
def mI(N:Nat)(a0:aE)(a1:aE):Option (Bool):=mI.b N (mI.l4 N N) a0 a1
def F46(N:Nat)(a0:aS):Option aw:=
 (fN N a0.1).bind fun r1=>(N8 N false ([(0:Int),(0:Int),(1:Int)])).bind fun r2=>(fZ N r1 r2).bind fun r3=>(F67 N a0.2.1).bind fun r4=>(N8 N false r4).bind fun r5=>(tF N r3 r5).bind fun r6=>some r6
def U3(N:Nat)(a0:aS)(a1:aw):Option (Bool):=
 (F46 N a0).bind fun r1=>(C3 N r1 a1).bind fun r2=>some (ay r2 0)
abbrev mC.aW:=av→av→Int→Option (Bool)
def mC.cA(N:Nat)(bz:mC.aW)(x0:av)(x1:av)(x5:Int):Option (Bool):=
 cond (aG x5 (List.length x0:Int)) (cond (aH x5 (List.length x0)) (cond (aH x5 (List.length x1)) (cond (!(jO (.pair (.int .i64) (.pair (.int .i64) .unit)) (List.getD x0 x5.toNat bI) (List.getD x1 x5.toNat bI))) (some false) (bz x0 x1 (W .i64 (x5+1)))) (none)) (none)) (some true)
def mC.l4(N:Nat):Nat→mC.aW
 |0,_,_,_=>none
 |n+1,x0,x1,x5=>mC.cA N (mC.l4 N n) x0 x1 x5
def mC.b(N:Nat)(c3:mC.aW)(a0:av)(a1:av):Option (Bool):=
 cond (!ay (List.length a0:Int) (List.length a1:Int)) (some false) (c3 a0 a1 (0:Int))
def mC(N:Nat)(a0:av)(a1:av):Option (Bool):=mC.b N (mC.l4 N N) a0 a1
abbrev mD.aW:=aE→aE→Int→Option (Bool)
def mD.cA(N:Nat)(bz:mD.aW)(x0:aE)(x1:aE)(x5:Int):Option (Bool):=
 cond (aG x5 (List.length x0:Int)) (cond (aH x5 (List.length x0)) (cond (aH x5 (List.length x1)) (cond (!(jO (.pair (.int .i64) (.pair (.int .i64) (.pair (.int .i64) (.pair (.int .i64) .unit)))) (List.getD x0 x5.toNat aK) (List.getD x1 x5.toNat aK))) (some false) (bz x0 x1 (W .i64 (x5+1)))) (none)) (none)) (some true)
def mD.l4(N:Nat):Nat→mD.aW
 |0,_,_,_=>none
 |n+1,x0,x1,x5=>mD.cA N (mD.l4 N n) x0 x1 x5
def mD.b(N:Nat)(c3:mD.aW)(a0:aE)(a1:aE):Option (Bool):=
 cond (!ay (List.length a0:Int) (List.length a1:Int)) (some false) (c3 a0 a1 (0:Int))
def mD(N:Nat)(a0:aE)(a1:aE):Option (Bool):=mD.b N (mD.l4 N N) a0 a1
abbrev yY.aW:=ah→ah→Int→Option (Bool)
def yY.cA(N:Nat)(bz:yY.aW)(x0:ah)(x1:ah)(x5:Int):Option (Bool):=
 cond (aG x5 (List.length x0:Int)) (cond (aH x5 (List.length x0)) (cond (aH x5 (List.length x1)) (cond (!(jO (.pair (.int .i64) (.pair (.int .i64) (.pair (.int .i64) .unit))) (List.getD x0 x5.toNat aL) (List.getD x1 x5.toNat aL))) (some false) (bz x0 x1 (W .i64 (x5+1)))) (none)) (none)) (some true)
def yY.l4(N:Nat):Nat→yY.aW
 |0,_,_,_=>none
 |n+1,x0,x1,x5=>yY.cA N (yY.l4 N n) x0 x1 x5
def yY.b(N:Nat)(c3:yY.aW)(a0:ah)(a1:ah):Option (Bool):=
 cond (!ay (List.length a0:Int) (List.length a1:Int)) (some false) (c3 a0 a1 (0:Int))
def yY(N:Nat)(a0:ah)(a1:ah):Option (Bool):=yY.b N (yY.l4 N N) a0 a1
abbrev yZ.aW:=ah→ah→Int→Option (Bool)
def yZ.cA(N:Nat)(bz:yZ.aW)(x0:ah)(x1:ah)(x5:Int):Option (Bool):=
 cond (aG x5 (List.length x0:Int)) (cond (aH x5 (List.length x0)) (cond (aH x5 (List.length x1)) (cond (!(jO (.pair (.int .i64) (.pair (.int .i64) (.pair (.int .i64) .unit))) (List.getD x0 x5.toNat aL) (List.getD x1 x5.toNat aL))) (some false) (bz x0 x1 (W .i64 (x5+1)))) (none)) (none)) (some true)
def yZ.l4(N:Nat):Nat→yZ.aW
 |0,_,_,_=>none
 |n+1,x0,x1,x5=>yZ.cA N (yZ.l4 N n) x0 x1 x5
def yZ.b(N:Nat)(c3:yZ.aW)(a0:ah)(a1:ah):Option (Bool):=
 cond (!ay (List.length a0:Int) (List.length a1:Int)) (some false) (c3 a0 a1 (0:Int))
def yZ(N:Nat)(a0:ah)(a1:ah):Option (Bool):=yZ.b N (yZ.l4 N N) a0 a1
abbrev y4.aW:=(List (Int))→(List (Int))→Int→Option (Bool)
def y4.cA(N:Nat)(bz:y4.aW)(x0:List (Int))(x1:List (Int))(x5:Int):Option (Bool):=
 cond (aG x5 (List.length x0:Int)) (cond (aH x5 (List.length x0)) (cond (aH x5 (List.length x1)) (cond (!ay (List.getD x0 x5.toNat (0:Int)) (List.getD x1 x5.toNat (0:Int))) (some false) (bz x0 x1 (W .i64 (x5+1)))) (none)) (none)) (some true)
def y4.l4(N:Nat):Nat→y4.aW
 |0,_,_,_=>none
 |n+1,x0,x1,x5=>y4.cA N (y4.l4 N n) x0 x1 x5
def y4.b(N:Nat)(c3:y4.aW)(a0:List (Int))(a1:List (Int)):Option (Bool):=
 cond (!ay (List.length a0:Int) (List.length a1:Int)) (some false) (c3 a0 a1 (0:Int))
def y4(N:Nat)(a0:List (Int))(a1:List (Int)):Option (Bool):=y4.b N (y4.l4 N N) a0 a1
abbrev y3.aW:=aT→aT→Int→Option (Bool)
def y3.cA(N:Nat)(bz:y3.aW)(x0:aT)(x1:aT)(x5:Int):Option (Bool):=
 cond (aG x5 (List.length x0:Int)) (cond (aH x5 (List.length x0)) (cond (aH x5 (List.length x1)) (cond (!(jO (.pair (.int .i64) (.pair (.int .i64) (.pair (.int .i64) (.pair (.int .i64) (.pair (.int .i64) (.pair (.int .i64) .unit)))))) (List.getD x0 x5.toNat dP) (List.getD x1 x5.toNat dP))) (some false) (bz x0 x1 (W .i64 (x5+1)))) (none)) (none)) (some true)
def y3.l4(N:Nat):Nat→y3.aW
 |0,_,_,_=>none
 |n+1,x0,x1,x5=>y3.cA N (y3.l4 N n) x0 x1 x5
def y3.b(N:Nat)(c3:y3.aW)(a0:aT)(a1:aT):Option (Bool):=
 cond (!ay (List.length a0:Int) (List.length a1:Int)) (some false) (c3 a0 a1 (0:Int))
def y3(N:Nat)(a0:aT)(a1:aT):Option (Bool):=y3.b N (y3.l4 N N) a0 a1
def F57(N:Nat)(a0:af)(a1:af):Option (Bool):=
 (mC N a0.1 a1.1).bind fun r1=>cond (r1) ((mD N a0.2.1 a1.2.1).bind fun r2=>cond (r2) ((yY N a0.2.2.1 a1.2.2.1).bind fun r3=>cond (r3) ((yZ N a0.2.2.2.1 a1.2.2.2.1).bind fun r4=>cond (r4) ((y4 N a0.2.2.2.2.1 a1.2.2.2.2.1).bind fun r5=>cond (r5) ((y3 N a0.2.2.2.2.2.1 a1.2.2.2.2.2.1).bind fun r6=>some r6) (some false)) (some false)) (some false)) (some false)) (some false)
abbrev tj.we:=br→cX→ij→af→af→Int→Option (Bool)
def tj.Fu(N:Nat)(SD:tj.we)(x9:br)(b8:cX)(cQ:ij)(x23:af)(x26:af)(Nj:Int):Option (Bool):=
 cond (aG Nj (List.length b8:Int)) (cond (aH Nj (List.length b8)) (cond (aH Nj (List.length cQ)) ((U3 N (List.getD b8 Nj.toNat bI) (List.getD cQ Nj.toNat (false,kQ))).bind fun r9=>cond (!r9) (some false) (SD x9 b8 cQ x23 x26 (W .i64 (Nj+1)))) (none)) (none)) ((F57 N x23 x26).bind fun jQ=>cond (jQ) ((F48 N x9).bind fun jg=>(OW N x9).bind fun jy=>some (jO .bool jg jy)) (some false))
def tj.Nc(N:Nat):Nat→tj.we
 |0,_,_,_,_,_,_=>none
 |n+1,x9,b8,cQ,x23,x26,Nj=>tj.Fu N (tj.Nc N n) x9 b8 cQ x23 x26 Nj
def tj.b(N:Nat)(SE:tj.we)(a0:aa)(a1:af)(a2:br)(a3:Int)(a4:Int)(a5:Int)(a6:Int):Option (Bool):=
 (vT N a0 a1).bind fun r1=>(jJ N a0 a1).bind fun r2=>(pZ N a0 a1 a3).bind fun r3=>(mG N a0 a1 a3).bind fun r4=>(Bt N a0 a1 a2 a4 a5 a6).bind fun r5=>(me N a0 a1 a2 a4 a5 a6).bind fun r6=>cond (!ay r1.2 r2.2) (some false) (cond (!ay r3.2 r4.2) (some false) (cond (!ay r5.2.2 r6.2.2) (some false) (cond (!ay (List.length r1.1:Int) (List.length r2.1:Int)) (some false) ((mI N r3.1 r4.1).bind fun r7=>cond (!r7) (some false) (cond (!(jO (.pair (.int .i64) (.pair (.int .i64) (.pair (.int .i64) (.pair (.int .i64) .unit)))) r5.2.1 r6.2.1)) (some false) (SE a2 r1.1 r2.1 r5.1 r6.1 (0:Int)))))))
def tj(N:Nat)(a0:aa)(a1:af)(a2:br)(a3:Int)(a4:Int)(a5:Int)(a6:Int):Option (Bool):=tj.b N (tj.Nc N N) a0 a1 a2 a3 a4 a5 a6
abbrev F9.we:=aP→aa→aV→aE→Int→Option (Bool)
def F9.Fu(N:Nat)(SD:F9.we)(x5:aP)(x6:aa)(x7:aV)(x8:aE)(aQ:Int):Option (Bool):=
 cond (aG aQ (List.length x8:Int)) (cond (aH aQ (List.length x8)) ((m8 N x5 (7:Int)).bind fun uH=>(F42 N uH.2).bind fun D6=>cond (aH aQ (List.length x8)) (let v21:Int:=W .u64 (((((List.getD x8 aQ.toNat aK).2).2).2).1);cond (ay v21 0) (none) (cond (aH aQ (List.length x8)) (cond (aH (((List.getD x8 aQ.toNat aK).2).1) (List.length x7.2.2.1.2.2.2.2.1)) ((tj N x6 x7.2.2.1 (List.getD x8 aQ.toNat aK) x7.2.1 (W .i64 ((1:Int)+uH.1)) (W .i64 ((1:Int)+(W .i64 (rem D6.1 v21)))) (List.getD x7.2.2.1.2.2.2.2.1 (((List.getD x8 aQ.toNat aK).2).1).toNat (0:Int))).bind fun D5=>cond (!D5) (some false) (SD D6.2 x6 x7 x8 (W .i64 (aQ+1)))) (none)) (none))) (none)) (none)) (some true)
def F9.Nc(N:Nat):Nat→F9.we
 |0,_,_,_,_,_=>none
 |n+1,x5,x6,x7,x8,aQ=>F9.Fu N (F9.Nc N n) x5 x6 x7 x8 aQ
def F9.b(N:Nat)(SE:F9.we)(a0:List (Int))(a1:Int):Option (Bool):=
 (F38 N).bind fun r1=>cond (!r1) (some false) ((F13 N a0).bind fun r2=>(qS N r2).bind fun r3=>(F28 N r3.2 r3.1 (20:Int)).bind fun r4=>(mG N r3.1 r4.1.2.2.1 r4.1.2.1).bind fun r5=>(m8 N r4.2 (2:Int)).bind fun r6=>(m8 N r6.2 (9:Int)).bind fun r8=>(m8 N r8.2 (7:Int)).bind fun gu=>(m8 N gu.2 (9:Int)).bind fun jg=>(m8 N jg.2 (300:Int)).bind fun mH=>(tj N r3.1 r4.1.2.2.1 ((1:Int),((0:Int),((W .i64 ((1:Int)+r6.1)),((W .i64 ((1:Int)+r8.1)),())))) a1 (W .i64 ((1:Int)+gu.1)) (W .i64 ((1:Int)+jg.1)) (W .i64 ((1:Int)+mH.1))).bind fun qP=>cond (!qP) (some false) (SE mH.2 r3.1 r4.1 r5.1 (0:Int)))
def F9(N:Nat)(a0:List (Int))(a1:Int):Option (Bool):=F9.b N (F9.Nc N N) a0 a1
end
end VM.F
