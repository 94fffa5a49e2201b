/- A part of the proof of AwardDrawn of layer 25: the functions as equations between values, printed by a program. -/
import Derived.Test.YtocmlaipoebfeaaGreatVm0
set_option linter.all false
namespace VM.F
open Go VM
set_option maxRecDepth 100000
noncomputable section
abbrev pP:Ty:=(.pair .str .unit)
abbrev gN:Ty:=(.pair .str (.pair (.int .u64) .unit))
abbrev gB:Ty:=(.pair (.int .i64) (.pair (.int .i64) .unit))
abbrev gJ:Ty:=(.pair (.int .i64) (.pair (.int .u64) .unit))
abbrev bN:Ty:=(.pair .bool (.pair (.slice (.int .u64)) .unit))
abbrev c3:Ty:=(.pair (.slice (.int .u64)) (.pair (.int .i64) .unit))
abbrev fN:Ty:=(.pair (.int .i64) gB)
abbrev pQ:Ty:=(.pair (.int .i64) (.pair (.int .i64) (.pair .bool (.pair (.int .u8) .unit))))
abbrev cL:Ty:=(.pair (.int .i64) fN)
abbrev qX:Ty:=(.pair (.int .i64) (.pair (.int .i64) (.pair gJ .unit)))
abbrev oQ:Ty:=(.pair (.int .i64) cL)
abbrev ng:Ty:=(.pair (.int .i64) (.pair (.int .i64) (.pair bN .unit)))
abbrev jv:Ty:=(.pair (.int .i64) oQ)
abbrev mm:Ty:=(.pair (.int .i64) (.pair (.int .i64) jv))
abbrev dM:Ty:=(.pair (.int .i64) (.pair (.slice gB) cL))
abbrev dS:Ty:=(.pair (.int .i64) (.pair (.int .i64) (.pair (.slice oQ) (.pair (.int .i64) .unit))))
abbrev an:Ty:=(.pair (.slice cL) jv)
abbrev aC:Ty:=(.pair (.slice gB) (.pair (.slice cL) (.pair (.slice fN) (.pair (.slice fN) (.pair (.slice (.int .i64)) (.pair (.slice jv) .unit))))))
abbrev kQ:Ty:=(.pair (.int .i64) (.pair (.int .i64) (.pair (.int .i64) (.pair (.int .i64) (.pair (.slice cL) (.pair (.slice dM) (.pair (.slice cL) (.pair (.slice (.int .i64)) (.pair (.slice gB) (.pair (.slice gB) .unit))))))))))
abbrev bM:Ty:=(.pair (.int .i64) (.pair (.int .i64) (.pair aC (.pair kQ (.pair dS .unit)))))
abbrev PV:=Ty.den pP
abbrev PW:=List (Ty.den pP)
abbrev Fj:=Ty.den gN
abbrev Fk:=List (Ty.den gN)
abbrev KV:=Ty.den gB
abbrev ax:=List (Ty.den gB)
abbrev c7:=Ty.den gJ
abbrev gO:=List (Ty.den gJ)
abbrev av:=Ty.den bN
abbrev kN:=List (Ty.den bN)
abbrev aK:=Ty.den c3
abbrev ajd:=List (Ty.den c3)
abbrev cy:=Ty.den fN
abbrev aj:=List (Ty.den fN)
abbrev PX:=Ty.den pQ
abbrev PY:=List (Ty.den pQ)
abbrev bs:=Ty.den cL
abbrev ay:=List (Ty.den cL)
abbrev pz:=Ty.den qX
abbrev cf:=List (Ty.den qX)
abbrev uE:=Ty.den oQ
abbrev bk:=List (Ty.den oQ)
abbrev Yq:=Ty.den ng
abbrev bl:=List (Ty.den ng)
abbrev fD:=Ty.den jv
abbrev aZ:=List (Ty.den jv)
abbrev fm:=Ty.den mm
abbrev fE:=List (Ty.den mm)
abbrev cF:=Ty.den dM
abbrev aA:=List (Ty.den dM)
abbrev cS:=Ty.den dS
abbrev adX:=List (Ty.den dS)
abbrev ae:=Ty.den an
abbrev adY:=List (Ty.den an)
abbrev ah:=Ty.den aC
abbrev aje:=List (Ty.den aC)
abbrev ab4:=Ty.den kQ
abbrev ab5:=List (Ty.den kQ)
abbrev aI:=Ty.den bM
abbrev ahB:=List (Ty.den bM)
def F51(N:Nat):Option (ae×ah×aA):=
 some (([((0:Int),((100:Int),bP))],((0:Int),((0:Int),((0:Int),((0:Int),((1:Int),((0:Int),()))))))),([((1:Int),((1:Int),())),((2:Int),((1:Int),()))],([((1:Int),((1:Int),((1:Int),((0:Int),())))),((2:Int),((2:Int),((1:Int),((0:Int),()))))],(bc,([((0:Int),((0:Int),((5:Int),()))),((2:Int),((0:Int),((-5:Int),())))],([(100:Int)],(cY,())))))),[((3:Int),([((0:Int),((3:Int),()))],((0:Int),((1:Int),bP)))),((4:Int),([((0:Int),((2:Int),()))],((0:Int),((1:Int),bP))))])
def Q9(N:Nat)(a0:bs):Option (Bool):=
 cond (bV 1 a0.1) (cond (bV a0.1 1099511627776) (cond (bV 1 a0.2.1) (cond (bV a0.2.1 1099511627776) (cond (bV 1 a0.2.2.1) (cond (bV a0.2.2.1 12) (cond (bV (-1152921504606846976) a0.2.2.2.1) (some (bV a0.2.2.2.1 1152921504606846976)) (some false)) (some false)) (some false)) (some false)) (some false)) (some false)) (some false)
def Rb(N:Nat)(a0:bs)(a1:Int)(a2:Int):Option (Bool):=
 cond (az a0.2.2.1 a1) (some (az a0.2.1 a2)) (some false)
abbrev nx.bL:=ay→(((Int)×(Unit))×(((Int)×(Unit))×(Unit)))→Int→Int→Option (Int)
def nx.dI(N:Nat)(cG:nx.bL)(x0:ay)(x1:((Int)×(Unit))×(((Int)×(Unit))×(Unit)))(x7:Int)(x8:Int):Option (Int):=
 cond (aM x8 x7) (cond (aN x8 (List.length x0)) ((Rb N (List.getD x0 x8.toNat aE) x1.1.1 x1.2.1.1).bind fun r2=>cond (r2) (some x8) (cG x0 ((x1.1.1,()),((x1.2.1.1,()),())) x7 (W .i64 (x8+1)))) (none)) (some (-1:Int))
def nx.l2(N:Nat):Nat→nx.bL
 |0,_,_,_,_=>none
 |n+1,x0,x1,x7,x8=>nx.dI N (nx.l2 N n) x0 x1 x7 x8
def nx.b(N:Nat)(eG:nx.bL)(a0:ay)(a1:((Int)×(Unit))×(((Int)×(Unit))×(Unit))):Option (Int):=
 eG a0 ((a1.1.1,()),((a1.2.1.1,()),())) (List.length a0:Int) (0:Int)
def nx(N:Nat)(a0:ay)(a1:((Int)×(Unit))×(((Int)×(Unit))×(Unit))):Option (Int):=nx.b N (nx.l2 N N) a0 a1
def Yl(N:Nat)(a0:ay)(a1:((Int)×(Unit))×(((Int)×(Unit))×(Unit))):Option (Bool):=
 (nx N a0 ((a1.1.1,()),((a1.2.1.1,()),()))).bind fun r1=>some (bV 0 r1)
def NO(N:Nat)(a0:ay)(a1:Int)(a2:Int):Option (Bool):=
 (Yl N a0 ((a1,()),((a2,()),()))).bind fun r1=>some r1
abbrev wo.bL:=ay→ay→Int→Int→Option (Bool)
def wo.dI(N:Nat)(cG:wo.bL)(x0:ay)(x5:ay)(x6:Int)(x7:Int):Option (Bool):=
 cond (aM x7 x6) (cond (aN x7 (List.length x5)) ((Q9 N (List.getD x5 x7.toNat aE)).bind fun r2=>cond (!r2) (some false) (cond (aM 0 x7) (let v3:Int:=W .i64 (x7-1);cond (aN v3 (List.length x0)) (cond (bV ((List.getD x5 x7.toNat aE).1) ((List.getD x0 v3.toNat aE).1)) (some false) (cond (fu 0 x7 (List.length x0:Int) (List.length x0:Int)) ((NO N (List.drop (0:Int).toNat (List.take x7.toNat x0)) ((((List.getD x5 x7.toNat aE).2).2).1) (((List.getD x5 x7.toNat aE).2).1)).bind fun r5=>cond (r5) (some false) (cG x0 x5 x6 (W .i64 (x7+1)))) (none))) (none)) (cond (fu 0 x7 (List.length x0:Int) (List.length x0:Int)) ((NO N (List.drop (0:Int).toNat (List.take x7.toNat x0)) ((((List.getD x5 x7.toNat aE).2).2).1) (((List.getD x5 x7.toNat aE).2).1)).bind fun r8=>cond (r8) (some false) (cG x0 x5 x6 (W .i64 (x7+1)))) (none)))) (none)) (some (bV (List.length x0:Int) 40))
def wo.l2(N:Nat):Nat→wo.bL
 |0,_,_,_,_=>none
 |n+1,x0,x5,x6,x7=>wo.dI N (wo.l2 N n) x0 x5 x6 x7
def wo.b(N:Nat)(eG:wo.bL)(a0:ay):Option (Bool):=
 eG a0 a0 (List.length a0:Int) (0:Int)
def wo(N:Nat)(a0:ay):Option (Bool):=wo.b N (wo.l2 N N) a0
abbrev ti.bm:=Int→bs→bs→ay→Int→Int→Option (bs×(Bool))
def ti.dn(N:Nat)(bb:ti.bm)(x1:Int)(x4:bs)(x6:bs)(bo:ay)(bz:Int)(bR:Int):Option (bs×(Bool)):=
 cond (aM bR bz) (cond (aN bR (List.length bo)) (cond (az (((List.getD bo bR.toNat aE).2).1) x1) (cond (az x6.1 0) (bb x1 x4 (List.getD bo bR.toNat aE) bo bz (W .i64 (bR+1))) (cond (aM x6.2.2.2.1 (((((List.getD bo bR.toNat aE).2).2).2).1)) (bb x1 x4 (List.getD bo bR.toNat aE) bo bz (W .i64 (bR+1))) (bb x1 x4 x6 bo bz (W .i64 (bR+1))))) (bb x1 x4 x6 bo bz (W .i64 (bR+1)))) (none)) (some (x6,!az x6.1 0))
def ti.l5(N:Nat):Nat→ti.bm
 |0,_,_,_,_,_,_=>none
 |n+1,x1,x4,x6,bo,bz,bR=>ti.dn N (ti.l5 N n) x1 x4 x6 bo bz bR
def ti.b(N:Nat)(dK:ti.bm)(a0:ay)(a1:Int):Option (bs×(Bool)):=
 (wo N a0).bind fun r1=>cond (!r1) (some (aE,false)) (dK a1 aE aE a0 (List.length a0:Int) (0:Int))
def ti(N:Nat)(a0:ay)(a1:Int):Option (bs×(Bool)):=ti.b N (ti.l5 N N) a0 a1
def w4(N:Nat)(a0:Int)(a1:Int)(a2:Int):Option (Bool):=
 cond (bV a1 a0) (some (bV a0 a2)) (some false)
abbrev vj.aU:=ae→ay→Int→Int→Option (Bool)
def vj.ca(N:Nat)(bg:vj.aU)(x1:ae)(aL:ay)(aP:Int)(bo:Int):Option (Bool):=
 cond (aM bo aP) (cond (aN bo (List.length aL)) ((w4 N ((List.getD aL bo.toNat aE).1) (0:Int) (3:Int)).bind fun r3=>cond (!r3) (some false) ((w4 N (((List.getD aL bo.toNat aE).2).1) (1:Int) (1000000000000:Int)).bind fun r4=>cond (!r4) (some false) ((w4 N ((((List.getD aL bo.toNat aE).2).2).1) (0:Int) (1000000000:Int)).bind fun r5=>cond (!r5) (some false) ((w4 N (((((List.getD aL bo.toNat aE).2).2).2).1) (0:Int) (1000000000:Int)).bind fun r6=>cond (!r6) (some false) (bg x1 aL aP (W .i64 (bo+1))))))) (none)) (cond (bV 0 x1.2.1) ((w4 N x1.2.2.1 (0:Int) (4:Int)).bind fun r8=>cond (r8) ((w4 N x1.2.2.2.1 (0:Int) (1000000:Int)).bind fun r9=>cond (r9) ((w4 N x1.2.2.2.2.1 (0:Int) (1000000:Int)).bind fun jo=>cond (jo) ((w4 N x1.2.2.2.2.2.1 (1:Int) (4611686018427387904:Int)).bind fun mo=>cond (mo) (some (bV 0 x1.2.2.2.2.2.2.1)) (some false)) (some false)) (some false)) (some false)) (some false))
def vj.l4(N:Nat):Nat→vj.aU
 |0,_,_,_,_=>none
 |n+1,x1,aL,aP,bo=>vj.ca N (vj.l4 N n) x1 aL aP bo
def vj.b(N:Nat)(cN:vj.aU)(a0:ae):Option (Bool):=
 (w4 N (List.length a0.1:Int) (1:Int) (6:Int)).bind fun r1=>cond (!r1) (some false) (cN a0 a0.1 (List.length a0.1:Int) (0:Int))
def vj(N:Nat)(a0:ae):Option (Bool):=vj.b N (vj.l4 N N) a0
abbrev ko.bL:=ax→ax→Int→Int→Option (Bool)
def ko.dI(N:Nat)(cG:ko.bL)(x0:ax)(x5:ax)(x6:Int)(x7:Int):Option (Bool):=
 cond (aM x7 x6) (cond (aN x7 (List.length x5)) (cond (aM ((List.getD x5 x7.toNat bP).1) (1:Int)) (some false) (cond (aM 12 ((List.getD x5 x7.toNat bP).1)) (some false) (cond (aM (((List.getD x5 x7.toNat bP).2).1) (1:Int)) (some false) (cond (aM 4 (((List.getD x5 x7.toNat bP).2).1)) (some false) (cond (aM 0 x7) (let v2:Int:=W .i64 (x7-1);cond (aN v2 (List.length x0)) (cond (bV ((List.getD x5 x7.toNat bP).1) ((List.getD x0 v2.toNat bP).1)) (some false) (cG x0 x5 x6 (W .i64 (x7+1)))) (none)) (cG x0 x5 x6 (W .i64 (x7+1)))))))) (none)) (some true)
def ko.l2(N:Nat):Nat→ko.bL
 |0,_,_,_,_=>none
 |n+1,x0,x5,x6,x7=>ko.dI N (ko.l2 N n) x0 x5 x6 x7
def ko.b(N:Nat)(eG:ko.bL)(a0:ax):Option (Bool):=
 eG a0 a0 (List.length a0:Int) (0:Int)
def ko(N:Nat)(a0:ax):Option (Bool):=ko.b N (ko.l2 N N) a0
abbrev iq.cv:=ay→(List (Bool))→ay→Int→Int→Option (Bool)
def iq.ig(N:Nat)(b9:iq.cv)(x0:ay)(x3:List (Bool))(x6:ay)(x7:Int)(x8:Int):Option (Bool):=
 cond (aM x8 x7) (cond (aN x8 (List.length x6)) (cond (aM ((List.getD x6 x8.toNat aE).1) (1:Int)) (some false) (cond (aM 24 ((List.getD x6 x8.toNat aE).1)) (some false) (cond (aM (((List.getD x6 x8.toNat aE).2).1) (1:Int)) (some false) (cond (aM 12 (((List.getD x6 x8.toNat aE).2).1)) (some false) (cond (!az ((((List.getD x6 x8.toNat aE).2).2).1) (1:Int)) (cond (!az ((((List.getD x6 x8.toNat aE).2).2).1) (2:Int)) (some false) (cond (aM (((((List.getD x6 x8.toNat aE).2).2).2).1) (0:Int)) (some false) (cond (aM 1000000000000 (((((List.getD x6 x8.toNat aE).2).2).2).1)) (some false) (cond (aM 0 x8) (let v2:Int:=W .i64 (x8-1);cond (aN v2 (List.length x0)) (cond (bV ((List.getD x6 x8.toNat aE).1) ((List.getD x0 v2.toNat aE).1)) (some false) (cond (az ((((List.getD x6 x8.toNat aE).2).2).1) (1:Int)) (cond (aN (((List.getD x6 x8.toNat aE).2).1) 13) (cond (List.getD x3 (((List.getD x6 x8.toNat aE).2).1).toNat false) (some false) (cond (aN (((List.getD x6 x8.toNat aE).2).1) 13) (b9 x0 (List.set x3 (((List.getD x6 x8.toNat aE).2).1).toNat true) x6 x7 (W .i64 (x8+1))) (none))) (none)) (b9 x0 x3 x6 x7 (W .i64 (x8+1))))) (none)) (cond (az ((((List.getD x6 x8.toNat aE).2).2).1) (1:Int)) (cond (aN (((List.getD x6 x8.toNat aE).2).1) 13) (cond (List.getD x3 (((List.getD x6 x8.toNat aE).2).1).toNat false) (some false) (cond (aN (((List.getD x6 x8.toNat aE).2).1) 13) (b9 x0 (List.set x3 (((List.getD x6 x8.toNat aE).2).1).toNat true) x6 x7 (W .i64 (x8+1))) (none))) (none)) (b9 x0 x3 x6 x7 (W .i64 (x8+1)))))))) (cond (aM (((((List.getD x6 x8.toNat aE).2).2).2).1) (0:Int)) (some false) (cond (aM 1000000000000 (((((List.getD x6 x8.toNat aE).2).2).2).1)) (some false) (cond (aM 0 x8) (let v7:Int:=W .i64 (x8-1);cond (aN v7 (List.length x0)) (cond (bV ((List.getD x6 x8.toNat aE).1) ((List.getD x0 v7.toNat aE).1)) (some false) (cond (az ((((List.getD x6 x8.toNat aE).2).2).1) (1:Int)) (cond (aN (((List.getD x6 x8.toNat aE).2).1) 13) (cond (List.getD x3 (((List.getD x6 x8.toNat aE).2).1).toNat false) (some false) (cond (aN (((List.getD x6 x8.toNat aE).2).1) 13) (b9 x0 (List.set x3 (((List.getD x6 x8.toNat aE).2).1).toNat true) x6 x7 (W .i64 (x8+1))) (none))) (none)) (b9 x0 x3 x6 x7 (W .i64 (x8+1))))) (none)) (cond (az ((((List.getD x6 x8.toNat aE).2).2).1) (1:Int)) (cond (aN (((List.getD x6 x8.toNat aE).2).1) 13) (cond (List.getD x3 (((List.getD x6 x8.toNat aE).2).1).toNat false) (some false) (cond (aN (((List.getD x6 x8.toNat aE).2).1) 13) (b9 x0 (List.set x3 (((List.getD x6 x8.toNat aE).2).1).toNat true) x6 x7 (W .i64 (x8+1))) (none))) (none)) (b9 x0 x3 x6 x7 (W .i64 (x8+1)))))))))))) (none)) (some true)
def iq.l3(N:Nat):Nat→iq.cv
 |0,_,_,_,_,_=>none
 |n+1,x0,x3,x6,x7,x8=>iq.ig N (iq.l3 N n) x0 x3 x6 x7 x8
def iq.b(N:Nat)(jq:iq.cv)(a0:ay):Option (Bool):=
 jq a0 (List.replicate 13 false) a0 (List.length a0:Int) (0:Int)
def iq(N:Nat)(a0:ay):Option (Bool):=iq.b N (iq.l3 N N) a0
abbrev ub.aU:=Int→ax→Int→Int→Option (Int)
def ub.ca(N:Nat)(bg:ub.aU)(x1:Int)(aT:ax)(aL:Int)(aP:Int):Option (Int):=
 cond (aM aP aL) (cond (aN aP (List.length aT)) (cond (az ((List.getD aT aP.toNat bP).1) x1) (some (((List.getD aT aP.toNat bP).2).1)) (bg x1 aT aL (W .i64 (aP+1)))) (none)) (some (0:Int))
def ub.l4(N:Nat):Nat→ub.aU
 |0,_,_,_,_=>none
 |n+1,x1,aT,aL,aP=>ub.ca N (ub.l4 N n) x1 aT aL aP
def ub.b(N:Nat)(cN:ub.aU)(a0:ax)(a1:Int):Option (Int):=
 (ko N a0).bind fun r1=>cond (!r1) (some (0:Int)) (cN a1 a0 (List.length a0:Int) (0:Int))
def ub(N:Nat)(a0:ax)(a1:Int):Option (Int):=ub.b N (ub.l4 N N) a0 a1
abbrev w8.aU:=ax→ay→Int→Int→Option (Bool)
def w8.ca(N:Nat)(bg:w8.aU)(x0:ax)(bR:ay)(cI:Int)(cJ:Int):Option (Bool):=
 cond (aM cJ cI) (cond (aN cJ (List.length bR)) ((ub N x0 (((List.getD bR cJ.toNat aE).2).1)).bind fun r4=>cond (az r4 0) (some false) (bg x0 bR cI (W .i64 (cJ+1)))) (none)) (some true)
def w8.l4(N:Nat):Nat→w8.aU
 |0,_,_,_,_=>none
 |n+1,x0,bR,cI,cJ=>w8.ca N (w8.l4 N n) x0 bR cI cJ
def w8.b(N:Nat)(cN:w8.aU)(a0:ax)(a1:ay):Option (Bool):=
 (ko N a0).bind fun r1=>cond (!r1) (some false) ((iq N a1).bind fun r2=>cond (!r2) (some false) (cN a0 a1 (List.length a1:Int) (0:Int)))
def w8(N:Nat)(a0:ax)(a1:ay):Option (Bool):=w8.b N (w8.l4 N N) a0 a1
def HC(N:Nat)(a0:Int)(a1:Int):Option (Bool):=
 cond (az a0 1) (some (az a1 0)) (cond (az a0 2) (some (az a1 0)) (cond (az a0 3) (some (az a1 0)) (cond (az a0 4) (some (az a1 0)) (cond (az a0 5) (cond (bV 1 a1) (some (bV a1 24)) (some false)) (cond (az a0 6) (cond (bV 1 a1) (some (bV a1 12)) (some false)) (cond (az a0 7) (cond (bV 1 a1) (some (bV a1 12)) (some false)) (some false)))))))
def HE(N:Nat)(a0:Int)(a1:Int)(a2:cy):Option (Int):=
 cond (!az a0 a2.1) (some (W .i64 (a0-a2.1))) (some (W .i64 (a1-a2.2.1)))
abbrev vl.bL:=aj→aj→Int→Int→Option (Bool)
def vl.dI(N:Nat)(cG:vl.bL)(x0:aj)(x5:aj)(x6:Int)(x7:Int):Option (Bool):=
 cond (aM x7 x6) (cond (aN x7 (List.length x5)) ((HC N ((List.getD x5 x7.toNat aW).1) (((List.getD x5 x7.toNat aW).2).1)).bind fun r2=>cond (!r2) (some false) (cond (az ((((List.getD x5 x7.toNat aW).2).2).1) (0:Int)) (some false) (cond (aM 0 x7) (let v3:Int:=W .i64 (x7-1);cond (aN v3 (List.length x0)) ((HE N ((List.getD x5 x7.toNat aW).1) (((List.getD x5 x7.toNat aW).2).1) (List.getD x0 v3.toNat aW)).bind fun r4=>cond (bV r4 0) (some false) (cG x0 x5 x6 (W .i64 (x7+1)))) (none)) (cG x0 x5 x6 (W .i64 (x7+1)))))) (none)) (some true)
def vl.l2(N:Nat):Nat→vl.bL
 |0,_,_,_,_=>none
 |n+1,x0,x5,x6,x7=>vl.dI N (vl.l2 N n) x0 x5 x6 x7
def vl.b(N:Nat)(eG:vl.bL)(a0:aj):Option (Bool):=
 eG a0 a0 (List.length a0:Int) (0:Int)
def vl(N:Nat)(a0:aj):Option (Bool):=vl.b N (vl.l2 N N) a0
def NB(N:Nat)(a0:Int):Option c7:=
 cond (aM 63 0) (none) (some ((shr .i64 a0 63),((W .u64 a0),())))
abbrev jb.cv:=c7→Int→Int→Int→gO→Int→Int→Option (c7×(Bool))
def jb.ig(N:Nat)(b9:jb.cv)(x2:c7)(x4:Int)(x5:Int)(x6:Int)(aT:gO)(aL:Int)(aP:Int):Option (c7×(Bool)):=
 cond (aM aP aL) (cond (aN aP (List.length aT)) ((rW N x6 (((List.getD aT aP.toNat bP).2).1) (0:Int)).bind fun r2=>(rW N x5 (W .u64 ((List.getD aT aP.toNat bP).1)) r2.2).bind fun r4=>cond (aM 63 0) (none) (b9 x2 (W .i64 ((W .i64 (x4+(shr .i64 ((List.getD aT aP.toNat bP).1) (63:Int))))+(W .i64 r4.2))) r4.1 r2.1 aT aL (W .i64 (aP+1)))) (none)) (cond (aM 63 0) (none) (cond (!az x4 (shr .i64 (W .i64 x5) 63)) (some (bP,false)) (some (((W .i64 x5),(x6,())),true))))
def jb.l3(N:Nat):Nat→jb.cv
 |0,_,_,_,_,_,_,_=>none
 |n+1,x2,x4,x5,x6,aT,aL,aP=>jb.ig N (jb.l3 N n) x2 x4 x5 x6 aT aL aP
def jb.b(N:Nat)(jq:jb.cv)(a0:gO):Option (c7×(Bool)):=
 jq bP (0:Int) (0:Int) (0:Int) a0 (List.length a0:Int) (0:Int)
def jb(N:Nat)(a0:gO):Option (c7×(Bool)):=jb.b N (jb.l3 N N) a0
abbrev wm.bm:=c7→gO→aj→Int→Int→Option c7
def wm.dn(N:Nat)(bb:wm.bm)(x2:c7)(x3:gO)(aP:aj)(bo:Int)(bz:Int):Option c7:=
 cond (aM bz bo) (cond (aN bz (List.length aP)) ((NB N ((((List.getD aP bz.toNat aW).2).2).1)).bind fun r3=>cond (small (List.length x3+List.length ([r3]))) (bb x2 (x3++([r3])) aP bo (W .i64 (bz+1))) (none)) (none)) ((jb N x3).bind fun r6=>some r6.1)
def wm.l5(N:Nat):Nat→wm.bm
 |0,_,_,_,_,_=>none
 |n+1,x2,x3,aP,bo,bz=>wm.dn N (wm.l5 N n) x2 x3 aP bo bz
def wm.b(N:Nat)(dK:wm.bm)(a0:aj):Option c7:=
 (vl N a0).bind fun r1=>cond (!r1) (some bP) (dK bP ([]) a0 (List.length a0:Int) (0:Int))
def wm(N:Nat)(a0:aj):Option c7:=wm.b N (wm.l5 N N) a0
def Q2(N:Nat)(a0:c7)(a1:c7):Option (Int):=
 cond (aM a0.1 a1.1) (some (-1:Int)) (cond (az a0.1 a1.1) (cond (aM a0.2.1 a1.2.1) (some (-1:Int)) (cond (kV (.pair (.int .i64) (.pair (.int .u64) .unit)) a0 a1) (some (0:Int)) (some (1:Int)))) (cond (kV (.pair (.int .i64) (.pair (.int .u64) .unit)) a0 a1) (some (0:Int)) (some (1:Int))))
def Yj(N:Nat)(a0:c7):Option (Int):=
 (Q2 N a0 bP).bind fun r1=>some r1
def ND(N:Nat)(a0:Int)(a1:Int):Option (Bool):=
 cond (bV 0 a0) (cond (bV a0 24) (cond (bV 0 a1) (some (aM a1 6)) (some false)) (some false)) (some false)
def HG(N:Nat)(a0:Int):Option (Bool):=
 some (!az a0 (-9223372036854775808))
def KT(N:Nat)(a0:Int)(a1:Int)(a2:cy):Option (Int):=
 cond (!az a0 a2.1) (some (W .i64 (a0-a2.1))) (some (W .i64 (a1-a2.2.1)))
abbrev jJ.bL:=aj→aj→Int→Int→Option (Bool)
def jJ.dI(N:Nat)(cG:jJ.bL)(x0:aj)(x5:aj)(x6:Int)(x7:Int):Option (Bool):=
 cond (aM x7 x6) (cond (aN x7 (List.length x5)) ((ND N ((List.getD x5 x7.toNat aW).1) (((List.getD x5 x7.toNat aW).2).1)).bind fun r2=>cond (!r2) (some false) (cond (az ((((List.getD x5 x7.toNat aW).2).2).1) (0:Int)) (some false) ((HG N ((((List.getD x5 x7.toNat aW).2).2).1)).bind fun r3=>cond (!r3) (some false) (cond (aM 0 x7) (let v4:Int:=W .i64 (x7-1);cond (aN v4 (List.length x0)) ((KT N ((List.getD x5 x7.toNat aW).1) (((List.getD x5 x7.toNat aW).2).1) (List.getD x0 v4.toNat aW)).bind fun r5=>cond (bV r5 0) (some false) (cG x0 x5 x6 (W .i64 (x7+1)))) (none)) (cG x0 x5 x6 (W .i64 (x7+1))))))) (none)) (some true)
def jJ.l2(N:Nat):Nat→jJ.bL
 |0,_,_,_,_=>none
 |n+1,x0,x5,x6,x7=>jJ.dI N (jJ.l2 N n) x0 x5 x6 x7
def jJ.b(N:Nat)(eG:jJ.bL)(a0:aj):Option (Bool):=
 eG a0 a0 (List.length a0:Int) (0:Int)
def jJ(N:Nat)(a0:aj):Option (Bool):=jJ.b N (jJ.l2 N N) a0
abbrev kt.bm:=Int→c7→gO→aj→Int→Int→Option c7
def kt.dn(N:Nat)(bb:kt.bm)(x1:Int)(x4:c7)(x5:gO)(bz:aj)(bR:Int)(cI:Int):Option c7:=
 cond (aM cI bR) (cond (aN cI (List.length bz)) (cond (az (((List.getD bz cI.toNat aW).2).1) x1) ((NB N ((((List.getD bz cI.toNat aW).2).2).1)).bind fun r3=>cond (small (List.length x5+List.length ([r3]))) (bb x1 x4 (x5++([r3])) bz bR (W .i64 (cI+1))) (none)) (bb x1 x4 x5 bz bR (W .i64 (cI+1)))) (none)) ((jb N x5).bind fun r7=>some r7.1)
def kt.l5(N:Nat):Nat→kt.bm
 |0,_,_,_,_,_,_=>none
 |n+1,x1,x4,x5,bz,bR,cI=>kt.dn N (kt.l5 N n) x1 x4 x5 bz bR cI
def kt.b(N:Nat)(dK:kt.bm)(a0:aj)(a1:Int):Option c7:=
 (jJ N a0).bind fun r1=>cond (!r1) (some bP) (dK a1 bP ([]) a0 (List.length a0:Int) (0:Int))
def kt(N:Nat)(a0:aj)(a1:Int):Option c7:=kt.b N (kt.l5 N N) a0 a1
abbrev w9.bL:=aj→Int→Option (Bool)
def w9.dI(N:Nat)(cG:w9.bL)(x0:aj)(x4:Int):Option (Bool):=
 cond (aM x4 6) ((kt N x0 x4).bind fun r2=>(Yj N r2).bind fun r3=>cond (!az r3 0) (some false) (cG x0 (W .i64 (x4+1)))) ((jJ N x0).bind fun r5=>some r5)
def w9.l2(N:Nat):Nat→w9.bL
 |0,_,_=>none
 |n+1,x0,x4=>w9.dI N (w9.l2 N n) x0 x4
def w9.b(N:Nat)(eG:w9.bL)(a0:aj):Option (Bool):=
 eG a0 (0:Int)
def w9(N:Nat)(a0:aj):Option (Bool):=w9.b N (w9.l2 N N) a0
def QY(N:Nat)(a0:fD):Option (Bool):=
 cond (bV 1 a0.1) (cond (bV a0.1 1099511627776) (cond (bV 1 a0.2.1) (cond (bV a0.2.1 24) (cond (bV 0 a0.2.2.1) (cond (aM a0.2.2.1 6) (cond (az a0.2.2.2.1 1) (cond (bV 1 a0.2.2.2.2.1) (cond (bV a0.2.2.2.2.1 1000000000) (cond (bV 1 a0.2.2.2.2.2.1) (some (bV a0.2.2.2.2.2.1 1000000000000)) (some false)) (some false)) (some false)) (cond (az a0.2.2.2.1 2) (cond (bV 1 a0.2.2.2.2.1) (cond (bV a0.2.2.2.2.1 1000000000) (cond (bV 1 a0.2.2.2.2.2.1) (some (bV a0.2.2.2.2.2.1 1000000000000)) (some false)) (some false)) (some false)) (some false))) (some false)) (some false)) (some false)) (some false)) (some false)) (some false)
abbrev w7.bL:=aZ→aZ→Int→Int→Option (Bool)
def w7.dI(N:Nat)(cG:w7.bL)(x0:aZ)(x5:aZ)(x6:Int)(x7:Int):Option (Bool):=
 cond (aM x7 x6) (cond (aN x7 (List.length x5)) ((QY N (List.getD x5 x7.toNat eg)).bind fun r2=>cond (!r2) (some false) (cond (aM 0 x7) (let v3:Int:=W .i64 (x7-1);cond (aN v3 (List.length x0)) (cond (bV ((List.getD x5 x7.toNat eg).1) ((List.getD x0 v3.toNat eg).1)) (some false) (cG x0 x5 x6 (W .i64 (x7+1)))) (none)) (cG x0 x5 x6 (W .i64 (x7+1))))) (none)) (some (bV (List.length x0:Int) 32))
def w7.l2(N:Nat):Nat→w7.bL
 |0,_,_,_,_=>none
 |n+1,x0,x5,x6,x7=>w7.dI N (w7.l2 N n) x0 x5 x6 x7
def w7.b(N:Nat)(eG:w7.bL)(a0:aZ):Option (Bool):=
 eG a0 a0 (List.length a0:Int) (0:Int)
def w7(N:Nat)(a0:aZ):Option (Bool):=w7.b N (w7.l2 N N) a0
abbrev kp.aU:=Int→bs→ay→Int→Int→Option (bs×(Bool))
def kp.ca(N:Nat)(bg:kp.aU)(x1:Int)(x4:bs)(aP:ay)(bo:Int)(bz:Int):Option (bs×(Bool)):=
 cond (aM bz bo) (cond (aN bz (List.length aP)) (cond (az ((List.getD aP bz.toNat aE).1) x1) (some (List.getD aP bz.toNat aE,true)) (bg x1 x4 aP bo (W .i64 (bz+1)))) (none)) (some (aE,false))
def kp.l4(N:Nat):Nat→kp.aU
 |0,_,_,_,_,_=>none
 |n+1,x1,x4,aP,bo,bz=>kp.ca N (kp.l4 N n) x1 x4 aP bo bz
def kp.b(N:Nat)(cN:kp.aU)(a0:ay)(a1:Int):Option (bs×(Bool)):=
 (iq N a0).bind fun r1=>cond (!r1) (some (aE,false)) (cN a1 aE a0 (List.length a0:Int) (0:Int))
def kp(N:Nat)(a0:ay)(a1:Int):Option (bs×(Bool)):=kp.b N (kp.l4 N N) a0 a1
def F82(N:Nat)(a0:ah)(a1:Int):Option (Bool):=
 (kp N a0.2.1 a1).bind fun r1=>some r1.2
def F85(N:Nat)(a0:Int):Option (Bool):=
 cond (bV 1 a0) (some (bV a0 1000000000000)) (some false)
def F84(N:Nat)(a0:Int):Option (Bool):=
 (F85 N a0).bind fun r1=>some (!r1)
abbrev nw.bL:=(List (Int))→Unit→Int→Int→Option (Int)
def nw.dI(N:Nat)(cG:nw.bL)(x0:List (Int))(x1:Unit)(x7:Int)(x8:Int):Option (Int):=
 cond (aM x8 x7) (cond (aN x8 (List.length x0)) ((F84 N (List.getD x0 x8.toNat (0:Int))).bind fun r2=>cond (r2) (some x8) (cG x0 () x7 (W .i64 (x8+1)))) (none)) (some (-1:Int))
def nw.l2(N:Nat):Nat→nw.bL
 |0,_,_,_,_=>none
 |n+1,x0,x1,x7,x8=>nw.dI N (nw.l2 N n) x0 x1 x7 x8
def nw.b(N:Nat)(eG:nw.bL)(a0:List (Int))(a1:Unit):Option (Int):=
 eG a0 () (List.length a0:Int) (0:Int)
def nw(N:Nat)(a0:List (Int))(a1:Unit):Option (Int):=nw.b N (nw.l2 N N) a0 a1
def F83(N:Nat)(a0:List (Int))(a1:Unit):Option (Bool):=
 (nw N a0 ()).bind fun r1=>some (bV 0 r1)
abbrev g9.nh:=ae→ah→aZ→Int→Int→Option (Bool)
abbrev g9.iH:=ae→ah→aj→Int→Int→Option (Bool)
abbrev g9.aU:=ae→ah→aj→Int→Int→Option (Bool)
def g9.pq(N:Nat)(zr:g9.nh)(x2:ae)(x3:ah)(nA:aZ)(Si:Int)(IA:Int):Option (Bool):=
 cond (aM IA Si) (cond (aN IA (List.length nA)) ((F82 N x3 (((List.getD nA IA.toNat eg).2).1)).bind fun zs=>cond (!zs) (some false) (cond (bV (List.length x2.1:Int) ((((List.getD nA IA.toNat eg).2).2).1)) (some false) (zr x2 x3 nA Si (W .i64 (IA+1))))) (none)) ((F83 N x3.2.2.2.2.1 ()).bind fun zt=>some (!zt))
def g9.qc(N:Nat):Nat→g9.nh
 |0,_,_,_,_,_=>none
 |n+1,x2,x3,nA,Si,IA=>g9.pq N (g9.qc N n) x2 x3 nA Si IA
def g9.qM(N:Nat)(zu:g9.nh)(jA:g9.iH)(x2:ae)(x3:ah)(Sj:aj)(x84:Int)(PZ:Int):Option (Bool):=
 cond (aM PZ x84) (cond (aN PZ (List.length Sj)) (cond (!az ((List.getD Sj PZ.toNat aW).1) (0:Int)) ((F82 N x3 ((List.getD Sj PZ.toNat aW).1)).bind fun so=>cond (!so) (some false) (cond (bV (List.length x2.1:Int) (((List.getD Sj PZ.toNat aW).2).1)) (some false) (jA x2 x3 Sj x84 (W .i64 (PZ+1))))) (cond (bV (List.length x2.1:Int) (((List.getD Sj PZ.toNat aW).2).1)) (some false) (jA x2 x3 Sj x84 (W .i64 (PZ+1))))) (none)) (zu x2 x3 x3.2.2.2.2.2.1 (List.length x3.2.2.2.2.2.1:Int) (0:Int))
def g9.rP(N:Nat):Nat→g9.iH
 |0,_,_,_,_,_=>none
 |n+1,x2,x3,Sj,x84,PZ=>g9.qM N (g9.qc N N) (g9.rP N n) x2 x3 Sj x84 PZ
def g9.ca(N:Nat)(zv:g9.iH)(bg:g9.aU)(x2:ae)(x3:ah)(LW:aj)(YP:Int)(J0:Int):Option (Bool):=
 cond (aM J0 YP) (cond (aN J0 (List.length LW)) (cond (az ((List.getD LW J0.toNat aW).1) (5:Int)) ((F82 N x3 (((List.getD LW J0.toNat aW).2).1)).bind fun r9=>cond (!r9) (some false) (bg x2 x3 LW YP (W .i64 (J0+1)))) (cond (az ((List.getD LW J0.toNat aW).1) (6:Int)) ((ub N x3.1 (((List.getD LW J0.toNat aW).2).1)).bind fun mo=>cond (az mo 0) (some false) (bg x2 x3 LW YP (W .i64 (J0+1)))) (cond (az ((List.getD LW J0.toNat aW).1) (7:Int)) ((ub N x3.1 (((List.getD LW J0.toNat aW).2).1)).bind fun kR=>cond (az kR 0) (some false) (bg x2 x3 LW YP (W .i64 (J0+1)))) (bg x2 x3 LW YP (W .i64 (J0+1)))))) (none)) (zv x2 x3 x3.2.2.2.1 (List.length x3.2.2.2.1:Int) (0:Int))
def g9.l4(N:Nat):Nat→g9.aU
 |0,_,_,_,_,_=>none
 |n+1,x2,x3,LW,YP,J0=>g9.ca N (g9.rP N N) (g9.l4 N n) x2 x3 LW YP J0
def g9.b(N:Nat)(cN:g9.aU)(a0:ae)(a1:ah):Option (Bool):=
 (vj N a0).bind fun r1=>cond (!r1) (some false) ((w8 N a1.1 a1.2.1).bind fun r2=>cond (!r2) (some false) ((vl N a1.2.2.1).bind fun r3=>cond (!r3) (some false) ((wm N a1.2.2.1).bind fun r4=>(Yj N r4).bind fun r5=>cond (!az r5 0) (some false) ((w9 N a1.2.2.2.1).bind fun r6=>cond (!r6) (some false) ((w7 N a1.2.2.2.2.2.1).bind fun r7=>cond (!r7) (some false) (cond (!az (List.length a1.2.2.2.2.1:Int) (List.length a0.1:Int)) (some false) (cN a0 a1 a1.2.2.1 (List.length a1.2.2.1:Int) (0:Int))))))))
def g9(N:Nat)(a0:ae)(a1:ah):Option (Bool):=g9.b N (g9.l4 N N) a0 a1
abbrev kz.bL:=ax→ae→ax→Int→Int→Option (Bool)
def kz.dI(N:Nat)(cG:kz.bL)(x1:ax)(x2:ae)(x7:ax)(x8:Int)(x9:Int):Option (Bool):=
 cond (aM x9 x8) (cond (aN x9 (List.length x7)) (cond (aM ((List.getD x7 x9.toNat bP).1) (0:Int)) (some false) (cond (bV (List.length x2.1:Int) ((List.getD x7 x9.toNat bP).1)) (some false) (cond (az (((List.getD x7 x9.toNat bP).2).1) (0:Int)) (some false) ((HG N (((List.getD x7 x9.toNat bP).2).1)).bind fun r2=>cond (!r2) (some false) (cond (aM 0 x9) (let v3:Int:=W .i64 (x9-1);cond (aN v3 (List.length x1)) (cond (bV ((List.getD x7 x9.toNat bP).1) ((List.getD x1 v3.toNat bP).1)) (some false) (cG x1 x2 x7 x8 (W .i64 (x9+1)))) (none)) (cG x1 x2 x7 x8 (W .i64 (x9+1)))))))) (none)) ((vj N x2).bind fun r6=>some r6)
def kz.l2(N:Nat):Nat→kz.bL
 |0,_,_,_,_,_=>none
 |n+1,x1,x2,x7,x8,x9=>kz.dI N (kz.l2 N n) x1 x2 x7 x8 x9
def kz.b(N:Nat)(eG:kz.bL)(a0:ae)(a1:ax):Option (Bool):=
 eG a1 a0 a1 (List.length a1:Int) (0:Int)
def kz(N:Nat)(a0:ae)(a1:ax):Option (Bool):=kz.b N (kz.l2 N N) a0 a1
abbrev pZ.IB:=aA→ae→cF→aA→Int→Int→Option (Bool)
abbrev pZ.aU:=aA→ae→aA→Int→Int→Option (Bool)
def pZ.HW(N:Nat)(bg:pZ.aU)(x1:aA)(x2:ae)(x6:cF)(bR:aA)(cI:Int)(cJ:Int):Option (Bool):=
 cond (az x6.2.2.2.1 1) (cond (!az x6.2.2.2.2.1 0) (some false) (cond (!az x6.2.2.2.2.2.1 0) (some false) (bg x1 x2 bR cI (W .i64 (cJ+1))))) (cond (az x6.2.2.2.1 3) (cond (!az x6.2.2.2.2.1 0) (some false) (cond (!az x6.2.2.2.2.2.1 0) (some false) (bg x1 x2 bR cI (W .i64 (cJ+1))))) (cond (az x6.2.2.2.1 2) (cond (aM x6.2.2.2.2.1 1) (some false) (cond (aM 12 x6.2.2.2.2.1) (some false) (cond (aM x6.2.2.2.2.2.1 (-1152921504606846976)) (some false) (cond (aM 1152921504606846976 x6.2.2.2.2.2.1) (some false) (bg x1 x2 bR cI (W .i64 (cJ+1))))))) (some false)))
def pZ.j8(N:Nat)(bg:pZ.aU)(x1:aA)(x2:ae)(x6:cF)(bR:aA)(cI:Int)(cJ:Int):Option (Bool):=pZ.HW N bg x1 x2 x6 bR cI cJ
def pZ.ca(N:Nat)(zw:pZ.IB)(bg:pZ.aU)(x1:aA)(x2:ae)(bR:aA)(cI:Int)(cJ:Int):Option (Bool):=
 cond (aM cJ cI) (cond (aN cJ (List.length bR)) (cond (aM ((List.getD bR cJ.toNat ((0:Int),(a6,aE))).1) (1:Int)) (some false) (cond (aM 1099511627776 ((List.getD bR cJ.toNat ((0:Int),(a6,aE))).1)) (some false) (cond (aM 0 cJ) (let v3:Int:=W .i64 (cJ-1);cond (aN v3 (List.length x1)) (cond (bV ((List.getD bR cJ.toNat ((0:Int),(a6,aE))).1) ((List.getD x1 v3.toNat ((0:Int),(a6,aE))).1)) (some false) (cond (az (List.length (((List.getD bR cJ.toNat ((0:Int),(a6,aE))).2).1):Int) (0:Int)) (some false) ((kz N x2 (((List.getD bR cJ.toNat ((0:Int),(a6,aE))).2).1)).bind fun r4=>cond (!r4) (some false) (cond (aM 0 ((((List.getD bR cJ.toNat ((0:Int),(a6,aE))).2).2).1)) (some false) (zw x1 x2 (List.getD bR cJ.toNat ((0:Int),(a6,aE))) bR cI cJ))))) (none)) (cond (az (List.length (((List.getD bR cJ.toNat ((0:Int),(a6,aE))).2).1):Int) (0:Int)) (some false) ((kz N x2 (((List.getD bR cJ.toNat ((0:Int),(a6,aE))).2).1)).bind fun r9=>cond (!r9) (some false) (cond (aM 0 ((((List.getD bR cJ.toNat ((0:Int),(a6,aE))).2).2).1)) (some false) (zw x1 x2 (List.getD bR cJ.toNat ((0:Int),(a6,aE))) bR cI cJ))))))) (none)) (some true)
def pZ.l4(N:Nat):Nat→pZ.aU
 |0,_,_,_,_,_=>none
 |n+1,x1,x2,bR,cI,cJ=>pZ.ca N (pZ.j8 N (pZ.l4 N n)) (pZ.l4 N n) x1 x2 bR cI cJ
def pZ.b(N:Nat)(cN:pZ.aU)(a0:ae)(a1:aA):Option (Bool):=
 (vj N a0).bind fun r1=>cond (!r1) (some false) (cond (aM 12 (List.length a1:Int)) (some false) (cN a1 a0 a1 (List.length a1:Int) (0:Int)))
def pZ(N:Nat)(a0:ae)(a1:aA):Option (Bool):=pZ.b N (pZ.l4 N N) a0 a1
abbrev xc.cv:=aA→Int→Int→Option aA
def xc.ig(N:Nat)(b9:xc.cv)(x3:aA)(x8:Int)(x9:Int):Option aA:=
 cond (aM x9 x8) (cond (aN x9 (List.length x3)) ((ib N (((List.getD x3 x9.toNat ((0:Int),(a6,aE))).2).1)).bind fun r3=>cond (aN x9 (List.length x3)) (b9 (List.set x3 x9.toNat ((List.getD x3 x9.toNat ((0:Int),(a6,aE))).1,(r3,((List.getD x3 x9.toNat ((0:Int),(a6,aE))).2).2))) x8 (W .i64 (x9+1))) (none)) (none)) (some x3)
def xc.l3(N:Nat):Nat→xc.cv
 |0,_,_,_=>none
 |n+1,x3,x8,x9=>xc.ig N (xc.l3 N n) x3 x8 x9
def xc.b(N:Nat)(jq:xc.cv)(a0:aA):Option aA:=
 (ib N a0).bind fun r1=>jq r1 (List.length r1:Int) (0:Int)
def xc(N:Nat)(a0:aA):Option aA:=xc.b N (xc.l3 N N) a0
abbrev wk.aU:=Int→ay→Int→Int→Option (Int)
def wk.ca(N:Nat)(bg:wk.aU)(x1:Int)(aT:ay)(aL:Int)(aP:Int):Option (Int):=
 cond (aM aP aL) (cond (aN aP (List.length aT)) (cond (az (((List.getD aT aP.toNat aE).2).1) x1) (cond (az ((((List.getD aT aP.toNat aE).2).2).1) (1:Int)) (some ((List.getD aT aP.toNat aE).1)) (bg x1 aT aL (W .i64 (aP+1)))) (bg x1 aT aL (W .i64 (aP+1)))) (none)) (some (0:Int))
def wk.l4(N:Nat):Nat→wk.aU
 |0,_,_,_,_=>none
 |n+1,x1,aT,aL,aP=>wk.ca N (wk.l4 N n) x1 aT aL aP
def wk.b(N:Nat)(cN:wk.aU)(a0:ay)(a1:Int):Option (Int):=
 (iq N a0).bind fun r1=>cond (!r1) (some (0:Int)) (cN a1 a0 (List.length a0:Int) (0:Int))
def wk(N:Nat)(a0:ay)(a1:Int):Option (Int):=wk.b N (wk.l4 N N) a0 a1
def Rp(N:Nat)(a0:ah):Option ah:=
 (ib N a0.1).bind fun r1=>(ib N a0.2.1).bind fun r2=>(ib N a0.2.2.1).bind fun r3=>(ib N a0.2.2.2.1).bind fun r4=>(ib N a0.2.2.2.2.1).bind fun r5=>(ib N a0.2.2.2.2.2.1).bind fun r6=>some (r1,(r2,(r3,(r4,(r5,(r6,()))))))
abbrev dW.ed:=aj→Int→gO→Int→aj→Int→Int→Option (Bool)
abbrev dW.bL:=aj→Int→Option (Bool)
def dW.mg(N:Nat)(cG:dW.bL)(ej:dW.ed)(x0:aj)(x3:Int)(x4:gO)(x9:Int)(aP:aj)(bo:Int)(bz:Int):Option (Bool):=
 cond (aM bz bo) (cond (aN bz (List.length aP)) (cond (az (((List.getD aP bz.toNat aW).2).1) x3) ((NB N ((((List.getD aP bz.toNat aW).2).2).1)).bind fun r3=>cond (small (List.length x4+List.length ([r3]))) (ej x0 x3 (x4++([r3])) x9 aP bo (W .i64 (bz+1))) (none)) (ej x0 x3 x4 x9 aP bo (W .i64 (bz+1)))) (none)) ((jb N x4).bind fun r7=>cond (!r7.2) (some false) ((Yj N r7.1).bind fun r8=>cond (!az r8 0) (some false) (cG x0 (W .i64 (x9+1)))))
def dW.l6(N:Nat)(cG:dW.bL):Nat→dW.ed
 |0,_,_,_,_,_,_,_=>none
 |n+1,x0,x3,x4,x9,aP,bo,bz=>dW.mg N cG (dW.l6 N cG n) x0 x3 x4 x9 aP bo bz
def dW.dI(N:Nat)(oj:dW.ed)(cG:dW.bL)(x0:aj)(x9:Int):Option (Bool):=
 cond (aM x9 6) (oj x0 x9 ([]) x9 x0 (List.length x0:Int) (0:Int)) (some true)
def dW.l2(N:Nat):Nat→dW.bL
 |0,_,_=>none
 |n+1,x0,x9=>dW.dI N (dW.l6 N (dW.l2 N n) N) (dW.l2 N n) x0 x9
def dW.b(N:Nat)(eG:dW.bL)(a0:aj):Option (Bool):=
 eG a0 (0:Int)
def dW(N:Nat)(a0:aj):Option (Bool):=dW.b N (dW.l2 N N) a0
def Hy(N:Nat)(a0:c7):Option ((Int)×(Bool)):=
 cond (aM 63 0) (none) (cond (!az a0.1 (shr .i64 (W .i64 a0.2.1) 63)) (some ((0:Int),false)) (some ((W .i64 a0.2.1),true)))
def Rc(N:Nat)(a0:aj):Option aj:=
 cond (fu 0 (List.length a0:Int) (List.length a0:Int) (List.length a0:Int)) (some (List.drop (0:Int).toNat (List.take (List.length a0:Int).toNat a0))) (none)
abbrev bt.ad0:=aj→aj→cy→Int→aj→Int→Int→Option (aj×(Int))
abbrev bt.iH:=aj→aj→cy→Int→aj→Int→Int→Option (aj×(Int))
abbrev bt.O3:=aj→aj→cy→gO→aj→Int→Int→aj→Int→Int→Option (aj×(Int))
abbrev bt.A5:=aj→aj→aj→Int→Int→Option (aj×(Int))
abbrev bt.eK:=aj→aj→aj→Int→Int→Option (aj×(Int))
abbrev bt.aU:=aj→aj→aj→Int→Int→Option (aj×(Int))
def bt.Ym(N:Nat)(fJ:bt.eK)(x1:aj)(x8:aj)(aT:cy)(aL:Int)(Fl:aj)(G0:Int)(De:Int):Option (aj×(Int)):=
 cond (az aL (List.length x8:Int)) ((lG N x8 aL ([(aT.1,(aT.2.1,((0:Int),())))])).bind fun kR=>fJ x1 kR Fl G0 (W .i64 (De+1))) (cond (aN aL (List.length x8)) ((KT N aT.1 aT.2.1 (List.getD x8 aL.toNat aW)).bind fun sq=>cond (!az sq 0) ((lG N x8 aL ([(aT.1,(aT.2.1,((0:Int),())))])).bind fun vB=>fJ x1 vB Fl G0 (W .i64 (De+1))) (fJ x1 x8 Fl G0 (W .i64 (De+1)))) (none))
def bt.j18(N:Nat)(fJ:bt.eK)(x1:aj)(x8:aj)(aT:cy)(aL:Int)(Fl:aj)(G0:Int)(De:Int):Option (aj×(Int)):=bt.Ym N fJ x1 x8 aT aL Fl G0 De
def bt.qM(N:Nat)(WG:bt.ad0)(fJ:bt.eK)(jA:bt.iH)(x1:aj)(x8:aj)(aT:cy)(aL:Int)(Fl:aj)(G0:Int)(De:Int):Option (aj×(Int)):=
 cond (aM aL (List.length x8:Int)) (cond (aN aL (List.length x8)) ((KT N aT.1 aT.2.1 (List.getD x8 aL.toNat aW)).bind fun jo=>cond (aM 0 jo) (jA x1 x8 aT (W .i64 (aL+1)) Fl G0 De) (WG x1 x8 aT aL Fl G0 De)) (none)) (WG x1 x8 aT aL Fl G0 De)
def bt.rP(N:Nat)(fJ:bt.eK):Nat→bt.iH
 |0,_,_,_,_,_,_,_=>none
 |n+1,x1,x8,aT,aL,Fl,G0,De=>bt.qM N (bt.j18 N fJ) fJ (bt.rP N fJ n) x1 x8 aT aL Fl G0 De
def bt.Re(N:Nat)(BB:bt.A5)(O4:bt.O3)(x1:aj)(aP:aj)(bz:cy)(bR:gO)(uN:aj)(xk:Int)(nA:Int)(CN:aj)(LX:Int)(As:Int):Option (aj×(Int)):=
 cond (aM As LX) (cond (aN As (List.length CN)) (cond (az ((List.getD CN As.toNat aW).1) bz.1) (cond (az (((List.getD CN As.toNat aW).2).1) bz.2.1) ((NB N ((((List.getD CN As.toNat aW).2).2).1)).bind fun zt=>cond (small (List.length bR+List.length ([zt]))) (O4 x1 aP bz (bR++([zt])) uN xk nA CN LX (W .i64 (As+1))) (none)) (O4 x1 aP bz bR uN xk nA CN LX (W .i64 (As+1)))) (O4 x1 aP bz bR uN xk nA CN LX (W .i64 (As+1)))) (none)) ((jb N bR).bind fun WH=>(Hy N WH.1).bind fun BC=>cond (!BC.2) (some (bc,(2:Int))) ((HG N BC.1).bind fun IC=>cond (!IC) (some (bc,(2:Int))) (cond (!az BC.1 0) (cond (small (List.length aP+List.length ([(bz.1,(bz.2.1,(BC.1,())))]))) (BB x1 (aP++([(bz.1,(bz.2.1,(BC.1,())))])) uN xk (W .i64 (nA+1))) (none)) (BB x1 aP uN xk (W .i64 (nA+1))))))
def bt.Wv(N:Nat)(BB:bt.A5):Nat→bt.O3
 |0,_,_,_,_,_,_,_,_,_,_=>none
 |n+1,x1,aP,bz,bR,uN,xk,nA,CN,LX,As=>bt.Re N BB (bt.Wv N BB n) x1 aP bz bR uN xk nA CN LX As
def bt.Rg(N:Nat)(ad1:bt.O3)(BB:bt.A5)(x1:aj)(aP:aj)(uN:aj)(xk:Int)(nA:Int):Option (aj×(Int)):=
 cond (aM nA xk) (cond (aN nA (List.length uN)) ((NB N ((((List.getD uN nA.toNat aW).2).2).1)).bind fun zs=>ad1 x1 aP (List.getD uN nA.toNat aW) ([zs]) uN xk nA x1 (List.length x1:Int) (0:Int)) (none)) ((Rc N aP).bind fun O5=>some (O5,(0:Int)))
def bt.Rf(N:Nat):Nat→bt.A5
 |0,_,_,_,_,_=>none
 |n+1,x1,aP,uN,xk,nA=>bt.Rg N (bt.Wv N (bt.Rf N n) N) (bt.Rf N n) x1 aP uN xk nA
def bt.lN(N:Nat)(zv:bt.iH)(ad2:bt.A5)(fJ:bt.eK)(x1:aj)(x8:aj)(Fl:aj)(G0:Int)(De:Int):Option (aj×(Int)):=
 cond (aM De G0) (cond (aN De (List.length Fl)) (zv x1 x8 (List.getD Fl De.toNat aW) (0:Int) Fl G0 De) (none)) (cond (fP 0 (List.length x8:Int)) (ad2 x1 (List.replicate (0:Int).toNat aW) x8 (List.length x8:Int) (0:Int)) (none))
def bt.nV(N:Nat):Nat→bt.eK
 |0,_,_,_,_,_=>none
 |n+1,x1,x8,Fl,G0,De=>bt.lN N (bt.rP N (bt.nV N n) N) (bt.Rf N N) (bt.nV N n) x1 x8 Fl G0 De
def bt.ca(N:Nat)(qY:bt.eK)(bg:bt.aU)(x0:aj)(x1:aj)(YQ:aj)(x31:Int)(WI:Int):Option (aj×(Int)):=
 cond (aM WI x31) (cond (aN WI (List.length YQ)) ((ND N ((List.getD YQ WI.toNat aW).1) (((List.getD YQ WI.toNat aW).2).1)).bind fun r3=>cond (!r3) (some (bc,(1:Int))) ((HG N ((((List.getD YQ WI.toNat aW).2).2).1)).bind fun r4=>cond (!r4) (some (bc,(1:Int))) (bg x0 x1 YQ x31 (W .i64 (WI+1))))) (none)) ((dW N x1).bind fun r6=>cond (!r6) (some (bc,(1:Int))) ((ib N x0).bind fun r7=>qY x1 r7 x1 (List.length x1:Int) (0:Int)))
def bt.l4(N:Nat):Nat→bt.aU
 |0,_,_,_,_,_=>none
 |n+1,x0,x1,YQ,x31,WI=>bt.ca N (bt.nV N N) (bt.l4 N n) x0 x1 YQ x31 WI
def bt.b(N:Nat)(cN:bt.aU)(a0:aj)(a1:aj):Option (aj×(Int)):=
 (jJ N a0).bind fun r1=>cond (!r1) (some (bc,(1:Int))) (cond (aM 400 (List.length a1:Int)) (some (bc,(1:Int))) (cN a0 a1 a1 (List.length a1:Int) (0:Int)))
def bt(N:Nat)(a0:aj)(a1:aj):Option (aj×(Int)):=bt.b N (bt.l4 N N) a0 a1
def Yo(N:Nat)(a0:aj):Option aj:=
 cond (fu 0 (List.length a0:Int) (List.length a0:Int) (List.length a0:Int)) (some (List.drop (0:Int).toNat (List.take (List.length a0:Int).toNat a0))) (none)
abbrev bu.ad3:=cf→aj→pz→Int→cf→Int→Int→Option (aj×(Int))
abbrev bu.zx:=cf→aj→pz→Int→cf→Int→Int→Option (aj×(Int))
abbrev bu.zy:=cf→aj→cy→gO→aj→Int→Int→cf→Int→Int→Option (aj×(Int))
abbrev bu.Bc:=cf→aj→aj→Int→Int→Option (aj×(Int))
abbrev bu.iH:=cf→aj→cf→Int→Int→Option (aj×(Int))
abbrev bu.bm:=aj→cf→gO→cf→Int→Int→Option (aj×(Int))
def bu.Yp(N:Nat)(jA:bu.iH)(x1:cf)(aL:aj)(bo:pz)(bz:Int)(Fm:cf)(G1:Int)(Df:Int):Option (aj×(Int)):=
 cond (az bz (List.length aL:Int)) ((lG N aL bz ([(bo.1,(bo.2.1,((0:Int),())))])).bind fun sq=>jA x1 sq Fm G1 (W .i64 (Df+1))) (cond (aN bz (List.length aL)) ((HE N bo.1 bo.2.1 (List.getD aL bz.toNat aW)).bind fun so=>cond (!az so 0) ((lG N aL bz ([(bo.1,(bo.2.1,((0:Int),())))])).bind fun uW=>jA x1 uW Fm G1 (W .i64 (Df+1))) (jA x1 aL Fm G1 (W .i64 (Df+1)))) (none))
def bu.j21(N:Nat)(jA:bu.iH)(x1:cf)(aL:aj)(bo:pz)(bz:Int)(Fm:cf)(G1:Int)(Df:Int):Option (aj×(Int)):=bu.Yp N jA x1 aL bo bz Fm G1 Df
def bu.HU(N:Nat)(WJ:bu.ad3)(jA:bu.iH)(O6:bu.zx)(x1:cf)(aL:aj)(bo:pz)(bz:Int)(Fm:cf)(G1:Int)(Df:Int):Option (aj×(Int)):=
 cond (aM bz (List.length aL:Int)) (cond (aN bz (List.length aL)) ((HE N bo.1 bo.2.1 (List.getD aL bz.toNat aW)).bind fun np=>cond (aM 0 np) (O6 x1 aL bo (W .i64 (bz+1)) Fm G1 Df) (WJ x1 aL bo bz Fm G1 Df)) (none)) (WJ x1 aL bo bz Fm G1 Df)
def bu.K9(N:Nat)(jA:bu.iH):Nat→bu.zx
 |0,_,_,_,_,_,_,_=>none
 |n+1,x1,aL,bo,bz,Fm,G1,Df=>bu.HU N (bu.j21 N jA) jA (bu.K9 N jA n) x1 aL bo bz Fm G1 Df
def bu.EB(N:Nat)(BD:bu.Bc)(wF:bu.zy)(x1:cf)(bR:aj)(cJ:cy)(iO:gO)(uO:aj)(xl:Int)(tb:Int)(Au:cf)(LY:Int)(zz:Int):Option (aj×(Int)):=
 cond (aM zz LY) (cond (aN zz (List.length Au)) (cond (az ((List.getD Au zz.toNat ((0:Int),((0:Int),(bP,())))).1) cJ.1) (cond (az (((List.getD Au zz.toNat ((0:Int),((0:Int),(bP,())))).2).1) cJ.2.1) (cond (small (List.length iO+List.length ([(((List.getD Au zz.toNat ((0:Int),((0:Int),(bP,())))).2).2).1]))) (wF x1 bR cJ (iO++([(((List.getD Au zz.toNat ((0:Int),((0:Int),(bP,())))).2).2).1])) uO xl tb Au LY (W .i64 (zz+1))) (none)) (wF x1 bR cJ iO uO xl tb Au LY (W .i64 (zz+1)))) (wF x1 bR cJ iO uO xl tb Au LY (W .i64 (zz+1)))) (none)) ((jb N iO).bind fun BC=>(Hy N BC.1).bind fun IC=>cond (!BC.2) (some (bc,(2:Int))) (cond (!IC.2) (some (bc,(2:Int))) (cond (!az IC.1 0) (cond (small (List.length bR+List.length ([(cJ.1,(cJ.2.1,(IC.1,())))]))) (BD x1 (bR++([(cJ.1,(cJ.2.1,(IC.1,())))])) uO xl (W .i64 (tb+1))) (none)) (BD x1 bR uO xl (W .i64 (tb+1))))))
def bu.HT(N:Nat)(BD:bu.Bc):Nat→bu.zy
 |0,_,_,_,_,_,_,_,_,_,_=>none
 |n+1,x1,bR,cJ,iO,uO,xl,tb,Au,LY,zz=>bu.EB N BD (bu.HT N BD n) x1 bR cJ iO uO xl tb Au LY zz
def bu.Rk(N:Nat)(O7:bu.zy)(BD:bu.Bc)(x1:cf)(bR:aj)(uO:aj)(xl:Int)(tb:Int):Option (aj×(Int)):=
 cond (aM tb xl) (cond (aN tb (List.length uO)) ((NB N ((((List.getD uO tb.toNat aW).2).2).1)).bind fun zt=>O7 x1 bR (List.getD uO tb.toNat aW) ([zt]) uO xl tb x1 (List.length x1:Int) (0:Int)) (none)) ((Yo N bR).bind fun O5=>some (O5,(0:Int)))
def bu.Rj(N:Nat):Nat→bu.Bc
 |0,_,_,_,_,_=>none
 |n+1,x1,bR,uO,xl,tb=>bu.Rk N (bu.HT N (bu.Rj N n) N) (bu.Rj N n) x1 bR uO xl tb
def bu.qM(N:Nat)(O8:bu.zx)(ad4:bu.Bc)(jA:bu.iH)(x1:cf)(aL:aj)(Fm:cf)(G1:Int)(Df:Int):Option (aj×(Int)):=
 cond (aM Df G1) (cond (aN Df (List.length Fm)) (O8 x1 aL (List.getD Fm Df.toNat ((0:Int),((0:Int),(bP,())))) (0:Int) Fm G1 Df) (none)) (cond (fP 0 (List.length aL:Int)) (ad4 x1 (List.replicate (0:Int).toNat aW) aL (List.length aL:Int) (0:Int)) (none))
def bu.rP(N:Nat):Nat→bu.iH
 |0,_,_,_,_,_=>none
 |n+1,x1,aL,Fm,G1,Df=>bu.qM N (bu.K9 N (bu.rP N n) N) (bu.Rj N N) (bu.rP N n) x1 aL Fm G1 Df
def bu.dn(N:Nat)(zv:bu.iH)(bb:bu.bm)(x0:aj)(x1:cf)(x6:gO)(WK:cf)(x37:Int)(Sk:Int):Option (aj×(Int)):=
 cond (aM Sk x37) (cond (aN Sk (List.length WK)) ((HC N ((List.getD WK Sk.toNat ((0:Int),((0:Int),(bP,())))).1) (((List.getD WK Sk.toNat ((0:Int),((0:Int),(bP,())))).2).1)).bind fun r4=>cond (!r4) (some (bc,(1:Int))) (cond (small (List.length x6+List.length ([(((List.getD WK Sk.toNat ((0:Int),((0:Int),(bP,())))).2).2).1]))) (bb x0 x1 (x6++([(((List.getD WK Sk.toNat ((0:Int),((0:Int),(bP,())))).2).2).1])) WK x37 (W .i64 (Sk+1))) (none))) (none)) ((jb N x6).bind fun r7=>cond (!r7.2) (some (bc,(1:Int))) ((Yj N r7.1).bind fun r8=>cond (!az r8 0) (some (bc,(1:Int))) ((ib N x0).bind fun r9=>zv x1 r9 x1 (List.length x1:Int) (0:Int))))
def bu.l5(N:Nat):Nat→bu.bm
 |0,_,_,_,_,_,_=>none
 |n+1,x0,x1,x6,WK,x37,Sk=>bu.dn N (bu.rP N N) (bu.l5 N n) x0 x1 x6 WK x37 Sk
def bu.b(N:Nat)(dK:bu.bm)(a0:aj)(a1:cf):Option (aj×(Int)):=
 (vl N a0).bind fun r1=>cond (!r1) (some (bc,(1:Int))) (cond (aM 400 (List.length a1:Int)) (some (bc,(1:Int))) (cond (fP 0 (List.length a1:Int)) (dK a0 a1 (List.replicate (0:Int).toNat bP) a1 (List.length a1:Int) (0:Int)) (none)))
def bu(N:Nat)(a0:aj)(a1:cf):Option (aj×(Int)):=bu.b N (bu.l5 N N) a0 a1
def F65(N:Nat)(a0:ah)(a1:aj)(a2:cf):Option (ah×(Int)):=
 (Rp N a0).bind fun r1=>(bt N a0.2.2.2.1 a1).bind fun r2=>cond (!az r2.2 0) (some ((a6,(cn,(bc,(bc,(cQ,(cY,())))))),r2.2)) ((bu N a0.2.2.1 a2).bind fun r3=>cond (!az r3.2 0) (some ((a6,(cn,(bc,(bc,(cQ,(cY,())))))),r3.2)) (some ((r1.1,(r1.2.1,(r3.1,(r2.1,r1.2.2.2.2)))),(0:Int))))
abbrev lP.ni:=ay→ah→ah→aA→aj→cf→bs→Int→aA→Int→Int→ax→Int→Int→Option (ah×aA×(Int))
abbrev lP.cU:=ay→ah→ah→aA→aj→cf→aA→Int→Int→Option (ah×aA×(Int))
def lP.rQ(N:Nat)(cH:lP.cU)(uP:lP.ni)(x3:ay)(x5:ah)(x8:ah)(aL:aA)(aP:aj)(bo:cf)(cI:bs)(iO:Int)(ID:aA)(O9:Int)(om:Int)(Pb:ax)(x98:Int)(Mj:Int):Option (ah×aA×(Int)):=
 cond (aM Mj x98) (cond (aN Mj (List.length Pb)) (let J1:Int:=W .i64 (0-(((List.getD Pb Mj.toNat bP).2).1));cond (small (List.length aP+List.length ([((0:Int),((List.getD Pb Mj.toNat bP).1,(J1,()))),(iO,((List.getD Pb Mj.toNat bP).1,(((List.getD Pb Mj.toNat bP).2).1,())))]))) (uP x3 x5 x8 aL (aP++([((0:Int),((List.getD Pb Mj.toNat bP).1,(J1,()))),(iO,((List.getD Pb Mj.toNat bP).1,(((List.getD Pb Mj.toNat bP).2).1,())))])) bo cI iO ID O9 om Pb x98 (W .i64 (Mj+1))) (none)) (none)) ((NB N (W .i64 (0-cI.2.2.2.1))).bind fun BE=>(NB N cI.2.2.2.1).bind fun zs=>cond (small (List.length bo+List.length ([((5:Int),(iO,(BE,()))),((2:Int),((0:Int),(zs,())))]))) (cH x3 x5 x8 aL aP (bo++([((5:Int),(iO,(BE,()))),((2:Int),((0:Int),(zs,())))])) ID O9 (W .i64 (om+1))) (none))
def lP.uB(N:Nat)(cH:lP.cU):Nat→lP.ni
 |0,_,_,_,_,_,_,_,_,_,_,_,_,_,_=>none
 |n+1,x3,x5,x8,aL,aP,bo,cI,iO,ID,O9,om,Pb,x98,Mj=>lP.rQ N cH (lP.uB N cH n) x3 x5 x8 aL aP bo cI iO ID O9 om Pb x98 Mj
def lP.lD(N:Nat)(zA:lP.ni)(cH:lP.cU)(x3:ay)(x5:ah)(x8:ah)(aL:aA)(aP:aj)(bo:cf)(ID:aA)(O9:Int)(om:Int):Option (ah×aA×(Int)):=
 cond (aM om O9) (cond (aN om (List.length ID)) (cond (!az (((((List.getD ID om.toNat ((0:Int),(a6,aE))).2).2).2).1) (1:Int)) (cH x3 x5 x8 aL aP bo ID O9 (W .i64 (om+1))) ((ti N x3 ((List.getD ID om.toNat ((0:Int),(a6,aE))).1)).bind fun r7=>cond (!r7.2) (cond (aN om (List.length aL)) (cH x3 x5 x8 (List.set aL om.toNat ((List.getD aL om.toNat ((0:Int),(a6,aE))).1,(((List.getD aL om.toNat ((0:Int),(a6,aE))).2).1,((((List.getD aL om.toNat ((0:Int),(a6,aE))).2).2).1,((3:Int),((((List.getD aL om.toNat ((0:Int),(a6,aE))).2).2).2).2))))) aP bo ID O9 (W .i64 (om+1))) (none)) ((wk N x5.2.1 r7.1.2.2.1).bind fun jo=>(ub N x5.1 r7.1.2.2.1).bind fun mo=>cond (az mo 0) (some ((a6,(cn,(bc,(bc,(cQ,(cY,())))))),[],(3:Int))) (cond (az jo 0) (some ((a6,(cn,(bc,(bc,(cQ,(cY,())))))),[],(3:Int))) (cond (aN om (List.length aL)) (let LZ:List ((Int)×((List ((Int)×((Int)×(Unit))))×((Int)×((Int)×((Int)×((Int)×(Unit))))))):=List.set aL om.toNat ((List.getD aL om.toNat ((0:Int),(a6,aE))).1,(((List.getD aL om.toNat ((0:Int),(a6,aE))).2).1,((((List.getD aL om.toNat ((0:Int),(a6,aE))).2).2).1,((2:Int),((((List.getD aL om.toNat ((0:Int),(a6,aE))).2).2).2).2))));cond (aN om (List.length LZ)) (let Fo:List ((Int)×((List ((Int)×((Int)×(Unit))))×((Int)×((Int)×((Int)×((Int)×(Unit))))))):=List.set LZ om.toNat ((List.getD LZ om.toNat ((0:Int),(a6,aE))).1,(((List.getD LZ om.toNat ((0:Int),(a6,aE))).2).1,((((List.getD LZ om.toNat ((0:Int),(a6,aE))).2).2).1,(((((List.getD LZ om.toNat ((0:Int),(a6,aE))).2).2).2).1,(r7.1.2.2.1,(((((List.getD LZ om.toNat ((0:Int),(a6,aE))).2).2).2).2).2)))));cond (aN om (List.length Fo)) (zA x3 x5 x8 (List.set Fo om.toNat ((List.getD Fo om.toNat ((0:Int),(a6,aE))).1,(((List.getD Fo om.toNat ((0:Int),(a6,aE))).2).1,((((List.getD Fo om.toNat ((0:Int),(a6,aE))).2).2).1,(((((List.getD Fo om.toNat ((0:Int),(a6,aE))).2).2).2).1,((((((List.getD Fo om.toNat ((0:Int),(a6,aE))).2).2).2).2).1,(r7.1.2.2.2.1,((((((List.getD Fo om.toNat ((0:Int),(a6,aE))).2).2).2).2).2).2))))))) aP bo r7.1 jo ID O9 om (((List.getD ID om.toNat ((0:Int),(a6,aE))).2).1) (List.length (((List.getD ID om.toNat ((0:Int),(a6,aE))).2).1):Int) (0:Int)) (none)) (none)) (none)))))) (none)) ((F65 N x5 aP bo).bind fun zQ=>cond (!az zQ.2 0) (some ((a6,(cn,(bc,(bc,(cQ,(cY,())))))),[],zQ.2)) (some (zQ.1,aL,(0:Int))))
def lP.l7(N:Nat):Nat→lP.cU
 |0,_,_,_,_,_,_,_,_,_=>none
 |n+1,x3,x5,x8,aL,aP,bo,ID,O9,om=>lP.lD N (lP.uB N (lP.l7 N n) N) (lP.l7 N n) x3 x5 x8 aL aP bo ID O9 om
def lP.b(N:Nat)(oq:lP.cU)(a0:ae)(a1:ah)(a2:aA)(a3:ay):Option (ah×aA×(Int)):=
 (g9 N a0 a1).bind fun r1=>cond (!r1) (some ((a6,(cn,(bc,(bc,(cQ,(cY,())))))),[],(1:Int))) ((pZ N a0 a2).bind fun r2=>cond (!r2) (some ((a6,(cn,(bc,(bc,(cQ,(cY,())))))),[],(1:Int))) ((wo N a3).bind fun r3=>cond (!r3) (some ((a6,(cn,(bc,(bc,(cQ,(cY,())))))),[],(1:Int))) ((xc N a2).bind fun r4=>oq a3 a1 (a6,(cn,(bc,(bc,(cQ,(cY,())))))) r4 ([]) ([]) a2 (List.length a2:Int) (0:Int))))
def lP(N:Nat)(a0:ae)(a1:ah)(a2:aA)(a3:ay):Option (ah×aA×(Int)):=lP.b N (lP.l7 N N) a0 a1 a2 a3
abbrev th.bL:=aj→Int→Option (Bool)
def th.dI(N:Nat)(cG:th.bL)(x0:aj)(x3:Int):Option (Bool):=
 cond (aM x3 (List.length x0:Int)) (cond (aN x3 (List.length x0)) (cond (aM ((List.getD x0 x3.toNat aW).1) (0:Int)) (some false) (cond (aM 24 ((List.getD x0 x3.toNat aW).1)) (some false) (cond (aM (((List.getD x0 x3.toNat aW).2).1) (0:Int)) (some false) (cond (bV 6 (((List.getD x0 x3.toNat aW).2).1)) (some false) (cond (az ((((List.getD x0 x3.toNat aW).2).2).1) (0:Int)) (some false) (cond (az ((((List.getD x0 x3.toNat aW).2).2).1) (-9223372036854775808:Int)) (some false) (cond (aM 0 x3) (let v2:Int:=W .i64 (x3-1);cond (aN v2 (List.length x0)) (cond (aM ((List.getD x0 x3.toNat aW).1) ((List.getD x0 v2.toNat aW).1)) (some false) (let v3:Int:=W .i64 (x3-1);cond (aN v3 (List.length x0)) (cond (az ((List.getD x0 x3.toNat aW).1) ((List.getD x0 v3.toNat aW).1)) (let v4:Int:=W .i64 (x3-1);cond (aN v4 (List.length x0)) (cond (bV (((List.getD x0 x3.toNat aW).2).1) (((List.getD x0 v4.toNat aW).2).1)) (some false) (cG x0 (W .i64 (x3+1)))) (none)) (cG x0 (W .i64 (x3+1)))) (none))) (none)) (cG x0 (W .i64 (x3+1)))))))))) (none)) (some true)
def th.l2(N:Nat):Nat→th.bL
 |0,_,_=>none
 |n+1,x0,x3=>th.dI N (th.l2 N n) x0 x3
def th.b(N:Nat)(eG:th.bL)(a0:aj):Option (Bool):=
 eG a0 (0:Int)
def th(N:Nat)(a0:aj):Option (Bool):=th.b N (th.l2 N N) a0
abbrev tj.aU:=aj→Int→Int→Int→Option (Int)
def tj.ca(N:Nat)(bg:tj.aU)(x0:aj)(x1:Int)(x2:Int)(x7:Int):Option (Int):=
 cond (aM x7 (List.length x0:Int)) (cond (aN x7 (List.length x0)) (cond (az ((List.getD x0 x7.toNat aW).1) x1) (cond (aN x7 (List.length x0)) (cond (az (((List.getD x0 x7.toNat aW).2).1) x2) (cond (aN x7 (List.length x0)) (some ((((List.getD x0 x7.toNat aW).2).2).1)) (none)) (bg x0 x1 x2 (W .i64 (x7+1)))) (none)) (bg x0 x1 x2 (W .i64 (x7+1)))) (none)) (some (0:Int))
def tj.l4(N:Nat):Nat→tj.aU
 |0,_,_,_,_=>none
 |n+1,x0,x1,x2,x7=>tj.ca N (tj.l4 N n) x0 x1 x2 x7
def tj.b(N:Nat)(cN:tj.aU)(a0:aj)(a1:Int)(a2:Int):Option (Int):=
 (th N a0).bind fun r1=>cond (!r1) (some (0:Int)) (cN a0 a1 a2 (0:Int))
def tj(N:Nat)(a0:aj)(a1:Int)(a2:Int):Option (Int):=tj.b N (tj.l4 N N) a0 a1 a2
def HD(N:Nat)(a0:Int)(a1:Int):Option (Bool):=
 cond (az a0 1) (some (az a1 0)) (cond (az a0 2) (some (az a1 0)) (cond (az a0 3) (some (az a1 0)) (cond (az a0 4) (some (az a1 0)) (cond (az a0 5) (cond (bV 1 a1) (some (bV a1 24)) (some false)) (cond (az a0 6) (cond (bV 1 a1) (some (bV a1 12)) (some false)) (cond (az a0 7) (cond (bV 1 a1) (some (bV a1 12)) (some false)) (some false)))))))
abbrev vm.bL:=aj→Int→Option (Bool)
def vm.dI(N:Nat)(cG:vm.bL)(x0:aj)(x3:Int):Option (Bool):=
 cond (aM x3 (List.length x0:Int)) (cond (aN x3 (List.length x0)) (cond (aN x3 (List.length x0)) ((HD N ((List.getD x0 x3.toNat aW).1) (((List.getD x0 x3.toNat aW).2).1)).bind fun r2=>cond (!r2) (some false) (cond (aN x3 (List.length x0)) (cond (az ((((List.getD x0 x3.toNat aW).2).2).1) (0:Int)) (some false) (cond (aM 0 x3) (cond (aN x3 (List.length x0)) (let v3:Int:=W .i64 (x3-1);cond (aN v3 (List.length x0)) (cond (aM ((List.getD x0 x3.toNat aW).1) ((List.getD x0 v3.toNat aW).1)) (some false) (cond (aN x3 (List.length x0)) (let v4:Int:=W .i64 (x3-1);cond (aN v4 (List.length x0)) (cond (az ((List.getD x0 x3.toNat aW).1) ((List.getD x0 v4.toNat aW).1)) (cond (aN x3 (List.length x0)) (let v5:Int:=W .i64 (x3-1);cond (aN v5 (List.length x0)) (cond (bV (((List.getD x0 x3.toNat aW).2).1) (((List.getD x0 v5.toNat aW).2).1)) (some false) (cG x0 (W .i64 (x3+1)))) (none)) (none)) (cG x0 (W .i64 (x3+1)))) (none)) (none))) (none)) (none)) (cG x0 (W .i64 (x3+1))))) (none))) (none)) (none)) (some true)
def vm.l2(N:Nat):Nat→vm.bL
 |0,_,_=>none
 |n+1,x0,x3=>vm.dI N (vm.l2 N n) x0 x3
def vm.b(N:Nat)(eG:vm.bL)(a0:aj):Option (Bool):=
 eG a0 (0:Int)
def vm(N:Nat)(a0:aj):Option (Bool):=vm.b N (vm.l2 N N) a0
abbrev oU.aU:=aj→Int→Int→Int→Option (Int)
def oU.ca(N:Nat)(bg:oU.aU)(x0:aj)(x1:Int)(x2:Int)(x7:Int):Option (Int):=
 cond (aM x7 (List.length x0:Int)) (cond (aN x7 (List.length x0)) (cond (az ((List.getD x0 x7.toNat aW).1) x1) (cond (aN x7 (List.length x0)) (cond (az (((List.getD x0 x7.toNat aW).2).1) x2) (cond (aN x7 (List.length x0)) (some ((((List.getD x0 x7.toNat aW).2).2).1)) (none)) (bg x0 x1 x2 (W .i64 (x7+1)))) (none)) (bg x0 x1 x2 (W .i64 (x7+1)))) (none)) (some (0:Int))
def oU.l4(N:Nat):Nat→oU.aU
 |0,_,_,_,_=>none
 |n+1,x0,x1,x2,x7=>oU.ca N (oU.l4 N n) x0 x1 x2 x7
def oU.b(N:Nat)(cN:oU.aU)(a0:aj)(a1:Int)(a2:Int):Option (Int):=
 (vm N a0).bind fun r1=>cond (!r1) (some (0:Int)) (cN a0 a1 a2 (0:Int))
def oU(N:Nat)(a0:aj)(a1:Int)(a2:Int):Option (Int):=oU.b N (oU.l4 N N) a0 a1 a2
def F12(N:Nat):Option (Bool):=
 (F51 N).bind fun r1=>(ti N ([((1:Int),((3:Int),((1:Int),((5:Int),())))),((2:Int),((3:Int),((2:Int),((5:Int),()))))]) (3:Int)).bind fun r2=>(ti N ([((1:Int),((3:Int),((1:Int),((5:Int),())))),((2:Int),((3:Int),((2:Int),((5:Int),()))))]) (4:Int)).bind fun r3=>(lP N r1.1 r1.2.1 r1.2.2 ([((1:Int),((3:Int),((1:Int),((5:Int),())))),((2:Int),((3:Int),((2:Int),((5:Int),()))))])).bind fun r4=>cond (r2.2) (cond (az r2.1.1 1) (cond (!r3.2) (cond (az r4.2.2 0) (cond (az (List.length r4.2.1:Int) 2) (cond (aN 0 (List.length r4.2.1)) (cond (az (((((List.getD r4.2.1 (0:Int).toNat ((0:Int),(a6,aE))).2).2).2).1) (2:Int)) (cond (aN 0 (List.length r4.2.1)) (cond (az ((((((List.getD r4.2.1 (0:Int).toNat ((0:Int),(a6,aE))).2).2).2).2).1) (1:Int)) (cond (aN 0 (List.length r4.2.1)) (cond (az (((((((List.getD r4.2.1 (0:Int).toNat ((0:Int),(a6,aE))).2).2).2).2).2).1) (5:Int)) (cond (aN 1 (List.length r4.2.1)) (cond (az (((((List.getD r4.2.1 (1:Int).toNat ((0:Int),(a6,aE))).2).2).2).1) (3:Int)) ((tj N r4.1.2.2.2.1 (1:Int) (0:Int)).bind fun r5=>cond (az r5 3) ((tj N r4.1.2.2.2.1 (0:Int) (0:Int)).bind fun r6=>cond (az r6 2) ((oU N r4.1.2.2.1 (2:Int) (0:Int)).bind fun r7=>cond (az r7 5) ((oU N r4.1.2.2.1 (5:Int) (1:Int)).bind fun r8=>some (az r8 (-5))) (some false)) (some false)) (some false)) (some false)) (none)) (some false)) (none)) (some false)) (none)) (some false)) (none)) (some false)) (some false)) (some false)) (some false)) (some false)
def F13(N:Nat)(a0:List (Int)):Option aK:=
 some (a0,((0:Int),()))
def F42(N:Nat)(a0:aK):Option ((Int)×aK):=
 cond (aM a0.2.1 (List.length a0.1:Int)) (cond (aN a0.2.1 (List.length a0.1)) (some (List.getD a0.1 a0.2.1.toNat (0:Int),(a0.1,((W .i64 (a0.2.1+1)),a0.2.2)))) (none)) (some ((0:Int),(a0.1,((W .i64 (a0.2.1+1)),a0.2.2))))
def n4(N:Nat)(a0:aK)(a1:Int):Option ((Int)×aK):=
 (F42 N a0).bind fun r1=>let v2:Int:=W .u64 a1;cond (az v2 0) (none) (some ((W .i64 (rem r1.1 v2)),r1.2))
def Ik(N:Nat)(a0:aK)(a1:Int):Option ((Bool)×aK):=
 (n4 N a0 a1).bind fun r1=>some (az r1.1 (W .i64 (a1-1)),r1.2)
def GX(N:Nat)(a0:aK):Option ((Int)×aK):=
 (F42 N a0).bind fun r1=>cond (az 8 0) (none) (let v2:Int:=rem r1.1 8;cond (az v2 0) (cond (aM 1 0) (none) (some ((W .i64 (shr .u64 r1.1 1)),r1.2))) (cond (az v2 1) (cond (aM 3 0) (none) (cond (az 1000000000000 0) (none) (some ((W .i64 (rem (shr .u64 r1.1 3) 1000000000000)),r1.2)))) (cond (az v2 2) (cond (aM 3 0) (none) (cond (az 2 0) (none) (some ((W .i64 (rem (shr .u64 r1.1 3) 2)),r1.2)))) (cond (aM 3 0) (none) (cond (az 5000 0) (none) (some ((W .i64 (rem (shr .u64 r1.1 3) 5000)),r1.2)))))))
abbrev pM.IB:=aK→ae→ae→ay→Int→bs→Option (ae×aK)
abbrev pM.cv:=aK→ae→ae→ay→Int→Option (ae×aK)
def pM.HW(N:Nat)(b9:pM.cv)(x0:aK)(x2:ae)(x3:ae)(L0:ay)(x4:Int)(x5:bs):Option (ae×aK):=
 (Ik N x0 (12:Int)).bind fun rR=>cond (rR.1) ((GX N rR.2).bind fun sq=>cond (az 1000000001 0) (none) (let J1:Int:=rem sq.1 1000000001;(GX N sq.2).bind fun so=>cond (az 1000000001 0) (none) (let v18:Int:=rem so.1 1000000001;cond (small (List.length L0+List.length ([(x5.1,(x5.2.1,(J1,(v18,x5.2.2.2.2))))]))) (b9 so.2 x2 (cn,x3.2) (L0++([(x5.1,(x5.2.1,(J1,(v18,x5.2.2.2.2))))])) (W .i64 (x4-1))) (none)))) (cond (small (List.length L0+List.length ([x5]))) (b9 rR.2 x2 (cn,x3.2) (L0++([x5])) (W .i64 (x4-1))) (none))
def pM.j8(N:Nat)(b9:pM.cv)(x0:aK)(x2:ae)(x3:ae)(L0:ay)(x4:Int)(x5:bs):Option (ae×aK):=pM.HW N b9 x0 x2 x3 L0 x4 x5
def pM.ig(N:Nat)(zw:pM.IB)(b9:pM.cv)(x0:aK)(x2:ae)(x3:ae)(L0:ay)(x4:Int):Option (ae×aK):=
 cond (aM 0 x4) ((n4 N x0 (3:Int)).bind fun r4=>(n4 N r4.2 (300:Int)).bind fun r5=>(n4 N r5.2 (12:Int)).bind fun r7=>(n4 N r7.2 (6:Int)).bind fun r8=>(Ik N r8.2 (12:Int)).bind fun r9=>cond (r9.1) ((GX N r9.2).bind fun jo=>cond (az 1000000000000 0) (none) (zw jo.2 x2 x3 L0 x4 (r4.1,((W .i64 ((1:Int)+(rem jo.1 1000000000000))),(r7.1,(r8.1,())))))) (zw r9.2 x2 x3 L0 x4 (r4.1,((W .i64 ((1:Int)+r5.1)),(r7.1,(r8.1,())))))) ((n4 N x0 (300:Int)).bind fun zt=>(n4 N zt.2 (5:Int)).bind fun zQ=>(n4 N zQ.2 (3:Int)).bind fun Dg=>(n4 N Dg.2 (3:Int)).bind fun wG=>(n4 N wG.2 (20:Int)).bind fun L1=>let v28:Int:=W .i64 ((1:Int)+L1.1);(n4 N L1.2 (100:Int)).bind fun BC=>(Ik N BC.2 (15:Int)).bind fun IC=>cond (IC.1) ((GX N IC.2).bind fun J2=>some ((L0,(J2.1,(zQ.1,(Dg.1,(wG.1,(v28,(BC.1,x3.2.2.2.2.2.2.2))))))),J2.2)) (some ((L0,(zt.1,(zQ.1,(Dg.1,(wG.1,(v28,(BC.1,x3.2.2.2.2.2.2.2))))))),IC.2)))
def pM.l3(N:Nat):Nat→pM.cv
 |0,_,_,_,_,_=>none
 |n+1,x0,x2,x3,L0,x4=>pM.ig N (pM.j8 N (pM.l3 N n)) (pM.l3 N n) x0 x2 x3 L0 x4
def pM.b(N:Nat)(jq:pM.cv)(a0:aK):Option (ae×aK):=
 (n4 N a0 (4:Int)).bind fun r1=>jq r1.2 (cn,eg) (cn,eg) cn (W .i64 ((1:Int)+r1.1))
def pM(N:Nat)(a0:aK):Option (ae×aK):=pM.b N (pM.l3 N N) a0
abbrev dA.eK:=aK→fE→Int→Option (fE×aK)
abbrev dA.iw:=aK→fE→Int→Option (fE×aK)
abbrev dA.cv:=aK→fE→Int→Option (fE×aK)
def dA.lN(N:Nat)(fJ:dA.eK)(x0:aK)(x5:fE)(x8:Int):Option (fE×aK):=
 cond (bV x8 7) ((n4 N x0 (3000:Int)).bind fun sq=>let J1:Int:=W .i64 ((200:Int)+sq.1);(n4 N sq.2 (200:Int)).bind fun so=>let v18:Int:=W .i64 ((20:Int)+so.1);cond (small (List.length x5+List.length ([((3:Int),((0:Int),(x8,((0:Int),((0:Int),((0:Int),(J1,((0:Int),())))))))),((6:Int),((0:Int),(x8,((0:Int),((0:Int),((0:Int),(v18,((0:Int),()))))))))]))) (fJ so.2 (x5++([((3:Int),((0:Int),(x8,((0:Int),((0:Int),((0:Int),(J1,((0:Int),())))))))),((6:Int),((0:Int),(x8,((0:Int),((0:Int),((0:Int),(v18,((0:Int),()))))))))])) (W .i64 (x8+1))) (none)) (some (x5,x0))
def dA.nV(N:Nat):Nat→dA.eK
 |0,_,_,_=>none
 |n+1,x0,x5,x8=>dA.lN N (dA.nV N n) x0 x5 x8
def dA.sd(N:Nat)(qY:dA.eK)(nj:dA.iw)(x0:aK)(x5:fE)(x7:Int):Option (fE×aK):=
 cond (bV x7 7) ((n4 N x0 (2:Int)).bind fun jo=>let v11:Int:=W .i64 ((1:Int)+jo.1);cond (small (List.length x5+List.length ([((2:Int),(v11,(x7,((0:Int),((2:Int),aW)))))]))) (nj jo.2 (x5++([((2:Int),(v11,(x7,((0:Int),((2:Int),aW)))))])) (W .i64 (x7+1))) (none)) (qY x0 x5 (1:Int))
def dA.l9(N:Nat):Nat→dA.iw
 |0,_,_,_=>none
 |n+1,x0,x5,x7=>dA.sd N (dA.nV N N) (dA.l9 N n) x0 x5 x7
def dA.ig(N:Nat)(tc:dA.iw)(b9:dA.cv)(x0:aK)(x5:fE)(x6:Int):Option (fE×aK):=
 cond (bV x6 4) (cond (small (List.length x5+List.length ([((1:Int),(x6,eg)),((2:Int),(x6,(x6,((0:Int),((1:Int),aW)))))]))) (let v2:List ((Int)×((Int)×((Int)×((Int)×((Int)×((Int)×((Int)×((Int)×(Unit))))))))):=x5++([((1:Int),(x6,eg)),((2:Int),(x6,(x6,((0:Int),((1:Int),aW)))))]);(Ik N x0 (5:Int)).bind fun r3=>cond (!r3.1) ((n4 N r3.2 (400:Int)).bind fun r4=>let v5:Int:=W .i64 ((1:Int)+r4.1);cond (small (List.length v2+List.length ([((5:Int),(x6,((0:Int),((0:Int),((0:Int),((0:Int),(v5,((0:Int),()))))))))]))) (b9 r4.2 (v2++([((5:Int),(x6,((0:Int),((0:Int),((0:Int),((0:Int),(v5,((0:Int),()))))))))])) (W .i64 (x6+1))) (none)) (b9 r3.2 v2 (W .i64 (x6+1)))) (none)) (tc x0 x5 (5:Int))
def dA.l3(N:Nat):Nat→dA.cv
 |0,_,_,_=>none
 |n+1,x0,x5,x6=>dA.ig N (dA.l9 N N) (dA.l3 N n) x0 x5 x6
def dA.b(N:Nat)(jq:dA.cv)(a0:aK)(a1:ae):Option (fE×aK):=
 jq a0 ([]) (1:Int)
def dA(N:Nat)(a0:aK)(a1:ae):Option (fE×aK):=dA.b N (dA.l3 N N) a0 a1
def Lu(N:Nat)(a0:aK)(a1:ae)(a2:Int):Option (fm×aK):=
 cond (aN a2 (List.length a1.1)) ((n4 N a0 (61:Int)).bind fun r1=>(Ik N r1.2 (20:Int)).bind fun r6=>cond (r6.1) ((GX N r6.2).bind fun r7=>cond (az 1000000000000 0) (none) (some (((9:Int),((0:Int),((0:Int),(a2,((0:Int),((0:Int),((0:Int),((W .i64 ((1:Int)+(rem r7.1 1000000000000))),())))))))),r7.2))) (some (((9:Int),((0:Int),((0:Int),(a2,((0:Int),((0:Int),((0:Int),((mx 1 (mn 1000000000000 (W .i64 ((W .i64 ((((List.getD a1.1 a2.toNat aE).2).1)+r1.1))-30)))),())))))))),r6.2))) (none)
def Ot(N:Nat)(a0:aK)(a1:ae):Option (fm×aK):=
 (n4 N a0 (List.length a1.1:Int)).bind fun r1=>(n4 N r1.2 (7:Int)).bind fun r2=>let v3:Int:=W .i64 ((1:Int)+r2.1);(n4 N r2.2 (2:Int)).bind fun r4=>let v5:Int:=W .i64 ((1:Int)+r4.1);(n4 N r4.2 (30:Int)).bind fun r6=>cond (aN r1.1 (List.length a1.1)) ((n4 N r6.2 (21:Int)).bind fun r8=>(Ik N r8.2 (30:Int)).bind fun kR=>cond (kR.1) ((GX N kR.2).bind fun rR=>cond (az 1000000000 0) (none) ((GX N rR.2).bind fun so=>cond (az 1000000000000 0) (none) (some (((7:Int),((0:Int),(v3,(r1.1,(v5,((0:Int),((W .i64 ((1:Int)+(rem rR.1 1000000000))),((W .i64 ((1:Int)+(rem so.1 1000000000000))),())))))))),so.2)))) (some (((7:Int),((0:Int),(v3,(r1.1,(v5,((0:Int),((W .i64 ((1:Int)+r6.1)),((mx 1 (mn 1000000000000 (W .i64 ((W .i64 ((((List.getD a1.1 r1.1.toNat aE).2).1)+r8.1))-10)))),())))))))),kR.2))) (none)
def Ou(N:Nat)(a0:aK)(a1:ae):Option (fm×aK):=
 (n4 N a0 (4:Int)).bind fun r1=>let v2:Int:=W .i64 ((1:Int)+r1.1);(n4 N r1.2 (7:Int)).bind fun r3=>let v4:Int:=W .i64 ((1:Int)+r3.1);(n4 N r3.2 (List.length a1.1:Int)).bind fun r5=>(n4 N r5.2 (36:Int)).bind fun r6=>let v7:Int:=W .i64 ((1:Int)+r6.1);cond (az v7 1) (some ((v7,(v2,eg)),r6.2)) (cond (az v7 11) (some ((v7,(v2,eg)),r6.2)) (cond (az v7 12) (some ((v7,(v2,eg)),r6.2)) (cond (az v7 13) (some ((v7,(v2,eg)),r6.2)) (cond (az v7 2) ((n4 N r6.2 (2:Int)).bind fun r8=>some ((v7,(v2,(v4,((0:Int),((W .i64 ((1:Int)+r8.1)),aW))))),r8.2)) (cond (az v7 3) ((GX N r6.2).bind fun jo=>some ((v7,((0:Int),(v4,((0:Int),((0:Int),((0:Int),((mx jo.1 1),((0:Int),())))))))),jo.2)) (cond (az v7 4) ((GX N r6.2).bind fun np=>some ((v7,((0:Int),(v4,((0:Int),((0:Int),((0:Int),((mx np.1 1),((0:Int),())))))))),np.2)) (cond (az v7 5) ((GX N r6.2).bind fun rR=>some ((v7,(v2,((0:Int),((0:Int),((0:Int),((0:Int),((mx rR.1 1),((0:Int),())))))))),rR.2)) (cond (az v7 22) ((GX N r6.2).bind fun vB=>some ((v7,(v2,((0:Int),((0:Int),((0:Int),((0:Int),((mx vB.1 1),((0:Int),())))))))),vB.2)) (cond (az v7 6) ((GX N r6.2).bind fun uW=>cond (az 1000000000001 0) (none) (some ((v7,((0:Int),(v4,((0:Int),((0:Int),((0:Int),((rem uW.1 1000000000001),((0:Int),())))))))),uW.2))) (cond (az v7 8) ((n4 N r6.2 (40:Int)).bind fun BE=>some ((v7,((0:Int),(v4,((0:Int),((0:Int),((W .i64 ((1:Int)+BE.1)),bP)))))),BE.2)) (cond (az v7 9) ((Lu N r6.2 a1 r5.1).bind fun G4=>some (G4.1,G4.2)) (cond (az v7 10) ((n4 N r6.2 (3:Int)).bind fun zt=>some ((v7,((0:Int),((0:Int),((0:Int),((0:Int),((0:Int),((W .i64 ((1:Int)+zt.1)),((0:Int),())))))))),zt.2)) (cond (az v7 14) (some ((v7,(v2,(v4,jC))),r6.2)) (cond (az v7 15) (some ((v7,We),r6.2)) (cond (az v7 16) (some ((v7,We),r6.2)) (cond (az v7 18) (some ((v7,We),r6.2)) (cond (az v7 20) (some ((v7,We),r6.2)) (cond (az v7 21) (some ((v7,We),r6.2)) (cond (az v7 17) ((n4 N r6.2 (60:Int)).bind fun Dg=>(n4 N Dg.2 (20:Int)).bind fun L1=>cond (aN r5.1 (List.length a1.1)) (some ((v7,((0:Int),(v4,((0:Int),((0:Int),((W .i64 ((1:Int)+Dg.1)),((W .i64 ((1:Int)+L1.1)),(((List.getD a1.1 r5.1.toNat aE).2).1,())))))))),L1.2)) (none)) (cond (az v7 19) ((n4 N r6.2 (60:Int)).bind fun BC=>(n4 N BC.2 (80:Int)).bind fun J2=>some ((v7,(v2,((0:Int),((0:Int),((0:Int),((W .i64 ((1:Int)+BC.1)),((0:Int),((W .i64 (J2.1-60)),())))))))),J2.2)) ((Ot N r6.2 a1).bind fun r33=>some (r33.1,r33.2))))))))))))))))))))))
abbrev xK.cv:=aK→ae→fE→Int→Option (fE×aK)
def xK.ig(N:Nat)(b9:xK.cv)(x0:aK)(x4:ae)(x7:fE)(x8:Int):Option (fE×aK):=
 cond (aM 0 x8) ((n4 N x0 (8:Int)).bind fun r5=>cond (az r5.1 0) ((Ou N r5.2 x4).bind fun r6=>cond (small (List.length x7+List.length ([r6.1]))) (b9 r6.2 x4 (x7++([r6.1])) (W .i64 (x8-1))) (none)) (cond (az r5.1 1) ((n4 N r5.2 (List.length x4.1:Int)).bind fun r9=>(Lu N r9.2 x4 r9.1).bind fun jo=>cond (small (List.length x7+List.length ([jo.1]))) (b9 jo.2 x4 (x7++([jo.1])) (W .i64 (x8-1))) (none)) ((Ot N r5.2 x4).bind fun kR=>cond (small (List.length x7+List.length ([kR.1]))) (b9 kR.2 x4 (x7++([kR.1])) (W .i64 (x8-1))) (none)))) (some (x7,x0))
def xK.l3(N:Nat):Nat→xK.cv
 |0,_,_,_,_=>none
 |n+1,x0,x4,x7,x8=>xK.ig N (xK.l3 N n) x0 x4 x7 x8
def xK.b(N:Nat)(jq:xK.cv)(a0:aK)(a1:ae)(a2:Int):Option (fE×aK):=
 (dA N a0 a1).bind fun r1=>(n4 N r1.2 (W .i64 (a2+1))).bind fun r3=>jq r3.2 a1 r1.1 r3.1
def xK(N:Nat)(a0:aK)(a1:ae)(a2:Int):Option (fE×aK):=xK.b N (xK.l3 N N) a0 a1 a2
abbrev xj.cv:=aK→ae→fE→Int→Option (fE×aK)
def xj.ig(N:Nat)(b9:xj.cv)(x0:aK)(x3:ae)(x5:fE)(x6:Int):Option (fE×aK):=
 cond (aM 0 x6) ((Ik N x0 (2:Int)).bind fun r3=>cond (r3.1) ((n4 N r3.2 (List.length x3.1:Int)).bind fun r4=>(Lu N r4.2 x3 r4.1).bind fun r5=>cond (small (List.length x5+List.length ([r5.1]))) (b9 r5.2 x3 (x5++([r5.1])) (W .i64 (x6-1))) (none)) ((Ou N r3.2 x3).bind fun r8=>cond (small (List.length x5+List.length ([r8.1]))) (b9 r8.2 x3 (x5++([r8.1])) (W .i64 (x6-1))) (none))) (some (x5,x0))
def xj.l3(N:Nat):Nat→xj.cv
 |0,_,_,_,_=>none
 |n+1,x0,x3,x5,x6=>xj.ig N (xj.l3 N n) x0 x3 x5 x6
def xj.b(N:Nat)(jq:xj.cv)(a0:aK)(a1:ae):Option (fE×aK):=
 (n4 N a0 (3:Int)).bind fun r1=>jq r1.2 a1 ([]) r1.1
def xj(N:Nat)(a0:aK)(a1:ae):Option (fE×aK):=xj.b N (xj.l3 N N) a0 a1
def Ah(N:Nat)(a0:Int)(a1:Int)(a2:Int):Option (Bool):=
 cond (bV a1 a0) (some (bV a0 a2)) (some false)
abbrev ij.aU:=ae→Int→Option (Bool)
def ij.ca(N:Nat)(bg:ij.aU)(x1:ae)(x3:Int):Option (Bool):=
 cond (aM x3 (List.length x1.1:Int)) (cond (aN x3 (List.length x1.1)) ((Ah N ((List.getD x1.1 x3.toNat aE).1) (0:Int) (3:Int)).bind fun r2=>cond (!r2) (some false) ((Ah N (((List.getD x1.1 x3.toNat aE).2).1) (1:Int) (1000000000000:Int)).bind fun r3=>cond (!r3) (some false) ((Ah N ((((List.getD x1.1 x3.toNat aE).2).2).1) (0:Int) (1000000000:Int)).bind fun r4=>cond (!r4) (some false) ((Ah N (((((List.getD x1.1 x3.toNat aE).2).2).2).1) (0:Int) (1000000000:Int)).bind fun r5=>cond (!r5) (some false) (bg x1 (W .i64 (x3+1))))))) (none)) (cond (bV 0 x1.2.1) ((Ah N x1.2.2.1 (0:Int) (4:Int)).bind fun r7=>cond (r7) ((Ah N x1.2.2.2.1 (0:Int) (1000000:Int)).bind fun r8=>cond (r8) ((Ah N x1.2.2.2.2.1 (0:Int) (1000000:Int)).bind fun r9=>cond (r9) ((Ah N x1.2.2.2.2.2.1 (1:Int) (4611686018427387904:Int)).bind fun jo=>cond (jo) (some (bV 0 x1.2.2.2.2.2.2.1)) (some false)) (some false)) (some false)) (some false)) (some false))
def ij.l4(N:Nat):Nat→ij.aU
 |0,_,_=>none
 |n+1,x1,x3=>ij.ca N (ij.l4 N n) x1 x3
def ij.b(N:Nat)(cN:ij.aU)(a0:ae):Option (Bool):=
 cond (aM (List.length a0.1:Int) 1) (some false) (cond (aM 6 (List.length a0.1:Int)) (some false) (cN a0 (0:Int)))
def ij(N:Nat)(a0:ae):Option (Bool):=ij.b N (ij.l4 N N) a0
abbrev gi.cU:=ae→ah→ah→(List (Int))→Int→Option (ah×(Int))
abbrev gi.Pd:=ae→ah→ah→(List (Int))→Option (ah×(Int))
def gi.lD(N:Nat)(cH:gi.cU)(x1:ae)(x2:ah)(x4:ah)(Sl:List (Int))(x5:Int):Option (ah×(Int)):=
 cond (aM x5 (List.length x1.1:Int)) (cond (aN x5 (List.length x1.1)) (cond (small (List.length Sl+List.length ([((List.getD x1.1 x5.toNat aE).2).1]))) (cH x1 x2 (x4.1,(x4.2.1,(x4.2.2.1,(x4.2.2.2.1,(cQ,x4.2.2.2.2.2))))) (Sl++([((List.getD x1.1 x5.toNat aE).2).1])) (W .i64 (x5+1))) (none)) (none)) (some ((x4.1,(x4.2.1,(x4.2.2.1,(x4.2.2.2.1,(Sl,x4.2.2.2.2.2))))),(0:Int)))
def gi.l7(N:Nat):Nat→gi.cU
 |0,_,_,_,_,_=>none
 |n+1,x1,x2,x4,Sl,x5=>gi.lD N (gi.l7 N n) x1 x2 x4 Sl x5
def gi.Mf(N:Nat)(oq:gi.cU)(x1:ae)(x2:ah)(x4:ah)(Sl:List (Int)):Option (ah×(Int)):=
 oq x1 x2 x4 Sl (0:Int)
def gi.j6(N:Nat)(x1:ae)(x2:ah)(x4:ah)(Sl:List (Int)):Option (ah×(Int)):=gi.Mf N (gi.l7 N N) x1 x2 x4 Sl
def gi.b(N:Nat)(CO:gi.Pd)(a0:ae):Option (ah×(Int)):=
 (ij N a0).bind fun r1=>cond (!r1) (some ((a6,(cn,(bc,(bc,(cQ,(cY,())))))),(1:Int))) (cond (!az a0.2.1 0) (CO a0 (a6,(cn,(bc,(bc,(cQ,(cY,())))))) (a6,(cn,([((1:Int),((0:Int),((W .i64 (0-a0.2.1)),()))),((3:Int),((0:Int),(a0.2.1,())))],(bc,(cQ,(cY,())))))) cQ) (CO a0 (a6,(cn,(bc,(bc,(cQ,(cY,())))))) (a6,(cn,(bc,(bc,(cQ,(cY,())))))) cQ))
def gi(N:Nat)(a0:ae):Option (ah×(Int)):=gi.b N (gi.j6 N) a0
def YO(N:Nat)(a0:ae):Option (aI×(Int)):=
 (gi N a0).bind fun r1=>cond (!az r1.2 0) (some (((0:Int),((0:Int),((a6,(cn,(bc,(bc,(cQ,(cY,())))))),(((0:Int),((0:Int),((0:Int),((0:Int),(cn,(([]:List ((Int)×((List ((Int)×((Int)×(Unit))))×((Int)×((Int)×((Int)×((Int)×(Unit)))))))),(cn,(cQ,(a6,(a6,())))))))))),(((0:Int),((0:Int),(wL,((0:Int),())))),()))))),r1.2)) (some (((0:Int),((1:Int),(r1.1,(((0:Int),((0:Int),((0:Int),((0:Int),(cn,(([]:List ((Int)×((List ((Int)×((Int)×(Unit))))×((Int)×((Int)×((Int)×((Int)×(Unit)))))))),(cn,(cQ,(a6,(a6,())))))))))),(((0:Int),((0:Int),(wL,((0:Int),())))),()))))),(0:Int)))
def YC(N:Nat)(a0:Int):Option (Bool):=
 cond (bV 1 a0) (some (bV a0 22)) (some false)
def RK(N:Nat)(a0:Int):Option (ByteArray):=
 cond (az a0 1) (some (strOf [77])) (cond (az a0 11) (some (strOf [77])) (cond (az a0 12) (some (strOf [77])) (cond (az a0 13) (some (strOf [77])) (cond (az a0 2) (some (strOf [77,65,83])) (cond (az a0 3) (some (strOf [65,81])) (cond (az a0 4) (some (strOf [65,81])) (cond (az a0 6) (some (strOf [65,81])) (cond (az a0 5) (some (strOf [77,81])) (cond (az a0 22) (some (strOf [77,81])) (cond (az a0 7) (some (strOf [65,73,83,81,80])) (cond (az a0 8) (some (strOf [65,68])) (cond (az a0 9) (some (strOf [73,80])) (cond (az a0 10) (some (strOf [81])) (cond (az a0 14) (some (strOf [77,65])) (cond (az a0 17) (some (strOf [65,68,81,80])) (cond (az a0 19) (some (strOf [77,68,80])) (some (strOf []))))))))))))))))))
def YA(N:Nat)(a0:Int):Option ((Int)×(Int)):=
 cond (az a0 6) (some ((0:Int),(1000000000000:Int))) (cond (az a0 7) (some ((1:Int),(1000000000:Int))) (cond (az a0 17) (some ((1:Int),(1000000000:Int))) (cond (az a0 10) (some ((1:Int),(1000000:Int))) (some ((1:Int),(9223372036854775807:Int))))))
def YB(N:Nat)(a0:Int):Option ((Int)×(Int)):=
 cond (az a0 19) (some ((-1152921504606846976:Int),(1152921504606846976:Int))) (some ((1:Int),(1000000000000:Int)))
def RL(N:Nat)(a0:Int)(a1:Int):Option ((Int)×(Int)):=
 cond (az a1 77) (some ((1:Int),(12:Int))) (cond (az a1 65) (some ((1:Int),(24:Int))) (cond (az a1 73) (some ((0:Int),(5:Int))) (cond (az a1 83) (some ((1:Int),(2:Int))) (cond (az a1 68) (some ((1:Int),(1099511627776:Int))) (cond (az a1 81) ((YA N a0).bind fun r1=>some (r1.1,r1.2)) ((YB N a0).bind fun r2=>some (r2.1,r2.2)))))))
def RM(N:Nat)(a0:fm)(a1:Int):Option (Int):=
 cond (az a1 77) (some a0.2.1) (cond (az a1 65) (some a0.2.2.1) (cond (az a1 73) (some a0.2.2.2.1) (cond (az a1 83) (some a0.2.2.2.2.1) (cond (az a1 68) (some a0.2.2.2.2.2.1) (cond (az a1 81) (some a0.2.2.2.2.2.2.1) (some a0.2.2.2.2.2.2.2.1))))))
def RN(N:Nat)(a0:fm)(a1:Int)(a2:Int):Option fm:=
 cond (az a1 77) (some (a0.1,(a2,a0.2.2))) (cond (az a1 65) (some (a0.1,(a0.2.1,(a2,a0.2.2.2)))) (cond (az a1 73) (some (a0.1,(a0.2.1,(a0.2.2.1,(a2,a0.2.2.2.2))))) (cond (az a1 83) (some (a0.1,(a0.2.1,(a0.2.2.1,(a0.2.2.2.1,(a2,a0.2.2.2.2.2)))))) (cond (az a1 68) (some (a0.1,(a0.2.1,(a0.2.2.1,(a0.2.2.2.1,(a0.2.2.2.2.1,(a2,a0.2.2.2.2.2.2))))))) (cond (az a1 81) (some (a0.1,(a0.2.1,(a0.2.2.1,(a0.2.2.2.1,(a0.2.2.2.2.1,(a0.2.2.2.2.2.1,(a2,a0.2.2.2.2.2.2.2)))))))) (some (a0.1,(a0.2.1,(a0.2.2.1,(a0.2.2.2.1,(a0.2.2.2.2.1,(a0.2.2.2.2.2.1,(a0.2.2.2.2.2.2.1,(a2,a0.2.2.2.2.2.2.2.2))))))))))))))
abbrev mY.ed:=fm→ByteArray→fm→Int→Option (Bool)
def mY.mg(N:Nat)(ej:mY.ed)(x1:fm)(x3:ByteArray)(x4:fm)(x5:Int):Option (Bool):=
 cond (aM x5 (ByteArray.size x3:Int)) (cond (aN x5 (ByteArray.size x3)) ((RL N x1.1 ((x3.data.getD x5.toNat 0).toNat:Int)).bind fun r4=>cond (aN x5 (ByteArray.size x3)) ((RM N x1 ((x3.data.getD x5.toNat 0).toNat:Int)).bind fun r5=>cond (aM r5 r4.1) (some false) (cond (aM r4.2 r5) (some false) (cond (aN x5 (ByteArray.size x3)) ((RN N x4 ((x3.data.getD x5.toNat 0).toNat:Int) r5).bind fun r6=>ej x1 x3 r6 (W .i64 (x5+1))) (none)))) (none)) (none)) (some (kV (.pair (.int .i64) (.pair (.int .i64) (.pair (.int .i64) (.pair (.int .i64) (.pair (.int .i64) (.pair (.int .i64) (.pair (.int .i64) (.pair (.int .i64) .unit)))))))) x4 x1))
def mY.l6(N:Nat):Nat→mY.ed
 |0,_,_,_,_=>none
 |n+1,x1,x3,x4,x5=>mY.mg N (mY.l6 N n) x1 x3 x4 x5
def mY.b(N:Nat)(oj:mY.ed)(a0:fm):Option (Bool):=
 (YC N a0.1).bind fun r1=>cond (!r1) (some false) ((RK N a0.1).bind fun r2=>oj a0 r2 (a0.1,We) (0:Int))
def mY(N:Nat)(a0:fm):Option (Bool):=mY.b N (mY.l6 N N) a0
abbrev jt.bL:=ax→Int→Option (Bool)
def jt.dI(N:Nat)(cG:jt.bL)(x0:ax)(x3:Int):Option (Bool):=
 cond (aM x3 (List.length x0:Int)) (cond (aN x3 (List.length x0)) (cond (aM ((List.getD x0 x3.toNat bP).1) (1:Int)) (some false) (cond (aN x3 (List.length x0)) (cond (aM 12 ((List.getD x0 x3.toNat bP).1)) (some false) (cond (aN x3 (List.length x0)) (cond (aM (((List.getD x0 x3.toNat bP).2).1) (1:Int)) (some false) (cond (aN x3 (List.length x0)) (cond (aM 4 (((List.getD x0 x3.toNat bP).2).1)) (some false) (cond (aM 0 x3) (cond (aN x3 (List.length x0)) (let v2:Int:=W .i64 (x3-1);cond (aN v2 (List.length x0)) (cond (bV ((List.getD x0 x3.toNat bP).1) ((List.getD x0 v2.toNat bP).1)) (some false) (cG x0 (W .i64 (x3+1)))) (none)) (none)) (cG x0 (W .i64 (x3+1))))) (none))) (none))) (none))) (none)) (some true)
def jt.l2(N:Nat):Nat→jt.bL
 |0,_,_=>none
 |n+1,x0,x3=>jt.dI N (jt.l2 N n) x0 x3
def jt.b(N:Nat)(eG:jt.bL)(a0:ax):Option (Bool):=
 eG a0 (0:Int)
def jt(N:Nat)(a0:ax):Option (Bool):=jt.b N (jt.l2 N N) a0
abbrev iM.bL:=ax→Int→Int→Option (Int)
def iM.dI(N:Nat)(cG:iM.bL)(x0:ax)(x1:Int)(x5:Int):Option (Int):=
 cond (aM x5 (List.length x0:Int)) (cond (aN x5 (List.length x0)) (cond (az ((List.getD x0 x5.toNat bP).1) x1) (cond (aN x5 (List.length x0)) (some (((List.getD x0 x5.toNat bP).2).1)) (none)) (cG x0 x1 (W .i64 (x5+1)))) (none)) (some (0:Int))
def iM.l2(N:Nat):Nat→iM.bL
 |0,_,_,_=>none
 |n+1,x0,x1,x5=>iM.dI N (iM.l2 N n) x0 x1 x5
def iM.b(N:Nat)(eG:iM.bL)(a0:ax)(a1:Int):Option (Int):=
 eG a0 a1 (0:Int)
def iM(N:Nat)(a0:ax)(a1:Int):Option (Int):=iM.b N (iM.l2 N N) a0 a1
abbrev gC.IE:=ax→Int→ax→Int→Option (ax×(Int))
abbrev gC.cU:=ax→Int→ax→Int→Option (ax×(Int))
def gC.Hw(N:Nat)(x0:ax)(x1:Int)(x6:ax)(x7:Int):Option (ax×(Int)):=
 cond (fu 0 x7 (List.length x0:Int) (List.length x0:Int)) (let v6:List ((Int)×((Int)×(Unit))):=List.drop (0:Int).toNat (List.take x7.toNat x0);cond (small (List.length x6+List.length v6)) (let v7:List ((Int)×((Int)×(Unit))):=x6++v6;cond (small (List.length v7+List.length ([(x1,((1:Int),()))]))) (let v8:List ((Int)×((Int)×(Unit))):=v7++([(x1,((1:Int),()))]);cond (fu x7 (List.length x0:Int) (List.length x0:Int) (List.length x0:Int)) (let v9:List ((Int)×((Int)×(Unit))):=List.drop x7.toNat (List.take (List.length x0:Int).toNat x0);cond (small (List.length v8+List.length v9)) (some ((v8++v9),(0:Int))) (none)) (none)) (none)) (none)) (none)
def gC.j9(N:Nat)(x0:ax)(x1:Int)(x6:ax)(x7:Int):Option (ax×(Int)):=gC.Hw N x0 x1 x6 x7
def gC.lD(N:Nat)(zB:gC.IE)(cH:gC.cU)(x0:ax)(x1:Int)(x6:ax)(x7:Int):Option (ax×(Int)):=
 cond (aM x7 (List.length x0:Int)) (cond (aN x7 (List.length x0)) (cond (aM ((List.getD x0 x7.toNat bP).1) x1) (cH x0 x1 x6 (W .i64 (x7+1))) (zB x0 x1 x6 x7)) (none)) (zB x0 x1 x6 x7)
def gC.l7(N:Nat):Nat→gC.cU
 |0,_,_,_,_=>none
 |n+1,x0,x1,x6,x7=>gC.lD N (gC.j9 N) (gC.l7 N n) x0 x1 x6 x7
def gC.b(N:Nat)(oq:gC.cU)(a0:ax)(a1:Int):Option (ax×(Int)):=
 (jt N a0).bind fun r1=>cond (!r1) (some ([],(1:Int))) (cond (aM a1 1) (some ([],(1:Int))) (cond (aM 12 a1) (some ([],(1:Int))) ((iM N a0 a1).bind fun r2=>cond (!az r2 0) (some ([],(4:Int))) (oq a0 a1 ([]) (0:Int)))))
def gC(N:Nat)(a0:ax)(a1:Int):Option (ax×(Int)):=gC.b N (gC.l7 N N) a0 a1
def dT(N:Nat)(a0:Int):Option cy:=
 some (a0,bP)
abbrev g7.fp:=ay→Int→bs→Int→Option (Bool)
abbrev g7.YR:=ay→Int→bs→Option (Bool)
abbrev g7.bL:=ay→Int→Option (Bool)
def g7.xC(N:Nat)(cG:g7.bL)(dD:g7.fp)(x0:ay)(x3:Int)(x4:bs)(x5:Int):Option (Bool):=
 cond (aM x5 x3) (cond (az x4.2.2.1 1) (cond (aN x5 (List.length x0)) (cond (az ((((List.getD x0 x5.toNat aE).2).2).1) (1:Int)) (cond (aN x5 (List.length x0)) (cond (az (((List.getD x0 x5.toNat aE).2).1) x4.2.1) (some false) (dD x0 x3 x4 (W .i64 (x5+1)))) (none)) (dD x0 x3 x4 (W .i64 (x5+1)))) (none)) (dD x0 x3 x4 (W .i64 (x5+1)))) (cG x0 (W .i64 (x3+1)))
def g7.l8(N:Nat)(cG:g7.bL):Nat→g7.fp
 |0,_,_,_,_=>none
 |n+1,x0,x3,x4,x5=>g7.xC N cG (g7.l8 N cG n) x0 x3 x4 x5
def g7.Yi(N:Nat)(zC:g7.fp)(cG:g7.bL)(x0:ay)(x3:Int)(x4:bs):Option (Bool):=
 zC x0 x3 x4 (0:Int)
def g7.j7(N:Nat)(cG:g7.bL)(x0:ay)(x3:Int)(x4:bs):Option (Bool):=g7.Yi N (g7.l8 N cG N) cG x0 x3 x4
def g7.dI(N:Nat)(IF:g7.YR)(cG:g7.bL)(x0:ay)(x3:Int):Option (Bool):=
 cond (aM x3 (List.length x0:Int)) (cond (aN x3 (List.length x0)) (cond (aM ((List.getD x0 x3.toNat aE).1) (1:Int)) (some false) (cond (aM 24 ((List.getD x0 x3.toNat aE).1)) (some false) (cond (aM (((List.getD x0 x3.toNat aE).2).1) (1:Int)) (some false) (cond (aM 12 (((List.getD x0 x3.toNat aE).2).1)) (some false) (cond (!az ((((List.getD x0 x3.toNat aE).2).2).1) (1:Int)) (cond (!az ((((List.getD x0 x3.toNat aE).2).2).1) (2:Int)) (some false) (cond (aM (((((List.getD x0 x3.toNat aE).2).2).2).1) (0:Int)) (some false) (cond (aM 1000000000000 (((((List.getD x0 x3.toNat aE).2).2).2).1)) (some false) (cond (aM 0 x3) (let v2:Int:=W .i64 (x3-1);cond (aN v2 (List.length x0)) (cond (bV ((List.getD x0 x3.toNat aE).1) ((List.getD x0 v2.toNat aE).1)) (some false) (IF x0 x3 (List.getD x0 x3.toNat aE))) (none)) (IF x0 x3 (List.getD x0 x3.toNat aE)))))) (cond (aM (((((List.getD x0 x3.toNat aE).2).2).2).1) (0:Int)) (some false) (cond (aM 1000000000000 (((((List.getD x0 x3.toNat aE).2).2).2).1)) (some false) (cond (aM 0 x3) (let v9:Int:=W .i64 (x3-1);cond (aN v9 (List.length x0)) (cond (bV ((List.getD x0 x3.toNat aE).1) ((List.getD x0 v9.toNat aE).1)) (some false) (IF x0 x3 (List.getD x0 x3.toNat aE))) (none)) (IF x0 x3 (List.getD x0 x3.toNat aE)))))))))) (none)) (some true)
def g7.l2(N:Nat):Nat→g7.bL
 |0,_,_=>none
 |n+1,x0,x3=>g7.dI N (g7.j7 N (g7.l2 N n)) (g7.l2 N n) x0 x3
def g7.b(N:Nat)(eG:g7.bL)(a0:ay):Option (Bool):=
 eG a0 (0:Int)
def g7(N:Nat)(a0:ay):Option (Bool):=g7.b N (g7.l2 N N) a0
abbrev jM.aU:=ax→ay→Int→Option (Bool)
def jM.ca(N:Nat)(bg:jM.aU)(x0:ax)(x1:ay)(x5:Int):Option (Bool):=
 cond (aM x5 (List.length x1:Int)) (cond (aN x5 (List.length x1)) ((iM N x0 (((List.getD x1 x5.toNat aE).2).1)).bind fun r4=>cond (az r4 0) (some false) (bg x0 x1 (W .i64 (x5+1)))) (none)) (some true)
def jM.l4(N:Nat):Nat→jM.aU
 |0,_,_,_=>none
 |n+1,x0,x1,x5=>jM.ca N (jM.l4 N n) x0 x1 x5
def jM.b(N:Nat)(cN:jM.aU)(a0:ax)(a1:ay):Option (Bool):=
 (jt N a0).bind fun r1=>cond (!r1) (some false) ((g7 N a1).bind fun r2=>cond (!r2) (some false) (cN a0 a1 (0:Int)))
def jM(N:Nat)(a0:ax)(a1:ay):Option (Bool):=jM.b N (jM.l4 N N) a0 a1
abbrev ju.bL:=ay→Int→bs→Int→Option (bs×(Bool))
def ju.dI(N:Nat)(cG:ju.bL)(x0:ay)(x1:Int)(x4:bs)(x6:Int):Option (bs×(Bool)):=
 cond (aM x6 (List.length x0:Int)) (cond (aN x6 (List.length x0)) (cond (az ((List.getD x0 x6.toNat aE).1) x1) (cond (aN x6 (List.length x0)) (some (List.getD x0 x6.toNat aE,true)) (none)) (cG x0 x1 x4 (W .i64 (x6+1)))) (none)) (some (aE,false))
def ju.l2(N:Nat):Nat→ju.bL
 |0,_,_,_,_=>none
 |n+1,x0,x1,x4,x6=>ju.dI N (ju.l2 N n) x0 x1 x4 x6
def ju.b(N:Nat)(eG:ju.bL)(a0:ay)(a1:Int):Option (bs×(Bool)):=
 eG a0 a1 aE (0:Int)
def ju(N:Nat)(a0:ay)(a1:Int):Option (bs×(Bool)):=ju.b N (ju.l2 N N) a0 a1
abbrev sQ.aU:=ay→Int→Int→Option (Int)
def sQ.ca(N:Nat)(bg:sQ.aU)(x0:ay)(x1:Int)(x5:Int):Option (Int):=
 cond (aM x5 (List.length x0:Int)) (cond (aN x5 (List.length x0)) (cond (az (((List.getD x0 x5.toNat aE).2).1) x1) (cond (aN x5 (List.length x0)) (cond (az ((((List.getD x0 x5.toNat aE).2).2).1) (1:Int)) (cond (aN x5 (List.length x0)) (some ((List.getD x0 x5.toNat aE).1)) (none)) (bg x0 x1 (W .i64 (x5+1)))) (none)) (bg x0 x1 (W .i64 (x5+1)))) (none)) (some (0:Int))
def sQ.l4(N:Nat):Nat→sQ.aU
 |0,_,_,_=>none
 |n+1,x0,x1,x5=>sQ.ca N (sQ.l4 N n) x0 x1 x5
def sQ.b(N:Nat)(cN:sQ.aU)(a0:ay)(a1:Int):Option (Int):=
 (g7 N a0).bind fun r1=>cond (!r1) (some (0:Int)) (cN a0 a1 (0:Int))
def sQ(N:Nat)(a0:ay)(a1:Int):Option (Int):=sQ.b N (sQ.l4 N N) a0 a1
abbrev eu.zD:=ay→bs→ay→Int→Option (ay×(Int))
abbrev eu.eK:=ay→bs→ay→Int→Option (ay×(Int))
abbrev eu.Fp:=ay→bs→Option (ay×(Int))
def eu.ta(N:Nat)(x1:ay)(x5:bs)(aL:ay)(aP:Int):Option (ay×(Int)):=
 cond (fu 0 aP (List.length x1:Int) (List.length x1:Int)) (let v10:List ((Int)×((Int)×((Int)×((Int)×(Unit))))):=List.drop (0:Int).toNat (List.take aP.toNat x1);cond (small (List.length aL+List.length v10)) (let v11:List ((Int)×((Int)×((Int)×((Int)×(Unit))))):=aL++v10;cond (small (List.length v11+List.length ([x5]))) (let LZ:List ((Int)×((Int)×((Int)×((Int)×(Unit))))):=v11++([x5]);cond (fu aP (List.length x1:Int) (List.length x1:Int) (List.length x1:Int)) (let Fo:List ((Int)×((Int)×((Int)×((Int)×(Unit))))):=List.drop aP.toNat (List.take (List.length x1:Int).toNat x1);cond (small (List.length LZ+List.length Fo)) (some ((LZ++Fo),(0:Int))) (none)) (none)) (none)) (none)) (none)
def eu.Ar(N:Nat)(x1:ay)(x5:bs)(aL:ay)(aP:Int):Option (ay×(Int)):=eu.ta N x1 x5 aL aP
def eu.lN(N:Nat)(p3:eu.zD)(fJ:eu.eK)(x1:ay)(x5:bs)(aL:ay)(aP:Int):Option (ay×(Int)):=
 cond (aM aP (List.length x1:Int)) (cond (aN aP (List.length x1)) (cond (aM ((List.getD x1 aP.toNat aE).1) x5.1) (fJ x1 x5 aL (W .i64 (aP+1))) (p3 x1 x5 aL aP)) (none)) (p3 x1 x5 aL aP)
def eu.nV(N:Nat):Nat→eu.eK
 |0,_,_,_,_=>none
 |n+1,x1,x5,aL,aP=>eu.lN N (eu.Ar N) (eu.nV N n) x1 x5 aL aP
def eu.zl(N:Nat)(qY:eu.eK)(x1:ay)(x5:bs):Option (ay×(Int)):=
 qY x1 x5 ([]) (0:Int)
def eu.GY(N:Nat)(x1:ay)(x5:bs):Option (ay×(Int)):=eu.zl N (eu.nV N N) x1 x5
def eu.b(N:Nat)(wH:eu.Fp)(a0:ax)(a1:ay)(a2:bs):Option (ay×(Int)):=
 (jM N a0 a1).bind fun r1=>cond (!r1) (some ([],(1:Int))) ((g7 N ([a2])).bind fun r2=>cond (!r2) (some ([],(1:Int))) ((iM N a0 a2.2.1).bind fun r3=>cond (az r3 0) (some ([],(3:Int))) (cond (!az r3 1) (some ([],(7:Int))) ((ju N a1 a2.1).bind fun r4=>cond (r4.2) (some ([],(4:Int))) (cond (az a2.2.2.1 1) ((sQ N a1 a2.2.1).bind fun r5=>cond (!az r5 0) (some ([],(4:Int))) (wH a1 a2)) (wH a1 a2))))))
def eu(N:Nat)(a0:ax)(a1:ay)(a2:bs):Option (ay×(Int)):=eu.b N (eu.GY N) a0 a1 a2
def yK(N:Nat)(a0:ay)(a1:Int):Option (bs×(Bool)):=
 (g7 N a0).bind fun r1=>cond (!r1) (some (aE,false)) ((ju N a0 a1).bind fun r2=>some (r2.1,r2.2))
def O0(N:Nat)(a0:aI)(a1:Int):Option (Bool):=
 (yK N a0.2.2.1.2.1 a1).bind fun r1=>some r1.2
abbrev jI.bL:=(List (Int))→Int→Option (List (Int))
def jI.dI(N:Nat)(cG:jI.bL)(x0:List (Int))(x3:Int):Option (List (Int)):=
 cond (aM 0 x3) (let v2:Int:=W .i64 (x3-1);cond (aN v2 (List.length x0)) (cond (az (List.getD x0 v2.toNat (0:Int)) (0:Int)) (cG x0 (W .i64 (x3-1))) (cond (fu 0 x3 x3 (List.length x0:Int)) (some (List.drop (0:Int).toNat (List.take x3.toNat x0))) (none))) (none)) (cond (fu 0 x3 x3 (List.length x0:Int)) (some (List.drop (0:Int).toNat (List.take x3.toNat x0))) (none))
def jI.l2(N:Nat):Nat→jI.bL
 |0,_,_=>none
 |n+1,x0,x3=>jI.dI N (jI.l2 N n) x0 x3
def jI.b(N:Nat)(eG:jI.bL)(a0:List (Int)):Option (List (Int)):=
 eG a0 (List.length a0:Int)
def jI(N:Nat)(a0:List (Int)):Option (List (Int)):=jI.b N (jI.l2 N N) a0
def F67(N:Nat)(a0:Int):Option (List (Int)):=
 cond (aM 32 0) (none) ((jI N ([(ov .and .u64 a0 4294967295),(shr .u64 a0 32)])).bind fun r3=>some r3)
def Nw(N:Nat)(a0:Bool)(a1:List (Int)):Option av:=
 (jI N a1).bind fun r1=>cond (a0) (some (aM 0 (List.length r1:Int),(r1,()))) (some (false,(r1,())))
def fY(N:Nat)(a0:Int):Option av:=
 let v1:Int:=W .u64 a0;cond (aM a0 0) ((F67 N (W .u64 (0-v1))).bind fun r3=>(Nw N (aM a0 0) r3).bind fun r4=>some r4) ((F67 N v1).bind fun r5=>(Nw N (aM a0 0) r5).bind fun r6=>some r6)
def Mg(N:Nat)(a0:av):Option av:=
 (Nw N (!a0.1) a0.2.1).bind fun r1=>some r1
def xd(N:Nat)(a0:Int)(a1:Int)(a2:Int)(a3:Int)(a4:av):Option bl:=
 (Mg N a4).bind fun r1=>some ([(a0,(a1,(r1,()))),(a2,(a3,(a4,())))])
def QO(N:Nat)(a0:List (Int))(a1:Int):Option (Int):=
 cond (aM a1 (List.length a0:Int)) (cond (aN a1 (List.length a0)) (some (List.getD a0 a1.toNat (0:Int))) (none)) (some (0:Int))
abbrev pY.Pd:=(List (Int))→(List (Int))→(List (Int))→Int→Int→Option (List (Int))
abbrev pY.aU:=(List (Int))→(List (Int))→(List (Int))→Int→Int→Option (List (Int))
def pY.Mf(N:Nat)(bg:pY.aU)(x0:List (Int))(x1:List (Int))(x5:List (Int))(x6:Int)(x7:Int):Option (List (Int)):=
 (QO N x0 x7).bind fun r3=>(QO N x1 x7).bind fun r4=>let v6:Int:=W .u64 (x6+(W .u64 (r3+r4)));let v7:Int:=ov .and .u64 v6 4294967295;cond (small (List.length x5+List.length ([v7]))) (cond (aM 32 0) (none) (bg x0 x1 (x5++([v7])) (shr .u64 v6 32) (W .i64 (x7+1)))) (none)
def pY.j6(N:Nat)(bg:pY.aU)(x0:List (Int))(x1:List (Int))(x5:List (Int))(x6:Int)(x7:Int):Option (List (Int)):=pY.Mf N bg x0 x1 x5 x6 x7
def pY.ca(N:Nat)(CO:pY.Pd)(bg:pY.aU)(x0:List (Int))(x1:List (Int))(x5:List (Int))(x6:Int)(x7:Int):Option (List (Int)):=
 cond (aM x7 (List.length x0:Int)) (CO x0 x1 x5 x6 x7) (cond (aM x7 (List.length x1:Int)) (CO x0 x1 x5 x6 x7) (cond (aM 0 x6) (CO x0 x1 x5 x6 x7) (some x5)))
def pY.l4(N:Nat):Nat→pY.aU
 |0,_,_,_,_,_=>none
 |n+1,x0,x1,x5,x6,x7=>pY.ca N (pY.j6 N (pY.l4 N n)) (pY.l4 N n) x0 x1 x5 x6 x7
def pY.b(N:Nat)(cN:pY.aU)(a0:List (Int))(a1:List (Int)):Option (List (Int)):=
 cN a0 a1 ([]) (0:Int) (0:Int)
def pY(N:Nat)(a0:List (Int))(a1:List (Int)):Option (List (Int)):=pY.b N (pY.l4 N N) a0 a1
abbrev w1.ed:=(List (Int))→(List (Int))→Int→Option (Int)
def w1.mg(N:Nat)(ej:w1.ed)(x0:List (Int))(x1:List (Int))(x5:Int):Option (Int):=
 cond (bV 0 x5) (cond (aN x5 (List.length x0)) (cond (aN x5 (List.length x1)) (cond (aM (List.getD x0 x5.toNat (0:Int)) (List.getD x1 x5.toNat (0:Int))) (some (-1:Int)) (cond (aN x5 (List.length x0)) (cond (aN x5 (List.length x1)) (cond (aM (List.getD x1 x5.toNat (0:Int)) (List.getD x0 x5.toNat (0:Int))) (some (1:Int)) (ej x0 x1 (W .i64 (x5-1)))) (none)) (none))) (none)) (none)) (some (0:Int))
def w1.l6(N:Nat):Nat→w1.ed
 |0,_,_,_=>none
 |n+1,x0,x1,x5=>w1.mg N (w1.l6 N n) x0 x1 x5
def w1.b(N:Nat)(oj:w1.ed)(a0:List (Int))(a1:List (Int)):Option (Int):=
 cond (!az (List.length a0:Int) (List.length a1:Int)) (cond (aM (List.length a0:Int) (List.length a1:Int)) (some (-1:Int)) (some (1:Int))) (oj a0 a1 (W .i64 ((List.length a0:Int)-1)))
def w1(N:Nat)(a0:List (Int))(a1:List (Int)):Option (Int):=w1.b N (w1.l6 N N) a0 a1
abbrev xz.aU:=(List (Int))→(List (Int))→(List (Int))→Int→Int→Option (List (Int))
def xz.ca(N:Nat)(bg:xz.aU)(x0:List (Int))(x1:List (Int))(x5:List (Int))(x6:Int)(x7:Int):Option (List (Int)):=
 cond (aM x7 (List.length x0:Int)) (cond (aN x7 (List.length x0)) ((QO N x1 x7).bind fun r2=>let v3:Int:=W .u64 (r2+x6);cond (aM (List.getD x0 x7.toNat (0:Int)) v3) (let v5:Int:=W .u64 ((W .u64 ((List.getD x0 x7.toNat (0:Int))+4294967296))-v3);cond (small (List.length x5+List.length ([v5]))) (bg x0 x1 (x5++([v5])) (1:Int) (W .i64 (x7+1))) (none)) (let v8:Int:=W .u64 ((List.getD x0 x7.toNat (0:Int))-v3);cond (small (List.length x5+List.length ([v8]))) (bg x0 x1 (x5++([v8])) (0:Int) (W .i64 (x7+1))) (none))) (none)) (some x5)
def xz.l4(N:Nat):Nat→xz.aU
 |0,_,_,_,_,_=>none
 |n+1,x0,x1,x5,x6,x7=>xz.ca N (xz.l4 N n) x0 x1 x5 x6 x7
def xz.b(N:Nat)(cN:xz.aU)(a0:List (Int))(a1:List (Int)):Option (List (Int)):=
 cN a0 a1 ([]) (0:Int) (0:Int)
def xz(N:Nat)(a0:List (Int))(a1:List (Int)):Option (List (Int)):=xz.b N (xz.l4 N N) a0 a1
def tU(N:Nat)(a0:av)(a1:av):Option av:=
 cond (kV .bool a0.1 a1.1) ((pY N a0.2.1 a1.2.1).bind fun r1=>(Nw N a0.1 r1).bind fun r2=>some r2) ((w1 N a0.2.1 a1.2.1).bind fun r3=>cond (bV 0 r3) ((xz N a0.2.1 a1.2.1).bind fun r4=>(Nw N a0.1 r4).bind fun r5=>some r5) ((xz N a1.2.1 a0.2.1).bind fun r6=>(Nw N a1.1 r6).bind fun r7=>some r7))
def qH(N:Nat)(a0:av):Option ((Int)×(Bool)):=
 cond (aM 2 (List.length a0.2.1:Int)) (some ((0:Int),false)) ((QO N a0.2.1 (0:Int)).bind fun r1=>(QO N a0.2.1 (1:Int)).bind fun r2=>cond (aM 32 0) (none) (let v4:Int:=ov .or .u64 r1 (W .u64 (shl .u64 r2 32));cond (a0.1) (cond (aM 9223372036854775808 v4) (some ((0:Int),false)) (some ((W .i64 (W .u64 (0-v4))),true))) (cond (aM 9223372036854775807 v4) (some ((0:Int),false)) (some ((W .i64 v4),true)))))
def HR(N:Nat)(a0:av):Option ((Int)×(Bool)):=
 (qH N a0).bind fun r1=>cond (!r1.2) (some ((0:Int),false)) (cond (az r1.1 (-9223372036854775808)) (some ((0:Int),false)) (some (r1.1,true)))
abbrev bw.zE:=aj→aj→aj→Int→Int→Int→Int→Bool→av→Int→Option (aj×(Bool))
abbrev bw.Pe:=aj→aj→aj→Int→Int→Int→Int→Bool→Option (aj×(Bool))
abbrev bw.cU:=aj→aj→aj→Int→Int→Int→Option (aj×(Bool))
abbrev bw.aU:=aj→aj→aj→Int→Int→Option (aj×(Bool))
def bw.Co(N:Nat)(bg:bw.aU)(cH:bw.cU)(BF:bw.zE)(x0:aj)(x1:aj)(x6:aj)(x7:Int)(x8:Int)(x9:Int)(aT:Int)(aL:Bool)(aP:av)(bo:Int):Option (aj×(Bool)):=
 cond (aM bo (List.length x1:Int)) (cond (aN bo (List.length x1)) (cond (az ((List.getD x1 bo.toNat aW).1) x8) (cond (aN bo (List.length x1)) (cond (az (((List.getD x1 bo.toNat aW).2).1) x9) (cond (aN bo (List.length x1)) ((fY N ((((List.getD x1 bo.toNat aW).2).2).1)).bind fun r6=>(tU N aP r6).bind fun r7=>BF x0 x1 x6 x7 x8 x9 aT true r7 (W .i64 (bo+1))) (none)) (BF x0 x1 x6 x7 x8 x9 aT aL aP (W .i64 (bo+1)))) (none)) (BF x0 x1 x6 x7 x8 x9 aT aL aP (W .i64 (bo+1)))) (none)) (cond (aL) ((fY N aT).bind fun mo=>(tU N aP mo).bind fun np=>(HR N np).bind fun kR=>cond (!kR.2) (some ([],false)) (cond (!az kR.1 0) (cond (small (List.length x6+List.length ([(x8,(x9,(kR.1,())))]))) (cH x0 x1 (x6++([(x8,(x9,(kR.1,())))])) x7 x8 (W .i64 (x9+1))) (none)) (cH x0 x1 x6 x7 x8 (W .i64 (x9+1))))) (cond (!az aT 0) (cond (small (List.length x6+List.length ([(x8,(x9,(aT,())))]))) (cH x0 x1 (x6++([(x8,(x9,(aT,())))])) x7 x8 (W .i64 (x9+1))) (none)) (cH x0 x1 x6 x7 x8 (W .i64 (x9+1)))))
def bw.Dd(N:Nat)(bg:bw.aU)(cH:bw.cU):Nat→bw.zE
 |0,_,_,_,_,_,_,_,_,_,_=>none
 |n+1,x0,x1,x6,x7,x8,x9,aT,aL,aP,bo=>bw.Co N bg cH (bw.Dd N bg cH n) x0 x1 x6 x7 x8 x9 aT aL aP bo
def bw.Cp(N:Nat)(Pf:bw.zE)(bg:bw.aU)(cH:bw.cU)(x0:aj)(x1:aj)(x6:aj)(x7:Int)(x8:Int)(x9:Int)(aT:Int)(aL:Bool):Option (aj×(Bool)):=
 Pf x0 x1 x6 x7 x8 x9 aT aL (false,kX) (0:Int)
def bw.JC(N:Nat)(bg:bw.aU)(cH:bw.cU)(x0:aj)(x1:aj)(x6:aj)(x7:Int)(x8:Int)(x9:Int)(aT:Int)(aL:Bool):Option (aj×(Bool)):=bw.Cp N (bw.Dd N bg cH N) bg cH x0 x1 x6 x7 x8 x9 aT aL
def bw.lD(N:Nat)(uQ:bw.Pe)(bg:bw.aU)(cH:bw.cU)(x0:aj)(x1:aj)(x6:aj)(x7:Int)(x8:Int)(x9:Int):Option (aj×(Bool)):=
 cond (aM x9 6) (cond (aM x7 (List.length x0:Int)) (cond (aN x7 (List.length x0)) (cond (az ((List.getD x0 x7.toNat aW).1) x8) (cond (aN x7 (List.length x0)) (cond (az (((List.getD x0 x7.toNat aW).2).1) x9) (cond (aN x7 (List.length x0)) (uQ x0 x1 x6 (W .i64 (x7+1)) x8 x9 ((((List.getD x0 x7.toNat aW).2).2).1) false) (none)) (uQ x0 x1 x6 x7 x8 x9 (0:Int) false)) (none)) (uQ x0 x1 x6 x7 x8 x9 (0:Int) false)) (none)) (uQ x0 x1 x6 x7 x8 x9 (0:Int) false)) (bg x0 x1 x6 x7 (W .i64 (x8+1)))
def bw.l7(N:Nat)(bg:bw.aU):Nat→bw.cU
 |0,_,_,_,_,_,_=>none
 |n+1,x0,x1,x6,x7,x8,x9=>bw.lD N (bw.JC N bg (bw.l7 N bg n)) bg (bw.l7 N bg n) x0 x1 x6 x7 x8 x9
def bw.ca(N:Nat)(oq:bw.cU)(bg:bw.aU)(x0:aj)(x1:aj)(x6:aj)(x7:Int)(x8:Int):Option (aj×(Bool)):=
 cond (bV x8 24) (oq x0 x1 x6 x7 x8 (0:Int)) (some (x6,true))
def bw.l4(N:Nat):Nat→bw.aU
 |0,_,_,_,_,_=>none
 |n+1,x0,x1,x6,x7,x8=>bw.ca N (bw.l7 N (bw.l4 N n) N) (bw.l4 N n) x0 x1 x6 x7 x8
def bw.b(N:Nat)(cN:bw.aU)(a0:aj)(a1:aj):Option (aj×(Bool)):=
 cN a0 a1 ([]) (0:Int) (0:Int)
def bw(N:Nat)(a0:aj)(a1:aj):Option (aj×(Bool)):=bw.b N (bw.l4 N N) a0 a1
abbrev jj.cv:=Int→Int→Int→bl→av→Bool→Int→Option ((Int)×(Bool))
def jj.ig(N:Nat)(b9:jj.cv)(x0:Int)(x1:Int)(x2:Int)(x3:bl)(aT:av)(aL:Bool)(aP:Int):Option ((Int)×(Bool)):=
 cond (aM aP (List.length x3:Int)) (cond (aN aP (List.length x3)) (cond (az ((List.getD x3 aP.toNat ((0:Int),((0:Int),((false,kX),())))).1) x1) (cond (aN aP (List.length x3)) (cond (az (((List.getD x3 aP.toNat ((0:Int),((0:Int),((false,kX),())))).2).1) x2) (cond (aN aP (List.length x3)) ((tU N aT ((((List.getD x3 aP.toNat ((0:Int),((0:Int),((false,kX),())))).2).2).1)).bind fun r2=>b9 x0 x1 x2 x3 r2 true (W .i64 (aP+1))) (none)) (b9 x0 x1 x2 x3 aT aL (W .i64 (aP+1)))) (none)) (b9 x0 x1 x2 x3 aT aL (W .i64 (aP+1)))) (none)) (cond (!aL) (some (x0,true)) ((fY N x0).bind fun r6=>(tU N aT r6).bind fun r7=>(qH N r7).bind fun r8=>some (r8.1,r8.2)))
def jj.l3(N:Nat):Nat→jj.cv
 |0,_,_,_,_,_,_,_=>none
 |n+1,x0,x1,x2,x3,aT,aL,aP=>jj.ig N (jj.l3 N n) x0 x1 x2 x3 aT aL aP
def jj.b(N:Nat)(jq:jj.cv)(a0:Int)(a1:Int)(a2:Int)(a3:bl):Option ((Int)×(Bool)):=
 jq a0 a1 a2 a3 (false,kX) false (0:Int)
def jj(N:Nat)(a0:Int)(a1:Int)(a2:Int)(a3:bl):Option ((Int)×(Bool)):=jj.b N (jj.l3 N N) a0 a1 a2 a3
abbrev ck.Pe:=aj→bl→aj→Int→Int→Int→Int→Option (aj×(Bool))
abbrev ck.cU:=aj→bl→aj→Int→Int→Int→Option (aj×(Bool))
abbrev ck.aU:=aj→bl→aj→Int→Int→Option (aj×(Bool))
def ck.Cp(N:Nat)(bg:ck.aU)(cH:ck.cU)(x0:aj)(x1:bl)(x6:aj)(x7:Int)(x8:Int)(x9:Int)(aT:Int):Option (aj×(Bool)):=
 (jj N aT x8 x9 x1).bind fun r5=>cond (!r5.2) (some ([],false)) (cond (!az r5.1 0) (cond (small (List.length x6+List.length ([(x8,(x9,(r5.1,())))]))) (cH x0 x1 (x6++([(x8,(x9,(r5.1,())))])) x7 x8 (W .i64 (x9+1))) (none)) (cH x0 x1 x6 x7 x8 (W .i64 (x9+1))))
def ck.JC(N:Nat)(bg:ck.aU)(cH:ck.cU)(x0:aj)(x1:bl)(x6:aj)(x7:Int)(x8:Int)(x9:Int)(aT:Int):Option (aj×(Bool)):=ck.Cp N bg cH x0 x1 x6 x7 x8 x9 aT
def ck.lD(N:Nat)(uQ:ck.Pe)(bg:ck.aU)(cH:ck.cU)(x0:aj)(x1:bl)(x6:aj)(x7:Int)(x8:Int)(x9:Int):Option (aj×(Bool)):=
 cond (bV x9 24) (cond (aM x7 (List.length x0:Int)) (cond (aN x7 (List.length x0)) (cond (az ((List.getD x0 x7.toNat aW).1) x8) (cond (aN x7 (List.length x0)) (cond (az (((List.getD x0 x7.toNat aW).2).1) x9) (cond (aN x7 (List.length x0)) (uQ x0 x1 x6 (W .i64 (x7+1)) x8 x9 ((((List.getD x0 x7.toNat aW).2).2).1)) (none)) (uQ x0 x1 x6 x7 x8 x9 (0:Int))) (none)) (uQ x0 x1 x6 x7 x8 x9 (0:Int))) (none)) (uQ x0 x1 x6 x7 x8 x9 (0:Int))) (bg x0 x1 x6 x7 (W .i64 (x8+1)))
def ck.l7(N:Nat)(bg:ck.aU):Nat→ck.cU
 |0,_,_,_,_,_,_=>none
 |n+1,x0,x1,x6,x7,x8,x9=>ck.lD N (ck.JC N bg (ck.l7 N bg n)) bg (ck.l7 N bg n) x0 x1 x6 x7 x8 x9
def ck.ca(N:Nat)(oq:ck.cU)(bg:ck.aU)(x0:aj)(x1:bl)(x6:aj)(x7:Int)(x8:Int):Option (aj×(Bool)):=
 cond (bV x8 7) (oq x0 x1 x6 x7 x8 (0:Int)) (some (x6,true))
def ck.l4(N:Nat):Nat→ck.aU
 |0,_,_,_,_,_=>none
 |n+1,x0,x1,x6,x7,x8=>ck.ca N (ck.l7 N (ck.l4 N n) N) (ck.l4 N n) x0 x1 x6 x7 x8
def ck.b(N:Nat)(cN:ck.aU)(a0:aj)(a1:bl):Option (aj×(Bool)):=
 cN a0 a1 ([]) (0:Int) (1:Int)
def ck(N:Nat)(a0:aj)(a1:bl):Option (aj×(Bool)):=ck.b N (ck.l4 N N) a0 a1
def vu(N:Nat)(a0:ah)(a1:aj)(a2:bl):Option (ah×(Int)):=
 (bw N a0.2.2.2.1 a1).bind fun r1=>cond (!r1.2) (some ((a6,(cn,(bc,(bc,(cQ,(cY,())))))),(2:Int))) ((ck N a0.2.2.1 a2).bind fun r2=>cond (!r2.2) (some ((a6,(cn,(bc,(bc,(cQ,(cY,())))))),(2:Int))) (some ((a0.1,(a0.2.1,(r2.1,(r1.1,a0.2.2.2.2)))),(0:Int))))
def LV(N:Nat)(a0:aI)(a1:Int)(a2:Int)(a3:Int)(a4:Int)(a5:Int):Option (aI×cy):=
 (fY N a5).bind fun r1=>(xd N a1 a2 a3 a4 r1).bind fun r2=>(vu N a0.2.2.1 bc r2).bind fun r3=>some ((a0.1,(a0.2.1,(r3.1,a0.2.2.2))),(r3.2,bP))
abbrev ku.bm:=aj→Int→av→av→Int→Option av
def ku.dn(N:Nat)(bb:ku.bm)(x0:aj)(x1:Int)(x4:av)(x5:av)(x6:Int):Option av:=
 cond (aM x6 (List.length x0:Int)) (cond (aN x6 (List.length x0)) (cond (az (((List.getD x0 x6.toNat aW).2).1) x1) (cond (aN x6 (List.length x0)) ((fY N ((((List.getD x0 x6.toNat aW).2).2).1)).bind fun r3=>(tU N x5 r3).bind fun r4=>bb x0 x1 x4 r4 (W .i64 (x6+1))) (none)) (bb x0 x1 x4 x5 (W .i64 (x6+1)))) (none)) (some x5)
def ku.l5(N:Nat):Nat→ku.bm
 |0,_,_,_,_,_=>none
 |n+1,x0,x1,x4,x5,x6=>ku.dn N (ku.l5 N n) x0 x1 x4 x5 x6
def ku.b(N:Nat)(dK:ku.bm)(a0:aj)(a1:Int):Option av:=
 (th N a0).bind fun r1=>cond (!r1) (some (false,kX)) (dK a0 a1 (false,kX) (false,kX) (0:Int))
def ku(N:Nat)(a0:aj)(a1:Int):Option av:=ku.b N (ku.l5 N N) a0 a1
def Jq(N:Nat)(a0:av):Option (Int):=
 cond (az (List.length a0.2.1:Int) 0) (some (0:Int)) (cond (a0.1) (some (-1:Int)) (some (1:Int)))
abbrev lh.bL:=aj→Int→Option (Bool)
def lh.dI(N:Nat)(cG:lh.bL)(x0:aj)(x3:Int):Option (Bool):=
 cond (aM x3 6) ((ku N x0 x3).bind fun r2=>(Jq N r2).bind fun r3=>cond (!az r3 0) (some false) (cG x0 (W .i64 (x3+1)))) ((th N x0).bind fun r5=>some r5)
def lh.l2(N:Nat):Nat→lh.bL
 |0,_,_=>none
 |n+1,x0,x3=>lh.dI N (lh.l2 N n) x0 x3
def lh.b(N:Nat)(eG:lh.bL)(a0:aj):Option (Bool):=
 eG a0 (0:Int)
def lh(N:Nat)(a0:aj):Option (Bool):=lh.b N (lh.l2 N N) a0
def w6(N:Nat)(a0:Int):Option (Bool):=
 cond (bV 1 a0) (some (bV a0 1000000000000)) (some false)
def HH(N:Nat)(a0:fD):Option (Bool):=
 cond (bV 1 a0.1) (cond (bV a0.1 1099511627776) (cond (bV 1 a0.2.1) (cond (bV a0.2.1 24) (cond (bV 0 a0.2.2.1) (cond (aM a0.2.2.1 6) (cond (az a0.2.2.2.1 1) (cond (bV 1 a0.2.2.2.2.1) (cond (bV a0.2.2.2.2.1 1000000000) ((w6 N a0.2.2.2.2.2.1).bind fun r1=>some r1) (some false)) (some false)) (cond (az a0.2.2.2.1 2) (cond (bV 1 a0.2.2.2.2.1) (cond (bV a0.2.2.2.2.1 1000000000) ((w6 N a0.2.2.2.2.2.1).bind fun r2=>some r2) (some false)) (some false)) (some false))) (some false)) (some false)) (some false)) (some false)) (some false)) (some false)
abbrev iL.aU:=aZ→Int→Option (Bool)
def iL.ca(N:Nat)(bg:iL.aU)(x0:aZ)(x3:Int):Option (Bool):=
 cond (aM x3 (List.length x0:Int)) (cond (aN x3 (List.length x0)) ((HH N (List.getD x0 x3.toNat eg)).bind fun r2=>cond (!r2) (some false) (cond (aM 0 x3) (cond (aN x3 (List.length x0)) (let v3:Int:=W .i64 (x3-1);cond (aN v3 (List.length x0)) (cond (bV ((List.getD x0 x3.toNat eg).1) ((List.getD x0 v3.toNat eg).1)) (some false) (bg x0 (W .i64 (x3+1)))) (none)) (none)) (bg x0 (W .i64 (x3+1))))) (none)) (some true)
def iL.l4(N:Nat):Nat→iL.aU
 |0,_,_=>none
 |n+1,x0,x3=>iL.ca N (iL.l4 N n) x0 x3
def iL.b(N:Nat)(cN:iL.aU)(a0:aZ):Option (Bool):=
 cond (aM 32 (List.length a0:Int)) (some false) (cN a0 (0:Int))
def iL(N:Nat)(a0:aZ):Option (Bool):=iL.b N (iL.l4 N N) a0
abbrev kq.bm:=aj→av→av→Int→Option av
def kq.dn(N:Nat)(bb:kq.bm)(x0:aj)(x2:av)(x3:av)(x4:Int):Option av:=
 cond (aM x4 (List.length x0:Int)) (cond (aN x4 (List.length x0)) ((fY N ((((List.getD x0 x4.toNat aW).2).2).1)).bind fun r3=>(tU N x3 r3).bind fun r4=>bb x0 x2 r4 (W .i64 (x4+1))) (none)) (some x3)
def kq.l5(N:Nat):Nat→kq.bm
 |0,_,_,_,_=>none
 |n+1,x0,x2,x3,x4=>kq.dn N (kq.l5 N n) x0 x2 x3 x4
def kq.b(N:Nat)(dK:kq.bm)(a0:aj):Option av:=
 (vm N a0).bind fun r1=>cond (!r1) (some (false,kX)) (dK a0 (false,kX) (false,kX) (0:Int))
def kq(N:Nat)(a0:aj):Option av:=kq.b N (kq.l5 N N) a0
def Cl(N:Nat)(a0:ah)(a1:Int):Option (Bool):=
 (yK N a0.2.1 a1).bind fun r1=>cond (r1.2) (some true) (some (az a1 0))
def uc(N:Nat)(a0:ax)(a1:Int):Option (Int):=
 (jt N a0).bind fun r1=>cond (!r1) (some (0:Int)) ((iM N a0 a1).bind fun r2=>some r2)
abbrev bD.nh:=ae→ah→Int→Option (Bool)
abbrev bD.Pg:=ae→ah→Int→Option (Bool)
abbrev bD.fC:=ae→ah→Int→Option (Bool)
abbrev bD.ed:=ae→ah→Int→Option (Bool)
def bD.pq(N:Nat)(zr:bD.nh)(x2:ae)(x3:ah)(x9:Int):Option (Bool):=
 cond (aM x9 (List.length x3.2.2.2.2.2.1:Int)) (cond (aN x9 (List.length x3.2.2.2.2.2.1)) ((Cl N x3 (((List.getD x3.2.2.2.2.2.1 x9.toNat eg).2).1)).bind fun L1=>cond (!L1) (some false) (cond (aN x9 (List.length x3.2.2.2.2.2.1)) (cond (bV (List.length x2.1:Int) ((((List.getD x3.2.2.2.2.2.1 x9.toNat eg).2).2).1)) (some false) (zr x2 x3 (W .i64 (x9+1)))) (none))) (none)) (some true)
def bD.qc(N:Nat):Nat→bD.nh
 |0,_,_,_=>none
 |n+1,x2,x3,x9=>bD.pq N (bD.qc N n) x2 x3 x9
def bD.Q7(N:Nat)(zu:bD.nh)(ad6:bD.Pg)(x2:ae)(x3:ah)(x8:Int):Option (Bool):=
 cond (aM x8 (List.length x3.2.2.2.2.1:Int)) (cond (aN x8 (List.length x3.2.2.2.2.1)) ((w6 N (List.getD x3.2.2.2.2.1 x8.toNat (0:Int))).bind fun zQ=>cond (!zQ) (some false) (ad6 x2 x3 (W .i64 (x8+1)))) (none)) (zu x2 x3 (0:Int))
def bD.Q6(N:Nat):Nat→bD.Pg
 |0,_,_,_=>none
 |n+1,x2,x3,x8=>bD.Q7 N (bD.qc N N) (bD.Q6 N n) x2 x3 x8
def bD.lM(N:Nat)(ad7:bD.Pg)(gY:bD.fC)(x2:ae)(x3:ah)(x7:Int):Option (Bool):=
 cond (aM x7 (List.length x3.2.2.2.1:Int)) (cond (aN x7 (List.length x3.2.2.2.1)) ((Cl N x3 ((List.getD x3.2.2.2.1 x7.toNat aW).1)).bind fun zs=>cond (!zs) (some false) (cond (aN x7 (List.length x3.2.2.2.1)) (cond (bV (List.length x2.1:Int) (((List.getD x3.2.2.2.1 x7.toNat aW).2).1)) (some false) (gY x2 x3 (W .i64 (x7+1)))) (none))) (none)) (ad7 x2 x3 (0:Int))
def bD.nn(N:Nat):Nat→bD.fC
 |0,_,_,_=>none
 |n+1,x2,x3,x7=>bD.lM N (bD.Q6 N N) (bD.nn N n) x2 x3 x7
def bD.mg(N:Nat)(qZ:bD.fC)(ej:bD.ed)(x2:ae)(x3:ah)(x5:Int):Option (Bool):=
 cond (aM x5 (List.length x3.2.2.1:Int)) (cond (aN x5 (List.length x3.2.2.1)) (cond (az ((List.getD x3.2.2.1 x5.toNat aW).1) (5:Int)) ((Cl N x3 (((List.getD x3.2.2.1 x5.toNat aW).2).1)).bind fun r9=>cond (!r9) (some false) (cond (az ((List.getD x3.2.2.1 x5.toNat aW).1) (6:Int)) ((uc N x3.1 (((List.getD x3.2.2.1 x5.toNat aW).2).1)).bind fun jo=>cond (az jo 0) (some false) (ej x2 x3 (W .i64 (x5+1)))) (cond (az ((List.getD x3.2.2.1 x5.toNat aW).1) (7:Int)) ((uc N x3.1 (((List.getD x3.2.2.1 x5.toNat aW).2).1)).bind fun np=>cond (az np 0) (some false) (ej x2 x3 (W .i64 (x5+1)))) (ej x2 x3 (W .i64 (x5+1)))))) (cond (az ((List.getD x3.2.2.1 x5.toNat aW).1) (6:Int)) ((uc N x3.1 (((List.getD x3.2.2.1 x5.toNat aW).2).1)).bind fun sq=>cond (az sq 0) (some false) (ej x2 x3 (W .i64 (x5+1)))) (cond (az ((List.getD x3.2.2.1 x5.toNat aW).1) (7:Int)) ((uc N x3.1 (((List.getD x3.2.2.1 x5.toNat aW).2).1)).bind fun so=>cond (az so 0) (some false) (ej x2 x3 (W .i64 (x5+1)))) (ej x2 x3 (W .i64 (x5+1)))))) (none)) (qZ x2 x3 (0:Int))
def bD.l6(N:Nat):Nat→bD.ed
 |0,_,_,_=>none
 |n+1,x2,x3,x5=>bD.mg N (bD.nn N N) (bD.l6 N n) x2 x3 x5
def bD.b(N:Nat)(oj:bD.ed)(a0:ae)(a1:ah):Option (Bool):=
 (ij N a0).bind fun r1=>cond (!r1) (some false) ((jM N a1.1 a1.2.1).bind fun r2=>cond (!r2) (some false) ((vm N a1.2.2.1).bind fun r3=>cond (!r3) (some false) ((lh N a1.2.2.2.1).bind fun r4=>cond (!r4) (some false) ((iL N a1.2.2.2.2.2.1).bind fun r5=>cond (!r5) (some false) (cond (!az (List.length a1.2.2.2.2.1:Int) (List.length a0.1:Int)) (some false) ((kq N a1.2.2.1).bind fun r6=>(Jq N r6).bind fun r7=>cond (!az r7 0) (some false) (oj a0 a1 (0:Int))))))))
def bD(N:Nat)(a0:ae)(a1:ah):Option (Bool):=bD.b N (bD.l6 N N) a0 a1
def Jp(N:Nat)(a0:av)(a1:av):Option av:=
 (Mg N a1).bind fun r1=>(tU N a0 r1).bind fun r2=>some r2
abbrev sl.bm:=aj→Int→ax→Int→Option ax
def sl.dn(N:Nat)(bb:sl.bm)(x0:aj)(x1:Int)(x5:ax)(x6:Int):Option ax:=
 cond (aM x6 (List.length x0:Int)) (cond (aN x6 (List.length x0)) (cond (az ((List.getD x0 x6.toNat aW).1) x1) (cond (aN x6 (List.length x0)) (cond (aN x6 (List.length x0)) (cond (small (List.length x5+List.length ([(((List.getD x0 x6.toNat aW).2).1,((((List.getD x0 x6.toNat aW).2).2).1,()))]))) (bb x0 x1 (x5++([(((List.getD x0 x6.toNat aW).2).1,((((List.getD x0 x6.toNat aW).2).2).1,()))])) (W .i64 (x6+1))) (none)) (none)) (none)) (bb x0 x1 x5 (W .i64 (x6+1)))) (none)) (some x5)
def sl.l5(N:Nat):Nat→sl.bm
 |0,_,_,_,_=>none
 |n+1,x0,x1,x5,x6=>sl.dn N (sl.l5 N n) x0 x1 x5 x6
def sl.b(N:Nat)(dK:sl.bm)(a0:aj)(a1:Int):Option ax:=
 (th N a0).bind fun r1=>cond (!r1) (some ([])) (dK a0 a1 ([]) (0:Int))
def sl(N:Nat)(a0:aj)(a1:Int):Option ax:=sl.b N (sl.l5 N N) a0 a1
abbrev eB.cU:=aZ→Int→aj→Int→cy→Int→Option aj
abbrev eB.cv:=aZ→Int→aj→Int→Option aj
def eB.lD(N:Nat)(b9:eB.cv)(cH:eB.cU)(x0:aZ)(x1:Int)(x5:aj)(x6:Int)(x7:cy)(x8:Int):Option aj:=
 cond (aM x8 (List.length x0:Int)) (cond (aN x8 (List.length x0)) (cond (!az (((List.getD x0 x8.toNat eg).2).1) x1) (cH x0 x1 x5 x6 x7 (W .i64 (x8+1))) (cond (aN x8 (List.length x0)) (cond (!az ((((List.getD x0 x8.toNat eg).2).2).1) x6) (cH x0 x1 x5 x6 x7 (W .i64 (x8+1))) (cond (aN x8 (List.length x0)) (cond (az (((((List.getD x0 x8.toNat eg).2).2).2).1) (1:Int)) (cond (aN x8 (List.length x0)) (cH x0 x1 x5 x6 (x7.1,((W .i64 (x7.2.1+((((((List.getD x0 x8.toNat eg).2).2).2).2).1))),x7.2.2)) (W .i64 (x8+1))) (none)) (cond (aN x8 (List.length x0)) (cH x0 x1 x5 x6 (x7.1,(x7.2.1,((W .i64 (x7.2.2.1+((((((List.getD x0 x8.toNat eg).2).2).2).2).1))),x7.2.2.2))) (W .i64 (x8+1))) (none))) (none))) (none))) (none)) (cond (aM 0 x7.2.1) (cond (small (List.length x5+List.length ([x7]))) (b9 x0 x1 (x5++([x7])) (W .i64 (x6+1))) (none)) (cond (aM 0 x7.2.2.1) (cond (small (List.length x5+List.length ([x7]))) (b9 x0 x1 (x5++([x7])) (W .i64 (x6+1))) (none)) (b9 x0 x1 x5 (W .i64 (x6+1)))))
def eB.l7(N:Nat)(b9:eB.cv):Nat→eB.cU
 |0,_,_,_,_,_,_=>none
 |n+1,x0,x1,x5,x6,x7,x8=>eB.lD N b9 (eB.l7 N b9 n) x0 x1 x5 x6 x7 x8
def eB.ig(N:Nat)(oq:eB.cU)(b9:eB.cv)(x0:aZ)(x1:Int)(x5:aj)(x6:Int):Option aj:=
 cond (aM x6 6) (oq x0 x1 x5 x6 (x6,bP) (0:Int)) (some x5)
def eB.l3(N:Nat):Nat→eB.cv
 |0,_,_,_,_=>none
 |n+1,x0,x1,x5,x6=>eB.ig N (eB.l7 N (eB.l3 N n) N) (eB.l3 N n) x0 x1 x5 x6
def eB.b(N:Nat)(jq:eB.cv)(a0:aZ)(a1:Int):Option aj:=
 jq a0 a1 ([]) (0:Int)
def eB(N:Nat)(a0:aZ)(a1:Int):Option aj:=eB.b N (eB.l3 N N) a0 a1
abbrev jh.aU:=ax→ae→Int→Option (Bool)
def jh.ca(N:Nat)(bg:jh.aU)(x1:ax)(x2:ae)(x5:Int):Option (Bool):=
 cond (aM x5 (List.length x1:Int)) (cond (aN x5 (List.length x1)) (cond (aM ((List.getD x1 x5.toNat bP).1) (0:Int)) (some false) (cond (aN x5 (List.length x1)) (cond (bV (List.length x2.1:Int) ((List.getD x1 x5.toNat bP).1)) (some false) (cond (aN x5 (List.length x1)) (cond (az (((List.getD x1 x5.toNat bP).2).1) (0:Int)) (some false) (cond (aN x5 (List.length x1)) (cond (az (((List.getD x1 x5.toNat bP).2).1) (-9223372036854775808:Int)) (some false) (cond (aM 0 x5) (cond (aN x5 (List.length x1)) (let v3:Int:=W .i64 (x5-1);cond (aN v3 (List.length x1)) (cond (bV ((List.getD x1 x5.toNat bP).1) ((List.getD x1 v3.toNat bP).1)) (some false) (bg x1 x2 (W .i64 (x5+1)))) (none)) (none)) (bg x1 x2 (W .i64 (x5+1))))) (none))) (none))) (none))) (none)) (some true)
def jh.l4(N:Nat):Nat→jh.aU
 |0,_,_,_=>none
 |n+1,x1,x2,x5=>jh.ca N (jh.l4 N n) x1 x2 x5
def jh.b(N:Nat)(cN:jh.aU)(a0:ae)(a1:ax):Option (Bool):=
 (ij N a0).bind fun r1=>cond (!r1) (some false) (cN a1 a0 (0:Int))
def jh(N:Nat)(a0:ae)(a1:ax):Option (Bool):=jh.b N (jh.l4 N N) a0 a1
abbrev lR.bm:=aj→ae→Int→Int→Option (Bool)
def lR.dn(N:Nat)(bb:lR.bm)(x1:aj)(x2:ae)(x5:Int)(x6:Int):Option (Bool):=
 cond (aM x6 (List.length x1:Int)) (cond (aN x6 (List.length x1)) (cond (aM ((List.getD x1 x6.toNat aW).1) (0:Int)) (some false) (cond (bV (List.length x2.1:Int) ((List.getD x1 x6.toNat aW).1)) (some false) (cond (aM (((List.getD x1 x6.toNat aW).2).1) (0:Int)) (some false) (cond (aM x5 (((List.getD x1 x6.toNat aW).2).1)) (some false) (cond (aM ((((List.getD x1 x6.toNat aW).2).2).1) (0:Int)) (some false) (cond (aM x5 ((((List.getD x1 x6.toNat aW).2).2).1)) (some false) (cond (az (((List.getD x1 x6.toNat aW).2).1) (0:Int)) (cond (az ((((List.getD x1 x6.toNat aW).2).2).1) (0:Int)) (some false) (cond (aM 0 x6) (let v3:Int:=W .i64 (x6-1);cond (aN v3 (List.length x1)) (cond (bV ((List.getD x1 x6.toNat aW).1) ((List.getD x1 v3.toNat aW).1)) (some false) (bb x1 x2 x5 (W .i64 (x6+1)))) (none)) (bb x1 x2 x5 (W .i64 (x6+1))))) (cond (aM 0 x6) (let v6:Int:=W .i64 (x6-1);cond (aN v6 (List.length x1)) (cond (bV ((List.getD x1 x6.toNat aW).1) ((List.getD x1 v6.toNat aW).1)) (some false) (bb x1 x2 x5 (W .i64 (x6+1)))) (none)) (bb x1 x2 x5 (W .i64 (x6+1))))))))))) (none)) (some true)
def lR.l5(N:Nat):Nat→lR.bm
 |0,_,_,_,_=>none
 |n+1,x1,x2,x5,x6=>lR.dn N (lR.l5 N n) x1 x2 x5 x6
def lR.b(N:Nat)(dK:lR.bm)(a0:ae)(a1:aj):Option (Bool):=
 (ij N a0).bind fun r1=>cond (!r1) (some false) (dK a1 a0 (33000000000:Int) (0:Int))
def lR(N:Nat)(a0:ae)(a1:aj):Option (Bool):=lR.b N (lR.l5 N N) a0 a1
def Ny(N:Nat)(a0:av):Option av:=
 (Nw N false a0.2.1).bind fun r1=>some r1
def GW(N:Nat)(a0:av)(a1:av):Option (Int):=
 (Jp N a0 a1).bind fun r1=>(Jq N r1).bind fun r2=>some r2
abbrev fl.fC:=aj→Int→av→av→av→av→Int→Option (av×(Int))
abbrev fl.cU:=ax→aj→Int→av→av→av→av→Int→Option (av×(Int))
def fl.lM(N:Nat)(gY:fl.fC)(x2:aj)(x3:Int)(x8:av)(aT:av)(aL:av)(aP:av)(bz:Int):Option (av×(Int)):=
 cond (aM bz (List.length x2:Int)) (cond (aN bz (List.length x2)) (cond (az ((List.getD x2 bz.toNat aW).1) x3) (cond (aN bz (List.length x2)) ((fY N (((List.getD x2 bz.toNat aW).2).1)).bind fun r8=>cond (aN bz (List.length x2)) ((fY N ((((List.getD x2 bz.toNat aW).2).2).1)).bind fun r9=>gY x2 x3 x8 aT r8 r9 (W .i64 (bz+1))) (none)) (none)) (gY x2 x3 x8 aT aL aP (W .i64 (bz+1)))) (none)) ((tU N aT aL).bind fun np=>(Ny N np).bind fun kR=>(Jp N aT aP).bind fun rR=>(Ny N rR).bind fun sq=>(GW N sq kR).bind fun vB=>cond (aM 0 vB) (some (sq,(0:Int))) (some (kR,(0:Int))))
def fl.nn(N:Nat):Nat→fl.fC
 |0,_,_,_,_,_,_,_=>none
 |n+1,x2,x3,x8,aT,aL,aP,bz=>fl.lM N (fl.nn N n) x2 x3 x8 aT aL aP bz
def fl.lD(N:Nat)(qZ:fl.fC)(cH:fl.cU)(x1:ax)(x2:aj)(x3:Int)(x8:av)(aT:av)(aL:av)(aP:av)(bo:Int):Option (av×(Int)):=
 cond (aM bo (List.length x1:Int)) (cond (aN bo (List.length x1)) (cond (az ((List.getD x1 bo.toNat bP).1) x3) (cond (aN bo (List.length x1)) ((fY N (((List.getD x1 bo.toNat bP).2).1)).bind fun r4=>cH x1 x2 x3 x8 r4 aL aP (W .i64 (bo+1))) (none)) (cH x1 x2 x3 x8 aT aL aP (W .i64 (bo+1)))) (none)) (qZ x2 x3 x8 aT aL aP (0:Int))
def fl.l7(N:Nat):Nat→fl.cU
 |0,_,_,_,_,_,_,_,_=>none
 |n+1,x1,x2,x3,x8,aT,aL,aP,bo=>fl.lD N (fl.nn N N) (fl.l7 N n) x1 x2 x3 x8 aT aL aP bo
def fl.b(N:Nat)(oq:fl.cU)(a0:ae)(a1:ax)(a2:aj)(a3:Int):Option (av×(Int)):=
 (jh N a0 a1).bind fun r1=>cond (!r1) (some ((false,kX),(1:Int))) ((lR N a0 a2).bind fun r2=>cond (!r2) (some ((false,kX),(1:Int))) (cond (aM a3 0) (some ((false,kX),(3:Int))) (cond (bV (List.length a0.1:Int) a3) (some ((false,kX),(3:Int))) (oq a1 a2 a3 (false,kX) (false,kX) (false,kX) (false,kX) (0:Int)))))
def fl(N:Nat)(a0:ae)(a1:ax)(a2:aj)(a3:Int):Option (av×(Int)):=fl.b N (fl.l7 N N) a0 a1 a2 a3
abbrev fL.IE:=av→av→av→(List (Int))→Int→Int→Int→Option av
abbrev fL.cU:=av→av→av→(List (Int))→Int→Int→Int→Option av
abbrev fL.cv:=av→av→av→(List (Int))→Int→Option av
def fL.Hw(N:Nat)(b9:fL.cv)(cH:fL.cU)(x2:av)(x3:av)(x4:av)(x5:List (Int))(x6:Int)(x7:Int)(x8:Int):Option av:=
 let v7:Int:=W .i64 (x6+x8);cond (aN v7 (List.length x5)) (cond (aN x6 (List.length x2.2.1)) ((QO N x3.2.1 x8).bind fun r8=>let v11:Int:=W .u64 (x7+(W .u64 ((List.getD x5 v7.toNat (0:Int))+(W .u64 ((List.getD x2.2.1 x6.toNat (0:Int))*r8)))));let LZ:Int:=W .i64 (x6+x8);cond (aN LZ (List.length x5)) (cond (aM 32 0) (none) (cH x2 x3 x4 (List.set x5 LZ.toNat (ov .and .u64 v11 4294967295)) x6 (shr .u64 v11 32) (W .i64 (x8+1)))) (none)) (none)) (none)
def fL.j9(N:Nat)(b9:fL.cv)(cH:fL.cU)(x2:av)(x3:av)(x4:av)(x5:List (Int))(x6:Int)(x7:Int)(x8:Int):Option av:=fL.Hw N b9 cH x2 x3 x4 x5 x6 x7 x8
def fL.lD(N:Nat)(zB:fL.IE)(b9:fL.cv)(cH:fL.cU)(x2:av)(x3:av)(x4:av)(x5:List (Int))(x6:Int)(x7:Int)(x8:Int):Option av:=
 cond (aM x8 (List.length x3.2.1:Int)) (zB x2 x3 x4 x5 x6 x7 x8) (cond (aM 0 x7) (zB x2 x3 x4 x5 x6 x7 x8) (b9 x2 x3 x4 x5 (W .i64 (x6+1))))
def fL.l7(N:Nat)(b9:fL.cv):Nat→fL.cU
 |0,_,_,_,_,_,_,_=>none
 |n+1,x2,x3,x4,x5,x6,x7,x8=>fL.lD N (fL.j9 N b9 (fL.l7 N b9 n)) b9 (fL.l7 N b9 n) x2 x3 x4 x5 x6 x7 x8
def fL.ig(N:Nat)(oq:fL.cU)(b9:fL.cv)(x2:av)(x3:av)(x4:av)(x5:List (Int))(x6:Int):Option av:=
 cond (aM x6 (List.length x2.2.1:Int)) (oq x2 x3 x4 x5 x6 (0:Int) (0:Int)) ((Nw N (!(kV .bool x2.1 x3.1)) x5).bind fun uW=>some uW)
def fL.l3(N:Nat):Nat→fL.cv
 |0,_,_,_,_,_=>none
 |n+1,x2,x3,x4,x5,x6=>fL.ig N (fL.l7 N (fL.l3 N n) N) (fL.l3 N n) x2 x3 x4 x5 x6
def fL.b(N:Nat)(jq:fL.cv)(a0:av)(a1:av):Option av:=
 let v2:Int:=W .i64 ((W .i64 ((List.length a0.2.1:Int)+(List.length a1.2.1:Int)))+1);cond (fP v2 v2) (jq a0 a1 (false,kX) (List.replicate v2.toNat (0:Int)) (0:Int)) (none)
def fL(N:Nat)(a0:av)(a1:av):Option av:=fL.b N (fL.l3 N N) a0 a1
abbrev lS.bm:=ax→aj→ae→av→av→Int→Option (av×(Int))
def lS.dn(N:Nat)(bb:lS.bm)(x1:ax)(x2:aj)(x3:ae)(x6:av)(x8:av)(x9:Int):Option (av×(Int)):=
 cond (aM x9 (List.length x3.1:Int)) ((fl N x3 x1 x2 x9).bind fun r4=>cond (aN x9 (List.length x3.1)) ((fY N ((((List.getD x3.1 x9.toNat aE).2).2).1)).bind fun r5=>(fL N r4.1 r5).bind fun r6=>(tU N x8 r6).bind fun r7=>bb x1 x2 x3 x6 r7 (W .i64 (x9+1))) (none)) (some (x8,(0:Int)))
def lS.l5(N:Nat):Nat→lS.bm
 |0,_,_,_,_,_,_=>none
 |n+1,x1,x2,x3,x6,x8,x9=>lS.dn N (lS.l5 N n) x1 x2 x3 x6 x8 x9
def lS.b(N:Nat)(dK:lS.bm)(a0:ae)(a1:ax)(a2:aj):Option (av×(Int)):=
 (jh N a0 a1).bind fun r1=>cond (!r1) (some ((false,kX),(1:Int))) ((lR N a0 a2).bind fun r2=>cond (!r2) (some ((false,kX),(1:Int))) (dK a1 a2 a0 (false,kX) (false,kX) (0:Int)))
def lS(N:Nat)(a0:ae)(a1:ax)(a2:aj):Option (av×(Int)):=lS.b N (lS.l5 N N) a0 a1 a2
def Oo(N:Nat)(a0:ae)(a1:ah)(a2:Int)(a3:aZ):Option av:=
 cond (small (List.length cY+List.length a1.2.2.2.2.2.1)) (let v1:List ((Int)×((Int)×((Int)×((Int)×((Int)×((Int)×(Unit))))))):=cY++a1.2.2.2.2.2.1;cond (small (List.length v1+List.length a3)) ((sl N a1.2.2.2.1 a2).bind fun r3=>(eB N (v1++a3) a2).bind fun r4=>(lS N a0 r3 r4).bind fun r5=>some r5.1) (none)) (none)
def RV(N:Nat)(a0:ae)(a1:ah)(a2:Int)(a3:Int):Option (ah×(Int)):=
 (bD N a0 a1).bind fun r1=>cond (!r1) (some ((a6,(cn,(bc,(bc,(cQ,(cY,())))))),(1:Int))) (cond (aM a3 1) (some ((a6,(cn,(bc,(bc,(cQ,(cY,())))))),(1:Int))) ((yK N a1.2.1 a2).bind fun r2=>cond (!r2.2) (some ((a6,(cn,(bc,(bc,(cQ,(cY,())))))),(3:Int))) ((uc N a1.1 r2.1.2.1).bind fun r3=>cond (!az r3 1) (some ((a6,(cn,(bc,(bc,(cQ,(cY,())))))),(7:Int))) ((oU N a1.2.2.1 (5:Int) a2).bind fun r4=>(fY N r4).bind fun r5=>(fY N a3).bind fun r6=>(Jp N r5 r6).bind fun r7=>(Oo N a0 a1 a2 cY).bind fun r8=>(GW N r7 r8).bind fun r9=>cond (aM r9 0) (some ((a6,(cn,(bc,(bc,(cQ,(cY,())))))),(10:Int))) ((fY N a3).bind fun jo=>(xd N (5:Int) a2 (1:Int) (0:Int) jo).bind fun mo=>(vu N a1 bc mo).bind fun np=>some (np.1,np.2))))))
def CL(N:Nat)(a0:aI)(a1:Int):Option (Int):=
 (uc N a0.2.2.1.1 a1).bind fun r1=>some r1
abbrev mZ.fp:=Int→Int→ay→Int→Option (ay×(Int))
def mZ.xC(N:Nat)(dD:mZ.fp)(x1:Int)(x2:Int)(aT:ay)(aL:Int):Option (ay×(Int)):=
 cond (aM aL (List.length aT:Int)) (cond (aN aL (List.length aT)) (cond (az ((List.getD aT aL.toNat aE).1) x1) (cond (aN aL (List.length aT)) (dD x1 x2 (List.set aT aL.toNat ((List.getD aT aL.toNat aE).1,(((List.getD aT aL.toNat aE).2).1,((((List.getD aT aL.toNat aE).2).2).1,(x2,((((List.getD aT aL.toNat aE).2).2).2).2))))) (W .i64 (aL+1))) (none)) (dD x1 x2 aT (W .i64 (aL+1)))) (none)) (some (aT,(0:Int)))
def mZ.l8(N:Nat):Nat→mZ.fp
 |0,_,_,_,_=>none
 |n+1,x1,x2,aT,aL=>mZ.xC N (mZ.l8 N n) x1 x2 aT aL
def mZ.b(N:Nat)(zC:mZ.fp)(a0:ay)(a1:Int)(a2:Int):Option (ay×(Int)):=
 (g7 N a0).bind fun r1=>cond (!r1) (some ([],(1:Int))) (cond (aM a2 0) (some ([],(1:Int))) (cond (aM 1000000000000 a2) (some ([],(1:Int))) ((ju N a0 a1).bind fun r2=>cond (!r2.2) (some ([],(3:Int))) (cond (small (List.length cn+List.length a0)) (zC a1 a2 (cn++a0) (0:Int)) (none)))))
def mZ(N:Nat)(a0:ay)(a1:Int)(a2:Int):Option (ay×(Int)):=mZ.b N (mZ.l8 N N) a0 a1 a2
def RH(N:Nat)(a0:fD)(a1:Int):Option (av×(Int)):=
 (HH N a0).bind fun r1=>cond (!r1) (some ((false,kX),(1:Int))) ((w6 N a1).bind fun r2=>cond (!r2) (some ((false,kX),(1:Int))) (let v3:Int:=W .i64 (a0.2.2.2.2.2.1-a1);cond (az a0.2.2.2.1 2) (let v4:Int:=W .i64 (a1-a0.2.2.2.2.2.1);cond (aM v4 0) (some ((false,kX),(0:Int))) ((fY N a0.2.2.2.2.1).bind fun r5=>(fY N v4).bind fun r6=>(fL N r5 r6).bind fun r7=>some (r7,(0:Int)))) (cond (aM v3 0) (some ((false,kX),(0:Int))) ((fY N a0.2.2.2.2.1).bind fun r8=>(fY N v3).bind fun r9=>(fL N r8 r9).bind fun jo=>some (jo,(0:Int))))))
def Oq(N:Nat)(a0:ae)(a1:ah)(a2:fD):Option (Int):=
 (bD N a0 a1).bind fun r1=>cond (!r1) (some (1:Int)) ((HH N a2).bind fun r2=>cond (!r2) (some (1:Int)) ((yK N a1.2.1 a2.2.1).bind fun r3=>cond (!r3.2) (some (3:Int)) ((uc N a1.1 r3.1.2.1).bind fun r4=>cond (!az r4 1) (some (7:Int)) (cond (bV (List.length a0.1:Int) a2.2.2.1) (some (3:Int)) (cond (small (List.length cY+List.length a1.2.2.2.2.2.1)) (let v5:List ((Int)×((Int)×((Int)×((Int)×((Int)×((Int)×(Unit))))))):=cY++a1.2.2.2.2.2.1;cond (small (List.length v5+List.length ([a2]))) ((sl N a1.2.2.2.1 a2.2.1).bind fun r7=>(eB N (v5++([a2])) a2.2.1).bind fun r8=>(fl N a0 r7 r8 a2.2.2.1).bind fun r9=>(fY N r3.1.2.2.2.1).bind fun jo=>(GW N r9.1 jo).bind fun mo=>cond (aM 0 mo) (some (9:Int)) (cond (aN a2.2.2.1 (List.length a1.2.2.2.2.1)) ((RH N a2 (List.getD a1.2.2.2.2.1 a2.2.2.1.toNat (0:Int))).bind fun np=>(oU N a1.2.2.1 (5:Int) a2.2.1).bind fun kR=>(fY N kR).bind fun rR=>(Jp N rR np.1).bind fun sq=>(Oo N a0 a1 a2.2.1 ([a2])).bind fun vB=>(GW N sq vB).bind fun so=>cond (aM so 0) (some (10:Int)) (some (0:Int))) (none))) (none)) (none))))))
def RS(N:Nat)(a0:fD)(a1:fD):Option (Bool):=
 cond (!az a0.2.2.2.2.2.1 a1.2.2.2.2.2.1) (some (kV .bool (aM a1.2.2.2.2.2.1 a0.2.2.2.2.2.1) (az a0.2.2.2.1 1))) (some (aM a0.1 a1.1))
abbrev c9.Fp:=aZ→Int→Int→aZ→Int→Int→Option aZ
abbrev c9.iw:=aZ→Int→Int→aZ→Int→Int→Option aZ
abbrev c9.bm:=aZ→Int→Int→aZ→Int→Option aZ
def c9.zl(N:Nat)(bb:c9.bm)(x0:aZ)(x1:Int)(x2:Int)(x7:aZ)(x8:Int)(x9:Int):Option aZ:=
 cond (fu 0 x9 (List.length x7:Int) (List.length x7:Int)) (let v9:List ((Int)×((Int)×((Int)×((Int)×((Int)×((Int)×(Unit))))))):=List.drop (0:Int).toNat (List.take x9.toNat x7);cond (small (List.length v9)) (cond (aN x8 (List.length x0)) (cond (small (List.length v9+List.length ([List.getD x0 x8.toNat eg]))) (let v10:List ((Int)×((Int)×((Int)×((Int)×((Int)×((Int)×(Unit))))))):=v9++([List.getD x0 x8.toNat eg]);cond (fu x9 (List.length x7:Int) (List.length x7:Int) (List.length x7:Int)) (let v11:List ((Int)×((Int)×((Int)×((Int)×((Int)×((Int)×(Unit))))))):=List.drop x9.toNat (List.take (List.length x7:Int).toNat x7);cond (small (List.length v10+List.length v11)) (bb x0 x1 x2 (v10++v11) (W .i64 (x8+1))) (none)) (none)) (none)) (none)) (none)) (none)
def c9.GY(N:Nat)(bb:c9.bm)(x0:aZ)(x1:Int)(x2:Int)(x7:aZ)(x8:Int)(x9:Int):Option aZ:=c9.zl N bb x0 x1 x2 x7 x8 x9
def c9.sd(N:Nat)(wH:c9.Fp)(bb:c9.bm)(nj:c9.iw)(x0:aZ)(x1:Int)(x2:Int)(x7:aZ)(x8:Int)(x9:Int):Option aZ:=
 cond (aM x9 (List.length x7:Int)) (cond (aN x9 (List.length x7)) (cond (aN x8 (List.length x0)) ((RS N (List.getD x7 x9.toNat eg) (List.getD x0 x8.toNat eg)).bind fun r6=>cond (r6) (nj x0 x1 x2 x7 x8 (W .i64 (x9+1))) (wH x0 x1 x2 x7 x8 x9)) (none)) (none)) (wH x0 x1 x2 x7 x8 x9)
def c9.l9(N:Nat)(bb:c9.bm):Nat→c9.iw
 |0,_,_,_,_,_,_=>none
 |n+1,x0,x1,x2,x7,x8,x9=>c9.sd N (c9.GY N bb) bb (c9.l9 N bb n) x0 x1 x2 x7 x8 x9
def c9.dn(N:Nat)(tc:c9.iw)(bb:c9.bm)(x0:aZ)(x1:Int)(x2:Int)(x7:aZ)(x8:Int):Option aZ:=
 cond (aM x8 (List.length x0:Int)) (cond (aN x8 (List.length x0)) (cond (!az ((((List.getD x0 x8.toNat eg).2).2).1) x1) (bb x0 x1 x2 x7 (W .i64 (x8+1))) (cond (aN x8 (List.length x0)) (cond (!az (((((List.getD x0 x8.toNat eg).2).2).2).1) x2) (bb x0 x1 x2 x7 (W .i64 (x8+1))) (tc x0 x1 x2 x7 x8 (0:Int))) (none))) (none)) (some x7)
def c9.l5(N:Nat):Nat→c9.bm
 |0,_,_,_,_,_=>none
 |n+1,x0,x1,x2,x7,x8=>c9.dn N (c9.l9 N (c9.l5 N n) N) (c9.l5 N n) x0 x1 x2 x7 x8
def c9.b(N:Nat)(dK:c9.bm)(a0:aZ)(a1:Int)(a2:Int):Option aZ:=
 (iL N a0).bind fun r1=>cond (!r1) (some ([])) (dK a0 a1 a2 ([]) (0:Int))
def c9(N:Nat)(a0:aZ)(a1:Int)(a2:Int):Option aZ:=c9.b N (c9.l5 N N) a0 a1 a2
abbrev bJ.q3:=aZ→Int→bk→aZ→Int→Option (aZ×bk×(Int)×(Int))
abbrev bJ.ad8:=aZ→Int→bk→Option (aZ×bk×(Int)×(Int))
abbrev bJ.ni:=fD→aZ→Int→bk→aZ→Int→Int→Int→Option (aZ×bk×(Int)×(Int))
abbrev bJ.zD:=fD→aZ→Int→bk→aZ→Int→Int→uE→Option (aZ×bk×(Int)×(Int))
abbrev bJ.Ph:=fD→aZ→Int→bk→aZ→Int→Option (aZ×bk×(Int)×(Int))
abbrev bJ.cU:=fD→aZ→Int→bk→aZ→Int→Option (aZ×bk×(Int)×(Int))
def bJ.Io(N:Nat)(p4:bJ.q3)(x8:aZ)(x9:Int)(aT:bk)(cI:aZ)(cJ:Int):Option (aZ×bk×(Int)×(Int)):=
 cond (aM cJ (List.length x8:Int)) (cond (aN cJ (List.length x8)) (cond (aM 0 ((((((List.getD x8 cJ.toNat eg).2).2).2).2).1)) (cond (aN cJ (List.length x8)) (cond (small (List.length cI+List.length ([List.getD x8 cJ.toNat eg]))) (p4 x8 x9 aT (cI++([List.getD x8 cJ.toNat eg])) (W .i64 (cJ+1))) (none)) (none)) (p4 x8 x9 aT cI (W .i64 (cJ+1)))) (none)) (some (cI,aT,x9,(0:Int)))
def bJ.GZ(N:Nat):Nat→bJ.q3
 |0,_,_,_,_,_=>none
 |n+1,x8,x9,aT,cI,cJ=>bJ.Io N (bJ.GZ N n) x8 x9 aT cI cJ
def bJ.YD(N:Nat)(Pj:bJ.q3)(x8:aZ)(x9:Int)(aT:bk):Option (aZ×bk×(Int)×(Int)):=
 Pj x8 x9 aT ([]) (0:Int)
def bJ.j22(N:Nat)(x8:aZ)(x9:Int)(aT:bk):Option (aZ×bk×(Int)×(Int)):=bJ.YD N (bJ.GZ N N) x8 x9 aT
def bJ.rQ(N:Nat)(cH:bJ.cU)(uP:bJ.ni)(x3:fD)(x8:aZ)(x9:Int)(aT:bk)(aL:aZ)(aP:Int)(bo:Int)(bR:Int):Option (aZ×bk×(Int)×(Int)):=
 cond (aM bR (List.length x8:Int)) (cond (aN bR (List.length x8)) (cond (aN aP (List.length aL)) (cond (az ((List.getD x8 bR.toNat eg).1) ((List.getD aL aP.toNat eg).1)) (cond (aN bR (List.length x8)) (cond (aN bR (List.length x8)) (uP x3 (List.set x8 bR.toNat ((List.getD x8 bR.toNat eg).1,(((List.getD x8 bR.toNat eg).2).1,((((List.getD x8 bR.toNat eg).2).2).1,(((((List.getD x8 bR.toNat eg).2).2).2).1,((W .i64 (((((((List.getD x8 bR.toNat eg).2).2).2).2).1)-bo)),(((((List.getD x8 bR.toNat eg).2).2).2).2).2)))))) x9 aT aL aP bo (W .i64 (bR+1))) (none)) (none)) (uP x3 x8 x9 aT aL aP bo (W .i64 (bR+1)))) (none)) (none)) (cH x3 x8 x9 aT aL (W .i64 (aP+1)))
def bJ.uB(N:Nat)(cH:bJ.cU):Nat→bJ.ni
 |0,_,_,_,_,_,_,_,_=>none
 |n+1,x3,x8,x9,aT,aL,aP,bo,bR=>bJ.rQ N cH (bJ.uB N cH n) x3 x8 x9 aT aL aP bo bR
def bJ.ta(N:Nat)(zA:bJ.ni)(cH:bJ.cU)(x3:fD)(x8:aZ)(x9:Int)(aT:bk)(aL:aZ)(aP:Int)(bo:Int)(bz:uE):Option (aZ×bk×(Int)×(Int)):=
 cond (small (List.length aT+List.length ([bz]))) (zA x3 x8 (W .i64 (x9-bo)) (aT++([bz])) aL aP bo (0:Int)) (none)
def bJ.Ar(N:Nat)(cH:bJ.cU)(x3:fD)(x8:aZ)(x9:Int)(aT:bk)(aL:aZ)(aP:Int)(bo:Int)(bz:uE):Option (aZ×bk×(Int)×(Int)):=bJ.ta N (bJ.uB N cH N) cH x3 x8 x9 aT aL aP bo bz
def bJ.Ip(N:Nat)(p3:bJ.zD)(cH:bJ.cU)(x3:fD)(x8:aZ)(x9:Int)(aT:bk)(aL:aZ)(aP:Int):Option (aZ×bk×(Int)×(Int)):=
 cond (aN aP (List.length aL)) (cond (az (((List.getD aL aP.toNat eg).2).1) x3.2.1) (cH x3 x8 x9 aT aL (W .i64 (aP+1))) (cond (aN aP (List.length aL)) (let YS:Int:=mn x9 ((((((List.getD aL aP.toNat eg).2).2).2).2).1);cond (aN aP (List.length aL)) (cond (aN aP (List.length aL)) (cond (az x3.2.2.2.1 2) (cond (aN aP (List.length aL)) (p3 x3 x8 x9 aT aL aP YS (((List.getD aL aP.toNat eg).2).1,(x3.2.1,(x3.2.2.1,(YS,(((((((List.getD aL aP.toNat eg).2).2).2).2).2).1,())))))) (none)) (p3 x3 x8 x9 aT aL aP YS (x3.2.1,(((List.getD aL aP.toNat eg).2).1,(x3.2.2.1,(YS,(((((((List.getD aL aP.toNat eg).2).2).2).2).2).1,()))))))) (none)) (none)) (none))) (none)
def bJ.OF(N:Nat)(cH:bJ.cU)(x3:fD)(x8:aZ)(x9:Int)(aT:bk)(aL:aZ)(aP:Int):Option (aZ×bk×(Int)×(Int)):=bJ.Ip N (bJ.Ar N cH) cH x3 x8 x9 aT aL aP
def bJ.lD(N:Nat)(Fs:bJ.ad8)(zF:bJ.Ph)(cH:bJ.cU)(x3:fD)(x8:aZ)(x9:Int)(aT:bk)(aL:aZ)(aP:Int):Option (aZ×bk×(Int)×(Int)):=
 cond (aM aP (List.length aL:Int)) (cond (aM 0 x9) (cond (az x3.2.2.2.1 1) (cond (aN aP (List.length aL)) (cond (aM x3.2.2.2.2.2.1 (((((((List.getD aL aP.toNat eg).2).2).2).2).2).1)) (Fs x8 x9 aT) (cond (az x3.2.2.2.1 2) (cond (aN aP (List.length aL)) (cond (aM (((((((List.getD aL aP.toNat eg).2).2).2).2).2).1) x3.2.2.2.2.2.1) (Fs x8 x9 aT) (zF x3 x8 x9 aT aL aP)) (none)) (zF x3 x8 x9 aT aL aP))) (none)) (cond (az x3.2.2.2.1 2) (cond (aN aP (List.length aL)) (cond (aM (((((((List.getD aL aP.toNat eg).2).2).2).2).2).1) x3.2.2.2.2.2.1) (Fs x8 x9 aT) (zF x3 x8 x9 aT aL aP)) (none)) (zF x3 x8 x9 aT aL aP))) (Fs x8 x9 aT)) (Fs x8 x9 aT)
def bJ.l7(N:Nat):Nat→bJ.cU
 |0,_,_,_,_,_,_=>none
 |n+1,x3,x8,x9,aT,aL,aP=>bJ.lD N (bJ.j22 N) (bJ.OF N (bJ.l7 N n)) (bJ.l7 N n) x3 x8 x9 aT aL aP
def bJ.b(N:Nat)(oq:bJ.cU)(a0:aZ)(a1:fD):Option (aZ×bk×(Int)×(Int)):=
 (iL N a0).bind fun r1=>cond (!r1) (some ([],[],(0:Int),(1:Int))) ((HH N a1).bind fun r2=>cond (!r2) (some ([],[],(0:Int),(1:Int))) (cond (small (List.length cY+List.length a0)) ((c9 N a0 a1.2.2.1 (W .i64 ((3:Int)-a1.2.2.2.1))).bind fun r5=>oq a1 (cY++a0) a1.2.2.2.2.1 ([]) r5 (0:Int)) (none)))
def bJ(N:Nat)(a0:aZ)(a1:fD):Option (aZ×bk×(Int)×(Int)):=bJ.b N (bJ.l7 N N) a0 a1
def Ob(N:Nat)(a0:uE):Option (Bool):=
 cond (bV 0 a0.1) (cond (bV a0.1 24) (cond (bV 0 a0.2.1) (cond (bV a0.2.1 24) (cond (!az a0.1 a0.2.1) (cond (bV 0 a0.2.2.1) (cond (aM a0.2.2.1 6) (cond (bV 1 a0.2.2.2.1) (cond (bV a0.2.2.2.1 1000000000) ((w6 N a0.2.2.2.2.1).bind fun r1=>some r1) (some false)) (some false)) (some false)) (some false)) (some false)) (some false)) (some false)) (some false)) (some false)
def Ij(N:Nat)(a0:Int):Option ((Int)×(Int)):=
 cond (az a0 0) (some ((2:Int),(0:Int))) (some ((5:Int),a0))
def RE(N:Nat)(a0:uE)(a1:Int):Option (bl×(Int)):=
 (Ob N a0).bind fun r1=>cond (!r1) (some ([],(1:Int))) ((w6 N a1).bind fun r2=>cond (!r2) (some ([],(1:Int))) ((fY N (W .i64 (a1-a0.2.2.2.2.1))).bind fun r4=>(fY N a0.2.2.2.1).bind fun r5=>(fL N r4 r5).bind fun r6=>(Jq N r6).bind fun r7=>cond (az r7 0) (some ([],(0:Int))) ((Ij N a0.1).bind fun r8=>(Ij N a0.2.1).bind fun r9=>(Mg N r6).bind fun jo=>some ([(r8.1,(r8.2,(r6,()))),(r9.1,(r9.2,(jo,())))],(0:Int)))))
abbrev fk.q4:=bk→ae→ah→ah→aj→bl→Int→Option (ah×(Int))
abbrev fk.aU:=bk→ae→ah→ah→Int→Option (ah×(Int))
def fk.zj(N:Nat)(uR:fk.q4)(x2:bk)(x3:ae)(x4:ah)(x6:ah)(x9:aj)(aT:bl)(aL:Int):Option (ah×(Int)):=
 cond (aM aL (List.length x2:Int)) (cond (aN aL (List.length x2)) ((Cl N x4 ((List.getD x2 aL.toNat jC).1)).bind fun r6=>cond (!r6) (some ((a6,(cn,(bc,(bc,(cQ,(cY,())))))),(3:Int))) ((Cl N x4 (((List.getD x2 aL.toNat jC).2).1)).bind fun r7=>cond (!r7) (some ((a6,(cn,(bc,(bc,(cQ,(cY,())))))),(3:Int))) (cond (bV (List.length x3.1:Int) ((((List.getD x2 aL.toNat jC).2).2).1)) (some ((a6,(cn,(bc,(bc,(cQ,(cY,())))))),(3:Int))) (let v8:Int:=W .i64 (0-(((((List.getD x2 aL.toNat jC).2).2).2).1));cond (small (List.length x9+List.length ([((List.getD x2 aL.toNat jC).1,((((List.getD x2 aL.toNat jC).2).2).1,(((((List.getD x2 aL.toNat jC).2).2).2).1,()))),(((List.getD x2 aL.toNat jC).2).1,((((List.getD x2 aL.toNat jC).2).2).1,(v8,())))]))) (cond (aN ((((List.getD x2 aL.toNat jC).2).2).1) (List.length x4.2.2.2.2.1)) ((RE N (List.getD x2 aL.toNat jC) (List.getD x4.2.2.2.2.1 ((((List.getD x2 aL.toNat jC).2).2).1).toNat (0:Int))).bind fun jo=>cond (small (List.length aT+List.length jo.1)) (uR x2 x3 x4 x6 (x9++([((List.getD x2 aL.toNat jC).1,((((List.getD x2 aL.toNat jC).2).2).1,(((((List.getD x2 aL.toNat jC).2).2).2).1,()))),(((List.getD x2 aL.toNat jC).2).1,((((List.getD x2 aL.toNat jC).2).2).1,(v8,())))])) (aT++jo.1) (W .i64 (aL+1))) (none)) (none)) (none))))) (none)) ((vu N x4 x9 aT).bind fun kR=>some (kR.1,kR.2))
def fk.By(N:Nat):Nat→fk.q4
 |0,_,_,_,_,_,_,_=>none
 |n+1,x2,x3,x4,x6,x9,aT,aL=>fk.zj N (fk.By N n) x2 x3 x4 x6 x9 aT aL
def fk.ca(N:Nat)(Ft:fk.q4)(bg:fk.aU)(x2:bk)(x3:ae)(x4:ah)(x6:ah)(x8:Int):Option (ah×(Int)):=
 cond (aM x8 (List.length x2:Int)) (cond (aN x8 (List.length x2)) ((Ob N (List.getD x2 x8.toNat jC)).bind fun r3=>cond (!r3) (some ((a6,(cn,(bc,(bc,(cQ,(cY,())))))),(1:Int))) (bg x2 x3 x4 x6 (W .i64 (x8+1)))) (none)) (Ft x2 x3 x4 x6 ([]) ([]) (0:Int))
def fk.l4(N:Nat):Nat→fk.aU
 |0,_,_,_,_,_=>none
 |n+1,x2,x3,x4,x6,x8=>fk.ca N (fk.By N N) (fk.l4 N n) x2 x3 x4 x6 x8
def fk.b(N:Nat)(cN:fk.aU)(a0:ae)(a1:ah)(a2:bk):Option (ah×(Int)):=
 (bD N a0 a1).bind fun r1=>cond (!r1) (some ((a6,(cn,(bc,(bc,(cQ,(cY,())))))),(1:Int))) (cond (aM 200 (List.length a2:Int)) (some ((a6,(cn,(bc,(bc,(cQ,(cY,())))))),(1:Int))) (cN a2 a0 a1 (a6,(cn,(bc,(bc,(cQ,(cY,())))))) (0:Int)))
def fk(N:Nat)(a0:ae)(a1:ah)(a2:bk):Option (ah×(Int)):=fk.b N (fk.l4 N N) a0 a1 a2
abbrev iN.Ph:=ae→ah→fD→ah→aZ→bk→Int→Option (ah×bk×(Int)×(Int))
abbrev iN.YR:=ae→ah→fD→ah→Option (ah×bk×(Int)×(Int))
def iN.Ip(N:Nat)(x3:ae)(x4:ah)(x5:fD)(x6:ah)(aP:aZ)(bo:bk)(bz:Int):Option (ah×bk×(Int)×(Int)):=
 (fk N x3 x4 bo).bind fun r6=>cond (!az r6.2 0) (some ((a6,(cn,(bc,(bc,(cQ,(cY,())))))),wL,(0:Int),r6.2)) (cond (aM 0 bz) (cond (small (List.length aP+List.length ([(x5.1,(x5.2.1,(x5.2.2.1,(x5.2.2.2.1,(bz,x5.2.2.2.2.2)))))]))) (some ((r6.1.1,(r6.1.2.1,(r6.1.2.2.1,(r6.1.2.2.2.1,(r6.1.2.2.2.2.1,((aP++([(x5.1,(x5.2.1,(x5.2.2.1,(x5.2.2.2.1,(bz,x5.2.2.2.2.2)))))])),r6.1.2.2.2.2.2.2)))))),bo,bz,(0:Int))) (none)) (some ((r6.1.1,(r6.1.2.1,(r6.1.2.2.1,(r6.1.2.2.2.1,(r6.1.2.2.2.2.1,(aP,r6.1.2.2.2.2.2.2)))))),bo,bz,(0:Int))))
def iN.OF(N:Nat)(x3:ae)(x4:ah)(x5:fD)(x6:ah)(aP:aZ)(bo:bk)(bz:Int):Option (ah×bk×(Int)×(Int)):=iN.Ip N x3 x4 x5 x6 aP bo bz
def iN.Yi(N:Nat)(zF:iN.Ph)(x3:ae)(x4:ah)(x5:fD)(x6:ah):Option (ah×bk×(Int)×(Int)):=
 (bJ N x4.2.2.2.2.2.1 x5).bind fun r4=>cond (aM 0 r4.2.2.1) (cond (az (List.length r4.1:Int) 32) (some ((a6,(cn,(bc,(bc,(cQ,(cY,())))))),wL,(0:Int),(5:Int))) (zF x3 x4 x5 x6 r4.1 r4.2.1 r4.2.2.1)) (zF x3 x4 x5 x6 r4.1 r4.2.1 r4.2.2.1)
def iN.j7(N:Nat)(x3:ae)(x4:ah)(x5:fD)(x6:ah):Option (ah×bk×(Int)×(Int)):=iN.Yi N (iN.OF N) x3 x4 x5 x6
def iN.b(N:Nat)(IF:iN.YR)(a0:ae)(a1:ah)(a2:fD):Option (ah×bk×(Int)×(Int)):=
 (Oq N a0 a1 a2).bind fun r1=>cond (!az r1 0) (some ((a6,(cn,(bc,(bc,(cQ,(cY,())))))),wL,(0:Int),r1)) (cond (aM 0 (List.length a1.2.2.2.2.2.1:Int)) (let v2:Int:=W .i64 ((List.length a1.2.2.2.2.2.1:Int)-1);cond (aN v2 (List.length a1.2.2.2.2.2.1)) (cond (bV a2.1 ((List.getD a1.2.2.2.2.2.1 v2.toNat eg).1)) (some ((a6,(cn,(bc,(bc,(cQ,(cY,())))))),wL,(0:Int),(1:Int))) (IF a0 a1 a2 (a6,(cn,(bc,(bc,(cQ,(cY,())))))))) (none)) (IF a0 a1 a2 (a6,(cn,(bc,(bc,(cQ,(cY,()))))))))
def iN(N:Nat)(a0:ae)(a1:ah)(a2:fD):Option (ah×bk×(Int)×(Int)):=iN.b N (iN.j7 N) a0 a1 a2
abbrev m2.bm:=aZ→Int→Int→aZ→Int→Option (aZ×(Int))
def m2.dn(N:Nat)(bb:m2.bm)(x0:aZ)(x1:Int)(x2:Int)(x8:aZ)(x9:Int):Option (aZ×(Int)):=
 cond (aM x9 (List.length x0:Int)) (cond (aN x9 (List.length x0)) (cond (!az ((List.getD x0 x9.toNat eg).1) x2) (cond (aN x9 (List.length x0)) (cond (small (List.length x8+List.length ([List.getD x0 x9.toNat eg]))) (bb x0 x1 x2 (x8++([List.getD x0 x9.toNat eg])) (W .i64 (x9+1))) (none)) (none)) (cond (aN x9 (List.length x0)) (cond (!az (((List.getD x0 x9.toNat eg).2).1) x1) (cond (aN x9 (List.length x0)) (cond (small (List.length x8+List.length ([List.getD x0 x9.toNat eg]))) (bb x0 x1 x2 (x8++([List.getD x0 x9.toNat eg])) (W .i64 (x9+1))) (none)) (none)) (bb x0 x1 x2 x8 (W .i64 (x9+1)))) (none))) (none)) (cond (az (List.length x8:Int) (List.length x0:Int)) (some ([],(3:Int))) (some (x8,(0:Int))))
def m2.l5(N:Nat):Nat→m2.bm
 |0,_,_,_,_,_=>none
 |n+1,x0,x1,x2,x8,x9=>m2.dn N (m2.l5 N n) x0 x1 x2 x8 x9
def m2.b(N:Nat)(dK:m2.bm)(a0:aZ)(a1:Int)(a2:Int):Option (aZ×(Int)):=
 (iL N a0).bind fun r1=>cond (!r1) (some ([],(1:Int))) (dK a0 a1 a2 ([]) (0:Int))
def m2(N:Nat)(a0:aZ)(a1:Int)(a2:Int):Option (aZ×(Int)):=m2.b N (m2.l5 N N) a0 a1 a2
abbrev m3.ed:=aj→Int→bl→av→Int→Option (bl×(Int))
def m3.mg(N:Nat)(ej:m3.ed)(x0:aj)(x1:Int)(aT:bl)(aL:av)(aP:Int):Option (bl×(Int)):=
 cond (aM aP (List.length x0:Int)) (cond (aN aP (List.length x0)) (cond (!az (((List.getD x0 aP.toNat aW).2).1) x1) (ej x0 x1 aT aL (W .i64 (aP+1))) ((Jq N aL).bind fun r9=>cond (az r9 0) (ej x0 x1 aT aL (W .i64 (aP+1))) (cond (aN aP (List.length x0)) ((Ij N ((List.getD x0 aP.toNat aW).1)).bind fun mo=>cond (aN aP (List.length x0)) ((fY N ((((List.getD x0 aP.toNat aW).2).2).1)).bind fun np=>(fL N np aL).bind fun kR=>cond (small (List.length aT+List.length ([(mo.1,(mo.2,(kR,())))]))) (ej x0 x1 (aT++([(mo.1,(mo.2,(kR,())))])) aL (W .i64 (aP+1))) (none)) (none)) (none)))) (none)) (some (aT,(0:Int)))
def m3.l6(N:Nat):Nat→m3.ed
 |0,_,_,_,_,_=>none
 |n+1,x0,x1,aT,aL,aP=>m3.mg N (m3.l6 N n) x0 x1 aT aL aP
def m3.b(N:Nat)(oj:m3.ed)(a0:aj)(a1:Int)(a2:Int)(a3:Int):Option (bl×(Int)):=
 (th N a0).bind fun r1=>cond (!r1) (some ([],(1:Int))) ((w6 N a2).bind fun r2=>cond (!r2) (some ([],(1:Int))) ((w6 N a3).bind fun r3=>cond (!r3) (some ([],(1:Int))) ((fY N a3).bind fun r4=>(fY N a2).bind fun r5=>(Jp N r4 r5).bind fun r6=>oj a0 a1 ([]) r6 (0:Int))))
def m3(N:Nat)(a0:aj)(a1:Int)(a2:Int)(a3:Int):Option (bl×(Int)):=m3.b N (m3.l6 N N) a0 a1 a2 a3
def RU(N:Nat)(a0:ae)(a1:ah)(a2:Int)(a3:Int):Option (ah×bl×(Int)):=
 (bD N a0 a1).bind fun r1=>cond (!r1) (some ((a6,(cn,(bc,(bc,(cQ,(cY,())))))),([]:List ((Int)×((Int)×(((Bool)×((List (Int))×(Unit)))×(Unit))))),(1:Int))) ((w6 N a3).bind fun r2=>cond (!r2) (some ((a6,(cn,(bc,(bc,(cQ,(cY,())))))),([]:List ((Int)×((Int)×(((Bool)×((List (Int))×(Unit)))×(Unit))))),(1:Int))) (cond (aM a2 0) (some ((a6,(cn,(bc,(bc,(cQ,(cY,())))))),([]:List ((Int)×((Int)×(((Bool)×((List (Int))×(Unit)))×(Unit))))),(3:Int))) (cond (bV (List.length a0.1:Int) a2) (some ((a6,(cn,(bc,(bc,(cQ,(cY,())))))),([]:List ((Int)×((Int)×(((Bool)×((List (Int))×(Unit)))×(Unit))))),(3:Int))) (cond (aN a2 (List.length a1.2.2.2.2.1)) ((m3 N a1.2.2.2.1 a2 (List.getD a1.2.2.2.2.1 a2.toNat (0:Int)) a3).bind fun r3=>(vu N a1 bc r3.1).bind fun r4=>cond (!az r4.2 0) (some ((a6,(cn,(bc,(bc,(cQ,(cY,())))))),([]:List ((Int)×((Int)×(((Bool)×((List (Int))×(Unit)))×(Unit))))),r4.2)) (cond (small (List.length cQ+List.length a1.2.2.2.2.1)) (let v5:List (Int):=cQ++a1.2.2.2.2.1;cond (aN a2 (List.length v5)) (some ((r4.1.1,(r4.1.2.1,(r4.1.2.2.1,(r4.1.2.2.2.1,((List.set v5 a2.toNat a3),r4.1.2.2.2.2.2))))),r3.1,(0:Int))) (none)) (none))) (none)))))
abbrev lT.bL:=ax→Int→Option (Bool)
def lT.dI(N:Nat)(cG:lT.bL)(x0:ax)(x3:Int):Option (Bool):=
 cond (aM x3 (List.length x0:Int)) (cond (aN x3 (List.length x0)) (cond (aM ((List.getD x0 x3.toNat bP).1) (1:Int)) (some false) (cond (aN x3 (List.length x0)) (cond (aM 24 ((List.getD x0 x3.toNat bP).1)) (some false) (cond (aN x3 (List.length x0)) (cond (az (((List.getD x0 x3.toNat bP).2).1) (0:Int)) (some false) (cond (aM 0 x3) (cond (aN x3 (List.length x0)) (let v2:Int:=W .i64 (x3-1);cond (aN v2 (List.length x0)) (cond (bV ((List.getD x0 x3.toNat bP).1) ((List.getD x0 v2.toNat bP).1)) (some false) (cG x0 (W .i64 (x3+1)))) (none)) (none)) (cG x0 (W .i64 (x3+1))))) (none))) (none))) (none)) (some true)
def lT.l2(N:Nat):Nat→lT.bL
 |0,_,_=>none
 |n+1,x0,x3=>lT.dI N (lT.l2 N n) x0 x3
def lT.b(N:Nat)(eG:lT.bL)(a0:ax):Option (Bool):=
 eG a0 (0:Int)
def lT(N:Nat)(a0:ax):Option (Bool):=lT.b N (lT.l2 N N) a0
abbrev c4.q5:=ax→bl→ax→Int→av→Int→Option (ax×(Int))
abbrev c4.iw:=ax→bl→ax→Int→av→Int→Option (ax×(Int))
abbrev c4.bm:=ax→bl→ax→Int→Option (ax×(Int))
def c4.zd(N:Nat)(bb:c4.bm)(wI:c4.q5)(x0:ax)(x1:bl)(x6:ax)(x7:Int)(x8:av)(aT:Int):Option (ax×(Int)):=
 cond (aM aT (List.length x1:Int)) (cond (aN aT (List.length x1)) (cond (az ((List.getD x1 aT.toNat ((0:Int),((0:Int),((false,kX),())))).1) (5:Int)) (cond (aN aT (List.length x1)) (cond (az (((List.getD x1 aT.toNat ((0:Int),((0:Int),((false,kX),())))).2).1) x7) (cond (aN aT (List.length x1)) ((tU N x8 ((((List.getD x1 aT.toNat ((0:Int),((0:Int),((false,kX),())))).2).2).1)).bind fun r8=>wI x0 x1 x6 x7 r8 (W .i64 (aT+1))) (none)) (wI x0 x1 x6 x7 x8 (W .i64 (aT+1)))) (none)) (wI x0 x1 x6 x7 x8 (W .i64 (aT+1)))) (none)) ((qH N x8).bind fun np=>cond (!np.2) (some ([],(2:Int))) (cond (!az np.1 0) (cond (small (List.length x6+List.length ([(x7,(np.1,()))]))) (bb x0 x1 (x6++([(x7,(np.1,()))])) (W .i64 (x7+1))) (none)) (bb x0 x1 x6 (W .i64 (x7+1)))))
def c4.Bn(N:Nat)(bb:c4.bm):Nat→c4.q5
 |0,_,_,_,_,_,_=>none
 |n+1,x0,x1,x6,x7,x8,aT=>c4.zd N bb (c4.Bn N bb n) x0 x1 x6 x7 x8 aT
def c4.sd(N:Nat)(Fu:c4.q5)(bb:c4.bm)(nj:c4.iw)(x0:ax)(x1:bl)(x6:ax)(x7:Int)(x8:av)(x9:Int):Option (ax×(Int)):=
 cond (aM x9 (List.length x0:Int)) (cond (aN x9 (List.length x0)) (cond (az ((List.getD x0 x9.toNat bP).1) x7) (cond (aN x9 (List.length x0)) ((fY N (((List.getD x0 x9.toNat bP).2).1)).bind fun r4=>nj x0 x1 x6 x7 r4 (W .i64 (x9+1))) (none)) (nj x0 x1 x6 x7 x8 (W .i64 (x9+1)))) (none)) (Fu x0 x1 x6 x7 x8 (0:Int))
def c4.l9(N:Nat)(bb:c4.bm):Nat→c4.iw
 |0,_,_,_,_,_,_=>none
 |n+1,x0,x1,x6,x7,x8,x9=>c4.sd N (c4.Bn N bb N) bb (c4.l9 N bb n) x0 x1 x6 x7 x8 x9
def c4.dn(N:Nat)(tc:c4.iw)(bb:c4.bm)(x0:ax)(x1:bl)(x6:ax)(x7:Int):Option (ax×(Int)):=
 cond (bV x7 24) (tc x0 x1 x6 x7 (false,kX) (0:Int)) (some (x6,(0:Int)))
def c4.l5(N:Nat):Nat→c4.bm
 |0,_,_,_,_=>none
 |n+1,x0,x1,x6,x7=>c4.dn N (c4.l9 N (c4.l5 N n) N) (c4.l5 N n) x0 x1 x6 x7
def c4.b(N:Nat)(dK:c4.bm)(a0:ax)(a1:bl):Option (ax×(Int)):=
 (lT N a0).bind fun r1=>cond (!r1) (some ([],(1:Int))) (dK a0 a1 ([]) (1:Int))
def c4(N:Nat)(a0:ax)(a1:bl):Option (ax×(Int)):=c4.b N (c4.l5 N N) a0 a1
def LS(N:Nat)(a0:aI)(a1:Int):Option ((Int)×(Bool)):=
 (fY N a0.1).bind fun r1=>(fY N a1).bind fun r2=>(tU N r1 r2).bind fun r3=>(qH N r3).bind fun r4=>some (r4.1,r4.2)
def RP(N:Nat)(a0:Int)(a1:Int):Option ((Int)×(Bool)):=
 cond (az a0 0) (cond (az a1 1) (some ((1:Int),true)) (cond (az a0 1) (cond (az a1 11) (some ((2:Int),true)) (cond (az a0 2) (cond (az a1 12) (some ((1:Int),true)) (cond (az a0 2) (cond (az a1 13) (some ((3:Int),true)) (cond (az a0 3) (cond (az a1 21) (some ((4:Int),true)) (some ((0:Int),false))) (some ((0:Int),false)))) (cond (az a0 3) (cond (az a1 21) (some ((4:Int),true)) (some ((0:Int),false))) (some ((0:Int),false))))) (cond (az a0 2) (cond (az a1 13) (some ((3:Int),true)) (cond (az a0 3) (cond (az a1 21) (some ((4:Int),true)) (some ((0:Int),false))) (some ((0:Int),false)))) (cond (az a0 3) (cond (az a1 21) (some ((4:Int),true)) (some ((0:Int),false))) (some ((0:Int),false)))))) (cond (az a0 2) (cond (az a1 12) (some ((1:Int),true)) (cond (az a0 2) (cond (az a1 13) (some ((3:Int),true)) (cond (az a0 3) (cond (az a1 21) (some ((4:Int),true)) (some ((0:Int),false))) (some ((0:Int),false)))) (cond (az a0 3) (cond (az a1 21) (some ((4:Int),true)) (some ((0:Int),false))) (some ((0:Int),false))))) (cond (az a0 2) (cond (az a1 13) (some ((3:Int),true)) (cond (az a0 3) (cond (az a1 21) (some ((4:Int),true)) (some ((0:Int),false))) (some ((0:Int),false)))) (cond (az a0 3) (cond (az a1 21) (some ((4:Int),true)) (some ((0:Int),false))) (some ((0:Int),false))))))) (cond (az a0 1) (cond (az a1 11) (some ((2:Int),true)) (cond (az a0 2) (cond (az a1 12) (some ((1:Int),true)) (cond (az a0 2) (cond (az a1 13) (some ((3:Int),true)) (cond (az a0 3) (cond (az a1 21) (some ((4:Int),true)) (some ((0:Int),false))) (some ((0:Int),false)))) (cond (az a0 3) (cond (az a1 21) (some ((4:Int),true)) (some ((0:Int),false))) (some ((0:Int),false))))) (cond (az a0 2) (cond (az a1 13) (some ((3:Int),true)) (cond (az a0 3) (cond (az a1 21) (some ((4:Int),true)) (some ((0:Int),false))) (some ((0:Int),false)))) (cond (az a0 3) (cond (az a1 21) (some ((4:Int),true)) (some ((0:Int),false))) (some ((0:Int),false)))))) (cond (az a0 2) (cond (az a1 12) (some ((1:Int),true)) (cond (az a0 2) (cond (az a1 13) (some ((3:Int),true)) (cond (az a0 3) (cond (az a1 21) (some ((4:Int),true)) (some ((0:Int),false))) (some ((0:Int),false)))) (cond (az a0 3) (cond (az a1 21) (some ((4:Int),true)) (some ((0:Int),false))) (some ((0:Int),false))))) (cond (az a0 2) (cond (az a1 13) (some ((3:Int),true)) (cond (az a0 3) (cond (az a1 21) (some ((4:Int),true)) (some ((0:Int),false))) (some ((0:Int),false)))) (cond (az a0 3) (cond (az a1 21) (some ((4:Int),true)) (some ((0:Int),false))) (some ((0:Int),false))))))
abbrev kO.q4:=Int→Int→ax→Int→Option (ax×(Int))
def kO.zj(N:Nat)(uR:kO.q4)(x1:Int)(x9:Int)(aL:ax)(aP:Int):Option (ax×(Int)):=
 cond (aM aP (List.length aL:Int)) (cond (aN aP (List.length aL)) (cond (az ((List.getD aL aP.toNat bP).1) x1) (cond (aN aP (List.length aL)) (uR x1 x9 (List.set aL aP.toNat ((List.getD aL aP.toNat bP).1,(x9,((List.getD aL aP.toNat bP).2).2))) (W .i64 (aP+1))) (none)) (uR x1 x9 aL (W .i64 (aP+1)))) (none)) (some (aL,(0:Int)))
def kO.By(N:Nat):Nat→kO.q4
 |0,_,_,_,_=>none
 |n+1,x1,x9,aL,aP=>kO.zj N (kO.By N n) x1 x9 aL aP
def kO.b(N:Nat)(Ft:kO.q4)(a0:ax)(a1:Int)(a2:Int):Option (ax×(Int)):=
 (jt N a0).bind fun r1=>cond (!r1) (some ([],(1:Int))) ((iM N a0 a1).bind fun r2=>cond (az r2 0) (some ([],(3:Int))) ((RP N r2 a2).bind fun r3=>cond (!r3.2) (some ([],(8:Int))) (cond (small (List.length a6+List.length a0)) (Ft a1 r3.1 (a6++a0) (0:Int)) (none))))
def kO(N:Nat)(a0:ax)(a1:Int)(a2:Int):Option (ax×(Int)):=kO.b N (kO.By N N) a0 a1 a2
abbrev m1.bm:=ay→Int→(List (Int))→Int→Option (List (Int))
def m1.dn(N:Nat)(bb:m1.bm)(x0:ay)(x1:Int)(x5:List (Int))(x6:Int):Option (List (Int)):=
 cond (aM x6 (List.length x0:Int)) (cond (aN x6 (List.length x0)) (cond (az (((List.getD x0 x6.toNat aE).2).1) x1) (cond (aN x6 (List.length x0)) (cond (small (List.length x5+List.length ([(List.getD x0 x6.toNat aE).1]))) (bb x0 x1 (x5++([(List.getD x0 x6.toNat aE).1])) (W .i64 (x6+1))) (none)) (none)) (bb x0 x1 x5 (W .i64 (x6+1)))) (none)) (some x5)
def m1.l5(N:Nat):Nat→m1.bm
 |0,_,_,_,_=>none
 |n+1,x0,x1,x5,x6=>m1.dn N (m1.l5 N n) x0 x1 x5 x6
def m1.b(N:Nat)(dK:m1.bm)(a0:ay)(a1:Int):Option (List (Int)):=
 (g7 N a0).bind fun r1=>cond (!r1) (some ([])) (dK a0 a1 ([]) (0:Int))
def m1(N:Nat)(a0:ay)(a1:Int):Option (List (Int)):=m1.b N (m1.l5 N N) a0 a1
abbrev eM.iw:=aZ→(List (Int))→aZ→Int→Bool→Int→Option aZ
abbrev eM.bm:=aZ→(List (Int))→aZ→Int→Option aZ
def eM.sd(N:Nat)(bb:eM.bm)(nj:eM.iw)(x0:aZ)(x1:List (Int))(x5:aZ)(x6:Int)(x7:Bool)(x8:Int):Option aZ:=
 cond (aM x8 (List.length x1:Int)) (cond (x7) (nj x0 x1 x5 x6 true (W .i64 (x8+1))) (cond (aN x8 (List.length x1)) (cond (aN x6 (List.length x0)) (nj x0 x1 x5 x6 (az (List.getD x1 x8.toNat (0:Int)) (((List.getD x0 x6.toNat eg).2).1)) (W .i64 (x8+1))) (none)) (none))) (cond (!x7) (cond (aN x6 (List.length x0)) (cond (small (List.length x5+List.length ([List.getD x0 x6.toNat eg]))) (bb x0 x1 (x5++([List.getD x0 x6.toNat eg])) (W .i64 (x6+1))) (none)) (none)) (bb x0 x1 x5 (W .i64 (x6+1))))
def eM.l9(N:Nat)(bb:eM.bm):Nat→eM.iw
 |0,_,_,_,_,_,_=>none
 |n+1,x0,x1,x5,x6,x7,x8=>eM.sd N bb (eM.l9 N bb n) x0 x1 x5 x6 x7 x8
def eM.dn(N:Nat)(tc:eM.iw)(bb:eM.bm)(x0:aZ)(x1:List (Int))(x5:aZ)(x6:Int):Option aZ:=
 cond (aM x6 (List.length x0:Int)) (tc x0 x1 x5 x6 false (0:Int)) (some x5)
def eM.l5(N:Nat):Nat→eM.bm
 |0,_,_,_,_=>none
 |n+1,x0,x1,x5,x6=>eM.dn N (eM.l9 N (eM.l5 N n) N) (eM.l5 N n) x0 x1 x5 x6
def eM.b(N:Nat)(dK:eM.bm)(a0:aZ)(a1:List (Int)):Option aZ:=
 (iL N a0).bind fun r1=>cond (!r1) (some ([])) (dK a0 a1 ([]) (0:Int))
def eM(N:Nat)(a0:aZ)(a1:List (Int)):Option aZ:=eM.b N (eM.l5 N N) a0 a1
def LA(N:Nat)(a0:ae)(a1:ah)(a2:Int):Option (ah×(Int)):=
 (bD N a0 a1).bind fun r1=>cond (!r1) (some ((a6,(cn,(bc,(bc,(cQ,(cY,())))))),(1:Int))) ((uc N a1.1 a2).bind fun r2=>cond (az r2 0) (some ((a6,(cn,(bc,(bc,(cQ,(cY,())))))),(3:Int))) ((m1 N a1.2.1 a2).bind fun r3=>(eM N a1.2.2.2.2.2.1 r3).bind fun r4=>some ((a1.1,(a1.2.1,(a1.2.2.1,(a1.2.2.2.1,(a1.2.2.2.2.1,(r4,a1.2.2.2.2.2.2)))))),(0:Int))))
def Ra(N:Nat)(a0:bs):Option (Bool):=
 cond (bV 1 a0.1) (cond (bV a0.1 1099511627776) (cond (bV 1 a0.2.1) (cond (bV a0.2.1 1099511627776) (cond (bV 1 a0.2.2.1) (cond (bV a0.2.2.1 12) (cond (bV (-1152921504606846976) a0.2.2.2.1) (some (bV a0.2.2.2.1 1152921504606846976)) (some false)) (some false)) (some false)) (some false)) (some false)) (some false)) (some false)
abbrev cW.iw:=ay→Int→Int→Option (Bool)
abbrev cW.IB:=ay→Int→Option (Bool)
abbrev cW.aU:=ay→Int→Option (Bool)
def cW.sd(N:Nat)(bg:cW.aU)(nj:cW.iw)(x0:ay)(x3:Int)(x4:Int):Option (Bool):=
 cond (aM x4 x3) (cond (aN x4 (List.length x0)) (cond (aN x3 (List.length x0)) (cond (az ((((List.getD x0 x4.toNat aE).2).2).1) ((((List.getD x0 x3.toNat aE).2).2).1)) (cond (aN x4 (List.length x0)) (cond (aN x3 (List.length x0)) (cond (az (((List.getD x0 x4.toNat aE).2).1) (((List.getD x0 x3.toNat aE).2).1)) (some false) (nj x0 x3 (W .i64 (x4+1)))) (none)) (none)) (nj x0 x3 (W .i64 (x4+1)))) (none)) (none)) (bg x0 (W .i64 (x3+1)))
def cW.l9(N:Nat)(bg:cW.aU):Nat→cW.iw
 |0,_,_,_=>none
 |n+1,x0,x3,x4=>cW.sd N bg (cW.l9 N bg n) x0 x3 x4
def cW.HW(N:Nat)(tc:cW.iw)(bg:cW.aU)(x0:ay)(x3:Int):Option (Bool):=
 tc x0 x3 (0:Int)
def cW.j8(N:Nat)(bg:cW.aU)(x0:ay)(x3:Int):Option (Bool):=cW.HW N (cW.l9 N bg N) bg x0 x3
def cW.ca(N:Nat)(zw:cW.IB)(bg:cW.aU)(x0:ay)(x3:Int):Option (Bool):=
 cond (aM x3 (List.length x0:Int)) (cond (aN x3 (List.length x0)) ((Ra N (List.getD x0 x3.toNat aE)).bind fun r2=>cond (!r2) (some false) (cond (aM 0 x3) (cond (aN x3 (List.length x0)) (let v3:Int:=W .i64 (x3-1);cond (aN v3 (List.length x0)) (cond (bV ((List.getD x0 x3.toNat aE).1) ((List.getD x0 v3.toNat aE).1)) (some false) (zw x0 x3)) (none)) (none)) (zw x0 x3))) (none)) (some true)
def cW.l4(N:Nat):Nat→cW.aU
 |0,_,_=>none
 |n+1,x0,x3=>cW.ca N (cW.j8 N (cW.l4 N n)) (cW.l4 N n) x0 x3
def cW.b(N:Nat)(cN:cW.aU)(a0:ay):Option (Bool):=
 cond (aM 40 (List.length a0:Int)) (some false) (cN a0 (0:Int))
def cW(N:Nat)(a0:ay):Option (Bool):=cW.b N (cW.l4 N N) a0
abbrev ly.bm:=ay→Int→ay→Int→Option ay
def ly.dn(N:Nat)(bb:ly.bm)(x0:ay)(x1:Int)(x5:ay)(x6:Int):Option ay:=
 cond (aM x6 (List.length x0:Int)) (cond (aN x6 (List.length x0)) (cond (!az ((((List.getD x0 x6.toNat aE).2).2).1) x1) (cond (aN x6 (List.length x0)) (cond (small (List.length x5+List.length ([List.getD x0 x6.toNat aE]))) (bb x0 x1 (x5++([List.getD x0 x6.toNat aE])) (W .i64 (x6+1))) (none)) (none)) (bb x0 x1 x5 (W .i64 (x6+1)))) (none)) (some x5)
def ly.l5(N:Nat):Nat→ly.bm
 |0,_,_,_,_=>none
 |n+1,x0,x1,x5,x6=>ly.dn N (ly.l5 N n) x0 x1 x5 x6
def ly.b(N:Nat)(dK:ly.bm)(a0:ay)(a1:Int):Option ay:=
 (cW N a0).bind fun r1=>cond (!r1) (some ([])) (dK a0 a1 ([]) (0:Int))
def ly(N:Nat)(a0:ay)(a1:Int):Option ay:=ly.b N (ly.l5 N N) a0 a1
def Sa(N:Nat)(a0:aI)(a1:Int):Option (Bool):=
 cond (az a1 14) (cond (az a0.2.2.2.1.2.1 1) (some (aM a0.1 a0.2.2.2.1.2.2.1)) (some false)) (cond (az a1 15) (cond (az a0.2.2.2.1.2.1 1) (some (bV a0.2.2.2.1.2.2.1 a0.1)) (some false)) (cond (az a1 19) (cond (az a0.2.2.2.1.2.1 3) (some (aM a0.1 a0.2.2.2.1.2.2.1)) (some false)) (cond (az a1 20) (cond (az a0.2.2.2.1.2.1 3) (some (bV a0.2.2.2.1.2.2.1 a0.1)) (some false)) (some (az a0.2.2.2.1.2.1 2)))))
def Ao(N:Nat)(a0:ah)(a1:Int):Option (Int):=
 (uc N a0.1 a1).bind fun r1=>some r1
abbrev lz.bm:=ax→Bool→ae→av→av→Int→Option (av×(Int))
def lz.dn(N:Nat)(bb:lz.bm)(x1:ax)(x2:Bool)(x3:ae)(x6:av)(x8:av)(x9:Int):Option (av×(Int)):=
 cond (aM x9 (List.length x1:Int)) (cond (aN x9 (List.length x1)) (cond (aN ((List.getD x1 x9.toNat bP).1) (List.length x3.1)) (cond (x2) (cond (aN x9 (List.length x1)) (cond (aN ((List.getD x1 x9.toNat bP).1) (List.length x3.1)) (cond (aN x9 (List.length x1)) ((fY N (((List.getD x1 x9.toNat bP).2).1)).bind fun r3=>(Ny N r3).bind fun r4=>(fY N (((((List.getD x3.1 ((List.getD x1 x9.toNat bP).1).toNat aE).2).2).2).1)).bind fun r5=>(fL N r4 r5).bind fun r6=>(tU N x8 r6).bind fun r7=>bb x1 x2 x3 x6 r7 (W .i64 (x9+1))) (none)) (none)) (none)) (cond (aN x9 (List.length x1)) ((fY N (((List.getD x1 x9.toNat bP).2).1)).bind fun r9=>(Ny N r9).bind fun jo=>(fY N ((((List.getD x3.1 ((List.getD x1 x9.toNat bP).1).toNat aE).2).2).1)).bind fun mo=>(fL N jo mo).bind fun np=>(tU N x8 np).bind fun kR=>bb x1 x2 x3 x6 kR (W .i64 (x9+1))) (none))) (none)) (none)) (some (x8,(0:Int)))
def lz.l5(N:Nat):Nat→lz.bm
 |0,_,_,_,_,_,_=>none
 |n+1,x1,x2,x3,x6,x8,x9=>lz.dn N (lz.l5 N n) x1 x2 x3 x6 x8 x9
def lz.b(N:Nat)(dK:lz.bm)(a0:ae)(a1:ax)(a2:Bool):Option (av×(Int)):=
 (jh N a0 a1).bind fun r1=>cond (!r1) (some ((false,kX),(1:Int))) (dK a1 a2 a0 (false,kX) (false,kX) (0:Int))
def lz(N:Nat)(a0:ae)(a1:ax)(a2:Bool):Option (av×(Int)):=lz.b N (lz.l5 N N) a0 a1 a2
def YF(N:Nat)(a0:ae)(a1:ax):Option (av×(Int)):=
 (lz N a0 a1 false).bind fun r1=>some (r1.1,r1.2)
def Ir(N:Nat)(a0:ah)(a1:Int):Option (Int):=
 (oU N a0.2.2.1 (5:Int) a1).bind fun r1=>some r1
def RY(N:Nat)(a0:ae)(a1:ah)(a2:Int)(a3:Int)(a4:Int):Option (Int):=
 (bD N a0 a1).bind fun r1=>cond (!r1) (some (1:Int)) ((yK N a1.2.1 a4).bind fun r2=>cond (!r2.2) (some (3:Int)) ((Ao N a1 a2).bind fun r3=>cond (az r3 0) (some (3:Int)) ((Ao N a1 a3).bind fun r4=>cond (az r4 0) (some (3:Int)) (cond (!az r2.1.2.1 a2) (some (8:Int)) (cond (!az r2.1.2.2.1 2) (some (8:Int)) ((Ao N a1 a3).bind fun r5=>cond (!az r5 1) (some (7:Int)) ((sl N a1.2.2.2.1 a4).bind fun r6=>(YF N a0 r6).bind fun r7=>(Ir N a1 a4).bind fun r8=>(fY N r8).bind fun r9=>(GW N r9 r7.1).bind fun jo=>cond (aM jo 0) (some (10:Int)) (some (0:Int)))))))))
abbrev m0.eK:=Int→Int→ay→Int→Option (ay×(Int))
def m0.lN(N:Nat)(fJ:m0.eK)(x2:Int)(x3:Int)(bo:ay)(bz:Int):Option (ay×(Int)):=
 cond (aM bz (List.length bo:Int)) (cond (aN bz (List.length bo)) (cond (az ((List.getD bo bz.toNat aE).1) x2) (cond (aN bz (List.length bo)) (fJ x2 x3 (List.set bo bz.toNat ((List.getD bo bz.toNat aE).1,(x3,((List.getD bo bz.toNat aE).2).2))) (W .i64 (bz+1))) (none)) (fJ x2 x3 bo (W .i64 (bz+1)))) (none)) (some (bo,(0:Int)))
def m0.nV(N:Nat):Nat→m0.eK
 |0,_,_,_,_=>none
 |n+1,x2,x3,bo,bz=>m0.lN N (m0.nV N n) x2 x3 bo bz
def m0.b(N:Nat)(qY:m0.eK)(a0:ax)(a1:ay)(a2:Int)(a3:Int):Option (ay×(Int)):=
 (jM N a0 a1).bind fun r1=>cond (!r1) (some ([],(1:Int))) ((ju N a1 a2).bind fun r2=>(iM N a0 a3).bind fun r3=>cond (!r2.2) (some ([],(3:Int))) (cond (az r3 0) (some ([],(3:Int))) (cond (!az r2.1.2.2.1 2) (some ([],(8:Int))) (cond (!az r3 1) (some ([],(7:Int))) (cond (small (List.length cn+List.length a1)) (qY a2 a3 (cn++a1) (0:Int)) (none))))))
def m0(N:Nat)(a0:ax)(a1:ay)(a2:Int)(a3:Int):Option (ay×(Int)):=m0.b N (m0.nV N N) a0 a1 a2 a3
def RX(N:Nat)(a0:ae)(a1:ah)(a2:Int)(a3:Int)(a4:Int):Option (ah×(Int)):=
 (RY N a0 a1 a2 a3 a4).bind fun r1=>cond (!az r1 0) (some ((a6,(cn,(bc,(bc,(cQ,(cY,())))))),r1)) ((m0 N a1.1 a1.2.1 a4 a3).bind fun r2=>cond (!az r2.2 0) (some ((a6,(cn,(bc,(bc,(cQ,(cY,())))))),r2.2)) (some ((a1.1,(r2.1,a1.2.2)),(0:Int))))
def ON(N:Nat)(a0:ae)(a1:ax):Option (av×(Int)):=
 (lz N a0 a1 true).bind fun r1=>some (r1.1,r1.2)
def R7(N:Nat)(a0:ae)(a1:ah)(a2:Int):Option ((Int)×(Int)):=
 (bD N a0 a1).bind fun r1=>cond (!r1) (some ((0:Int),(1:Int))) ((yK N a1.2.1 a2).bind fun r2=>cond (!r2.2) (some ((0:Int),(3:Int))) ((sl N a1.2.2.2.1 a2).bind fun r3=>(ON N a0 r3).bind fun r4=>(Ir N a1 a2).bind fun r5=>cond (bV r5 0) (some ((0:Int),(0:Int))) ((qH N r4.1).bind fun r6=>cond (r6.2) (cond (aM r6.1 r5) (some (r6.1,(0:Int))) (some (r5,(0:Int)))) (some (r5,(0:Int))))))
abbrev lV.bm:=aj→Int→Int→aj→Int→Option aj
def lV.dn(N:Nat)(bb:lV.bm)(x0:aj)(x1:Int)(x2:Int)(x7:aj)(x8:Int):Option aj:=
 cond (aM x8 (List.length x0:Int)) (cond (aN x8 (List.length x0)) (cond (az ((List.getD x0 x8.toNat aW).1) x1) (cond (aN x8 (List.length x0)) (cond (aN x8 (List.length x0)) (let v3:Int:=W .i64 (0-((((List.getD x0 x8.toNat aW).2).2).1));cond (aN x8 (List.length x0)) (cond (aN x8 (List.length x0)) (cond (small (List.length x7+List.length ([(x1,(((List.getD x0 x8.toNat aW).2).1,(v3,()))),(x2,(((List.getD x0 x8.toNat aW).2).1,((((List.getD x0 x8.toNat aW).2).2).1,())))]))) (bb x0 x1 x2 (x7++([(x1,(((List.getD x0 x8.toNat aW).2).1,(v3,()))),(x2,(((List.getD x0 x8.toNat aW).2).1,((((List.getD x0 x8.toNat aW).2).2).1,())))])) (W .i64 (x8+1))) (none)) (none)) (none)) (none)) (none)) (bb x0 x1 x2 x7 (W .i64 (x8+1)))) (none)) (some x7)
def lV.l5(N:Nat):Nat→lV.bm
 |0,_,_,_,_,_=>none
 |n+1,x0,x1,x2,x7,x8=>lV.dn N (lV.l5 N n) x0 x1 x2 x7 x8
def lV.b(N:Nat)(dK:lV.bm)(a0:aj)(a1:Int)(a2:Int):Option aj:=
 (th N a0).bind fun r1=>cond (!r1) (some ([])) (cond (az a1 a2) (some ([])) (cond (aM a1 0) (some ([])) (cond (aM 24 a1) (some ([])) (cond (aM a2 0) (some ([])) (cond (aM 24 a2) (some ([])) (dK a0 a1 a2 ([]) (0:Int)))))))
def lV(N:Nat)(a0:aj)(a1:Int)(a2:Int):Option aj:=lV.b N (lV.l5 N N) a0 a1 a2
abbrev fB.zD:=Int→ae→ah→ah→aj→bl→Int→bs→Option (ah×(Int))
abbrev fB.fp:=Int→ae→ah→ah→aj→bl→Int→Option (ah×(Int))
def fB.ta(N:Nat)(dD:fB.fp)(x2:Int)(x3:ae)(x4:ah)(x6:ah)(x8:aj)(x9:bl)(aT:Int)(aL:bs):Option (ah×(Int)):=
 (Ir N x4 aL.1).bind fun jo=>cond (aM jo 0) ((fY N jo).bind fun mo=>(Mg N mo).bind fun np=>(xd N (2:Int) (0:Int) (5:Int) aL.1 np).bind fun kR=>cond (small (List.length x9+List.length kR)) ((lV N x4.2.2.2.1 aL.1 (0:Int)).bind fun sq=>cond (small (List.length x8+List.length sq)) (dD x2 x3 x4 x6 (x8++sq) (x9++kR) (W .i64 (aT+1))) (none)) (none)) ((lV N x4.2.2.2.1 aL.1 (0:Int)).bind fun uW=>cond (small (List.length x8+List.length uW)) (dD x2 x3 x4 x6 (x8++uW) x9 (W .i64 (aT+1))) (none))
def fB.Ar(N:Nat)(dD:fB.fp)(x2:Int)(x3:ae)(x4:ah)(x6:ah)(x8:aj)(x9:bl)(aT:Int)(aL:bs):Option (ah×(Int)):=fB.ta N dD x2 x3 x4 x6 x8 x9 aT aL
def fB.xC(N:Nat)(p3:fB.zD)(dD:fB.fp)(x2:Int)(x3:ae)(x4:ah)(x6:ah)(x8:aj)(x9:bl)(aT:Int):Option (ah×(Int)):=
 cond (aM aT (List.length x4.2.1:Int)) (cond (aN aT (List.length x4.2.1)) (cond (!az (((List.getD x4.2.1 aT.toNat aE).2).1) x2) (dD x2 x3 x4 x6 x8 x9 (W .i64 (aT+1))) (cond (az ((((List.getD x4.2.1 aT.toNat aE).2).2).1) (2:Int)) ((R7 N x3 x4 ((List.getD x4.2.1 aT.toNat aE).1)).bind fun r5=>(fY N r5.1).bind fun r6=>(xd N (5:Int) ((List.getD x4.2.1 aT.toNat aE).1) (2:Int) (0:Int) r6).bind fun r7=>cond (small (List.length x9+List.length r7)) (p3 x2 x3 x4 x6 x8 (x9++r7) aT (List.getD x4.2.1 aT.toNat aE)) (none)) (p3 x2 x3 x4 x6 x8 x9 aT (List.getD x4.2.1 aT.toNat aE)))) (none)) ((vu N x4 x8 x9).bind fun zs=>some (zs.1,zs.2))
def fB.l8(N:Nat):Nat→fB.fp
 |0,_,_,_,_,_,_,_=>none
 |n+1,x2,x3,x4,x6,x8,x9,aT=>fB.xC N (fB.Ar N (fB.l8 N n)) (fB.l8 N n) x2 x3 x4 x6 x8 x9 aT
def fB.b(N:Nat)(zC:fB.fp)(a0:ae)(a1:ah)(a2:Int):Option (ah×(Int)):=
 (bD N a0 a1).bind fun r1=>cond (!r1) (some ((a6,(cn,(bc,(bc,(cQ,(cY,())))))),(1:Int))) ((Ao N a1 a2).bind fun r2=>cond (az r2 0) (some ((a6,(cn,(bc,(bc,(cQ,(cY,())))))),(3:Int))) (zC a2 a0 a1 (a6,(cn,(bc,(bc,(cQ,(cY,())))))) ([]) ([]) (0:Int)))
def fB(N:Nat)(a0:ae)(a1:ah)(a2:Int):Option (ah×(Int)):=fB.b N (fB.l8 N N) a0 a1 a2
abbrev mV.bm:=ae→ah→kN→Int→Option (kN×(Int))
def mV.dn(N:Nat)(bb:mV.bm)(x2:ae)(x3:ah)(x6:kN)(x7:Int):Option (kN×(Int)):=
 cond (aM x7 (List.length x2.1:Int)) (cond (aN x7 (List.length x2.1)) (cond (aN ((List.getD x2.1 x7.toNat aE).1) (List.length x6)) ((tj N x3.2.2.2.1 (0:Int) x7).bind fun r4=>(fY N r4).bind fun r5=>cond (aN x7 (List.length x3.2.2.2.2.1)) ((fY N (List.getD x3.2.2.2.2.1 x7.toNat (0:Int))).bind fun r6=>(fL N r5 r6).bind fun r7=>(tU N (List.getD x6 ((List.getD x2.1 x7.toNat aE).1).toNat (false,kX)) r7).bind fun r8=>cond (aN ((List.getD x2.1 x7.toNat aE).1) (List.length x6)) (bb x2 x3 (List.set x6 ((List.getD x2.1 x7.toNat aE).1).toNat r8) (W .i64 (x7+1))) (none)) (none)) (none)) (none)) (some (x6,(0:Int)))
def mV.l5(N:Nat):Nat→mV.bm
 |0,_,_,_,_=>none
 |n+1,x2,x3,x6,x7=>mV.dn N (mV.l5 N n) x2 x3 x6 x7
def mV.b(N:Nat)(dK:mV.bm)(a0:ae)(a1:ah):Option (kN×(Int)):=
 (bD N a0 a1).bind fun r1=>cond (!r1) (some ([],(1:Int))) (cond (fP 4 4) (dK a0 a1 (List.replicate (4:Int).toNat (false,kX)) (0:Int)) (none))
def mV(N:Nat)(a0:ae)(a1:ah):Option (kN×(Int)):=mV.b N (mV.l5 N N) a0 a1
abbrev wx.bm:=Int→ae→(List (Int))→Int→Option (List (Int))
def wx.dn(N:Nat)(bb:wx.bm)(x1:Int)(x2:ae)(x5:List (Int))(x6:Int):Option (List (Int)):=
 cond (aM x6 (List.length x2.1:Int)) (cond (aN x6 (List.length x2.1)) (cond (az ((List.getD x2.1 x6.toNat aE).1) x1) (cond (small (List.length x5+List.length ([x6]))) (bb x1 x2 (x5++([x6])) (W .i64 (x6+1))) (none)) (bb x1 x2 x5 (W .i64 (x6+1)))) (none)) (some x5)
def wx.l5(N:Nat):Nat→wx.bm
 |0,_,_,_,_=>none
 |n+1,x1,x2,x5,x6=>wx.dn N (wx.l5 N n) x1 x2 x5 x6
def wx.b(N:Nat)(dK:wx.bm)(a0:ae)(a1:Int):Option (List (Int)):=
 (ij N a0).bind fun r1=>cond (!r1) (some ([])) (dK a1 a0 ([]) (0:Int))
def wx(N:Nat)(a0:ae)(a1:Int):Option (List (Int)):=wx.b N (wx.l5 N N) a0 a1
abbrev lf.aU:=(List (Int))→(List (Int))→Int→Int→Option ((List (Int))×(Int))
def lf.ca(N:Nat)(bg:lf.aU)(x0:List (Int))(x4:List (Int))(x5:Int)(x6:Int):Option ((List (Int))×(Int)):=
 cond (bV 0 x6) (cond (aM 32 0) (none) (cond (aN x6 (List.length x0)) (let v5:Int:=ov .or .u64 (W .u64 (shl .u64 x5 32)) (List.getD x0 x6.toNat (0:Int));cond (aM 1 0) (none) (cond (aN x6 (List.length x4)) (bg x0 (List.set x4 x6.toNat (shr .u64 v5 1)) (ov .and .u64 v5 1) (W .i64 (x6-1))) (none))) (none))) ((jI N x4).bind fun jo=>some (jo,x5))
def lf.l4(N:Nat):Nat→lf.aU
 |0,_,_,_,_=>none
 |n+1,x0,x4,x5,x6=>lf.ca N (lf.l4 N n) x0 x4 x5 x6
def lf.b(N:Nat)(cN:lf.aU)(a0:List (Int)):Option ((List (Int))×(Int)):=
 cond (fP (List.length a0:Int) (List.length a0:Int)) (cN a0 (List.replicate (List.length a0:Int).toNat (0:Int)) (0:Int) (W .i64 ((List.length a0:Int)-1))) (none)
def lf(N:Nat)(a0:List (Int)):Option ((List (Int))×(Int)):=lf.b N (lf.l4 N N) a0
abbrev eL.iw:=av→av→av→av→(List (Int))→av→av→Int→Option (av×av)
abbrev eL.cv:=av→av→av→av→(List (Int))→(List (Int))→Option (av×av)
def eL.sd(N:Nat)(nj:eL.iw)(x2:av)(x3:av)(x4:av)(x5:av)(x6:List (Int))(aT:av)(aL:av)(aP:Int):Option (av×av):=
 cond (bV 0 aP) ((tU N aT aT).bind fun r6=>(tU N aL aL).bind fun r7=>cond (aN aP (List.length x6)) (cond (az (List.getD x6 aP.toNat (0:Int)) (1:Int)) ((fY N (1:Int)).bind fun r8=>(tU N r7 r8).bind fun r9=>(GW N r9 x3).bind fun jo=>cond (bV 0 jo) ((Jp N r9 x3).bind fun mo=>(fY N (1:Int)).bind fun np=>(tU N r6 np).bind fun kR=>nj x2 x3 x4 x5 x6 kR mo (W .i64 (aP-1))) (nj x2 x3 x4 x5 x6 r6 r9 (W .i64 (aP-1)))) ((GW N r7 x3).bind fun vB=>cond (bV 0 vB) ((Jp N r7 x3).bind fun so=>(fY N (1:Int)).bind fun uW=>(tU N r6 uW).bind fun Fv=>nj x2 x3 x4 x5 x6 Fv so (W .i64 (aP-1))) (nj x2 x3 x4 x5 x6 r6 r7 (W .i64 (aP-1))))) (none)) (cond (!x2.1) (some (aT,aL)) ((Jq N aL).bind fun G4=>cond (az G4 0) ((Mg N aT).bind fun zt=>some (zt,aL)) ((Mg N aT).bind fun zQ=>(fY N (1:Int)).bind fun Dg=>(Jp N zQ Dg).bind fun wG=>(Jp N x3 aL).bind fun L1=>some (wG,L1))))
def eL.l9(N:Nat):Nat→eL.iw
 |0,_,_,_,_,_,_,_,_=>none
 |n+1,x2,x3,x4,x5,x6,aT,aL,aP=>eL.sd N (eL.l9 N n) x2 x3 x4 x5 x6 aT aL aP
def eL.ig(N:Nat)(tc:eL.iw)(b9:eL.cv)(x2:av)(x3:av)(x4:av)(x5:av)(x6:List (Int))(x7:List (Int)):Option (av×av):=
 cond (aM 0 (List.length x7:Int)) ((lf N x7).bind fun r2=>cond (small (List.length x6+List.length ([r2.2]))) (b9 x2 x3 x4 x5 (x6++([r2.2])) r2.1) (none)) (tc x2 x3 x4 x5 x6 (false,kX) (false,kX) (W .i64 ((List.length x6:Int)-1)))
def eL.l3(N:Nat):Nat→eL.cv
 |0,_,_,_,_,_,_=>none
 |n+1,x2,x3,x4,x5,x6,x7=>eL.ig N (eL.l9 N N) (eL.l3 N n) x2 x3 x4 x5 x6 x7
def eL.b(N:Nat)(jq:eL.cv)(a0:av)(a1:av):Option (av×av):=
 jq a0 a1 (false,kX) (false,kX) ([]) a0.2.1
def eL(N:Nat)(a0:av)(a1:av):Option (av×av):=eL.b N (eL.l3 N N) a0 a1
abbrev pK.zD:=Int→ae→ah→kN→ay→Int→(List (Int))→Int→Option (ay×(Int))
abbrev pK.ed:=Int→ae→ah→kN→ay→Int→Option (ay×(Int))
def pK.ta(N:Nat)(ej:pK.ed)(x2:Int)(x3:ae)(x4:ah)(x8:kN)(aT:ay)(aL:Int)(aP:List (Int))(cI:Int):Option (ay×(Int)):=
 cond (az cI 0) (ej x2 x3 x4 x8 aT (W .i64 (aL+1))) (cond (aN 0 (List.length aP)) (cond (aN aL (List.length x8)) ((Jq N (List.getD x8 aL.toNat (false,kX))).bind fun rR=>cond (aM 0 rR) (cond (small (List.length aT+List.length ([(x2,(List.getD aP (0:Int).toNat (0:Int),((2:Int),(cI,()))))]))) (ej (W .i64 (x2+1)) x3 x4 x8 (aT++([(x2,(List.getD aP (0:Int).toNat (0:Int),((2:Int),(cI,()))))])) (W .i64 (aL+1))) (none)) (cond (small (List.length aT+List.length ([(x2,(List.getD aP (0:Int).toNat (0:Int),((1:Int),(cI,()))))]))) (ej (W .i64 (x2+1)) x3 x4 x8 (aT++([(x2,(List.getD aP (0:Int).toNat (0:Int),((1:Int),(cI,()))))])) (W .i64 (aL+1))) (none))) (none)) (none))
def pK.Ar(N:Nat)(ej:pK.ed)(x2:Int)(x3:ae)(x4:ah)(x8:kN)(aT:ay)(aL:Int)(aP:List (Int))(cI:Int):Option (ay×(Int)):=pK.ta N ej x2 x3 x4 x8 aT aL aP cI
def pK.mg(N:Nat)(p3:pK.zD)(ej:pK.ed)(x2:Int)(x3:ae)(x4:ah)(x8:kN)(aT:ay)(aL:Int):Option (ay×(Int)):=
 cond (aM aL 4) ((wx N x3 aL).bind fun r3=>cond (aN aL (List.length x8)) ((Ny N (List.getD x8 aL.toNat (false,kX))).bind fun r4=>cond (az (List.length r3:Int) 0) (ej x2 x3 x4 x8 aT (W .i64 (aL+1))) ((fY N x3.2.2.2.2.2.2.1).bind fun r6=>(GW N r4 r6).bind fun r7=>cond (bV r7 0) (ej x2 x3 x4 x8 aT (W .i64 (aL+1))) (cond (aN 0 (List.length r3)) (cond (aN (List.getD r3 (0:Int).toNat (0:Int)) (List.length x4.2.2.2.2.1)) ((fY N (List.getD x4.2.2.2.2.1 (List.getD r3 (0:Int).toNat (0:Int)).toNat (0:Int))).bind fun r9=>(eL N r4 r9).bind fun jo=>(qH N jo.1).bind fun mo=>cond (!mo.2) (p3 x2 x3 x4 x8 aT aL r3 (1000000000:Int)) (cond (aM 1000000000 mo.1) (p3 x2 x3 x4 x8 aT aL r3 (1000000000:Int)) (p3 x2 x3 x4 x8 aT aL r3 mo.1))) (none)) (none)))) (none)) (some (aT,(0:Int)))
def pK.l6(N:Nat):Nat→pK.ed
 |0,_,_,_,_,_,_=>none
 |n+1,x2,x3,x4,x8,aT,aL=>pK.mg N (pK.Ar N (pK.l6 N n)) (pK.l6 N n) x2 x3 x4 x8 aT aL
def pK.b(N:Nat)(oj:pK.ed)(a0:ae)(a1:ah)(a2:Int):Option (ay×(Int)):=
 (mV N a0 a1).bind fun r1=>cond (!az r1.2 0) (some ([],(1:Int))) (cond (aM a2 1) (some ([],(1:Int))) (cond (aM 1099511627772 a2) (some ([],(1:Int))) (oj a2 a0 a1 r1.1 ([]) (0:Int))))
def pK(N:Nat)(a0:ae)(a1:ah)(a2:Int):Option (ay×(Int)):=pK.b N (pK.l6 N N) a0 a1 a2
def RA(N:Nat)(a0:bs):Option (Bool):=
 cond (bV 1 a0.1) (cond (bV a0.1 1099511627776) (cond (bV 0 a0.2.1) (cond (aM a0.2.1 6) (cond (az a0.2.2.1 1) (cond (bV 1 a0.2.2.2.1) (some (bV a0.2.2.2.1 1000000000)) (some false)) (cond (az a0.2.2.1 2) (cond (bV 1 a0.2.2.2.1) (some (bV a0.2.2.2.1 1000000000)) (some false)) (some false))) (some false)) (some false)) (some false)) (some false)
abbrev pL.ad9:=Int→ae→ah→bs→ah→bs→uE→Option (ah×bs×(Int))
def pL.Yz(N:Nat)(x4:Int)(x6:ae)(x7:ah)(x8:bs)(aP:ah)(bo:bs)(cJ:uE):Option (ah×bs×(Int)):=
 (fk N x6 x7 ([cJ])).bind fun r6=>cond (!az r6.2 0) (some ((a6,(cn,(bc,(bc,(cQ,(cY,())))))),aE,r6.2)) (some (r6.1,(x8.1,(x8.2.1,(x8.2.2.1,((W .i64 (x8.2.2.2.1-x4)),x8.2.2.2.2)))),(0:Int)))
def pL.j14(N:Nat)(x4:Int)(x6:ae)(x7:ah)(x8:bs)(aP:ah)(bo:bs)(cJ:uE):Option (ah×bs×(Int)):=pL.Yz N x4 x6 x7 x8 aP bo cJ
def pL.b(N:Nat)(WL:pL.ad9)(a0:ae)(a1:ah)(a2:bs)(a3:Int)(a4:Int)(a5:Int):Option (ah×bs×(Int)):=
 (bD N a0 a1).bind fun r1=>cond (!r1) (some ((a6,(cn,(bc,(bc,(cQ,(cY,())))))),aE,(1:Int))) ((RA N a2).bind fun r2=>cond (!r2) (some ((a6,(cn,(bc,(bc,(cQ,(cY,())))))),aE,(1:Int))) (cond (aM a4 1) (some ((a6,(cn,(bc,(bc,(cQ,(cY,())))))),aE,(1:Int))) (cond (aM 1000000000 a4) (some ((a6,(cn,(bc,(bc,(cQ,(cY,())))))),aE,(1:Int))) (cond (aM a5 1) (some ((a6,(cn,(bc,(bc,(cQ,(cY,())))))),aE,(1:Int))) (cond (aM 1000000000000 a5) (some ((a6,(cn,(bc,(bc,(cQ,(cY,())))))),aE,(1:Int))) (cond (aM a2.2.2.2.1 a4) (some ((a6,(cn,(bc,(bc,(cQ,(cY,())))))),aE,(9:Int))) (cond (aM a3 1) (some ((a6,(cn,(bc,(bc,(cQ,(cY,())))))),aE,(1:Int))) (cond (aM 24 a3) (some ((a6,(cn,(bc,(bc,(cQ,(cY,())))))),aE,(1:Int))) ((Oq N a0 a1 (a2.1,(a3,(a2.2.1,((W .i64 ((3:Int)-a2.2.2.1)),(a4,(a5,()))))))).bind fun r4=>cond (!az r4 0) (some ((a6,(cn,(bc,(bc,(cQ,(cY,())))))),aE,r4)) (cond (az a2.2.2.1 2) (WL a4 a0 a1 a2 (a6,(cn,(bc,(bc,(cQ,(cY,())))))) aE (a3,((0:Int),(a2.2.1,(a4,(a5,())))))) (WL a4 a0 a1 a2 (a6,(cn,(bc,(bc,(cQ,(cY,())))))) aE ((0:Int),(a3,(a2.2.1,(a4,(a5,()))))))))))))))))
def pL(N:Nat)(a0:ae)(a1:ah)(a2:bs)(a3:Int)(a4:Int)(a5:Int):Option (ah×bs×(Int)):=pL.b N (pL.j14 N) a0 a1 a2 a3 a4 a5
abbrev nc.bm:=ae→aI→fm→aI→cy→ay→Bool→Int→Int→Option (aI×cy)
def nc.dn(N:Nat)(bb:nc.bm)(x3:ae)(x4:aI)(x5:fm)(x6:aI)(x7:cy)(x8:ay)(x9:Bool)(aT:Int)(aL:Int):Option (aI×cy):=
 cond (aM aL (List.length x4.2.2.2.1.2.2.2.2.1:Int)) (cond (aN aL (List.length x4.2.2.2.1.2.2.2.2.1)) (cond (az ((List.getD x4.2.2.2.1.2.2.2.2.1 aL.toNat aE).1) x5.2.2.2.2.2.1) ((pL N x3 x4.2.2.1 (List.getD x4.2.2.2.1.2.2.2.2.1 aL.toNat aE) x5.2.2.1 x5.2.2.2.2.2.2.1 x5.2.2.2.2.2.2.2.1).bind fun r2=>cond (!az r2.2.2 0) ((dT N r2.2.2).bind fun r3=>some (x4,r3)) (cond (aM 0 r2.2.1.2.2.2.1) (cond (small (List.length x8+List.length ([r2.2.1]))) (bb x3 (x4.1,(x4.2.1,(r2.1,x4.2.2.2))) x5 x6 x7 (x8++([r2.2.1])) true r2.2.1.2.2.2.1 (W .i64 (aL+1))) (none)) (bb x3 (x4.1,(x4.2.1,(r2.1,x4.2.2.2))) x5 x6 x7 x8 true r2.2.1.2.2.2.1 (W .i64 (aL+1))))) (cond (aM 0 (((((List.getD x4.2.2.2.1.2.2.2.2.1 aL.toNat aE).2).2).2).1)) (cond (small (List.length x8+List.length ([List.getD x4.2.2.2.1.2.2.2.2.1 aL.toNat aE]))) (bb x3 x4 x5 x6 x7 (x8++([List.getD x4.2.2.2.1.2.2.2.2.1 aL.toNat aE])) x9 aT (W .i64 (aL+1))) (none)) (bb x3 x4 x5 x6 x7 x8 x9 aT (W .i64 (aL+1))))) (none)) (cond (!x9) ((dT N (3:Int)).bind fun jo=>some (x4,jo)) (some ((x4.1,(x4.2.1,(x4.2.2.1,((x4.2.2.2.1.1,(x4.2.2.2.1.2.1,(x4.2.2.2.1.2.2.1,(x4.2.2.2.1.2.2.2.1,(x8,x4.2.2.2.1.2.2.2.2.2))))),x4.2.2.2.2)))),((0:Int),((0:Int),(aT,()))))))
def nc.l5(N:Nat):Nat→nc.bm
 |0,_,_,_,_,_,_,_,_,_=>none
 |n+1,x3,x4,x5,x6,x7,x8,x9,aT,aL=>nc.dn N (nc.l5 N n) x3 x4 x5 x6 x7 x8 x9 aT aL
def nc.b(N:Nat)(dK:nc.bm)(a0:ae)(a1:aI)(a2:fm):Option (aI×cy):=
 dK a0 a1 a2 ((0:Int),((0:Int),((a6,(cn,(bc,(bc,(cQ,(cY,())))))),(((0:Int),((0:Int),((0:Int),((0:Int),(cn,(([]:List ((Int)×((List ((Int)×((Int)×(Unit))))×((Int)×((Int)×((Int)×((Int)×(Unit)))))))),(cn,(cQ,(a6,(a6,())))))))))),(((0:Int),((0:Int),(wL,((0:Int),())))),()))))) aW ([]) false (0:Int) (0:Int)
def nc(N:Nat)(a0:ae)(a1:aI)(a2:fm):Option (aI×cy):=nc.b N (nc.l5 N N) a0 a1 a2
abbrev m4.aU:=Int→av→Int→Option (Int)
def m4.ca(N:Nat)(bg:m4.aU)(x1:Int)(x2:av)(x5:Int):Option (Int):=
 cond (aM x5 3) ((fY N x5).bind fun r3=>(fY N x1).bind fun r4=>(fL N r3 r4).bind fun r5=>(GW N r5 x2).bind fun r6=>cond (aM r6 0) (bg x1 x2 (W .i64 (x5+1))) (some x5)) (some x5)
def m4.l4(N:Nat):Nat→m4.aU
 |0,_,_,_=>none
 |n+1,x1,x2,x5=>m4.ca N (m4.l4 N n) x1 x2 x5
def m4.b(N:Nat)(cN:m4.aU)(a0:av)(a1:Int):Option (Int):=
 (Jq N a0).bind fun r1=>cond (bV r1 0) (some (0:Int)) (cond (aM a1 1) (some (0:Int)) (cN a1 a0 (1:Int)))
def m4(N:Nat)(a0:av)(a1:Int):Option (Int):=m4.b N (m4.l4 N N) a0 a1
abbrev lx.aU:=(List (Int))→Int→Option (Bool)
def lx.ca(N:Nat)(bg:lx.aU)(x1:List (Int))(x5:Int):Option (Bool):=
 cond (aM x5 (List.length x1:Int)) (cond (aN x5 (List.length x1)) (cond (aM (List.getD x1 x5.toNat (0:Int)) (0:Int)) (some true) (bg x1 (W .i64 (x5+1)))) (none)) (some false)
def lx.l4(N:Nat):Nat→lx.aU
 |0,_,_=>none
 |n+1,x1,x5=>lx.ca N (lx.l4 N n) x1 x5
def lx.b(N:Nat)(cN:lx.aU)(a0:Int)(a1:List (Int)):Option (Bool):=
 cond (aM a0 0) (some true) (cond (aM 64 (List.length a1:Int)) (some true) (cN a1 (0:Int)))
def lx(N:Nat)(a0:Int)(a1:List (Int)):Option (Bool):=lx.b N (lx.l4 N N) a0 a1
abbrev ld.cv:=(List (Int))→av→av→Int→Option av
def ld.ig(N:Nat)(b9:ld.cv)(x0:List (Int))(x2:av)(x3:av)(x4:Int):Option av:=
 cond (aM x4 (List.length x0:Int)) (cond (aN x4 (List.length x0)) ((fY N (List.getD x0 x4.toNat (0:Int))).bind fun r2=>(tU N x3 r2).bind fun r3=>b9 x0 x2 r3 (W .i64 (x4+1))) (none)) (some x3)
def ld.l3(N:Nat):Nat→ld.cv
 |0,_,_,_,_=>none
 |n+1,x0,x2,x3,x4=>ld.ig N (ld.l3 N n) x0 x2 x3 x4
def ld.b(N:Nat)(jq:ld.cv)(a0:List (Int)):Option av:=
 jq a0 (false,kX) (false,kX) (0:Int)
def ld(N:Nat)(a0:List (Int)):Option av:=ld.b N (ld.l3 N N) a0
abbrev dp.IB:=(List (Int))→(List (Int))→Int→Int→Option (List (Int))
abbrev dp.ed:=(List (Int))→(List (Int))→Int→Int→Option (List (Int))
abbrev dp.cv:=(List (Int))→(List (Int))→Int→Option (List (Int))
def dp.HW(N:Nat)(b9:dp.cv)(x0:List (Int))(x3:List (Int))(x4:Int)(x5:Int):Option (List (Int)):=
 cond (fu 0 x5 (List.length x3:Int) (List.length x3:Int)) (let v5:List (Int):=List.drop (0:Int).toNat (List.take x5.toNat x3);cond (small (List.length v5)) (cond (small (List.length v5+List.length ([x4]))) (let v6:List (Int):=v5++([x4]);cond (fu x5 (List.length x3:Int) (List.length x3:Int) (List.length x3:Int)) (let v7:List (Int):=List.drop x5.toNat (List.take (List.length x3:Int).toNat x3);cond (small (List.length v6+List.length v7)) (b9 x0 (v6++v7) (W .i64 (x4+1))) (none)) (none)) (none)) (none)) (none)
def dp.j8(N:Nat)(b9:dp.cv)(x0:List (Int))(x3:List (Int))(x4:Int)(x5:Int):Option (List (Int)):=dp.HW N b9 x0 x3 x4 x5
def dp.mg(N:Nat)(zw:dp.IB)(b9:dp.cv)(ej:dp.ed)(x0:List (Int))(x3:List (Int))(x4:Int)(x5:Int):Option (List (Int)):=
 cond (aM x5 (List.length x3:Int)) (cond (aN x5 (List.length x3)) (cond (aN (List.getD x3 x5.toNat (0:Int)) (List.length x0)) (cond (aN x4 (List.length x0)) (cond (bV (List.getD x0 x4.toNat (0:Int)) (List.getD x0 (List.getD x3 x5.toNat (0:Int)).toNat (0:Int))) (ej x0 x3 x4 (W .i64 (x5+1))) (zw x0 x3 x4 x5)) (none)) (none)) (none)) (zw x0 x3 x4 x5)
def dp.l6(N:Nat)(b9:dp.cv):Nat→dp.ed
 |0,_,_,_,_=>none
 |n+1,x0,x3,x4,x5=>dp.mg N (dp.j8 N b9) b9 (dp.l6 N b9 n) x0 x3 x4 x5
def dp.ig(N:Nat)(oj:dp.ed)(b9:dp.cv)(x0:List (Int))(x3:List (Int))(x4:Int):Option (List (Int)):=
 cond (aM x4 (List.length x0:Int)) (oj x0 x3 x4 (0:Int)) (some x3)
def dp.l3(N:Nat):Nat→dp.cv
 |0,_,_,_=>none
 |n+1,x0,x3,x4=>dp.ig N (dp.l6 N (dp.l3 N n) N) (dp.l3 N n) x0 x3 x4
def dp.b(N:Nat)(jq:dp.cv)(a0:List (Int)):Option (List (Int)):=
 jq a0 ([]) (0:Int)
def dp(N:Nat)(a0:List (Int)):Option (List (Int)):=dp.b N (dp.l3 N N) a0
abbrev dz.nh:=(List (Int))→Int→(List (Int))→Int→Option ((List (Int))×(Int))
abbrev dz.q5:=Int→(List (Int))→av→(List (Int))→(List (Int))→Int→Int→Option ((List (Int))×(Int))
abbrev dz.Pd:=Int→(List (Int))→av→Option ((List (Int))×(Int))
def dz.pq(N:Nat)(zr:dz.nh)(x9:List (Int))(aL:Int)(bR:List (Int))(cI:Int):Option ((List (Int))×(Int)):=
 cond (aM cI (List.length bR:Int)) (cond (aM 0 aL) (cond (aN cI (List.length bR)) (cond (aN (List.getD bR cI.toNat (0:Int)) (List.length x9)) (cond (aN (List.getD bR cI.toNat (0:Int)) (List.length x9)) (zr (List.set x9 (List.getD bR cI.toNat (0:Int)).toNat (W .i64 ((List.getD x9 (List.getD bR cI.toNat (0:Int)).toNat (0:Int))+1))) (W .i64 (aL-1)) bR (W .i64 (cI+1))) (none)) (none)) (none)) (some (x9,(0:Int)))) (some (x9,(0:Int)))
def dz.qc(N:Nat):Nat→dz.nh
 |0,_,_,_,_=>none
 |n+1,x9,aL,bR,cI=>dz.pq N (dz.qc N n) x9 aL bR cI
def dz.zd(N:Nat)(zu:dz.nh)(wI:dz.q5)(x0:Int)(x1:List (Int))(x6:av)(x9:List (Int))(aT:List (Int))(aL:Int)(aP:Int):Option ((List (Int))×(Int)):=
 cond (aM aP (List.length x1:Int)) ((fY N x0).bind fun jo=>cond (aN aP (List.length x1)) ((fY N (List.getD x1 aP.toNat (0:Int))).bind fun mo=>(fL N jo mo).bind fun np=>(eL N np x6).bind fun kR=>(qH N kR.1).bind fun rR=>cond (aN aP (List.length x9)) (let v15:List (Int):=List.set x9 aP.toNat rR.1;(qH N kR.2).bind fun vB=>cond (aN aP (List.length aT)) (cond (aN aP (List.length v15)) (wI x0 x1 x6 v15 (List.set aT aP.toNat vB.1) (W .i64 (aL-(List.getD v15 aP.toNat (0:Int)))) (W .i64 (aP+1))) (none)) (none)) (none)) (none)) ((dp N aT).bind fun BE=>zu x9 aL BE (0:Int))
def dz.Bn(N:Nat):Nat→dz.q5
 |0,_,_,_,_,_,_,_=>none
 |n+1,x0,x1,x6,x9,aT,aL,aP=>dz.zd N (dz.qc N N) (dz.Bn N n) x0 x1 x6 x9 aT aL aP
def dz.Mf(N:Nat)(Fu:dz.q5)(x0:Int)(x1:List (Int))(x6:av):Option ((List (Int))×(Int)):=
 (qH N x6).bind fun r5=>cond (!r5.2) (some ([],(2:Int))) (cond (fP (List.length x1:Int) (List.length x1:Int)) (let v6:List (Int):=List.replicate (List.length x1:Int).toNat (0:Int);cond (fP (List.length x1:Int) (List.length x1:Int)) ((Jq N x6).bind fun r8=>cond (az r8 0) (some (v6,(0:Int))) (Fu x0 x1 x6 v6 (List.replicate (List.length x1:Int).toNat (0:Int)) x0 (0:Int))) (none)) (none))
def dz.j6(N:Nat)(x0:Int)(x1:List (Int))(x6:av):Option ((List (Int))×(Int)):=dz.Mf N (dz.Bn N N) x0 x1 x6
def dz.b(N:Nat)(CO:dz.Pd)(a0:Int)(a1:List (Int)):Option ((List (Int))×(Int)):=
 (lx N a0 a1).bind fun r1=>cond (r1) (some ([],(1:Int))) ((ld N a1).bind fun r2=>(Jq N r2).bind fun r3=>cond (az r3 0) (cond (!az a0 0) (some ([],(1:Int))) (CO a0 a1 r2)) (CO a0 a1 r2))
def dz(N:Nat)(a0:Int)(a1:List (Int)):Option ((List (Int))×(Int)):=dz.b N (dz.j6 N) a0 a1
abbrev mT.bm:=Int→Int→(List (Int))→Int→Option ((List (Int))×(Int))
def mT.dn(N:Nat)(bb:mT.bm)(x0:Int)(x1:Int)(x6:List (Int))(x7:Int):Option ((List (Int))×(Int)):=
 cond (aM x7 x1) (cond (aN x7 (List.length x6)) (bb x0 x1 (List.set x6 x7.toNat (1:Int)) (W .i64 (x7+1))) (none)) ((dz N x0 x6).bind fun r5=>some (r5.1,r5.2))
def mT.l5(N:Nat):Nat→mT.bm
 |0,_,_,_,_=>none
 |n+1,x0,x1,x6,x7=>mT.dn N (mT.l5 N n) x0 x1 x6 x7
def mT.b(N:Nat)(dK:mT.bm)(a0:Int)(a1:Int):Option ((List (Int))×(Int)):=
 cond (aM a0 0) (some ([],(1:Int))) (cond (aM a1 1) (some ([],(1:Int))) (cond (aM 64 a1) (some ([],(1:Int))) (cond (fP a1 a1) (dK a0 a1 (List.replicate a1.toNat (0:Int)) (0:Int)) (none))))
def mT(N:Nat)(a0:Int)(a1:Int):Option ((List (Int))×(Int)):=mT.b N (mT.l5 N N) a0 a1
abbrev cP.aea:=Int→ae→ax→aA→Int→ax→Int→Int→cF→ax→Int→(List (Int))→Option (aA×(Int))
abbrev cP.Pk:=Int→ae→ax→aA→Int→ax→Int→Int→cF→ax→Int→Int→Option (aA×(Int))
abbrev cP.q3:=Int→ae→ax→aA→Int→ax→Int→Int→cF→ax→Int→Option (aA×(Int))
abbrev cP.oR:=Int→ae→ax→aA→Int→ax→Int→Int→Option (aA×(Int))
abbrev cP.eK:=Int→ae→ax→aA→Int→ax→av→Int→Option (aA×(Int))
abbrev cP.fp:=Int→ae→ax→aA→Int→Option (aA×(Int))
def cP.YH(N:Nat)(dD:cP.fp)(iJ:cP.oR)(p4:cP.q3)(x2:Int)(x3:ae)(x8:ax)(x9:aA)(aT:Int)(aL:ax)(bz:Int)(bR:Int)(cI:cF)(pR:ax)(cJ:Int)(kT:List (Int)):Option (aA×(Int)):=
 cond (aN bR (List.length kT)) (cond (!az (List.getD kT bR.toNat (0:Int)) (0:Int)) (cond (aN cJ (List.length aL)) (cond (aN bR (List.length kT)) (cond (small (List.length pR+List.length ([((List.getD aL cJ.toNat bP).1,(List.getD kT bR.toNat (0:Int),()))]))) (p4 x2 x3 x8 x9 aT aL bz bR (cI.1,(a6,cI.2.2)) (pR++([((List.getD aL cJ.toNat bP).1,(List.getD kT bR.toNat (0:Int),()))])) (W .i64 (cJ+1))) (none)) (none)) (none)) (p4 x2 x3 x8 x9 aT aL bz bR cI pR (W .i64 (cJ+1)))) (none)
def cP.j32(N:Nat)(dD:cP.fp)(iJ:cP.oR)(p4:cP.q3)(x2:Int)(x3:ae)(x8:ax)(x9:aA)(aT:Int)(aL:ax)(bz:Int)(bR:Int)(cI:cF)(pR:ax)(cJ:Int)(kT:List (Int)):Option (aA×(Int)):=cP.YH N dD iJ p4 x2 x3 x8 x9 aT aL bz bR cI pR cJ kT
def cP.It(N:Nat)(WM:cP.aea)(dD:cP.fp)(iJ:cP.oR)(p4:cP.q3)(x2:Int)(x3:ae)(x8:ax)(x9:aA)(aT:Int)(aL:ax)(bz:Int)(bR:Int)(cI:cF)(pR:ax)(cJ:Int)(iO:Int):Option (aA×(Int)):=
 (mT N iO bz).bind fun vB=>cond (aN cJ (List.length aL)) (cond (aM (((List.getD aL cJ.toNat bP).2).1) (0:Int)) (cond (aN bR (List.length vB.1)) (cond (aN bR (List.length vB.1)) (WM x2 x3 x8 x9 aT aL bz bR cI pR cJ (List.set vB.1 bR.toNat (W .i64 (0-(List.getD vB.1 bR.toNat (0:Int)))))) (none)) (none)) (WM x2 x3 x8 x9 aT aL bz bR cI pR cJ vB.1)) (none)
def cP.OM(N:Nat)(dD:cP.fp)(iJ:cP.oR)(p4:cP.q3)(x2:Int)(x3:ae)(x8:ax)(x9:aA)(aT:Int)(aL:ax)(bz:Int)(bR:Int)(cI:cF)(pR:ax)(cJ:Int)(iO:Int):Option (aA×(Int)):=cP.It N (cP.j32 N dD iJ p4) dD iJ p4 x2 x3 x8 x9 aT aL bz bR cI pR cJ iO
def cP.Io(N:Nat)(Fw:cP.Pk)(dD:cP.fp)(iJ:cP.oR)(p4:cP.q3)(x2:Int)(x3:ae)(x8:ax)(x9:aA)(aT:Int)(aL:ax)(bz:Int)(bR:Int)(cI:cF)(pR:ax)(cJ:Int):Option (aA×(Int)):=
 cond (aM cJ (List.length aL:Int)) (cond (aN cJ (List.length aL)) (cond (aM (((List.getD aL cJ.toNat bP).2).1) (0:Int)) (Fw x2 x3 x8 x9 aT aL bz bR cI pR cJ (W .i64 (0-(((List.getD aL cJ.toNat bP).2).1)))) (Fw x2 x3 x8 x9 aT aL bz bR cI pR cJ (((List.getD aL cJ.toNat bP).2).1))) (none)) (cond (az (List.length pR:Int) 0) (iJ x2 x3 x8 x9 aT aL bz (W .i64 (bR+1))) ((ON N x3 pR).bind fun zQ=>(Mg N zQ.1).bind fun Dg=>(qH N Dg).bind fun wG=>cond (!wG.2) (some ([],(2:Int))) (cond (small (List.length x9+List.length ([(cI.1,(pR,(wG.1,cI.2.2.2)))]))) (iJ (W .i64 (x2+1)) x3 x8 (x9++([(cI.1,(pR,(wG.1,cI.2.2.2)))])) aT aL bz (W .i64 (bR+1))) (none))))
def cP.GZ(N:Nat)(dD:cP.fp)(iJ:cP.oR):Nat→cP.q3
 |0,_,_,_,_,_,_,_,_,_,_,_=>none
 |n+1,x2,x3,x8,x9,aT,aL,bz,bR,cI,pR,cJ=>cP.Io N (cP.OM N dD iJ (cP.GZ N dD iJ n)) dD iJ (cP.GZ N dD iJ n) x2 x3 x8 x9 aT aL bz bR cI pR cJ
def cP.Is(N:Nat)(Pj:cP.q3)(dD:cP.fp)(iJ:cP.oR)(x2:Int)(x3:ae)(x8:ax)(x9:aA)(aT:Int)(aL:ax)(bz:Int)(bR:Int):Option (aA×(Int)):=
 cond (aM bR bz) (Pj x2 x3 x8 x9 aT aL bz bR (x2,(a6,((0:Int),((1:Int),bP)))) a6 (0:Int)) (dD x2 x3 x8 x9 (W .i64 (aT+1)))
def cP.CI(N:Nat)(dD:cP.fp):Nat→cP.oR
 |0,_,_,_,_,_,_,_,_=>none
 |n+1,x2,x3,x8,x9,aT,aL,bz,bR=>cP.Is N (cP.GZ N dD (cP.CI N dD n) N) dD (cP.CI N dD n) x2 x3 x8 x9 aT aL bz bR
def cP.lN(N:Nat)(Pl:cP.oR)(dD:cP.fp)(fJ:cP.eK)(x2:Int)(x3:ae)(x8:ax)(x9:aA)(aT:Int)(aL:ax)(aP:av)(bo:Int):Option (aA×(Int)):=
 cond (aM bo (List.length x8:Int)) (cond (aN bo (List.length x8)) (cond (aN ((List.getD x8 bo.toNat bP).1) (List.length x3.1)) (cond (az ((List.getD x3.1 ((List.getD x8 bo.toNat bP).1).toNat aE).1) aT) (cond (aN bo (List.length x8)) (cond (small (List.length aL+List.length ([List.getD x8 bo.toNat bP]))) (cond (aN bo (List.length x8)) ((fY N (((List.getD x8 bo.toNat bP).2).1)).bind fun r6=>(Ny N r6).bind fun r7=>(tU N aP r7).bind fun r8=>fJ x2 x3 x8 x9 aT (aL++([List.getD x8 bo.toNat bP])) r8 (W .i64 (bo+1))) (none)) (none)) (none)) (fJ x2 x3 x8 x9 aT aL aP (W .i64 (bo+1)))) (none)) (none)) ((m4 N aP x3.2.2.2.2.2.1).bind fun mo=>Pl x2 x3 x8 x9 aT aL mo (0:Int))
def cP.nV(N:Nat)(dD:cP.fp):Nat→cP.eK
 |0,_,_,_,_,_,_,_,_=>none
 |n+1,x2,x3,x8,x9,aT,aL,aP,bo=>cP.lN N (cP.CI N dD N) dD (cP.nV N dD n) x2 x3 x8 x9 aT aL aP bo
def cP.xC(N:Nat)(qY:cP.eK)(dD:cP.fp)(x2:Int)(x3:ae)(x8:ax)(x9:aA)(aT:Int):Option (aA×(Int)):=
 cond (aM aT 4) (qY x2 x3 x8 x9 aT ([]) (false,kX) (0:Int)) (some (x9,(0:Int)))
def cP.l8(N:Nat):Nat→cP.fp
 |0,_,_,_,_,_=>none
 |n+1,x2,x3,x8,x9,aT=>cP.xC N (cP.nV N (cP.l8 N n) N) (cP.l8 N n) x2 x3 x8 x9 aT
def cP.b(N:Nat)(zC:cP.fp)(a0:ae)(a1:ah)(a2:Int):Option (aA×(Int)):=
 (bD N a0 a1).bind fun r1=>cond (!r1) (some ([],(1:Int))) (cond (aM a2 1) (some ([],(1:Int))) (cond (aM 1099511627764 a2) (some ([],(1:Int))) ((sl N a1.2.2.2.1 (0:Int)).bind fun r2=>cond (az (List.length r2:Int) 0) (some ([],(3:Int))) (zC a2 a0 r2 ([]) (0:Int)))))
def cP(N:Nat)(a0:ae)(a1:ah)(a2:Int):Option (aA×(Int)):=cP.b N (cP.l8 N N) a0 a1 a2
abbrev m5.bm:=ah→(List (Int))→Int→Option ((List (Int))×(Int))
def m5.dn(N:Nat)(bb:m5.bm)(x3:ah)(x6:List (Int))(x7:Int):Option ((List (Int))×(Int)):=
 cond (aM x7 (List.length x3.1:Int)) (cond (aN x7 (List.length x3.1)) (cond (az (((List.getD x3.1 x7.toNat bP).2).1) (1:Int)) (cond (aN x7 (List.length x3.1)) ((oU N x3.2.2.1 (6:Int) ((List.getD x3.1 x7.toNat bP).1)).bind fun r3=>cond (aM 0 r3) (cond (aN x7 (List.length x3.1)) (cond (small (List.length x6+List.length ([(List.getD x3.1 x7.toNat bP).1]))) (bb x3 (x6++([(List.getD x3.1 x7.toNat bP).1])) (W .i64 (x7+1))) (none)) (none)) (bb x3 x6 (W .i64 (x7+1)))) (none)) (bb x3 x6 (W .i64 (x7+1)))) (none)) (some (x6,(0:Int)))
def m5.l5(N:Nat):Nat→m5.bm
 |0,_,_,_=>none
 |n+1,x3,x6,x7=>m5.dn N (m5.l5 N n) x3 x6 x7
def m5.b(N:Nat)(dK:m5.bm)(a0:ae)(a1:ah):Option ((List (Int))×(Int)):=
 (bD N a0 a1).bind fun r1=>cond (!r1) (some ([],(1:Int))) (dK a1 ([]) (0:Int))
def m5(N:Nat)(a0:ae)(a1:ah):Option ((List (Int))×(Int)):=m5.b N (m5.l5 N N) a0 a1
abbrev e9.IE:=aA→ae→Int→cF→Option (Bool)
abbrev e9.aU:=aA→ae→Int→Option (Bool)
def e9.Hw(N:Nat)(bg:e9.aU)(x1:aA)(x2:ae)(x5:Int)(x6:cF):Option (Bool):=
 cond (az x6.2.2.2.1 1) (cond (!az x6.2.2.2.2.1 0) (some false) (cond (!az x6.2.2.2.2.2.1 0) (some false) (bg x1 x2 (W .i64 (x5+1))))) (cond (az x6.2.2.2.1 3) (cond (!az x6.2.2.2.2.1 0) (some false) (cond (!az x6.2.2.2.2.2.1 0) (some false) (bg x1 x2 (W .i64 (x5+1))))) (cond (az x6.2.2.2.1 2) (cond (aM x6.2.2.2.2.1 1) (some false) (cond (aM 12 x6.2.2.2.2.1) (some false) (cond (aM x6.2.2.2.2.2.1 (-1152921504606846976)) (some false) (cond (aM 1152921504606846976 x6.2.2.2.2.2.1) (some false) (bg x1 x2 (W .i64 (x5+1))))))) (some false)))
def e9.j9(N:Nat)(bg:e9.aU)(x1:aA)(x2:ae)(x5:Int)(x6:cF):Option (Bool):=e9.Hw N bg x1 x2 x5 x6
def e9.ca(N:Nat)(zB:e9.IE)(bg:e9.aU)(x1:aA)(x2:ae)(x5:Int):Option (Bool):=
 cond (aM x5 (List.length x1:Int)) (cond (aN x5 (List.length x1)) (cond (aM ((List.getD x1 x5.toNat ((0:Int),(a6,aE))).1) (1:Int)) (some false) (cond (aM 1099511627776 ((List.getD x1 x5.toNat ((0:Int),(a6,aE))).1)) (some false) (cond (aM 0 x5) (let v3:Int:=W .i64 (x5-1);cond (aN v3 (List.length x1)) (cond (bV ((List.getD x1 x5.toNat ((0:Int),(a6,aE))).1) ((List.getD x1 v3.toNat ((0:Int),(a6,aE))).1)) (some false) (cond (az (List.length (((List.getD x1 x5.toNat ((0:Int),(a6,aE))).2).1):Int) (0:Int)) (some false) ((jh N x2 (((List.getD x1 x5.toNat ((0:Int),(a6,aE))).2).1)).bind fun r4=>cond (!r4) (some false) (cond (aM 0 ((((List.getD x1 x5.toNat ((0:Int),(a6,aE))).2).2).1)) (some false) (zB x1 x2 x5 (List.getD x1 x5.toNat ((0:Int),(a6,aE)))))))) (none)) (cond (az (List.length (((List.getD x1 x5.toNat ((0:Int),(a6,aE))).2).1):Int) (0:Int)) (some false) ((jh N x2 (((List.getD x1 x5.toNat ((0:Int),(a6,aE))).2).1)).bind fun r9=>cond (!r9) (some false) (cond (aM 0 ((((List.getD x1 x5.toNat ((0:Int),(a6,aE))).2).2).1)) (some false) (zB x1 x2 x5 (List.getD x1 x5.toNat ((0:Int),(a6,aE)))))))))) (none)) (some true)
def e9.l4(N:Nat):Nat→e9.aU
 |0,_,_,_=>none
 |n+1,x1,x2,x5=>e9.ca N (e9.j9 N (e9.l4 N n)) (e9.l4 N n) x1 x2 x5
def e9.b(N:Nat)(cN:e9.aU)(a0:ae)(a1:aA):Option (Bool):=
 (ij N a0).bind fun r1=>cond (!r1) (some false) (cond (aM 12 (List.length a1:Int)) (some false) (cN a1 a0 (0:Int)))
def e9(N:Nat)(a0:ae)(a1:aA):Option (Bool):=e9.b N (e9.l4 N N) a0 a1
abbrev lU.bL:=aA→Int→cF→Int→Option (cF×(Bool))
def lU.dI(N:Nat)(cG:lU.bL)(x0:aA)(x1:Int)(x4:cF)(x6:Int):Option (cF×(Bool)):=
 cond (aM x6 (List.length x0:Int)) (cond (aN x6 (List.length x0)) (cond (az ((List.getD x0 x6.toNat ((0:Int),(a6,aE))).1) x1) (cond (aN x6 (List.length x0)) (some (List.getD x0 x6.toNat ((0:Int),(a6,aE)),true)) (none)) (cG x0 x1 x4 (W .i64 (x6+1)))) (none)) (some (((0:Int),(a6,aE)),false))
def lU.l2(N:Nat):Nat→lU.bL
 |0,_,_,_,_=>none
 |n+1,x0,x1,x4,x6=>lU.dI N (lU.l2 N n) x0 x1 x4 x6
def lU.b(N:Nat)(eG:lU.bL)(a0:aA)(a1:Int):Option (cF×(Bool)):=
 eG a0 a1 ((0:Int),(a6,aE)) (0:Int)
def lU(N:Nat)(a0:aA)(a1:Int):Option (cF×(Bool)):=lU.b N (lU.l2 N N) a0 a1
abbrev c5.fC:=ax→ax→ax→Int→av→Int→Option (ax×(Bool))
abbrev c5.cU:=ax→ax→ax→Int→av→Int→Option (ax×(Bool))
abbrev c5.cv:=ax→ax→ax→Int→Option (ax×(Bool))
def c5.lM(N:Nat)(b9:c5.cv)(gY:c5.fC)(x0:ax)(x1:ax)(x6:ax)(x7:Int)(x8:av)(aT:Int):Option (ax×(Bool)):=
 cond (aM aT (List.length x1:Int)) (cond (aN aT (List.length x1)) (cond (az ((List.getD x1 aT.toNat bP).1) x7) (cond (aN aT (List.length x1)) ((fY N (((List.getD x1 aT.toNat bP).2).1)).bind fun r8=>(tU N x8 r8).bind fun r9=>gY x0 x1 x6 x7 r9 (W .i64 (aT+1))) (none)) (gY x0 x1 x6 x7 x8 (W .i64 (aT+1)))) (none)) ((HR N x8).bind fun np=>cond (!np.2) (some ([],false)) (cond (!az np.1 0) (cond (small (List.length x6+List.length ([(x7,(np.1,()))]))) (b9 x0 x1 (x6++([(x7,(np.1,()))])) (W .i64 (x7+1))) (none)) (b9 x0 x1 x6 (W .i64 (x7+1)))))
def c5.nn(N:Nat)(b9:c5.cv):Nat→c5.fC
 |0,_,_,_,_,_,_=>none
 |n+1,x0,x1,x6,x7,x8,aT=>c5.lM N b9 (c5.nn N b9 n) x0 x1 x6 x7 x8 aT
def c5.lD(N:Nat)(qZ:c5.fC)(b9:c5.cv)(cH:c5.cU)(x0:ax)(x1:ax)(x6:ax)(x7:Int)(x8:av)(x9:Int):Option (ax×(Bool)):=
 cond (aM x9 (List.length x0:Int)) (cond (aN x9 (List.length x0)) (cond (az ((List.getD x0 x9.toNat bP).1) x7) (cond (aN x9 (List.length x0)) ((fY N (((List.getD x0 x9.toNat bP).2).1)).bind fun r3=>(tU N x8 r3).bind fun r4=>cH x0 x1 x6 x7 r4 (W .i64 (x9+1))) (none)) (cH x0 x1 x6 x7 x8 (W .i64 (x9+1)))) (none)) (qZ x0 x1 x6 x7 x8 (0:Int))
def c5.l7(N:Nat)(b9:c5.cv):Nat→c5.cU
 |0,_,_,_,_,_,_=>none
 |n+1,x0,x1,x6,x7,x8,x9=>c5.lD N (c5.nn N b9 N) b9 (c5.l7 N b9 n) x0 x1 x6 x7 x8 x9
def c5.ig(N:Nat)(oq:c5.cU)(b9:c5.cv)(x0:ax)(x1:ax)(x6:ax)(x7:Int):Option (ax×(Bool)):=
 cond (aM x7 6) (oq x0 x1 x6 x7 (false,kX) (0:Int)) (some (x6,true))
def c5.l3(N:Nat):Nat→c5.cv
 |0,_,_,_,_=>none
 |n+1,x0,x1,x6,x7=>c5.ig N (c5.l7 N (c5.l3 N n) N) (c5.l3 N n) x0 x1 x6 x7
def c5.b(N:Nat)(jq:c5.cv)(a0:ax)(a1:ax):Option (ax×(Bool)):=
 jq a0 a1 ([]) (0:Int)
def c5(N:Nat)(a0:ax)(a1:ax):Option (ax×(Bool)):=c5.b N (c5.l3 N N) a0 a1
def YG(N:Nat)(a0:aZ)(a1:Int):Option aj:=
 (iL N a0).bind fun r1=>cond (!r1) (some ([])) ((eB N a0 a1).bind fun r2=>some r2)
abbrev gD.eK:=ay→ae→ah→bs→cF→Int→Int→Option (Int)
abbrev gD.ajf:=aA→ay→ae→ah→bs→Option (Int)
def gD.lN(N:Nat)(fJ:gD.eK)(x3:ay)(x5:ae)(x6:ah)(x9:bs)(aP:cF)(bz:Int)(bR:Int):Option (Int):=
 cond (aM bR (List.length x3:Int)) (cond (aN bR (List.length x3)) (cond (az ((((List.getD x3 bR.toNat aE).2).2).1) x9.2.2.1) (cond (aN bR (List.length x3)) (cond (az (((List.getD x3 bR.toNat aE).2).1) x9.2.1) (some (4:Int)) (fJ x3 x5 x6 x9 aP bz (W .i64 (bR+1)))) (none)) (fJ x3 x5 x6 x9 aP bz (W .i64 (bR+1)))) (none)) (cond (az (List.length x3:Int) 40) (some (5:Int)) ((fY N x9.2.2.2.1).bind fun kR=>(fY N (4:Int)).bind fun rR=>(fY N aP.2.2.1).bind fun sq=>(fL N rR sq).bind fun vB=>(GW N kR vB).bind fun so=>cond (aM so 0) (some (11:Int)) ((sl N x6.2.2.2.1 bz).bind fun uW=>(c5 N uW aP.2.1).bind fun Fv=>cond (!Fv.2) (some (2:Int)) ((YG N x6.2.2.2.2.2.1 bz).bind fun BE=>(lS N x5 Fv.1 BE).bind fun zs=>(Ir N x6 bz).bind fun G4=>(fY N G4).bind fun zt=>(fY N x9.2.2.2.1).bind fun zQ=>(Jp N zt zQ).bind fun Dg=>(GW N Dg zs.1).bind fun wG=>cond (aM wG 0) (some (10:Int)) (some (0:Int))))))
def gD.nV(N:Nat):Nat→gD.eK
 |0,_,_,_,_,_,_,_=>none
 |n+1,x3,x5,x6,x9,aP,bz,bR=>gD.lN N (gD.nV N n) x3 x5 x6 x9 aP bz bR
def gD.j3b(N:Nat)(qY:gD.eK)(x2:aA)(x3:ay)(x5:ae)(x6:ah)(x9:bs):Option (Int):=
 (Ao N x6 x9.2.2.1).bind fun r7=>cond (az r7 0) (some (3:Int)) (cond (!az r7 1) (some (7:Int)) ((lU N x2 x9.2.1).bind fun r8=>(sQ N x6.2.1 x9.2.2.1).bind fun r9=>cond (!r8.2) (some (3:Int)) (cond (!az r8.1.2.2.2.1 1) (some (3:Int)) (cond (az r9 0) (some (3:Int)) (qY x3 x5 x6 x9 r8.1 r9 (0:Int))))))
def gD.j3(N:Nat)(x2:aA)(x3:ay)(x5:ae)(x6:ah)(x9:bs):Option (Int):=gD.j3b N (gD.nV N N) x2 x3 x5 x6 x9
def gD.b(N:Nat)(aeb:gD.ajf)(a0:ae)(a1:ah)(a2:aA)(a3:ay)(a4:bs):Option (Int):=
 (bD N a0 a1).bind fun r1=>cond (!r1) (some (1:Int)) ((e9 N a0 a2).bind fun r2=>cond (!r2) (some (1:Int)) ((cW N a3).bind fun r3=>cond (!r3) (some (1:Int)) ((Ra N a4).bind fun r4=>cond (!r4) (some (1:Int)) (cond (aM 0 (List.length a3:Int)) (let v5:Int:=W .i64 ((List.length a3:Int)-1);cond (aN v5 (List.length a3)) (cond (bV a4.1 ((List.getD a3 v5.toNat aE).1)) (some (1:Int)) (aeb a2 a3 a0 a1 a4)) (none)) (aeb a2 a3 a0 a1 a4)))))
def gD(N:Nat)(a0:ae)(a1:ah)(a2:aA)(a3:ay)(a4:bs):Option (Int):=gD.b N (gD.j3 N) a0 a1 a2 a3 a4
def R1(N:Nat)(a0:ae)(a1:ah)(a2:aA)(a3:ay)(a4:bs):Option (ay×(Int)):=
 (gD N a0 a1 a2 a3 a4).bind fun r1=>cond (!az r1 0) (some ([],r1)) (cond (small (List.length cn+List.length a3)) (let v2:List ((Int)×((Int)×((Int)×((Int)×(Unit))))):=cn++a3;cond (small (List.length v2+List.length ([a4]))) (some ((v2++([a4])),(0:Int))) (none)) (none))
abbrev sj.ed:=ay→Int→bs→bs→Bool→Int→Option (bs×(Bool))
def sj.mg(N:Nat)(ej:sj.ed)(x0:ay)(x1:Int)(x4:bs)(x6:bs)(x7:Bool)(x8:Int):Option (bs×(Bool)):=
 cond (aM x8 (List.length x0:Int)) (cond (aN x8 (List.length x0)) (cond (az (((List.getD x0 x8.toNat aE).2).1) x1) (cond (!x7) (cond (aN x8 (List.length x0)) (ej x0 x1 x4 (List.getD x0 x8.toNat aE) true (W .i64 (x8+1))) (none)) (cond (aN x8 (List.length x0)) (cond (aM x6.2.2.2.1 (((((List.getD x0 x8.toNat aE).2).2).2).1)) (cond (aN x8 (List.length x0)) (ej x0 x1 x4 (List.getD x0 x8.toNat aE) true (W .i64 (x8+1))) (none)) (ej x0 x1 x4 x6 x7 (W .i64 (x8+1)))) (none))) (ej x0 x1 x4 x6 x7 (W .i64 (x8+1)))) (none)) (some (x6,x7))
def sj.l6(N:Nat):Nat→sj.ed
 |0,_,_,_,_,_,_=>none
 |n+1,x0,x1,x4,x6,x7,x8=>sj.mg N (sj.l6 N n) x0 x1 x4 x6 x7 x8
def sj.b(N:Nat)(oj:sj.ed)(a0:ay)(a1:Int):Option (bs×(Bool)):=
 (cW N a0).bind fun r1=>cond (!r1) (some (aE,false)) (oj a0 a1 aE aE false (0:Int))
def sj(N:Nat)(a0:ay)(a1:Int):Option (bs×(Bool)):=sj.b N (sj.l6 N N) a0 a1
abbrev jk.nh:=aA→ay→ah→ah→aj→bl→aA→Int→cF→bs→Int→Int→Option (ah×aA×(Int))
abbrev jk.cU:=aA→ay→ah→ah→aj→bl→aA→Int→Option (ah×aA×(Int))
def jk.pq(N:Nat)(cH:jk.cU)(zr:jk.nh)(x2:aA)(x3:ay)(x5:ah)(x8:ah)(aL:aj)(aP:bl)(bo:aA)(bz:Int)(bR:cF)(cI:bs)(iO:Int)(kT:Int):Option (ah×aA×(Int)):=
 cond (aM kT (List.length bR.2.1:Int)) (cond (aN kT (List.length bR.2.1)) (cond (aN kT (List.length bR.2.1)) (let YS:Int:=W .i64 (0-(((List.getD bR.2.1 kT.toNat bP).2).1));cond (aN kT (List.length bR.2.1)) (cond (aN kT (List.length bR.2.1)) (cond (small (List.length aL+List.length ([((0:Int),((List.getD bR.2.1 kT.toNat bP).1,(YS,()))),(iO,((List.getD bR.2.1 kT.toNat bP).1,(((List.getD bR.2.1 kT.toNat bP).2).1,())))]))) (zr x2 x3 x5 x8 (aL++([((0:Int),((List.getD bR.2.1 kT.toNat bP).1,(YS,()))),(iO,((List.getD bR.2.1 kT.toNat bP).1,(((List.getD bR.2.1 kT.toNat bP).2).1,())))])) aP bo bz bR cI iO (W .i64 (kT+1))) (none)) (none)) (none)) (none)) (none)) ((fY N cI.2.2.2.1).bind fun so=>(xd N (5:Int) iO (2:Int) (0:Int) so).bind fun uW=>cond (small (List.length aP+List.length uW)) (cond (small (List.length bo+List.length ([bR]))) (cH x2 x3 x5 x8 aL (aP++uW) (bo++([bR])) (W .i64 (bz+1))) (none)) (none))
def jk.qc(N:Nat)(cH:jk.cU):Nat→jk.nh
 |0,_,_,_,_,_,_,_,_,_,_,_,_=>none
 |n+1,x2,x3,x5,x8,aL,aP,bo,bz,bR,cI,iO,kT=>jk.pq N cH (jk.qc N cH n) x2 x3 x5 x8 aL aP bo bz bR cI iO kT
def jk.lD(N:Nat)(zu:jk.nh)(cH:jk.cU)(x2:aA)(x3:ay)(x5:ah)(x8:ah)(aL:aj)(aP:bl)(bo:aA)(bz:Int):Option (ah×aA×(Int)):=
 cond (aM bz (List.length x2:Int)) (cond (aN bz (List.length x2)) (cond (small (List.length a6+List.length (((List.getD x2 bz.toNat ((0:Int),(a6,aE))).2).1))) (let v5:List ((Int)×((Int)×(Unit))):=a6++(((List.getD x2 bz.toNat ((0:Int),(a6,aE))).2).1);cond (!az (((((List.getD x2 bz.toNat ((0:Int),(a6,aE))).2).2).2).1) (1:Int)) (cond (small (List.length bo+List.length ([((List.getD x2 bz.toNat ((0:Int),(a6,aE))).1,(v5,((List.getD x2 bz.toNat ((0:Int),(a6,aE))).2).2))]))) (cH x2 x3 x5 x8 aL aP (bo++([((List.getD x2 bz.toNat ((0:Int),(a6,aE))).1,(v5,((List.getD x2 bz.toNat ((0:Int),(a6,aE))).2).2))])) (W .i64 (bz+1))) (none)) ((sj N x3 ((List.getD x2 bz.toNat ((0:Int),(a6,aE))).1)).bind fun r8=>cond (!r8.2) (cond (small (List.length bo+List.length ([((List.getD x2 bz.toNat ((0:Int),(a6,aE))).1,(v5,((((List.getD x2 bz.toNat ((0:Int),(a6,aE))).2).2).1,((3:Int),((((List.getD x2 bz.toNat ((0:Int),(a6,aE))).2).2).2).2))))]))) (cH x2 x3 x5 x8 aL aP (bo++([((List.getD x2 bz.toNat ((0:Int),(a6,aE))).1,(v5,((((List.getD x2 bz.toNat ((0:Int),(a6,aE))).2).2).1,((3:Int),((((List.getD x2 bz.toNat ((0:Int),(a6,aE))).2).2).2).2))))])) (W .i64 (bz+1))) (none)) ((sQ N x5.2.1 r8.1.2.2.1).bind fun mo=>cond (az mo 0) (some ((a6,(cn,(bc,(bc,(cQ,(cY,())))))),[],(3:Int))) ((Ao N x5 r8.1.2.2.1).bind fun np=>cond (az np 0) (some ((a6,(cn,(bc,(bc,(cQ,(cY,())))))),[],(3:Int))) (zu x2 x3 x5 x8 aL aP bo bz ((List.getD x2 bz.toNat ((0:Int),(a6,aE))).1,(v5,((((List.getD x2 bz.toNat ((0:Int),(a6,aE))).2).2).1,((2:Int),(r8.1.2.2.1,(r8.1.2.2.2.1,((((((List.getD x2 bz.toNat ((0:Int),(a6,aE))).2).2).2).2).2).2)))))) r8.1 mo (0:Int)))))) (none)) (none)) ((vu N x5 aL aP).bind fun G4=>cond (!az G4.2 0) (some ((a6,(cn,(bc,(bc,(cQ,(cY,())))))),[],G4.2)) (some (G4.1,bo,(0:Int))))
def jk.l7(N:Nat):Nat→jk.cU
 |0,_,_,_,_,_,_,_,_=>none
 |n+1,x2,x3,x5,x8,aL,aP,bo,bz=>jk.lD N (jk.qc N (jk.l7 N n) N) (jk.l7 N n) x2 x3 x5 x8 aL aP bo bz
def jk.b(N:Nat)(oq:jk.cU)(a0:ae)(a1:ah)(a2:aA)(a3:ay):Option (ah×aA×(Int)):=
 (bD N a0 a1).bind fun r1=>cond (!r1) (some ((a6,(cn,(bc,(bc,(cQ,(cY,())))))),[],(1:Int))) ((e9 N a0 a2).bind fun r2=>cond (!r2) (some ((a6,(cn,(bc,(bc,(cQ,(cY,())))))),[],(1:Int))) ((cW N a3).bind fun r3=>cond (!r3) (some ((a6,(cn,(bc,(bc,(cQ,(cY,())))))),[],(1:Int))) (oq a2 a3 a1 (a6,(cn,(bc,(bc,(cQ,(cY,())))))) ([]) ([]) ([]) (0:Int))))
def jk(N:Nat)(a0:ae)(a1:ah)(a2:aA)(a3:ay):Option (ah×aA×(Int)):=jk.b N (jk.l7 N N) a0 a1 a2 a3
abbrev kP.bL:=ax→Int→Option (Bool)
def kP.dI(N:Nat)(cG:kP.bL)(x0:ax)(x3:Int):Option (Bool):=
 cond (aM x3 (List.length x0:Int)) (cond (aN x3 (List.length x0)) (cond (aM ((List.getD x0 x3.toNat bP).1) (1:Int)) (some false) (cond (aN x3 (List.length x0)) (cond (aM 12 ((List.getD x0 x3.toNat bP).1)) (some false) (cond (aN x3 (List.length x0)) (cond (aM (((List.getD x0 x3.toNat bP).2).1) (1:Int)) (some false) (cond (aN x3 (List.length x0)) (cond (aM 4 (((List.getD x0 x3.toNat bP).2).1)) (some false) (cond (aM 0 x3) (cond (aN x3 (List.length x0)) (let v2:Int:=W .i64 (x3-1);cond (aN v2 (List.length x0)) (cond (bV ((List.getD x0 x3.toNat bP).1) ((List.getD x0 v2.toNat bP).1)) (some false) (cG x0 (W .i64 (x3+1)))) (none)) (none)) (cG x0 (W .i64 (x3+1))))) (none))) (none))) (none))) (none)) (some true)
def kP.l2(N:Nat):Nat→kP.bL
 |0,_,_=>none
 |n+1,x0,x3=>kP.dI N (kP.l2 N n) x0 x3
def kP.b(N:Nat)(eG:kP.bL)(a0:ax):Option (Bool):=
 eG a0 (0:Int)
def kP(N:Nat)(a0:ax):Option (Bool):=kP.b N (kP.l2 N N) a0
abbrev m6.bL:=(List (Int))→Int→Option (Bool)
def m6.dI(N:Nat)(cG:m6.bL)(x0:List (Int))(x3:Int):Option (Bool):=
 cond (aM x3 (List.length x0:Int)) (cond (aN x3 (List.length x0)) (cond (aM (List.getD x0 x3.toNat (0:Int)) (1:Int)) (some false) (cond (aN x3 (List.length x0)) (cond (aM 12 (List.getD x0 x3.toNat (0:Int))) (some false) (cond (aM 0 x3) (cond (aN x3 (List.length x0)) (let v2:Int:=W .i64 (x3-1);cond (aN v2 (List.length x0)) (cond (bV (List.getD x0 x3.toNat (0:Int)) (List.getD x0 v2.toNat (0:Int))) (some false) (cG x0 (W .i64 (x3+1)))) (none)) (none)) (cG x0 (W .i64 (x3+1))))) (none))) (none)) (some true)
def m6.l2(N:Nat):Nat→m6.bL
 |0,_,_=>none
 |n+1,x0,x3=>m6.dI N (m6.l2 N n) x0 x3
def m6.b(N:Nat)(eG:m6.bL)(a0:List (Int)):Option (Bool):=
 eG a0 (0:Int)
def m6(N:Nat)(a0:List (Int)):Option (Bool):=m6.b N (m6.l2 N N) a0
abbrev fA.fC:=Int→aA→Int→Int→Option (Int)
abbrev fA.cv:=Int→aA→ay→Int→Int→Option (Int)
def fA.lM(N:Nat)(gY:fA.fC)(x0:Int)(x1:aA)(x7:Int)(aP:Int):Option (Int):=
 cond (aM aP (List.length x1:Int)) (cond (aN aP (List.length x1)) (cond (az (((((List.getD x1 aP.toNat ((0:Int),(a6,aE))).2).2).2).1) (2:Int)) (cond (aN aP (List.length x1)) (cond (az ((((((List.getD x1 aP.toNat ((0:Int),(a6,aE))).2).2).2).2).1) x0) (gY x0 x1 (4:Int) (W .i64 (aP+1))) (gY x0 x1 x7 (W .i64 (aP+1)))) (none)) (gY x0 x1 x7 (W .i64 (aP+1)))) (none)) (some x7)
def fA.nn(N:Nat):Nat→fA.fC
 |0,_,_,_,_=>none
 |n+1,x0,x1,x7,aP=>fA.lM N (fA.nn N n) x0 x1 x7 aP
def fA.ig(N:Nat)(qZ:fA.fC)(b9:fA.cv)(x0:Int)(x1:aA)(x2:ay)(x7:Int)(x8:Int):Option (Int):=
 cond (aM x8 (List.length x2:Int)) (cond (aN x8 (List.length x2)) (cond (!az ((((List.getD x2 x8.toNat aE).2).2).1) x0) (b9 x0 x1 x2 x7 (W .i64 (x8+1))) (cond (aN x8 (List.length x2)) ((lU N x1 (((List.getD x2 x8.toNat aE).2).1)).bind fun r3=>cond (r3.2) (cond (aN x8 (List.length x2)) (cond (bV r3.1.2.2.1 (((((List.getD x2 x8.toNat aE).2).2).2).1)) (b9 x0 x1 x2 (mx x7 3) (W .i64 (x8+1))) (b9 x0 x1 x2 (mx x7 2) (W .i64 (x8+1)))) (none)) (b9 x0 x1 x2 (mx x7 2) (W .i64 (x8+1)))) (none))) (none)) (qZ x0 x1 x7 (0:Int))
def fA.l3(N:Nat):Nat→fA.cv
 |0,_,_,_,_,_=>none
 |n+1,x0,x1,x2,x7,x8=>fA.ig N (fA.nn N N) (fA.l3 N n) x0 x1 x2 x7 x8
def fA.b(N:Nat)(jq:fA.cv)(a0:Int)(a1:aA)(a2:ay):Option (Int):=
 jq a0 a1 a2 (1:Int) (0:Int)
def fA(N:Nat)(a0:Int)(a1:aA)(a2:ay):Option (Int):=fA.b N (fA.l3 N N) a0 a1 a2
abbrev cm.ni:=ax→(List (Int))→aA→ay→ax→Int→Int→Bool→Int→Option (ax×(Int))
abbrev cm.q5:=ax→(List (Int))→aA→ay→ax→Int→Int→Bool→Int→Option (ax×(Int))
abbrev cm.iw:=ax→(List (Int))→aA→ay→ax→Int→Int→Bool→Int→Option (ax×(Int))
abbrev cm.bm:=ax→(List (Int))→aA→ay→ax→Int→Option (ax×(Int))
def cm.rQ(N:Nat)(bb:cm.bm)(uP:cm.ni)(x1:ax)(x2:List (Int))(x3:aA)(x4:ay)(aP:ax)(bo:Int)(bz:Int)(bR:Bool)(iO:Int):Option (ax×(Int)):=
 cond (aM iO (List.length x4:Int)) (cond (bR) (uP x1 x2 x3 x4 aP bo bz true (W .i64 (iO+1))) (cond (aN iO (List.length x4)) (uP x1 x2 x3 x4 aP bo bz (az ((((List.getD x4 iO.toNat aE).2).2).1) bo) (W .i64 (iO+1))) (none))) (cond (bR) ((fA N bo x3 x4).bind fun sq=>let J1:Int:=mx bz sq;cond (small (List.length aP+List.length ([(bo,(J1,()))]))) (bb x1 x2 x3 x4 (aP++([(bo,(J1,()))])) (W .i64 (bo+1))) (none)) (bb x1 x2 x3 x4 aP (W .i64 (bo+1))))
def cm.uB(N:Nat)(bb:cm.bm):Nat→cm.ni
 |0,_,_,_,_,_,_,_,_,_=>none
 |n+1,x1,x2,x3,x4,aP,bo,bz,bR,iO=>cm.rQ N bb (cm.uB N bb n) x1 x2 x3 x4 aP bo bz bR iO
def cm.zd(N:Nat)(zA:cm.ni)(bb:cm.bm)(wI:cm.q5)(x1:ax)(x2:List (Int))(x3:aA)(x4:ay)(aP:ax)(bo:Int)(bz:Int)(bR:Bool)(cJ:Int):Option (ax×(Int)):=
 cond (aM cJ (List.length x2:Int)) (cond (bR) (wI x1 x2 x3 x4 aP bo bz true (W .i64 (cJ+1))) (cond (aN cJ (List.length x2)) (wI x1 x2 x3 x4 aP bo bz (az (List.getD x2 cJ.toNat (0:Int)) bo) (W .i64 (cJ+1))) (none))) (zA x1 x2 x3 x4 aP bo bz bR (0:Int))
def cm.Bn(N:Nat)(bb:cm.bm):Nat→cm.q5
 |0,_,_,_,_,_,_,_,_,_=>none
 |n+1,x1,x2,x3,x4,aP,bo,bz,bR,cJ=>cm.zd N (cm.uB N bb N) bb (cm.Bn N bb n) x1 x2 x3 x4 aP bo bz bR cJ
def cm.sd(N:Nat)(Fu:cm.q5)(bb:cm.bm)(nj:cm.iw)(x1:ax)(x2:List (Int))(x3:aA)(x4:ay)(aP:ax)(bo:Int)(bz:Int)(bR:Bool)(cI:Int):Option (ax×(Int)):=
 cond (aM cI (List.length x1:Int)) (cond (aN cI (List.length x1)) (cond (az ((List.getD x1 cI.toNat bP).1) bo) (cond (aN cI (List.length x1)) (nj x1 x2 x3 x4 aP bo (((List.getD x1 cI.toNat bP).2).1) true (W .i64 (cI+1))) (none)) (nj x1 x2 x3 x4 aP bo bz bR (W .i64 (cI+1)))) (none)) (Fu x1 x2 x3 x4 aP bo bz bR (0:Int))
def cm.l9(N:Nat)(bb:cm.bm):Nat→cm.iw
 |0,_,_,_,_,_,_,_,_,_=>none
 |n+1,x1,x2,x3,x4,aP,bo,bz,bR,cI=>cm.sd N (cm.Bn N bb N) bb (cm.l9 N bb n) x1 x2 x3 x4 aP bo bz bR cI
def cm.dn(N:Nat)(tc:cm.iw)(bb:cm.bm)(x1:ax)(x2:List (Int))(x3:aA)(x4:ay)(aP:ax)(bo:Int):Option (ax×(Int)):=
 cond (bV bo 12) (tc x1 x2 x3 x4 aP bo (0:Int) false (0:Int)) (some (aP,(0:Int)))
def cm.l5(N:Nat):Nat→cm.bm
 |0,_,_,_,_,_,_=>none
 |n+1,x1,x2,x3,x4,aP,bo=>cm.dn N (cm.l9 N (cm.l5 N n) N) (cm.l5 N n) x1 x2 x3 x4 aP bo
def cm.b(N:Nat)(dK:cm.bm)(a0:ae)(a1:ax)(a2:List (Int))(a3:aA)(a4:ay):Option (ax×(Int)):=
 (kP N a1).bind fun r1=>cond (!r1) (some ([],(1:Int))) ((m6 N a2).bind fun r2=>cond (!r2) (some ([],(1:Int))) ((e9 N a0 a3).bind fun r3=>cond (!r3) (some ([],(1:Int))) ((cW N a4).bind fun r4=>cond (!r4) (some ([],(1:Int))) (dK a1 a2 a3 a4 ([]) (1:Int)))))
def cm(N:Nat)(a0:ae)(a1:ax)(a2:List (Int))(a3:aA)(a4:ay):Option (ax×(Int)):=cm.b N (cm.l5 N N) a0 a1 a2 a3 a4
def Iv(N:Nat)(a0:bk)(a1:ah)(a2:Int)(a3:Int)(a4:Int):Option bk:=
 (oU N a1.2.2.1 a3 a4).bind fun r1=>cond (aM 0 r1) (cond (small (List.length a0+List.length ([(a2,(a3,(a4,(r1,((0:Int),())))))]))) (some (a0++([(a2,(a3,(a4,(r1,((0:Int),())))))]))) (none)) (some a0)
def OR(N:Nat)(a0:Int):Option (Bool):=
 cond (az a0 1) (some true) (some (az a0 2))
abbrev m7.aU:=ax→Int→Int→Option (Int)
def m7.ca(N:Nat)(bg:m7.aU)(x0:ax)(x1:Int)(x5:Int):Option (Int):=
 cond (aM x5 (List.length x0:Int)) (cond (aN x5 (List.length x0)) (cond (az ((List.getD x0 x5.toNat bP).1) x1) (cond (aN x5 (List.length x0)) (some (((List.getD x0 x5.toNat bP).2).1)) (none)) (bg x0 x1 (W .i64 (x5+1)))) (none)) (some (1:Int))
def m7.l4(N:Nat):Nat→m7.aU
 |0,_,_,_=>none
 |n+1,x0,x1,x5=>m7.ca N (m7.l4 N n) x0 x1 x5
def m7.b(N:Nat)(cN:m7.aU)(a0:ax)(a1:Int):Option (Int):=
 (kP N a0).bind fun r1=>cond (!r1) (some (0:Int)) (cN a0 a1 (0:Int))
def m7(N:Nat)(a0:ax)(a1:Int):Option (Int):=m7.b N (m7.l4 N N) a0 a1
abbrev m8.bm:=ax→Int→Int→ah→(List (Int))→Int→Option ((List (Int))×(Int))
def m8.dn(N:Nat)(bb:m8.bm)(x2:ax)(x3:Int)(x4:Int)(x6:ah)(aP:List (Int))(bo:Int):Option ((List (Int))×(Int)):=
 cond (aM bo (List.length x6.1:Int)) (cond (aN bo (List.length x6.1)) ((OR N (((List.getD x6.1 bo.toNat bP).2).1)).bind fun r4=>cond (r4) (cond (!az ((List.getD x6.1 bo.toNat bP).1) x3) ((oU N x6.2.2.1 (6:Int) ((List.getD x6.1 bo.toNat bP).1)).bind fun r5=>cond (aM 0 r5) ((m7 N x2 ((List.getD x6.1 bo.toNat bP).1)).bind fun r6=>cond (az r6 x4) (cond (small (List.length aP+List.length ([(List.getD x6.1 bo.toNat bP).1]))) (bb x2 x3 x4 x6 (aP++([(List.getD x6.1 bo.toNat bP).1])) (W .i64 (bo+1))) (none)) (bb x2 x3 x4 x6 aP (W .i64 (bo+1)))) (bb x2 x3 x4 x6 aP (W .i64 (bo+1)))) (bb x2 x3 x4 x6 aP (W .i64 (bo+1)))) (bb x2 x3 x4 x6 aP (W .i64 (bo+1)))) (none)) (some (aP,(0:Int)))
def m8.l5(N:Nat):Nat→m8.bm
 |0,_,_,_,_,_,_=>none
 |n+1,x2,x3,x4,x6,aP,bo=>m8.dn N (m8.l5 N n) x2 x3 x4 x6 aP bo
def m8.b(N:Nat)(dK:m8.bm)(a0:ae)(a1:ah)(a2:ax)(a3:Int)(a4:Int):Option ((List (Int))×(Int)):=
 (bD N a0 a1).bind fun r1=>cond (!r1) (some ([],(1:Int))) ((kP N a2).bind fun r2=>cond (!r2) (some ([],(1:Int))) (dK a2 a3 a4 a1 ([]) (0:Int)))
def m8(N:Nat)(a0:ae)(a1:ah)(a2:ax)(a3:Int)(a4:Int):Option ((List (Int))×(Int)):=m8.b N (m8.l5 N N) a0 a1 a2 a3 a4
abbrev b8.iH:=Int→ax→ax→ae→ah→bk→Int→(List (Int))→Int→Option (bk×(Int))
abbrev b8.zy:=Int→ax→ah→bk→Int→Option (bk×(Int))
abbrev b8.oR:=Int→ax→ae→ah→bk→Int→Option (bk×(Int))
abbrev b8.fC:=Int→ax→ax→ae→ah→bk→Int→Option (bk×(Int))
abbrev b8.IE:=Int→ax→ax→ae→ah→bk→Option (bk×(Int))
def b8.qM(N:Nat)(gY:b8.fC)(jA:b8.iH)(x2:Int)(x3:ax)(x4:ax)(x5:ae)(x6:ah)(aP:bk)(bz:Int)(bR:List (Int))(cJ:Int):Option (bk×(Int)):=
 cond (aM cJ (List.length bR:Int)) (cond (aN cJ (List.length bR)) ((Iv N aP x6 (W .i64 ((W .i64 ((4:Int)+bz))-1)) (6:Int) (List.getD bR cJ.toNat (0:Int))).bind fun sq=>jA x2 x3 x4 x5 x6 sq bz bR (W .i64 (cJ+1))) (none)) (gY x2 x3 x4 x5 x6 aP (W .i64 (bz+1)))
def b8.rP(N:Nat)(gY:b8.fC):Nat→b8.iH
 |0,_,_,_,_,_,_,_,_,_=>none
 |n+1,x2,x3,x4,x5,x6,aP,bz,bR,cJ=>b8.qM N gY (b8.rP N gY n) x2 x3 x4 x5 x6 aP bz bR cJ
def b8.EB(N:Nat)(wF:b8.zy)(x2:Int)(x4:ax)(x6:ah)(aP:bk)(L4:Int):Option (bk×(Int)):=
 cond (aM L4 (List.length x4:Int)) (cond (aN L4 (List.length x4)) ((yK N x6.2.1 ((List.getD x4 L4.toNat bP).1)).bind fun J2=>cond (aN L4 (List.length x4)) (cond (aN L4 (List.length x4)) ((oU N x6.2.2.1 (5:Int) ((List.getD x4 L4.toNat bP).1)).bind fun r32=>let v33:Int:=mn (((List.getD x4 L4.toNat bP).2).1) r32;cond (J2.2) (cond (!az J2.1.2.1 x2) (cond (aM 0 v33) (cond (small (List.length aP+List.length ([((9:Int),((5:Int),(J2.1.1,(v33,((0:Int),())))))]))) (wF x2 x4 x6 (aP++([((9:Int),((5:Int),(J2.1.1,(v33,((0:Int),())))))])) (W .i64 (L4+1))) (none)) (wF x2 x4 x6 aP (W .i64 (L4+1)))) (wF x2 x4 x6 aP (W .i64 (L4+1)))) (wF x2 x4 x6 aP (W .i64 (L4+1)))) (none)) (none)) (none)) (some (aP,(0:Int)))
def b8.HT(N:Nat):Nat→b8.zy
 |0,_,_,_,_,_=>none
 |n+1,x2,x4,x6,aP,L4=>b8.EB N (b8.HT N n) x2 x4 x6 aP L4
def b8.Is(N:Nat)(O7:b8.zy)(iJ:b8.oR)(x2:Int)(x4:ax)(x5:ae)(x6:ah)(aP:bk)(iO:Int):Option (bk×(Int)):=
 cond (aM iO (List.length x6.1:Int)) (cond (aN iO (List.length x6.1)) ((OR N (((List.getD x6.1 iO.toNat bP).2).1)).bind fun Fv=>cond (!Fv) (iJ x2 x4 x5 x6 aP (W .i64 (iO+1))) (cond (az ((List.getD x6.1 iO.toNat bP).1) x2) (iJ x2 x4 x5 x6 aP (W .i64 (iO+1))) ((fY N x5.2.2.1).bind fun G4=>(oU N x6.2.2.1 (6:Int) ((List.getD x6.1 iO.toNat bP).1)).bind fun zt=>(fY N zt).bind fun zQ=>(fL N G4 zQ).bind fun Dg=>(qH N Dg).bind fun wG=>cond (!wG.2) (some ([],(2:Int))) (cond (aM 0 wG.1) (cond (small (List.length aP+List.length ([((8:Int),((7:Int),((List.getD x6.1 iO.toNat bP).1,(wG.1,((0:Int),())))))]))) (iJ x2 x4 x5 x6 (aP++([((8:Int),((7:Int),((List.getD x6.1 iO.toNat bP).1,(wG.1,((0:Int),())))))])) (W .i64 (iO+1))) (none)) (iJ x2 x4 x5 x6 aP (W .i64 (iO+1))))))) (none)) (O7 x2 x4 x6 aP (0:Int))
def b8.CI(N:Nat):Nat→b8.oR
 |0,_,_,_,_,_,_=>none
 |n+1,x2,x4,x5,x6,aP,iO=>b8.Is N (b8.HT N N) (b8.CI N n) x2 x4 x5 x6 aP iO
def b8.lM(N:Nat)(zv:b8.iH)(Pl:b8.oR)(gY:b8.fC)(x2:Int)(x3:ax)(x4:ax)(x5:ae)(x6:ah)(aP:bk)(bz:Int):Option (bk×(Int)):=
 cond (bV bz 4) ((m8 N x5 x6 x3 x2 bz).bind fun mo=>zv x2 x3 x4 x5 x6 aP bz mo.1 (0:Int)) (Pl x2 x4 x5 x6 aP (0:Int))
def b8.nn(N:Nat):Nat→b8.fC
 |0,_,_,_,_,_,_,_=>none
 |n+1,x2,x3,x4,x5,x6,aP,bz=>b8.lM N (b8.rP N (b8.nn N n) N) (b8.CI N N) (b8.nn N n) x2 x3 x4 x5 x6 aP bz
def b8.Hw(N:Nat)(qZ:b8.fC)(x2:Int)(x3:ax)(x4:ax)(x5:ae)(x6:ah)(aP:bk):Option (bk×(Int)):=
 (Iv N aP x6 (2:Int) (6:Int) x2).bind fun r8=>(Iv N r8 x6 (3:Int) (3:Int) (0:Int)).bind fun r9=>qZ x2 x3 x4 x5 x6 r9 (1:Int)
def b8.j9(N:Nat)(x2:Int)(x3:ax)(x4:ax)(x5:ae)(x6:ah)(aP:bk):Option (bk×(Int)):=b8.Hw N (b8.nn N N) x2 x3 x4 x5 x6 aP
def b8.b(N:Nat)(zB:b8.IE)(a0:ae)(a1:ah)(a2:Int)(a3:ax)(a4:ax):Option (bk×(Int)):=
 (bD N a0 a1).bind fun r1=>cond (!r1) (some ([],(1:Int))) ((kP N a3).bind fun r2=>cond (!r2) (some ([],(1:Int))) ((lT N a4).bind fun r3=>cond (!r3) (some ([],(1:Int))) ((uc N a1.1 a2).bind fun r4=>cond (az r4 0) (some ([],(3:Int))) ((sQ N a1.2.1 a2).bind fun r5=>cond (!az r5 0) ((Iv N ([]) a1 (1:Int) (5:Int) r5).bind fun r6=>zB a2 a3 a4 a0 a1 r6) (zB a2 a3 a4 a0 a1 ([]))))))
def b8(N:Nat)(a0:ae)(a1:ah)(a2:Int)(a3:ax)(a4:ax):Option (bk×(Int)):=b8.b N (b8.j9 N) a0 a1 a2 a3 a4
def R2(N:Nat)(a0:ae)(a1:ah):Option ((Int)×(Int)):=
 (bD N a0 a1).bind fun r1=>cond (!r1) (some ((0:Int),(1:Int))) ((oU N a1.2.2.1 (2:Int) (0:Int)).bind fun r2=>cond (az r2 (-9223372036854775808)) (some ((0:Int),(2:Int))) (some ((mx (W .i64 (0-r2)) (0:Int)),(0:Int))))
abbrev m9.aU:=bk→Int→Option (Bool)
def m9.ca(N:Nat)(bg:m9.aU)(x0:bk)(x3:Int):Option (Bool):=
 cond (aM x3 (List.length x0:Int)) (cond (aN x3 (List.length x0)) (cond (aM ((List.getD x0 x3.toNat jC).1) (1:Int)) (some false) (cond (aM 9 ((List.getD x0 x3.toNat jC).1)) (some false) ((HD N (((List.getD x0 x3.toNat jC).2).1) ((((List.getD x0 x3.toNat jC).2).2).1)).bind fun r2=>cond (!r2) (some false) (cond (aM (((((List.getD x0 x3.toNat jC).2).2).2).1) (1:Int)) (some false) (cond (aM ((((((List.getD x0 x3.toNat jC).2).2).2).2).1) (0:Int)) (some false) (cond (aM (((((List.getD x0 x3.toNat jC).2).2).2).1) ((((((List.getD x0 x3.toNat jC).2).2).2).2).1)) (some false) (cond (aM 0 x3) (let v3:Int:=W .i64 (x3-1);cond (aN v3 (List.length x0)) (cond (aM ((List.getD x0 x3.toNat jC).1) ((List.getD x0 v3.toNat jC).1)) (some false) (let v4:Int:=W .i64 (x3-1);cond (aN v4 (List.length x0)) (cond (az ((List.getD x0 x3.toNat jC).1) ((List.getD x0 v4.toNat jC).1)) (let v5:Int:=W .i64 (x3-1);cond (aN v5 (List.length x0)) (cond (!az (((List.getD x0 x3.toNat jC).2).1) (((List.getD x0 v5.toNat jC).2).1)) (some false) (let v6:Int:=W .i64 (x3-1);cond (aN v6 (List.length x0)) (cond (bV ((((List.getD x0 x3.toNat jC).2).2).1) ((((List.getD x0 v6.toNat jC).2).2).1)) (some false) (bg x0 (W .i64 (x3+1)))) (none))) (none)) (bg x0 (W .i64 (x3+1)))) (none))) (none)) (bg x0 (W .i64 (x3+1)))))))))) (none)) (some true)
def m9.l4(N:Nat):Nat→m9.aU
 |0,_,_=>none
 |n+1,x0,x3=>m9.ca N (m9.l4 N n) x0 x3
def m9.b(N:Nat)(cN:m9.aU)(a0:bk):Option (Bool):=
 cond (aM 64 (List.length a0:Int)) (some false) (cN a0 (0:Int))
def m9(N:Nat)(a0:bk):Option (Bool):=m9.b N (m9.l4 N N) a0
abbrev cz.ni:=bk→Int→Int→Int→(List (Int))→Int→Option (bk×(Int)×(Int))
abbrev cz.Fp:=bk→Int→Int→Int→(List (Int))→Option (bk×(Int)×(Int))
abbrev cz.fp:=bk→Int→Int→Int→(List (Int))→Option (bk×(Int)×(Int))
abbrev cz.bm:=bk→Int→Int→Option (bk×(Int)×(Int))
def cz.rQ(N:Nat)(bb:cz.bm)(uP:cz.ni)(x7:bk)(x8:Int)(x9:Int)(aT:Int)(bz:List (Int))(cI:Int):Option (bk×(Int)×(Int)):=
 cond (aM cI aT) (let Fo:Int:=W .i64 (cI-x9);cond (aN Fo (List.length bz)) (cond (aN cI (List.length x7)) (let v15:Int:=W .i64 (cI-x9);cond (aN v15 (List.length bz)) (uP (List.set x7 cI.toNat ((List.getD x7 cI.toNat jC).1,(((List.getD x7 cI.toNat jC).2).1,((((List.getD x7 cI.toNat jC).2).2).1,(((((List.getD x7 cI.toNat jC).2).2).2).1,(List.getD bz Fo.toNat (0:Int),(((((List.getD x7 cI.toNat jC).2).2).2).2).2)))))) (W .i64 (x8-(List.getD bz v15.toNat (0:Int)))) x9 aT bz (W .i64 (cI+1))) (none)) (none)) (none)) (bb x7 x8 aT)
def cz.uB(N:Nat)(bb:cz.bm):Nat→cz.ni
 |0,_,_,_,_,_,_=>none
 |n+1,x7,x8,x9,aT,bz,cI=>cz.rQ N bb (cz.uB N bb n) x7 x8 x9 aT bz cI
def cz.zl(N:Nat)(zA:cz.ni)(bb:cz.bm)(x7:bk)(x8:Int)(x9:Int)(aT:Int)(aL:List (Int)):Option (bk×(Int)×(Int)):=
 (ld N aL).bind fun r8=>(qH N r8).bind fun r9=>cond (!r9.2) (some ([],(0:Int),(2:Int))) ((dz N (mn r9.1 x8) aL).bind fun mo=>cond (!az mo.2 0) (some ([],(0:Int),mo.2)) (zA x7 x8 x9 aT mo.1 x9))
def cz.GY(N:Nat)(bb:cz.bm)(x7:bk)(x8:Int)(x9:Int)(aT:Int)(aL:List (Int)):Option (bk×(Int)×(Int)):=cz.zl N (cz.uB N bb N) bb x7 x8 x9 aT aL
def cz.xC(N:Nat)(wH:cz.Fp)(bb:cz.bm)(dD:cz.fp)(x7:bk)(x8:Int)(x9:Int)(aT:Int)(aL:List (Int)):Option (bk×(Int)×(Int)):=
 cond (aM aT (List.length x7:Int)) (cond (aN aT (List.length x7)) (cond (aN x9 (List.length x7)) (cond (az ((List.getD x7 aT.toNat jC).1) ((List.getD x7 x9.toNat jC).1)) (cond (aN aT (List.length x7)) (cond (small (List.length aL+List.length ([((((List.getD x7 aT.toNat jC).2).2).2).1]))) (dD x7 x8 x9 (W .i64 (aT+1)) (aL++([((((List.getD x7 aT.toNat jC).2).2).2).1]))) (none)) (none)) (wH x7 x8 x9 aT aL)) (none)) (none)) (wH x7 x8 x9 aT aL)
def cz.l8(N:Nat)(bb:cz.bm):Nat→cz.fp
 |0,_,_,_,_,_=>none
 |n+1,x7,x8,x9,aT,aL=>cz.xC N (cz.GY N bb) bb (cz.l8 N bb n) x7 x8 x9 aT aL
def cz.dn(N:Nat)(zC:cz.fp)(bb:cz.bm)(x7:bk)(x8:Int)(x9:Int):Option (bk×(Int)×(Int)):=
 cond (aM x9 (List.length x7:Int)) (zC x7 x8 x9 x9 ([])) (some (x7,x8,(0:Int)))
def cz.l5(N:Nat):Nat→cz.bm
 |0,_,_,_=>none
 |n+1,x7,x8,x9=>cz.dn N (cz.l8 N (cz.l5 N n) N) (cz.l5 N n) x7 x8 x9
def cz.b(N:Nat)(dK:cz.bm)(a0:bk)(a1:Int):Option (bk×(Int)×(Int)):=
 (m9 N a0).bind fun r1=>cond (!r1) (some ([],(0:Int),(1:Int))) (cond (aM a1 0) (some ([],(0:Int),(1:Int))) (cond (small (List.length wL+List.length a0)) (dK (wL++a0) a1 (0:Int)) (none)))
def cz(N:Nat)(a0:bk)(a1:Int):Option (bk×(Int)×(Int)):=cz.b N (cz.l5 N N) a0 a1
def R3(N:Nat)(a0:ae)(a1:ah):Option ((Int)×(Int)):=
 (bD N a0 a1).bind fun r1=>cond (!r1) (some ((0:Int),(1:Int))) ((oU N a1.2.2.1 (2:Int) (0:Int)).bind fun r2=>some ((mx r2 0),(0:Int)))
abbrev gE.aec:=ah→ah→cS→bl→cS→bk→Int→Int→Int→Option (ah×cS×(Int))
abbrev gE.zE:=Int→ae→ah→ah→cS→bk→Int→bl→cS→bk→Int→Option (ah×cS×(Int))
def gE.YJ(N:Nat)(x6:ah)(aT:ah)(aL:cS)(iO:bl)(kT:cS)(zG:bk)(x21:Int)(x23:Int)(x24:Int):Option (ah×cS×(Int)):=
 (fY N x21).bind fun so=>(xd N (2:Int) (0:Int) x23 x24 so).bind fun uW=>cond (small (List.length iO+List.length uW)) ((vu N x6 bc (iO++uW)).bind fun BE=>cond (!az BE.2 0) (some ((a6,(cn,(bc,(bc,(cQ,(cY,())))))),((0:Int),((0:Int),(wL,((0:Int),())))),BE.2)) (some (BE.1,(kT.1,(kT.2.1,(zG,kT.2.2.2))),(0:Int)))) (none)
def gE.j26(N:Nat)(x6:ah)(aT:ah)(aL:cS)(iO:bl)(kT:cS)(zG:bk)(x21:Int)(x23:Int)(x24:Int):Option (ah×cS×(Int)):=gE.YJ N x6 aT aL iO kT zG x21 x23 x24
def gE.Co(N:Nat)(WN:gE.aec)(BF:gE.zE)(x2:Int)(x5:ae)(x6:ah)(aT:ah)(aL:cS)(bo:bk)(cJ:Int)(iO:bl)(kT:cS)(zG:bk)(G6:Int):Option (ah×cS×(Int)):=
 cond (aM G6 (List.length bo:Int)) (cond (aN G6 (List.length bo)) (cond (aM 0 ((((((List.getD bo G6.toNat jC).2).2).2).2).1)) (cond (aN G6 (List.length bo)) (cond (small (List.length zG+List.length ([List.getD bo G6.toNat jC]))) (cond (aN G6 (List.length bo)) (cond (aN G6 (List.length bo)) (cond (aN G6 (List.length bo)) ((fY N ((((((List.getD bo G6.toNat jC).2).2).2).2).1)).bind fun r6=>(xd N (((List.getD bo G6.toNat jC).2).1) ((((List.getD bo G6.toNat jC).2).2).1) (2:Int) (0:Int) r6).bind fun r7=>cond (small (List.length iO+List.length r7)) (BF x2 x5 x6 aT aL bo cJ (iO++r7) (kT.1,(kT.2.1,(wL,kT.2.2.2))) (zG++([List.getD bo G6.toNat jC])) (W .i64 (G6+1))) (none)) (none)) (none)) (none)) (none)) (none)) (BF x2 x5 x6 aT aL bo cJ iO kT zG (W .i64 (G6+1)))) (none)) ((fY N cJ).bind fun mo=>(xd N (4:Int) (0:Int) (2:Int) (0:Int) mo).bind fun np=>cond (small (List.length iO+List.length np)) (let Fo:List ((Int)×((Int)×(((Bool)×((List (Int))×(Unit)))×(Unit)))):=iO++np;(R3 N x5 x6).bind fun rR=>(sQ N x6.2.1 x2).bind fun sq=>cond (!az sq 0) (WN x6 aT aL Fo kT zG rR.1 (5:Int) sq) (WN x6 aT aL Fo kT zG rR.1 (6:Int) x2)) (none))
def gE.Dd(N:Nat):Nat→gE.zE
 |0,_,_,_,_,_,_,_,_,_,_,_=>none
 |n+1,x2,x5,x6,aT,aL,bo,cJ,iO,kT,zG,G6=>gE.Co N (gE.j26 N) (gE.Dd N n) x2 x5 x6 aT aL bo cJ iO kT zG G6
def gE.b(N:Nat)(Pf:gE.zE)(a0:ae)(a1:ah)(a2:Int)(a3:ax)(a4:ax):Option (ah×cS×(Int)):=
 (b8 N a0 a1 a2 a3 a4).bind fun r1=>cond (az r1.2 1) (some ((a6,(cn,(bc,(bc,(cQ,(cY,())))))),((0:Int),((0:Int),(wL,((0:Int),())))),r1.2)) (cond (az r1.2 3) (some ((a6,(cn,(bc,(bc,(cQ,(cY,())))))),((0:Int),((0:Int),(wL,((0:Int),())))),r1.2)) ((R2 N a0 a1).bind fun r2=>cond (!az r2.2 0) (some ((a6,(cn,(bc,(bc,(cQ,(cY,())))))),((0:Int),((0:Int),(wL,((0:Int),())))),r2.2)) (cond (!az r1.2 0) (some ((a6,(cn,(bc,(bc,(cQ,(cY,())))))),((0:Int),((0:Int),(wL,((0:Int),())))),r1.2)) ((cz N r1.1 r2.1).bind fun r3=>cond (!az r3.2.2 0) (some ((a6,(cn,(bc,(bc,(cQ,(cY,())))))),((0:Int),((0:Int),(wL,((0:Int),())))),r3.2.2)) (Pf a2 a0 a1 (a6,(cn,(bc,(bc,(cQ,(cY,())))))) ((0:Int),((0:Int),(wL,((0:Int),())))) r3.1 r3.2.1 ([]) (a2,(r2.1,(wL,(r3.2.1,())))) wL (0:Int))))))
def gE(N:Nat)(a0:ae)(a1:ah)(a2:Int)(a3:ax)(a4:ax):Option (ah×cS×(Int)):=gE.b N (gE.Dd N N) a0 a1 a2 a3 a4
abbrev c0.zx:=(List (Int))→(List (Int))→(List (Int))→Int→Int→(List (Int))→Int→Option ((List (Int))×(Int)×(Int))
abbrev c0.fC:=(List (Int))→(List (Int))→(List (Int))→Int→Int→(List (Int))→Bool→Int→Option ((List (Int))×(Int)×(Int))
abbrev c0.fp:=(List (Int))→(List (Int))→(List (Int))→Int→Int→Option ((List (Int))×(Int)×(Int))
def c0.HU(N:Nat)(dD:c0.fp)(O6:c0.zx)(x1:List (Int))(x2:List (Int))(aL:List (Int))(aP:Int)(bo:Int)(cJ:List (Int))(kT:Int):Option ((List (Int))×(Int)×(Int)):=
 cond (aM kT (List.length x1:Int)) (cond (aN kT (List.length cJ)) (cond (aN kT (List.length x2)) (cond (aN kT (List.length aL)) (let J1:Int:=mn (List.getD cJ kT.toNat (0:Int)) (W .i64 ((List.getD x2 kT.toNat (0:Int))-(List.getD aL kT.toNat (0:Int))));cond (aN kT (List.length aL)) (cond (aN kT (List.length aL)) (O6 x1 x2 (List.set aL kT.toNat (W .i64 ((List.getD aL kT.toNat (0:Int))+J1))) (W .i64 (aP-J1)) bo cJ (W .i64 (kT+1))) (none)) (none)) (none)) (none)) (none)) (dD x1 x2 aL aP (W .i64 (bo+1)))
def c0.K9(N:Nat)(dD:c0.fp):Nat→c0.zx
 |0,_,_,_,_,_,_,_=>none
 |n+1,x1,x2,aL,aP,bo,cJ,kT=>c0.HU N dD (c0.K9 N dD n) x1 x2 aL aP bo cJ kT
def c0.lM(N:Nat)(O8:c0.zx)(dD:c0.fp)(gY:c0.fC)(x1:List (Int))(x2:List (Int))(aL:List (Int))(aP:Int)(bo:Int)(bz:List (Int))(bR:Bool)(cI:Int):Option ((List (Int))×(Int)×(Int)):=
 cond (aM cI (List.length x1:Int)) (cond (aN cI (List.length x1)) (cond (aM 0 (List.getD x1 cI.toNat (0:Int))) (cond (aN cI (List.length aL)) (cond (aN cI (List.length x2)) (cond (aM (List.getD aL cI.toNat (0:Int)) (List.getD x2 cI.toNat (0:Int))) (cond (aN cI (List.length x1)) (cond (aN cI (List.length bz)) (gY x1 x2 aL aP bo (List.set bz cI.toNat (List.getD x1 cI.toNat (0:Int))) true (W .i64 (cI+1))) (none)) (none)) (gY x1 x2 aL aP bo bz bR (W .i64 (cI+1)))) (none)) (none)) (gY x1 x2 aL aP bo bz bR (W .i64 (cI+1)))) (none)) (cond (az aP 0) (some (aL,aP,(0:Int))) (cond (!bR) (some (aL,aP,(0:Int))) ((dz N aP bz).bind fun kR=>O8 x1 x2 aL aP bo kR.1 (0:Int))))
def c0.nn(N:Nat)(dD:c0.fp):Nat→c0.fC
 |0,_,_,_,_,_,_,_,_=>none
 |n+1,x1,x2,aL,aP,bo,bz,bR,cI=>c0.lM N (c0.K9 N dD N) dD (c0.nn N dD n) x1 x2 aL aP bo bz bR cI
def c0.xC(N:Nat)(qZ:c0.fC)(dD:c0.fp)(x1:List (Int))(x2:List (Int))(aL:List (Int))(aP:Int)(bo:Int):Option ((List (Int))×(Int)×(Int)):=
 cond (bV bo (List.length x1:Int)) (cond (fP (List.length x1:Int) (List.length x1:Int)) (qZ x1 x2 aL aP bo (List.replicate (List.length x1:Int).toNat (0:Int)) false (0:Int)) (none)) (some (aL,aP,(0:Int)))
def c0.l8(N:Nat):Nat→c0.fp
 |0,_,_,_,_,_=>none
 |n+1,x1,x2,aL,aP,bo=>c0.xC N (c0.nn N (c0.l8 N n) N) (c0.l8 N n) x1 x2 aL aP bo
def c0.b(N:Nat)(zC:c0.fp)(a0:Int)(a1:List (Int))(a2:List (Int)):Option ((List (Int))×(Int)×(Int)):=
 (lx N a0 a1).bind fun r1=>cond (r1) (some ([],(0:Int),(1:Int))) (cond (!az (List.length a2:Int) (List.length a1:Int)) (some ([],(0:Int),(1:Int))) ((lx N (0:Int) a2).bind fun r2=>cond (r2) (some ([],(0:Int),(1:Int))) ((ld N a1).bind fun r3=>(qH N r3).bind fun r4=>cond (!r4.2) (some ([],(0:Int),(2:Int))) (cond (fP (List.length a1:Int) (List.length a1:Int)) (zC a1 a2 (List.replicate (List.length a1:Int).toNat (0:Int)) a0 (0:Int)) (none)))))
def c0(N:Nat)(a0:Int)(a1:List (Int))(a2:List (Int)):Option ((List (Int))×(Int)×(Int)):=c0.b N (c0.l8 N N) a0 a1 a2
abbrev pN.Pm:=Int→Int→(List (Int))→(List (Int))→aj→Int→Option (aj×(Int))
abbrev pN.q4:=Int→ah→Int→(List (Int))→(List (Int))→Int→Option (aj×(Int))
def pN.YL(N:Nat)(J3:pN.Pm)(x2:Int)(x8:Int)(x9:List (Int))(bo:List (Int))(cI:aj)(cJ:Int):Option (aj×(Int)):=
 cond (aM cJ (List.length bo:Int)) (cond (aN cJ (List.length bo)) (cond (aM x8 0) (let v17:Int:=W .i64 (0-(List.getD bo cJ.toNat (0:Int)));cond (!az v17 0) (cond (aN cJ (List.length x9)) (cond (small (List.length cI+List.length ([(List.getD x9 cJ.toNat (0:Int),(x2,(v17,())))]))) (J3 x2 x8 x9 bo (cI++([(List.getD x9 cJ.toNat (0:Int),(x2,(v17,())))])) (W .i64 (cJ+1))) (none)) (none)) (J3 x2 x8 x9 bo cI (W .i64 (cJ+1)))) (cond (!az (List.getD bo cJ.toNat (0:Int)) (0:Int)) (cond (aN cJ (List.length x9)) (cond (small (List.length cI+List.length ([(List.getD x9 cJ.toNat (0:Int),(x2,(List.getD bo cJ.toNat (0:Int),())))]))) (J3 x2 x8 x9 bo (cI++([(List.getD x9 cJ.toNat (0:Int),(x2,(List.getD bo cJ.toNat (0:Int),())))])) (W .i64 (cJ+1))) (none)) (none)) (J3 x2 x8 x9 bo cI (W .i64 (cJ+1))))) (none)) (some (cI,(0:Int)))
def pN.YK(N:Nat):Nat→pN.Pm
 |0,_,_,_,_,_,_=>none
 |n+1,x2,x8,x9,bo,cI,cJ=>pN.YL N (pN.YK N n) x2 x8 x9 bo cI cJ
def pN.zj(N:Nat)(aed:pN.Pm)(uR:pN.q4)(x2:Int)(x4:ah)(x8:Int)(x9:List (Int))(aT:List (Int))(aL:Int):Option (aj×(Int)):=
 cond (aM aL (List.length x4.2.2.2.1:Int)) (cond (aN aL (List.length x4.2.2.2.1)) (cond (!az ((List.getD x4.2.2.2.1 aL.toNat aW).1) (0:Int)) (cond (az (((List.getD x4.2.2.2.1 aL.toNat aW).2).1) x2) (cond (!(kV .bool (aM 0 ((((List.getD x4.2.2.2.1 aL.toNat aW).2).2).1)) (aM 0 x8))) (cond (small (List.length x9+List.length ([(List.getD x4.2.2.2.1 aL.toNat aW).1]))) (let v6:Int:=mx ((((List.getD x4.2.2.2.1 aL.toNat aW).2).2).1) (W .i64 (0-((((List.getD x4.2.2.2.1 aL.toNat aW).2).2).1)));cond (small (List.length aT+List.length ([v6]))) (uR x2 x4 x8 (x9++([(List.getD x4.2.2.2.1 aL.toNat aW).1])) (aT++([v6])) (W .i64 (aL+1))) (none)) (none)) (uR x2 x4 x8 x9 aT (W .i64 (aL+1)))) (uR x2 x4 x8 x9 aT (W .i64 (aL+1)))) (uR x2 x4 x8 x9 aT (W .i64 (aL+1)))) (none)) ((c0 N (mx x8 (W .i64 (0-x8))) aT aT).bind fun rR=>cond (!az rR.2.2 0) (some ([],rR.2.2)) (aed x2 x8 x9 rR.1 ([((0:Int),(x2,((W .i64 (0-x8)),())))]) (0:Int)))
def pN.By(N:Nat):Nat→pN.q4
 |0,_,_,_,_,_,_=>none
 |n+1,x2,x4,x8,x9,aT,aL=>pN.zj N (pN.YK N N) (pN.By N n) x2 x4 x8 x9 aT aL
def pN.b(N:Nat)(Ft:pN.q4)(a0:ae)(a1:ah)(a2:Int):Option (aj×(Int)):=
 (bD N a0 a1).bind fun r1=>cond (!r1) (some ([],(1:Int))) (cond (aM a2 0) (some ([],(3:Int))) (cond (bV (List.length a0.1:Int) a2) (some ([],(3:Int))) ((tj N a1.2.2.2.1 (0:Int) a2).bind fun r2=>cond (az r2 0) (some ([],(0:Int))) (Ft a2 a1 r2 ([]) ([]) (0:Int)))))
def pN(N:Nat)(a0:ae)(a1:ah)(a2:Int):Option (aj×(Int)):=pN.b N (pN.By N N) a0 a1 a2
abbrev zo.bm:=ae→ah→ah→aj→Int→Option (ah×(Int))
def zo.dn(N:Nat)(bb:zo.bm)(x2:ae)(x3:ah)(x4:ah)(x6:aj)(x7:Int):Option (ah×(Int)):=
 cond (aM x7 (List.length x2.1:Int)) ((pN N x2 x3 x7).bind fun r3=>cond (!az r3.2 0) (some ((a6,(cn,(bc,(bc,(cQ,(cY,())))))),r3.2)) (cond (small (List.length x6+List.length r3.1)) (bb x2 x3 x4 (x6++r3.1) (W .i64 (x7+1))) (none))) ((vu N x3 x6 ([]:List ((Int)×((Int)×(((Bool)×((List (Int))×(Unit)))×(Unit)))))).bind fun r6=>some (r6.1,r6.2))
def zo.l5(N:Nat):Nat→zo.bm
 |0,_,_,_,_,_=>none
 |n+1,x2,x3,x4,x6,x7=>zo.dn N (zo.l5 N n) x2 x3 x4 x6 x7
def zo.b(N:Nat)(dK:zo.bm)(a0:ae)(a1:ah):Option (ah×(Int)):=
 (bD N a0 a1).bind fun r1=>cond (!r1) (some ((a6,(cn,(bc,(bc,(cQ,(cY,())))))),(1:Int))) (dK a0 a1 (a6,(cn,(bc,(bc,(cQ,(cY,())))))) ([]) (0:Int))
def zo(N:Nat)(a0:ae)(a1:ah):Option (ah×(Int)):=zo.b N (zo.l5 N N) a0 a1
abbrev nf.Pn:=aI→aI→cy→aA→Int→Int→Option (aI×cy)
def nf.YM(N:Nat)(WO:nf.Pn)(x4:aI)(x6:aI)(x7:cy)(bz:aA)(cI:Int)(cJ:Int):Option (aI×cy):=
 cond (aM cJ (List.length bz:Int)) (cond (aN cJ (List.length bz)) (cond (az (((((List.getD bz cJ.toNat ((0:Int),(a6,aE))).2).2).2).1) (2:Int)) (WO x4 x6 x7 bz (W .i64 (cI+1)) (W .i64 (cJ+1))) (WO x4 x6 x7 bz cI (W .i64 (cJ+1)))) (none)) (some (x4,((0:Int),(cI,((0:Int),())))))
def nf.l41(N:Nat):Nat→nf.Pn
 |0,_,_,_,_,_,_=>none
 |n+1,x4,x6,x7,bz,cI,cJ=>nf.YM N (nf.l41 N n) x4 x6 x7 bz cI cJ
def nf.b(N:Nat)(aee:nf.Pn)(a0:ae)(a1:aI)(a2:fm):Option (aI×cy):=
 cond (az a2.1 14) ((RX N a0 a1.2.2.1 a1.2.2.2.1.1 a2.2.1 a2.2.2.1).bind fun r1=>(dT N r1.2).bind fun r2=>some ((a1.1,(a1.2.1,(r1.1,a1.2.2.2))),r2)) (cond (az a2.1 15) ((fB N a0 a1.2.2.1 a1.2.2.2.1.1).bind fun r3=>(dT N r3.2).bind fun r4=>some ((a1.1,(a1.2.1,(r3.1,((a1.2.2.2.1.1,((2:Int),((0:Int),a1.2.2.2.1.2.2.2))),a1.2.2.2.2)))),r4)) (cond (az a2.1 16) ((pK N a0 a1.2.2.1 a1.2.1).bind fun r5=>some ((a1.1,((W .i64 (a1.2.1+(List.length r5.1:Int))),(a1.2.2.1,((a1.2.2.2.1.1,(a1.2.2.2.1.2.1,(a1.2.2.2.1.2.2.1,(a1.2.2.2.1.2.2.2.1,(r5.1,a1.2.2.2.1.2.2.2.2.2))))),a1.2.2.2.2)))),(r5.2,((List.length r5.1:Int),((0:Int),()))))) (cond (az a2.1 17) ((nc N a0 a1 a2).bind fun r7=>some (r7.1,r7.2)) (cond (az a2.1 18) (cond (az a1.2.2.2.1.2.2.2.1 3) ((dT N (5:Int)).bind fun r8=>some (a1,r8)) ((cP N a0 a1.2.2.1 a1.2.1).bind fun r9=>cond (!az r9.2 0) ((dT N r9.2).bind fun jo=>some (a1,jo)) ((LS N a1 a0.2.2.2.2.1).bind fun mo=>cond (!mo.2) ((dT N (2:Int)).bind fun np=>some (a1,np)) ((m5 N a0 a1.2.2.1).bind fun rR=>some ((a1.1,((W .i64 (a1.2.1+(List.length r9.1:Int))),(a1.2.2.1,((a1.2.2.2.1.1,((3:Int),(mo.1,((W .i64 (a1.2.2.2.1.2.2.2.1+1)),(cn,(r9.1,(cn,(rR.1,a1.2.2.2.1.2.2.2.2.2.2.2.2)))))))),a1.2.2.2.2)))),((0:Int),((List.length r9.1:Int),((0:Int),())))))))) (cond (az a2.1 19) ((R1 N a0 a1.2.2.1 a1.2.2.2.1.2.2.2.2.2.1 a1.2.2.2.1.2.2.2.2.2.2.1 (a1.2.1,(a2.2.2.2.2.2.1,(a2.2.1,(a2.2.2.2.2.2.2.2.1,()))))).bind fun vB=>let v17:Int:=W .i64 (a1.2.1+1);some ((a1.1,(v17,(a1.2.2.1,((a1.2.2.2.1.1,(a1.2.2.2.1.2.1,(a1.2.2.2.1.2.2.1,(a1.2.2.2.1.2.2.2.1,(a1.2.2.2.1.2.2.2.2.1,(a1.2.2.2.1.2.2.2.2.2.1,(vB.1,a1.2.2.2.1.2.2.2.2.2.2.2))))))),a1.2.2.2.2)))),(vB.2,((W .i64 (v17-1)),((0:Int),()))))) (cond (az a2.1 20) ((jk N a0 a1.2.2.1 a1.2.2.2.1.2.2.2.2.2.1 a1.2.2.2.1.2.2.2.2.2.2.1).bind fun Fv=>cond (!az Fv.2.2 0) ((dT N Fv.2.2).bind fun BE=>some (a1,BE)) ((cm N a0 a1.2.2.2.1.2.2.2.2.2.2.2.2.1 a1.2.2.2.1.2.2.2.2.2.2.2.1 Fv.2.1 a1.2.2.2.1.2.2.2.2.2.2.1).bind fun zs=>aee (a1.1,(a1.2.1,(Fv.1,((a1.2.2.2.1.1,((2:Int),((0:Int),(a1.2.2.2.1.2.2.2.1,(a1.2.2.2.1.2.2.2.2.1,(Fv.2.1,(a1.2.2.2.1.2.2.2.2.2.2.1,(a1.2.2.2.1.2.2.2.2.2.2.2.1,(zs.1,a1.2.2.2.1.2.2.2.2.2.2.2.2.2))))))))),a1.2.2.2.2)))) ((0:Int),((0:Int),((a6,(cn,(bc,(bc,(cQ,(cY,())))))),(((0:Int),((0:Int),((0:Int),((0:Int),(cn,(([]:List ((Int)×((List ((Int)×((Int)×(Unit))))×((Int)×((Int)×((Int)×((Int)×(Unit)))))))),(cn,(cQ,(a6,(a6,())))))))))),(((0:Int),((0:Int),(wL,((0:Int),())))),()))))) aW Fv.2.1 (0:Int) (0:Int))) (cond (az a2.1 21) ((gE N a0 a1.2.2.1 a1.2.2.2.1.1 a1.2.2.2.1.2.2.2.2.2.2.2.2.1 a1.2.2.2.1.2.2.2.2.2.2.2.2.2.1).bind fun wG=>cond (!az wG.2.2 0) ((dT N wG.2.2).bind fun L1=>some (a1,L1)) ((zo N a0 wG.1).bind fun WH=>cond (!az WH.2 0) ((dT N WH.2).bind fun BC=>some (a1,BC)) ((kO N WH.1.1 a1.2.2.2.1.1 a2.1).bind fun IC=>some ((a1.1,(a1.2.1,((IC.1,WH.1.2),(((0:Int),((0:Int),((0:Int),((0:Int),(cn,(([]:List ((Int)×((List ((Int)×((Int)×(Unit))))×((Int)×((Int)×((Int)×((Int)×(Unit)))))))),(cn,(cQ,(a6,(a6,())))))))))),(wG.2.1,a1.2.2.2.2.2))))),(IC.2,((0:Int),(wG.2.1.2.1,()))))))) ((dT N (0:Int)).bind fun J2=>some (a1,J2)))))))))
def nf(N:Nat)(a0:ae)(a1:aI)(a2:fm):Option (aI×cy):=nf.b N (nf.l41 N N) a0 a1 a2
abbrev pO.Pk:=ae→aI→fm→aI→cy→Option (aI×cy)
def pO.It(N:Nat)(x3:ae)(x4:aI)(x5:fm)(x6:aI)(x7:cy):Option (aI×cy):=
 (Sa N x4 x5.1).bind fun L1=>cond (!L1) ((dT N (6:Int)).bind fun WH=>some (x4,WH)) ((nf N x3 x4 x5).bind fun BC=>some (BC.1,BC.2))
def pO.OM(N:Nat)(x3:ae)(x4:aI)(x5:fm)(x6:aI)(x7:cy):Option (aI×cy):=pO.It N x3 x4 x5 x6 x7
def pO.b(N:Nat)(Fw:pO.Pk)(a0:ae)(a1:aI)(a2:fm):Option (aI×cy):=
 cond (az a2.1 11) ((kO N a1.2.2.1.1 a2.2.1 a2.1).bind fun r1=>cond (az r1.2 0) (cond (az a2.1 11) ((LA N a0 (r1.1,a1.2.2.1.2) a2.2.1).bind fun r2=>cond (az a1.2.2.2.1.2.1 3) ((ly N a1.2.2.2.1.2.2.2.2.2.2.1 a2.2.1).bind fun r3=>(dT N r1.2).bind fun r4=>some ((a1.1,(a1.2.1,(r2.1,((a1.2.2.2.1.1,(a1.2.2.2.1.2.1,(a1.2.2.2.1.2.2.1,(a1.2.2.2.1.2.2.2.1,(a1.2.2.2.1.2.2.2.2.1,(a1.2.2.2.1.2.2.2.2.2.1,(r3,a1.2.2.2.1.2.2.2.2.2.2.2))))))),a1.2.2.2.2)))),r4)) ((dT N r1.2).bind fun r5=>some ((a1.1,(a1.2.1,(r2.1,a1.2.2.2))),r5))) ((dT N r1.2).bind fun r6=>some ((a1.1,(a1.2.1,((r1.1,a1.2.2.1.2),a1.2.2.2))),r6))) ((dT N r1.2).bind fun r7=>some ((a1.1,(a1.2.1,((r1.1,a1.2.2.1.2),a1.2.2.2))),r7))) (cond (az a2.1 12) ((kO N a1.2.2.1.1 a2.2.1 a2.1).bind fun r8=>cond (az r8.2 0) (cond (az a2.1 11) ((LA N a0 (r8.1,a1.2.2.1.2) a2.2.1).bind fun r9=>cond (az a1.2.2.2.1.2.1 3) ((ly N a1.2.2.2.1.2.2.2.2.2.2.1 a2.2.1).bind fun jo=>(dT N r8.2).bind fun mo=>some ((a1.1,(a1.2.1,(r9.1,((a1.2.2.2.1.1,(a1.2.2.2.1.2.1,(a1.2.2.2.1.2.2.1,(a1.2.2.2.1.2.2.2.1,(a1.2.2.2.1.2.2.2.2.1,(a1.2.2.2.1.2.2.2.2.2.1,(jo,a1.2.2.2.1.2.2.2.2.2.2.2))))))),a1.2.2.2.2)))),mo)) ((dT N r8.2).bind fun np=>some ((a1.1,(a1.2.1,(r9.1,a1.2.2.2))),np))) ((dT N r8.2).bind fun kR=>some ((a1.1,(a1.2.1,((r8.1,a1.2.2.1.2),a1.2.2.2))),kR))) ((dT N r8.2).bind fun rR=>some ((a1.1,(a1.2.1,((r8.1,a1.2.2.1.2),a1.2.2.2))),rR))) (cond (az a2.1 13) ((CL N a1 a2.2.1).bind fun sq=>cond (az sq 0) ((dT N (3:Int)).bind fun vB=>some (a1,vB)) (cond (!az a1.2.2.2.1.2.1 0) ((dT N (6:Int)).bind fun so=>some (a1,so)) ((kO N a1.2.2.1.1 a2.2.1 a2.1).bind fun uW=>cond (!az uW.2 0) ((dT N uW.2).bind fun Fv=>some ((a1.1,(a1.2.1,((uW.1,a1.2.2.1.2),a1.2.2.2))),Fv)) ((LS N (a1.1,(a1.2.1,((uW.1,a1.2.2.1.2),a1.2.2.2))) a0.2.2.2.1).bind fun BE=>cond (!BE.2) ((dT N (2:Int)).bind fun zs=>some ((a1.1,(a1.2.1,((uW.1,a1.2.2.1.2),a1.2.2.2))),zs)) (some ((a1.1,(a1.2.1,((uW.1,a1.2.2.1.2),((a2.2.1,((1:Int),(BE.1,((0:Int),(cn,(([]:List ((Int)×((List ((Int)×((Int)×(Unit))))×((Int)×((Int)×((Int)×((Int)×(Unit)))))))),(cn,(cQ,(a6,(a6,())))))))))),a1.2.2.2.2)))),aW)))))) (cond (az a2.1 19) ((CL N a1 a2.2.1).bind fun G4=>cond (az G4 0) ((dT N (3:Int)).bind fun zt=>some (a1,zt)) ((CL N a1 a2.2.1).bind fun zQ=>cond (!az zQ 1) ((dT N (7:Int)).bind fun Dg=>some (a1,Dg)) (Fw a0 a1 a2 ((0:Int),((0:Int),((a6,(cn,(bc,(bc,(cQ,(cY,())))))),(((0:Int),((0:Int),((0:Int),((0:Int),(cn,(([]:List ((Int)×((List ((Int)×((Int)×(Unit))))×((Int)×((Int)×((Int)×((Int)×(Unit)))))))),(cn,(cQ,(a6,(a6,())))))))))),(((0:Int),((0:Int),(wL,((0:Int),())))),()))))) aW))) (Fw a0 a1 a2 ((0:Int),((0:Int),((a6,(cn,(bc,(bc,(cQ,(cY,())))))),(((0:Int),((0:Int),((0:Int),((0:Int),(cn,(([]:List ((Int)×((List ((Int)×((Int)×(Unit))))×((Int)×((Int)×((Int)×((Int)×(Unit)))))))),(cn,(cQ,(a6,(a6,())))))))))),(((0:Int),((0:Int),(wL,((0:Int),())))),()))))) aW))))
def pO(N:Nat)(a0:ae)(a1:aI)(a2:fm):Option (aI×cy):=pO.b N (pO.OM N) a0 a1 a2
def Sd(N:Nat)(a0:ae)(a1:aI)(a2:fm):Option (aI×cy):=
 cond (az a2.1 1) ((gC N a1.2.2.1.1 a2.2.1).bind fun r1=>(dT N r1.2).bind fun r2=>some ((a1.1,(a1.2.1,((r1.1,a1.2.2.1.2),a1.2.2.2))),r2)) (cond (az a2.1 2) ((eu N a1.2.2.1.1 a1.2.2.1.2.1 (a2.2.2.1,(a2.2.1,(a2.2.2.2.2.1,((0:Int),()))))).bind fun r3=>(dT N r3.2).bind fun r4=>some ((a1.1,(a1.2.1,((a1.2.2.1.1,(r3.1,a1.2.2.1.2.2)),a1.2.2.2))),r4)) (cond (az a2.1 3) ((O0 N a1 a2.2.2.1).bind fun r5=>cond (!r5) ((dT N (3:Int)).bind fun r6=>some (a1,r6)) ((LV N a1 (1:Int) (0:Int) (5:Int) a2.2.2.1 a2.2.2.2.2.2.2.1).bind fun r7=>some (r7.1,r7.2))) (cond (az a2.1 4) ((RV N a0 a1.2.2.1 a2.2.2.1 a2.2.2.2.2.2.2.1).bind fun r8=>(dT N r8.2).bind fun r9=>some ((a1.1,(a1.2.1,(r8.1,a1.2.2.2))),r9)) (cond (az a2.1 5) ((CL N a1 a2.2.1).bind fun jo=>cond (az jo 0) ((dT N (3:Int)).bind fun mo=>some (a1,mo)) ((CL N a1 a2.2.1).bind fun np=>cond (!az np 1) ((dT N (7:Int)).bind fun kR=>some (a1,kR)) ((LV N a1 (1:Int) (0:Int) (6:Int) a2.2.1 a2.2.2.2.2.2.2.1).bind fun rR=>some (rR.1,rR.2)))) (cond (az a2.1 22) ((CL N a1 a2.2.1).bind fun sq=>cond (az sq 0) ((dT N (3:Int)).bind fun vB=>some (a1,vB)) ((oU N a1.2.2.1.2.2.1 (7:Int) a2.2.1).bind fun so=>(fY N so).bind fun uW=>(Mg N uW).bind fun Fv=>(fY N a2.2.2.2.2.2.2.1).bind fun BE=>(GW N BE Fv).bind fun zs=>cond (aM 0 zs) ((dT N (9:Int)).bind fun G4=>some (a1,G4)) ((LV N a1 (1:Int) (0:Int) (7:Int) a2.2.1 a2.2.2.2.2.2.2.1).bind fun zt=>some (zt.1,zt.2)))) (cond (az a2.1 6) ((mZ N a1.2.2.1.2.1 a2.2.2.1 a2.2.2.2.2.2.2.1).bind fun zQ=>(dT N zQ.2).bind fun Dg=>some ((a1.1,(a1.2.1,((a1.2.2.1.1,(zQ.1,a1.2.2.1.2.2)),a1.2.2.2))),Dg)) (cond (az a2.1 7) ((iN N a0 a1.2.2.1 (a1.2.1,(a2.2.2.1,(a2.2.2.2.1,(a2.2.2.2.2.1,(a2.2.2.2.2.2.2.1,(a2.2.2.2.2.2.2.2.1,()))))))).bind fun wG=>let v27:Int:=W .i64 (a1.2.1+1);some ((a1.1,(v27,(wG.1,a1.2.2.2))),(wG.2.2.2,((W .i64 (v27-1)),((W .i64 (a2.2.2.2.2.2.2.1-wG.2.2.1)),()))))) (cond (az a2.1 8) ((O0 N a1 a2.2.2.1).bind fun IC=>cond (!IC) ((dT N (3:Int)).bind fun J2=>some (a1,J2)) ((m2 N a1.2.2.1.2.2.2.2.2.1 a2.2.2.1 a2.2.2.2.2.2.1).bind fun r32=>(dT N r32.2).bind fun r33=>some ((a1.1,(a1.2.1,((a1.2.2.1.1,(a1.2.2.1.2.1,(a1.2.2.1.2.2.1,(a1.2.2.1.2.2.2.1,(a1.2.2.1.2.2.2.2.1,(r32.1,a1.2.2.1.2.2.2.2.2.2)))))),a1.2.2.2))),r33))) (cond (az a2.1 9) ((RU N a0 a1.2.2.1 a2.2.2.2.1 a2.2.2.2.2.2.2.2.1).bind fun O5=>cond (az O5.2.2 0) (cond (!az a1.2.2.2.1.2.1 0) ((c4 N a1.2.2.2.1.2.2.2.2.2.2.2.2.2.1 O5.2.1).bind fun r35=>(dT N r35.2).bind fun r36=>some ((a1.1,(a1.2.1,(O5.1,((a1.2.2.2.1.1,(a1.2.2.2.1.2.1,(a1.2.2.2.1.2.2.1,(a1.2.2.2.1.2.2.2.1,(a1.2.2.2.1.2.2.2.2.1,(a1.2.2.2.1.2.2.2.2.2.1,(a1.2.2.2.1.2.2.2.2.2.2.1,(a1.2.2.2.1.2.2.2.2.2.2.2.1,(a1.2.2.2.1.2.2.2.2.2.2.2.2.1,(r35.1,a1.2.2.2.1.2.2.2.2.2.2.2.2.2.2)))))))))),a1.2.2.2.2)))),r36)) ((dT N O5.2.2).bind fun r37=>some ((a1.1,(a1.2.1,(O5.1,a1.2.2.2))),r37))) ((dT N O5.2.2).bind fun r38=>some ((a1.1,(a1.2.1,(O5.1,a1.2.2.2))),r38))) (cond (az a2.1 10) ((LS N a1 a2.2.2.2.2.2.2.1).bind fun r39=>cond (!r39.2) ((dT N (2:Int)).bind fun r40=>some (a1,r40)) (some ((r39.1,a1.2),aW))) ((pO N a0 a1 a2).bind fun r41=>some (r41.1,r41.2))))))))))))
def Sf(N:Nat)(a0:ae)(a1:aI)(a2:fm):Option (aI×cy):=
 (ij N a0).bind fun r1=>cond (!r1) (some (a1,((1:Int),bP))) ((mY N a2).bind fun r2=>cond (!r2) (some (a1,((1:Int),bP))) ((Sd N a0 a1 a2).bind fun r3=>cond (!az r3.2.1 0) (some (a1,(r3.2.1,bP))) (some (r3.1,r3.2))))
abbrev zq.ed:=fE→ae→aI→aI→aj→Int→Option (aI×aj)
def zq.mg(N:Nat)(ej:zq.ed)(x1:fE)(x2:ae)(x4:aI)(x6:aI)(x8:aj)(x9:Int):Option (aI×aj):=
 cond (aM x9 (List.length x1:Int)) (cond (aN x9 (List.length x1)) ((Sf N x2 x6 (List.getD x1 x9.toNat zz8)).bind fun r3=>cond (small (List.length x8+List.length ([r3.2]))) (ej x1 x2 x4 r3.1 (x8++([r3.2])) (W .i64 (x9+1))) (none)) (none)) (some (x6,x8))
def zq.l6(N:Nat):Nat→zq.ed
 |0,_,_,_,_,_,_=>none
 |n+1,x1,x2,x4,x6,x8,x9=>zq.mg N (zq.l6 N n) x1 x2 x4 x6 x8 x9
def zq.b(N:Nat)(oj:zq.ed)(a0:ae)(a1:fE):Option (aI×aj):=
 (YO N a0).bind fun r1=>cond (!az r1.2 0) (some (((0:Int),((0:Int),((a6,(cn,(bc,(bc,(cQ,(cY,())))))),(((0:Int),((0:Int),((0:Int),((0:Int),(cn,(([]:List ((Int)×((List ((Int)×((Int)×(Unit))))×((Int)×((Int)×((Int)×((Int)×(Unit)))))))),(cn,(cQ,(a6,(a6,())))))))))),(((0:Int),((0:Int),(wL,((0:Int),())))),()))))),[])) (oj a1 a0 ((0:Int),((0:Int),((a6,(cn,(bc,(bc,(cQ,(cY,())))))),(((0:Int),((0:Int),((0:Int),((0:Int),(cn,(([]:List ((Int)×((List ((Int)×((Int)×(Unit))))×((Int)×((Int)×((Int)×((Int)×(Unit)))))))),(cn,(cQ,(a6,(a6,())))))))))),(((0:Int),((0:Int),(wL,((0:Int),())))),()))))) r1.1 ([]) (0:Int))
def zq(N:Nat)(a0:ae)(a1:fE):Option (aI×aj):=zq.b N (zq.l6 N N) a0 a1
def F28(N:Nat)(a0:aK)(a1:ae)(a2:Int):Option (aI×aK):=
 (xK N a0 a1 a2).bind fun r1=>(n4 N r1.2 (2:Int)).bind fun r2=>let v3:Int:=W .i64 ((1:Int)+r2.1);cond (small (List.length r1.1+List.length ([((11:Int),(v3,eg)),((13:Int),(v3,eg))]))) (let v4:List ((Int)×((Int)×((Int)×((Int)×((Int)×((Int)×((Int)×((Int)×(Unit))))))))):=r1.1++([((11:Int),(v3,eg)),((13:Int),(v3,eg))]);(xj N r2.2 a1).bind fun r5=>cond (small (List.length v4+List.length r5.1)) (let v6:List ((Int)×((Int)×((Int)×((Int)×((Int)×((Int)×((Int)×((Int)×(Unit))))))))):=v4++r5.1;cond (small (List.length v6+List.length ([((10:Int),((0:Int),((0:Int),((0:Int),((0:Int),((0:Int),((2:Int),((0:Int),())))))))),((15:Int),We)]))) (let v7:List ((Int)×((Int)×((Int)×((Int)×((Int)×((Int)×((Int)×((Int)×(Unit))))))))):=v6++([((10:Int),((0:Int),((0:Int),((0:Int),((0:Int),((0:Int),((2:Int),((0:Int),())))))))),((15:Int),We)]);(xj N r5.2 a1).bind fun r8=>cond (small (List.length v7+List.length r8.1)) ((zq N a1 (v7++r8.1)).bind fun jo=>some (jo.1,r8.2)) (none)) (none)) (none)) (none)
abbrev nz.iw:=aK→ae→aI→ae→aI→aA→ay→Int→Int→Option (ae×aI×aA×ay×aK)
abbrev nz.ed:=aK→ae→aI→ae→aI→aA→ay→Int→Option (ae×aI×aA×ay×aK)
def nz.sd(N:Nat)(ej:nz.ed)(nj:nz.iw)(x0:aK)(x2:ae)(x3:aI)(x6:ae)(x7:aI)(x8:aA)(aT:ay)(aL:Int)(aP:Int):Option (ae×aI×aA×ay×aK):=
 cond (bV aP 4) (cond (aM (List.length aT:Int) 40) ((Ik N x0 (3:Int)).bind fun r6=>cond (!r6.1) (let v7:Int:=W .i64 ((100:Int)+(List.length aT:Int));cond (aN aL (List.length x8)) ((n4 N r6.2 (9:Int)).bind fun r8=>let v9:Int:=W .i64 (r8.1-6);cond (small (List.length aT+List.length ([(v7,((List.getD x8 aL.toNat ((0:Int),(a6,aE))).1,(aP,(v9,()))))]))) (nj r8.2 x2 x3 x6 x7 x8 (aT++([(v7,((List.getD x8 aL.toNat ((0:Int),(a6,aE))).1,(aP,(v9,()))))])) aL (W .i64 (aP+1))) (none)) (none)) (nj r6.2 x2 x3 x6 x7 x8 aT aL (W .i64 (aP+1)))) ((Ik N x0 (12:Int)).bind fun kR=>cond (kR.1) (cond (aN aL (List.length x8)) (ej kR.2 x2 x3 x6 x7 (List.set x8 aL.toNat ((List.getD x8 aL.toNat ((0:Int),(a6,aE))).1,(((List.getD x8 aL.toNat ((0:Int),(a6,aE))).2).1,((((List.getD x8 aL.toNat ((0:Int),(a6,aE))).2).2).1,((3:Int),((((List.getD x8 aL.toNat ((0:Int),(a6,aE))).2).2).2).2))))) aT (W .i64 (aL+1))) (none)) (ej kR.2 x2 x3 x6 x7 x8 aT (W .i64 (aL+1))))) ((Ik N x0 (12:Int)).bind fun so=>cond (so.1) (cond (aN aL (List.length x8)) (ej so.2 x2 x3 x6 x7 (List.set x8 aL.toNat ((List.getD x8 aL.toNat ((0:Int),(a6,aE))).1,(((List.getD x8 aL.toNat ((0:Int),(a6,aE))).2).1,((((List.getD x8 aL.toNat ((0:Int),(a6,aE))).2).2).1,((3:Int),((((List.getD x8 aL.toNat ((0:Int),(a6,aE))).2).2).2).2))))) aT (W .i64 (aL+1))) (none)) (ej so.2 x2 x3 x6 x7 x8 aT (W .i64 (aL+1))))
def nz.l9(N:Nat)(ej:nz.ed):Nat→nz.iw
 |0,_,_,_,_,_,_,_,_,_=>none
 |n+1,x0,x2,x3,x6,x7,x8,aT,aL,aP=>nz.sd N ej (nz.l9 N ej n) x0 x2 x3 x6 x7 x8 aT aL aP
def nz.mg(N:Nat)(tc:nz.iw)(ej:nz.ed)(x0:aK)(x2:ae)(x3:aI)(x6:ae)(x7:aI)(x8:aA)(aT:ay)(aL:Int):Option (ae×aI×aA×ay×aK):=
 cond (aM aL (List.length x8:Int)) (tc x0 x2 x3 x6 x7 x8 aT aL (1:Int)) (cond (aM 0 (List.length aT:Int)) ((Ik N x0 (20:Int)).bind fun zs=>cond (zs.1) (cond (aN 0 (List.length aT)) (some (x6,x7,x8,(List.set aT (0:Int).toNat ((List.getD aT (0:Int).toNat aE).1,(((List.getD aT (0:Int).toNat aE).2).1,((9:Int),(((List.getD aT (0:Int).toNat aE).2).2).2)))),zs.2)) (none)) (some (x6,x7,x8,aT,zs.2))) (some (x6,x7,x8,aT,x0)))
def nz.l6(N:Nat):Nat→nz.ed
 |0,_,_,_,_,_,_,_,_=>none
 |n+1,x0,x2,x3,x6,x7,x8,aT,aL=>nz.mg N (nz.l9 N (nz.l6 N n) N) (nz.l6 N n) x0 x2 x3 x6 x7 x8 aT aL
def nz.b(N:Nat)(oj:nz.ed)(a0:aK):Option (ae×aI×aA×ay×aK):=
 (pM N a0).bind fun r1=>(F28 N r1.2 r1.1 (20:Int)).bind fun r2=>(cP N r1.1 r2.1.2.2.1 r2.1.2.1).bind fun r3=>oj r2.2 (cn,eg) ((0:Int),((0:Int),((a6,(cn,(bc,(bc,(cQ,(cY,())))))),(((0:Int),((0:Int),((0:Int),((0:Int),(cn,(([]:List ((Int)×((List ((Int)×((Int)×(Unit))))×((Int)×((Int)×((Int)×((Int)×(Unit)))))))),(cn,(cQ,(a6,(a6,())))))))))),(((0:Int),((0:Int),(wL,((0:Int),())))),()))))) r1.1 r2.1 r3.1 ([]) (0:Int)
def nz(N:Nat)(a0:aK):Option (ae×aI×aA×ay×aK):=nz.b N (nz.l6 N N) a0
abbrev ln.aU:=ax→ax→Int→Option (Bool)
def ln.ca(N:Nat)(bg:ln.aU)(x0:ax)(x1:ax)(x5:Int):Option (Bool):=
 cond (aM x5 (List.length x0:Int)) (cond (aN x5 (List.length x0)) (cond (aN x5 (List.length x1)) (cond (!(kV (.pair (.int .i64) (.pair (.int .i64) .unit)) (List.getD x0 x5.toNat bP) (List.getD x1 x5.toNat bP))) (some false) (bg x0 x1 (W .i64 (x5+1)))) (none)) (none)) (some true)
def ln.l4(N:Nat):Nat→ln.aU
 |0,_,_,_=>none
 |n+1,x0,x1,x5=>ln.ca N (ln.l4 N n) x0 x1 x5
def ln.b(N:Nat)(cN:ln.aU)(a0:ax)(a1:ax):Option (Bool):=
 cond (!az (List.length a0:Int) (List.length a1:Int)) (some false) (cN a0 a1 (0:Int))
def ln(N:Nat)(a0:ax)(a1:ax):Option (Bool):=ln.b N (ln.l4 N N) a0 a1
abbrev lq.aU:=ay→ay→Int→Option (Bool)
def lq.ca(N:Nat)(bg:lq.aU)(x0:ay)(x1:ay)(x5:Int):Option (Bool):=
 cond (aM x5 (List.length x0:Int)) (cond (aN x5 (List.length x0)) (cond (aN x5 (List.length x1)) (cond (!(kV (.pair (.int .i64) (.pair (.int .i64) (.pair (.int .i64) (.pair (.int .i64) .unit)))) (List.getD x0 x5.toNat aE) (List.getD x1 x5.toNat aE))) (some false) (bg x0 x1 (W .i64 (x5+1)))) (none)) (none)) (some true)
def lq.l4(N:Nat):Nat→lq.aU
 |0,_,_,_=>none
 |n+1,x0,x1,x5=>lq.ca N (lq.l4 N n) x0 x1 x5
def lq.b(N:Nat)(cN:lq.aU)(a0:ay)(a1:ay):Option (Bool):=
 cond (!az (List.length a0:Int) (List.length a1:Int)) (some false) (cN a0 a1 (0:Int))
def lq(N:Nat)(a0:ay)(a1:ay):Option (Bool):=lq.b N (lq.l4 N N) a0 a1
abbrev xe.aU:=aj→aj→Int→Option (Bool)
def xe.ca(N:Nat)(bg:xe.aU)(x0:aj)(x1:aj)(x5:Int):Option (Bool):=
 cond (aM x5 (List.length x0:Int)) (cond (aN x5 (List.length x0)) (cond (aN x5 (List.length x1)) (cond (!(kV (.pair (.int .i64) (.pair (.int .i64) (.pair (.int .i64) .unit))) (List.getD x0 x5.toNat aW) (List.getD x1 x5.toNat aW))) (some false) (bg x0 x1 (W .i64 (x5+1)))) (none)) (none)) (some true)
def xe.l4(N:Nat):Nat→xe.aU
 |0,_,_,_=>none
 |n+1,x0,x1,x5=>xe.ca N (xe.l4 N n) x0 x1 x5
def xe.b(N:Nat)(cN:xe.aU)(a0:aj)(a1:aj):Option (Bool):=
 cond (!az (List.length a0:Int) (List.length a1:Int)) (some false) (cN a0 a1 (0:Int))
def xe(N:Nat)(a0:aj)(a1:aj):Option (Bool):=xe.b N (xe.l4 N N) a0 a1
abbrev xf.aU:=aj→aj→Int→Option (Bool)
def xf.ca(N:Nat)(bg:xf.aU)(x0:aj)(x1:aj)(x5:Int):Option (Bool):=
 cond (aM x5 (List.length x0:Int)) (cond (aN x5 (List.length x0)) (cond (aN x5 (List.length x1)) (cond (!(kV (.pair (.int .i64) (.pair (.int .i64) (.pair (.int .i64) .unit))) (List.getD x0 x5.toNat aW) (List.getD x1 x5.toNat aW))) (some false) (bg x0 x1 (W .i64 (x5+1)))) (none)) (none)) (some true)
def xf.l4(N:Nat):Nat→xf.aU
 |0,_,_,_=>none
 |n+1,x0,x1,x5=>xf.ca N (xf.l4 N n) x0 x1 x5
def xf.b(N:Nat)(cN:xf.aU)(a0:aj)(a1:aj):Option (Bool):=
 cond (!az (List.length a0:Int) (List.length a1:Int)) (some false) (cN a0 a1 (0:Int))
def xf(N:Nat)(a0:aj)(a1:aj):Option (Bool):=xf.b N (xf.l4 N N) a0 a1
abbrev xh.aU:=(List (Int))→(List (Int))→Int→Option (Bool)
def xh.ca(N:Nat)(bg:xh.aU)(x0:List (Int))(x1:List (Int))(x5:Int):Option (Bool):=
 cond (aM x5 (List.length x0:Int)) (cond (aN x5 (List.length x0)) (cond (aN x5 (List.length x1)) (cond (!az (List.getD x0 x5.toNat (0:Int)) (List.getD x1 x5.toNat (0:Int))) (some false) (bg x0 x1 (W .i64 (x5+1)))) (none)) (none)) (some true)
def xh.l4(N:Nat):Nat→xh.aU
 |0,_,_,_=>none
 |n+1,x0,x1,x5=>xh.ca N (xh.l4 N n) x0 x1 x5
def xh.b(N:Nat)(cN:xh.aU)(a0:List (Int))(a1:List (Int)):Option (Bool):=
 cond (!az (List.length a0:Int) (List.length a1:Int)) (some false) (cN a0 a1 (0:Int))
def xh(N:Nat)(a0:List (Int))(a1:List (Int)):Option (Bool):=xh.b N (xh.l4 N N) a0 a1
abbrev xg.aU:=aZ→aZ→Int→Option (Bool)
def xg.ca(N:Nat)(bg:xg.aU)(x0:aZ)(x1:aZ)(x5:Int):Option (Bool):=
 cond (aM x5 (List.length x0:Int)) (cond (aN x5 (List.length x0)) (cond (aN x5 (List.length x1)) (cond (!(kV (.pair (.int .i64) (.pair (.int .i64) (.pair (.int .i64) (.pair (.int .i64) (.pair (.int .i64) (.pair (.int .i64) .unit)))))) (List.getD x0 x5.toNat eg) (List.getD x1 x5.toNat eg))) (some false) (bg x0 x1 (W .i64 (x5+1)))) (none)) (none)) (some true)
def xg.l4(N:Nat):Nat→xg.aU
 |0,_,_,_=>none
 |n+1,x0,x1,x5=>xg.ca N (xg.l4 N n) x0 x1 x5
def xg.b(N:Nat)(cN:xg.aU)(a0:aZ)(a1:aZ):Option (Bool):=
 cond (!az (List.length a0:Int) (List.length a1:Int)) (some false) (cN a0 a1 (0:Int))
def xg(N:Nat)(a0:aZ)(a1:aZ):Option (Bool):=xg.b N (xg.l4 N N) a0 a1
def F57(N:Nat)(a0:ah)(a1:ah):Option (Bool):=
 (ln N a0.1 a1.1).bind fun r1=>cond (r1) ((lq N a0.2.1 a1.2.1).bind fun r2=>cond (r2) ((xe N a0.2.2.1 a1.2.2.1).bind fun r3=>cond (r3) ((xf N a0.2.2.2.1 a1.2.2.2.1).bind fun r4=>cond (r4) ((xh N a0.2.2.2.2.1 a1.2.2.2.2.1).bind fun r5=>cond (r5) ((xg N a0.2.2.2.2.2.1 a1.2.2.2.2.2.1).bind fun r6=>some r6) (some false)) (some false)) (some false)) (some false)) (some false)
abbrev mR.Po:=aA→aA→Int→cF→cF→Int→Option (Bool)
abbrev mR.aU:=aA→aA→Int→Option (Bool)
def mR.Ru(N:Nat)(bg:mR.aU)(aef:mR.Po)(x0:aA)(x1:aA)(x5:Int)(x6:cF)(x7:cF)(x8:Int):Option (Bool):=
 cond (aM x8 (List.length x6.2.1:Int)) (cond (aN x8 (List.length x6.2.1)) (cond (aN x8 (List.length x7.2.1)) (cond (!(kV (.pair (.int .i64) (.pair (.int .i64) .unit)) (List.getD x6.2.1 x8.toNat bP) (List.getD x7.2.1 x8.toNat bP))) (some false) (aef x0 x1 x5 x6 x7 (W .i64 (x8+1)))) (none)) (none)) (bg x0 x1 (W .i64 (x5+1)))
def mR.WA(N:Nat)(bg:mR.aU):Nat→mR.Po
 |0,_,_,_,_,_,_=>none
 |n+1,x0,x1,x5,x6,x7,x8=>mR.Ru N bg (mR.WA N bg n) x0 x1 x5 x6 x7 x8
def mR.ca(N:Nat)(aeg:mR.Po)(bg:mR.aU)(x0:aA)(x1:aA)(x5:Int):Option (Bool):=
 cond (aM x5 (List.length x0:Int)) (cond (aN x5 (List.length x0)) (cond (aN x5 (List.length x1)) (cond (!az ((List.getD x0 x5.toNat ((0:Int),(a6,aE))).1) ((List.getD x1 x5.toNat ((0:Int),(a6,aE))).1)) (some false) (cond (!az ((((List.getD x0 x5.toNat ((0:Int),(a6,aE))).2).2).1) ((((List.getD x1 x5.toNat ((0:Int),(a6,aE))).2).2).1)) (some false) (cond (!az (((((List.getD x0 x5.toNat ((0:Int),(a6,aE))).2).2).2).1) (((((List.getD x1 x5.toNat ((0:Int),(a6,aE))).2).2).2).1)) (some false) (cond (!az ((((((List.getD x0 x5.toNat ((0:Int),(a6,aE))).2).2).2).2).1) ((((((List.getD x1 x5.toNat ((0:Int),(a6,aE))).2).2).2).2).1)) (some false) (cond (!az (((((((List.getD x0 x5.toNat ((0:Int),(a6,aE))).2).2).2).2).2).1) (((((((List.getD x1 x5.toNat ((0:Int),(a6,aE))).2).2).2).2).2).1)) (some false) (cond (!az (List.length (((List.getD x0 x5.toNat ((0:Int),(a6,aE))).2).1):Int) (List.length (((List.getD x1 x5.toNat ((0:Int),(a6,aE))).2).1):Int)) (some false) (aeg x0 x1 x5 (List.getD x0 x5.toNat ((0:Int),(a6,aE))) (List.getD x1 x5.toNat ((0:Int),(a6,aE))) (0:Int)))))))) (none)) (none)) (some true)
def mR.l4(N:Nat):Nat→mR.aU
 |0,_,_,_=>none
 |n+1,x0,x1,x5=>mR.ca N (mR.WA N (mR.l4 N n) N) (mR.l4 N n) x0 x1 x5
def mR.b(N:Nat)(cN:mR.aU)(a0:aA)(a1:aA):Option (Bool):=
 cond (!az (List.length a0:Int) (List.length a1:Int)) (some false) (cN a0 a1 (0:Int))
def mR(N:Nat)(a0:aA)(a1:aA):Option (Bool):=mR.b N (mR.l4 N N) a0 a1
def F15(N:Nat)(a0:ae)(a1:ah)(a2:aA)(a3:ay)(a4:Int):Option (Bool):=
 (lP N a0 a1 a2 a3).bind fun r1=>(jk N a0 a1 a2 a3).bind fun r2=>(ti N a3 a4).bind fun r3=>(sj N a3 a4).bind fun r4=>cond (az r1.2.2 r2.2.2) ((F57 N r1.1 r2.1).bind fun r5=>cond (r5) ((mR N r1.2.1 r2.2.1).bind fun r6=>cond (r6) (cond (kV (.pair (.int .i64) (.pair (.int .i64) (.pair (.int .i64) (.pair (.int .i64) .unit)))) r3.1 r4.1) (some (kV .bool r3.2 r4.2)) (some false)) (some false)) (some false)) (some false)
abbrev F3.ed:=ae→aI→aA→ay→Int→Option (Bool)
def F3.mg(N:Nat)(ej:F3.ed)(x4:ae)(x5:aI)(x6:aA)(x7:ay)(x8:Int):Option (Bool):=
 cond (aM x8 (List.length x6:Int)) (cond (aN x8 (List.length x6)) ((F15 N x4 x5.2.2.1 x6 x7 ((List.getD x6 x8.toNat ((0:Int),(a6,aE))).1)).bind fun r5=>cond (!r5) (some false) (ej x4 x5 x6 x7 (W .i64 (x8+1)))) (none)) ((F15 N x4 x5.2.2.1 x6 cn (1:Int)).bind fun r7=>some r7)
def F3.l6(N:Nat):Nat→F3.ed
 |0,_,_,_,_,_=>none
 |n+1,x4,x5,x6,x7,x8=>F3.mg N (F3.l6 N n) x4 x5 x6 x7 x8
def F3.b(N:Nat)(oj:F3.ed)(a0:List (Int)):Option (Bool):=
 (F12 N).bind fun r1=>cond (!r1) (some false) ((F13 N a0).bind fun r2=>(nz N r2).bind fun r3=>oj r3.1 r3.2.1 r3.2.2.1 r3.2.2.2.1 (0:Int))
def F3(N:Nat)(a0:List (Int)):Option (Bool):=F3.b N (F3.l6 N N) a0
end
end VM.F
