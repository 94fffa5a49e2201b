/- A part of the proof of LotAll of layer 23: the functions as equations between values, printed by a program. -/
import Derived.Test.YthnjnpjmbabcaaaGreatVm0
set_option linter.all false
open List renaming length→ℓ, getD→γ
namespace VM.F
open Go VM
set_option maxRecDepth 100000
noncomputable section
variable (N:Nat)
abbrev oq:Ty:=(.pair .str .unit)
abbrev gm:Ty:=(.pair .str (.pair (.int .u64) .unit))
abbrev mG:Ty:=(.pair (.int .i64) (.pair (.int .i64) .unit))
abbrev cZ:Ty:=(.pair (.int .i64) (.pair (.int .u64) .unit))
abbrev cD:Ty:=(.pair .bool (.pair (.slice (.int .u64)) .unit))
abbrev Ka:Ty:=(.pair (.slice (.int .u64)) (.pair (.int .i64) .unit))
abbrev JO:Ty:=(.pair (.int .i64) mG)
abbrev ot:Ty:=(.pair (.int .i64) (.pair (.int .i64) (.pair .bool (.pair (.int .u8) .unit))))
abbrev A4:Ty:=(.pair (.int .i64) JO)
abbrev Up:Ty:=(.pair (.int .i64) A4)
abbrev Kb:Ty:=(.pair (.int .i64) (.pair (.int .i64) (.pair cD .unit)))
abbrev MD:Ty:=(.pair (.int .i64) Up)
abbrev YC:Ty:=(.pair (.int .i64) (.pair (.int .i64) MD))
abbrev gH:Ty:=(.pair (.int .i64) (.pair (.slice mG) A4))
abbrev wk:Ty:=(.pair (.int .i64) (.pair (.int .i64) (.pair (.slice Up) (.pair (.int .i64) .unit))))
abbrev aU:Ty:=(.pair (.slice A4) MD)
abbrev fc:Ty:=(.pair (.slice mG) (.pair (.slice A4) (.pair (.slice JO) (.pair (.slice JO) (.pair (.slice (.int .i64)) (.pair (.slice MD) .unit))))))
abbrev tb:Ty:=(.pair (.int .i64) (.pair (.int .i64) (.pair (.int .i64) (.pair (.int .i64) (.pair (.slice A4) (.pair (.slice gH) (.pair (.slice A4) (.pair (.slice (.int .i64)) (.pair (.slice mG) (.pair (.slice mG) .unit))))))))))
abbrev AY:Ty:=(.pair (.int .i64) (.pair (.int .i64) (.pair fc (.pair tb (.pair wk .unit)))))
abbrev KO:=Ty.den oq
abbrev KP:=List (Ty.den oq)
abbrev Dp:=Ty.den gm
abbrev Dq:=List (Ty.den gm)
abbrev mO:=Ty.den mG
abbrev aw:=List (Ty.den mG)
abbrev aM:=Ty.den cZ
abbrev mQ:=List (Ty.den cZ)
abbrev ay:=Ty.den cD
abbrev FL:=List (Ty.den cD)
abbrev JX:=Ty.den Ka
abbrev YD:=List (Ty.den Ka)
abbrev CT:=Ty.den JO
abbrev bo:=List (Ty.den JO)
abbrev KQ:=Ty.den ot
abbrev KR:=List (Ty.den ot)
abbrev lD:=Ty.den A4
abbrev bN:=List (Ty.den A4)
abbrev adN:=Ty.den Up
abbrev adO:=List (Ty.den Up)
abbrev YE:=Ty.den Kb
abbrev EG:=List (Ty.den Kb)
abbrev Et:=Ty.den MD
abbrev n9:=List (Ty.den MD)
abbrev adP:=Ty.den YC
abbrev adQ:=List (Ty.den YC)
abbrev dt:=Ty.den gH
abbrev aA:=List (Ty.den gH)
abbrev Uq:=Ty.den wk
abbrev Ur:=List (Ty.den wk)
abbrev ak:=Ty.den aU
abbrev Us:=List (Ty.den aU)
abbrev bf:=Ty.den fc
abbrev YF:=List (Ty.den fc)
abbrev SJ:=Ty.den tb
abbrev SK:=List (Ty.den tb)
abbrev Mw:=Ty.den AY
abbrev WZ:=List (Ty.den AY)
def WY(N:Nat):Option (ak×bf):=
 some (([(0,(100,(0,(2,())))),(1,(7,bE))],(0,(0,(0,(0,(3,(0,()))))))),([(1,(1,()))],([(1,(1,(1,(0,()))))],(W6,([(0,(0,(7,()))),(0,(1,((-2),()))),(1,(0,((-7),()))),(1,(1,(2,())))],([100,7],(W7,())))))))
def vz(N:Nat)(a0 a1 a2:Int):Option Bool:=
 cond (c4 a1 a0) (some (c4 a0 a2)) (some false)
abbrev tM.bK:=ak→bN→Int→Int→Option Bool
def tM.dF(cS:tM.bK)(x1:ak)(ct:bN)(dW iN:Int):Option Bool:=
 cond (aX iN dW) (cond (bB iN (ℓ ct)) ((vz N (γ ct iN.toNat aZ).1 0 3).bind λr3=>cond (!r3) (some false) ((vz N (γ ct iN.toNat aZ).2.1 1 1000000000000).bind λr4=>cond (!r4) (some false) ((vz N (γ ct iN.toNat aZ).2.2.1 0 1000000000).bind λr5=>cond (!r5) (some false) ((vz N (γ ct iN.toNat aZ).2.2.2.1 0 1000000000).bind λr6=>cond (!r6) (some false) (cS x1 ct dW (W .i64 (iN+1))))))) none) (cond (c4 0 x1.2.1) ((vz N x1.2.2.1 0 4).bind λr8=>cond (r8) ((vz N x1.2.2.2.1 0 1000000).bind λr9=>cond (r9) ((vz N x1.2.2.2.2.1 0 1000000).bind λDr=>cond (Dr) ((vz N x1.2.2.2.2.2.1 1 4611686018427387904).bind λEN=>cond (EN) (some (c4 0 x1.2.2.2.2.2.2.1)) (some false)) (some false)) (some false)) (some false)) (some false))
def tM.l4(N:Nat):Nat→tM.bK
 |0,_,_,_,_=>none
 |n+1,x1,ct,dW,iN=>tM.dF N (tM.l4 N n) x1 ct dW iN
def tM.b(eS:tM.bK)(a0:ak):Option Bool:=
 (vz N (ℓ a0.1) 1 6).bind λr1=>cond (!r1) (some false) (eS a0 a0.1 (ℓ a0.1) 0)
def tM(a0:ak):Option Bool:=tM.b N (tM.l4 N N) a0
abbrev jL.bW:=aw→aw→Int→Int→Option Bool
def jL.dV(N:Nat)(di:jL.bW)(x0 x5:aw)(x6 x7:Int):Option Bool:=
 cond (aX x7 x6) (cond (bB x7 (ℓ x5)) (cond (aX (γ x5 x7.toNat bE).1 1) (some false) (cond (aX 12 (γ x5 x7.toNat bE).1) (some false) (cond (aX (γ x5 x7.toNat bE).2.1 1) (some false) (cond (aX 4 (γ x5 x7.toNat bE).2.1) (some false) (cond (aX 0 x7) (let v2:Int:=W .i64 (x7-1);cond (bB v2 (ℓ x0)) (cond (c4 (γ x5 x7.toNat bE).1 (γ x0 v2.toNat bE).1) (some false) (di x0 x5 x6 (W .i64 (x7+1)))) none) (di x0 x5 x6 (W .i64 (x7+1)))))))) none) (some true)
def jL.l2(N:Nat):Nat→jL.bW
 |0,_,_,_,_=>none
 |n+1,x0,x5,x6,x7=>jL.dV N (jL.l2 N n) x0 x5 x6 x7
def jL.b(N:Nat)(fK:jL.bW)(a0:aw):Option Bool:=
 fK a0 a0 (ℓ a0) 0
def jL(a0:aw):Option Bool:=jL.b N (jL.l2 N N) a0
abbrev ic.ey:=bN→(List Bool)→bN→Int→Int→Option Bool
def ic.qJ(N:Nat)(dP:ic.ey)(x0:bN)(x3:List Bool)(x6:bN)(x7 x8:Int):Option Bool:=
 cond (aX x8 x7) (cond (bB x8 (ℓ x6)) (cond (aX (γ x6 x8.toNat aZ).1 1) (some false) (cond (aX 24 (γ x6 x8.toNat aZ).1) (some false) (cond (aX (γ x6 x8.toNat aZ).2.1 1) (some false) (cond (aX 12 (γ x6 x8.toNat aZ).2.1) (some false) (cond (!bq (γ x6 x8.toNat aZ).2.2.1 1) (cond (!bq (γ x6 x8.toNat aZ).2.2.1 2) (some false) (cond (aX (γ x6 x8.toNat aZ).2.2.2.1 0) (some false) (cond (aX 1000000000000 (γ x6 x8.toNat aZ).2.2.2.1) (some false) (cond (aX 0 x8) (let v2:Int:=W .i64 (x8-1);cond (bB v2 (ℓ x0)) (cond (c4 (γ x6 x8.toNat aZ).1 (γ x0 v2.toNat aZ).1) (some false) (cond (bq (γ x6 x8.toNat aZ).2.2.1 1) (cond (bB (γ x6 x8.toNat aZ).2.1 13) (cond (γ x3 (γ x6 x8.toNat aZ).2.1.toNat false) (some false) (cond (bB (γ x6 x8.toNat aZ).2.1 13) (dP x0 (List.set x3 (γ x6 x8.toNat aZ).2.1.toNat true) x6 x7 (W .i64 (x8+1))) none)) none) (dP x0 x3 x6 x7 (W .i64 (x8+1))))) none) (cond (bq (γ x6 x8.toNat aZ).2.2.1 1) (cond (bB (γ x6 x8.toNat aZ).2.1 13) (cond (γ x3 (γ x6 x8.toNat aZ).2.1.toNat false) (some false) (cond (bB (γ x6 x8.toNat aZ).2.1 13) (dP x0 (List.set x3 (γ x6 x8.toNat aZ).2.1.toNat true) x6 x7 (W .i64 (x8+1))) none)) none) (dP x0 x3 x6 x7 (W .i64 (x8+1)))))))) (cond (aX (γ x6 x8.toNat aZ).2.2.2.1 0) (some false) (cond (aX 1000000000000 (γ x6 x8.toNat aZ).2.2.2.1) (some false) (cond (aX 0 x8) (let v7:Int:=W .i64 (x8-1);cond (bB v7 (ℓ x0)) (cond (c4 (γ x6 x8.toNat aZ).1 (γ x0 v7.toNat aZ).1) (some false) (cond (bq (γ x6 x8.toNat aZ).2.2.1 1) (cond (bB (γ x6 x8.toNat aZ).2.1 13) (cond (γ x3 (γ x6 x8.toNat aZ).2.1.toNat false) (some false) (cond (bB (γ x6 x8.toNat aZ).2.1 13) (dP x0 (List.set x3 (γ x6 x8.toNat aZ).2.1.toNat true) x6 x7 (W .i64 (x8+1))) none)) none) (dP x0 x3 x6 x7 (W .i64 (x8+1))))) none) (cond (bq (γ x6 x8.toNat aZ).2.2.1 1) (cond (bB (γ x6 x8.toNat aZ).2.1 13) (cond (γ x3 (γ x6 x8.toNat aZ).2.1.toNat false) (some false) (cond (bB (γ x6 x8.toNat aZ).2.1 13) (dP x0 (List.set x3 (γ x6 x8.toNat aZ).2.1.toNat true) x6 x7 (W .i64 (x8+1))) none)) none) (dP x0 x3 x6 x7 (W .i64 (x8+1)))))))))))) none) (some true)
def ic.l3(N:Nat):Nat→ic.ey
 |0,_,_,_,_,_=>none
 |n+1,x0,x3,x6,x7,x8=>ic.qJ N (ic.l3 N n) x0 x3 x6 x7 x8
def ic.b(N:Nat)(rn:ic.ey)(a0:bN):Option Bool:=
 rn a0 (List.replicate 13 false) a0 (ℓ a0) 0
def ic(a0:bN):Option Bool:=ic.b N (ic.l3 N N) a0
abbrev tg.bK:=Int→aw→Int→Int→Option Int
def tg.dF(N:Nat)(cS:tg.bK)(x1:Int)(cG:aw)(ct dW:Int):Option Int:=
 cond (aX dW ct) (cond (bB dW (ℓ cG)) (cond (bq (γ cG dW.toNat bE).1 x1) (some (γ cG dW.toNat bE).2.1) (cS x1 cG ct (W .i64 (dW+1)))) none) (some 0)
def tg.l4(N:Nat):Nat→tg.bK
 |0,_,_,_,_=>none
 |n+1,x1,cG,ct,dW=>tg.dF N (tg.l4 N n) x1 cG ct dW
def tg.b(eS:tg.bK)(a0:aw)(a1:Int):Option Int:=
 (jL N a0).bind λr1=>cond (!r1) (some 0) (eS a1 a0 (ℓ a0) 0)
def tg(a0:aw)(a1:Int):Option Int:=tg.b N (tg.l4 N N) a0 a1
abbrev vC.bK:=aw→bN→Int→Int→Option Bool
def vC.dF(cS:vC.bK)(x0:aw)(cR:bN)(gn ez:Int):Option Bool:=
 cond (aX ez gn) (cond (bB ez (ℓ cR)) ((tg N x0 (γ cR ez.toNat aZ).2.1).bind λr4=>cond (bq r4 0) (some false) (cS x0 cR gn (W .i64 (ez+1)))) none) (some true)
def vC.l4(N:Nat):Nat→vC.bK
 |0,_,_,_,_=>none
 |n+1,x0,cR,gn,ez=>vC.dF N (vC.l4 N n) x0 cR gn ez
def vC.b(eS:vC.bK)(a0:aw)(a1:bN):Option Bool:=
 (jL N a0).bind λr1=>cond (!r1) (some false) ((ic N a1).bind λr2=>cond (!r2) (some false) (eS a0 a1 (ℓ a1) 0))
def vC(a0:aw)(a1:bN):Option Bool:=vC.b N (vC.l4 N N) a0 a1
def Ju(N:Nat)(a0 a1:Int):Option Bool:=
 cond (bq a0 1) (some (bq a1 0)) (cond (bq a0 2) (some (bq a1 0)) (cond (bq a0 3) (some (bq a1 0)) (cond (bq a0 4) (some (bq a1 0)) (cond (bq a0 5) (cond (c4 1 a1) (some (c4 a1 24)) (some false)) (cond (bq a0 6) (cond (c4 1 a1) (some (c4 a1 12)) (some false)) (cond (bq a0 7) (cond (c4 1 a1) (some (c4 a1 12)) (some false)) (some false)))))))
def L1(N:Nat)(a0 a1:Int)(a2:CT):Option Int:=
 cond (!bq a0 a2.1) (some (W .i64 (a0-a2.1))) (some (W .i64 (a1-a2.2.1)))
abbrev uV.bW:=bo→bo→Int→Int→Option Bool
def uV.dV(di:uV.bW)(x0 x5:bo)(x6 x7:Int):Option Bool:=
 cond (aX x7 x6) (cond (bB x7 (ℓ x5)) ((Ju N (γ x5 x7.toNat cH).1 (γ x5 x7.toNat cH).2.1).bind λr2=>cond (!r2) (some false) (cond (bq (γ x5 x7.toNat cH).2.2.1 0) (some false) (cond (aX 0 x7) (let v3:Int:=W .i64 (x7-1);cond (bB v3 (ℓ x0)) ((L1 N (γ x5 x7.toNat cH).1 (γ x5 x7.toNat cH).2.1 (γ x0 v3.toNat cH)).bind λr4=>cond (c4 r4 0) (some false) (di x0 x5 x6 (W .i64 (x7+1)))) none) (di x0 x5 x6 (W .i64 (x7+1)))))) none) (some true)
def uV.l2(N:Nat):Nat→uV.bW
 |0,_,_,_,_=>none
 |n+1,x0,x5,x6,x7=>uV.dV N (uV.l2 N n) x0 x5 x6 x7
def uV.b(N:Nat)(fK:uV.bW)(a0:bo):Option Bool:=
 fK a0 a0 (ℓ a0) 0
def uV(a0:bo):Option Bool:=uV.b N (uV.l2 N N) a0
def NX(N:Nat)(a0:Int):Option aM:=
 cond (aX 63 0) none (some ((shr .i64 a0 63),((W .u64 a0),())))
abbrev jK.ey:=aM→Int→Int→Int→mQ→Int→Int→Option (aM×(Bool))
def jK.qJ(dP:jK.ey)(x2:aM)(x4 x5 x6:Int)(cG:mQ)(ct dW:Int):Option (aM×(Bool)):=
 cond (aX dW ct) (cond (bB dW (ℓ cG)) ((mh N x6 (γ cG dW.toNat bE).2.1 0).bind λr2=>(mh N x5 (W .u64 (γ cG dW.toNat bE).1) r2.2).bind λr4=>cond (aX 63 0) none (dP x2 (W .i64 ((W .i64 (x4+(shr .i64 (γ cG dW.toNat bE).1 63)))+(W .i64 r4.2))) r4.1 r2.1 cG ct (W .i64 (dW+1)))) none) (cond (aX 63 0) none (cond (!bq x4 (shr .i64 (W .i64 x5) 63)) (some (bE,false)) (some (((W .i64 x5),(x6,())),true))))
def jK.l3(N:Nat):Nat→jK.ey
 |0,_,_,_,_,_,_,_=>none
 |n+1,x2,x4,x5,x6,cG,ct,dW=>jK.qJ N (jK.l3 N n) x2 x4 x5 x6 cG ct dW
def jK.b(N:Nat)(rn:jK.ey)(a0:mQ):Option (aM×(Bool)):=
 rn bE 0 0 0 a0 (ℓ a0) 0
def jK(a0:mQ):Option (aM×(Bool)):=jK.b N (jK.l3 N N) a0
abbrev uY.fL:=aM→mQ→bo→Int→Int→Option aM
def uY.mP(lT:uY.fL)(x2:aM)(x3:mQ)(dW:bo)(iN fN:Int):Option aM:=
 cond (aX fN iN) (cond (bB fN (ℓ dW)) ((NX N (γ dW fN.toNat cH).2.2.1).bind λr3=>cond (small (ℓ x3+ℓ ([r3]))) (lT x2 (x3++([r3])) dW iN (W .i64 (fN+1))) none) none) ((jK N x3).bind λr6=>some r6.1)
def uY.l5(N:Nat):Nat→uY.fL
 |0,_,_,_,_,_=>none
 |n+1,x2,x3,dW,iN,fN=>uY.mP N (uY.l5 N n) x2 x3 dW iN fN
def uY.b(pP:uY.fL)(a0:bo):Option aM:=
 (uV N a0).bind λr1=>cond (!r1) (some bE) (pP bE ([]) a0 (ℓ a0) 0)
def uY(a0:bo):Option aM:=uY.b N (uY.l5 N N) a0
def Uh(N:Nat)(a0 a1:aM):Option Int:=
 cond (aX a0.1 a1.1) (some (-1)) (cond (bq a0.1 a1.1) (cond (aX a0.2.1 a1.2.1) (some (-1)) (cond (mg (.pair (.int .i64) (.pair (.int .u64) .unit)) a0 a1) (some 0) (some 1))) (cond (mg (.pair (.int .i64) (.pair (.int .u64) .unit)) a0 a1) (some 0) (some 1)))
def SD(a0:aM):Option Int:=
 (Uh N a0 bE).bind λr1=>some r1
def L3(N:Nat)(a0 a1:Int):Option Bool:=
 cond (c4 0 a0) (cond (c4 a0 24) (cond (c4 0 a1) (some (aX a1 6)) (some false)) (some false)) (some false)
def Jv(N:Nat)(a0:Int):Option Bool:=
 some (!bq a0 (-9223372036854775808))
def PS(N:Nat)(a0 a1:Int)(a2:CT):Option Int:=
 cond (!bq a0 a2.1) (some (W .i64 (a0-a2.1))) (some (W .i64 (a1-a2.2.1)))
abbrev tO.bW:=bo→bo→Int→Int→Option Bool
def tO.dV(di:tO.bW)(x0 x5:bo)(x6 x7:Int):Option Bool:=
 cond (aX x7 x6) (cond (bB x7 (ℓ x5)) ((L3 N (γ x5 x7.toNat cH).1 (γ x5 x7.toNat cH).2.1).bind λr2=>cond (!r2) (some false) (cond (bq (γ x5 x7.toNat cH).2.2.1 0) (some false) ((Jv N (γ x5 x7.toNat cH).2.2.1).bind λr3=>cond (!r3) (some false) (cond (aX 0 x7) (let v4:Int:=W .i64 (x7-1);cond (bB v4 (ℓ x0)) ((PS N (γ x5 x7.toNat cH).1 (γ x5 x7.toNat cH).2.1 (γ x0 v4.toNat cH)).bind λr5=>cond (c4 r5 0) (some false) (di x0 x5 x6 (W .i64 (x7+1)))) none) (di x0 x5 x6 (W .i64 (x7+1))))))) none) (some true)
def tO.l2(N:Nat):Nat→tO.bW
 |0,_,_,_,_=>none
 |n+1,x0,x5,x6,x7=>tO.dV N (tO.l2 N n) x0 x5 x6 x7
def tO.b(N:Nat)(fK:tO.bW)(a0:bo):Option Bool:=
 fK a0 a0 (ℓ a0) 0
def tO(a0:bo):Option Bool:=tO.b N (tO.l2 N N) a0
abbrev jP.fL:=Int→aM→mQ→bo→Int→Int→Option aM
def jP.mP(lT:jP.fL)(x1:Int)(x4:aM)(x5:mQ)(fN:bo)(cR gn:Int):Option aM:=
 cond (aX gn cR) (cond (bB gn (ℓ fN)) (cond (bq (γ fN gn.toNat cH).2.1 x1) ((NX N (γ fN gn.toNat cH).2.2.1).bind λr3=>cond (small (ℓ x5+ℓ ([r3]))) (lT x1 x4 (x5++([r3])) fN cR (W .i64 (gn+1))) none) (lT x1 x4 x5 fN cR (W .i64 (gn+1)))) none) ((jK N x5).bind λr7=>some r7.1)
def jP.l5(N:Nat):Nat→jP.fL
 |0,_,_,_,_,_,_=>none
 |n+1,x1,x4,x5,fN,cR,gn=>jP.mP N (jP.l5 N n) x1 x4 x5 fN cR gn
def jP.b(pP:jP.fL)(a0:bo)(a1:Int):Option aM:=
 (tO N a0).bind λr1=>cond (!r1) (some bE) (pP a1 bE ([]) a0 (ℓ a0) 0)
def jP(a0:bo)(a1:Int):Option aM:=jP.b N (jP.l5 N N) a0 a1
abbrev vF.bW:=bo→Int→Option Bool
def vF.dV(di:vF.bW)(x0:bo)(x4:Int):Option Bool:=
 cond (aX x4 6) ((jP N x0 x4).bind λr2=>(SD N r2).bind λr3=>cond (!bq r3 0) (some false) (di x0 (W .i64 (x4+1)))) ((tO N x0).bind λr5=>some r5)
def vF.l2(N:Nat):Nat→vF.bW
 |0,_,_=>none
 |n+1,x0,x4=>vF.dV N (vF.l2 N n) x0 x4
def vF.b(N:Nat)(fK:vF.bW)(a0:bo):Option Bool:=
 fK a0 0
def vF(a0:bo):Option Bool:=vF.b N (vF.l2 N N) a0
def L4(N:Nat)(a0:Et):Option Bool:=
 cond (c4 1 a0.1) (cond (c4 a0.1 1099511627776) (cond (c4 1 a0.2.1) (cond (c4 a0.2.1 24) (cond (c4 0 a0.2.2.1) (cond (aX a0.2.2.1 6) (cond (bq a0.2.2.2.1 1) (cond (c4 1 a0.2.2.2.2.1) (cond (c4 a0.2.2.2.2.1 1000000000) (cond (c4 1 a0.2.2.2.2.2.1) (some (c4 a0.2.2.2.2.2.1 1000000000000)) (some false)) (some false)) (some false)) (cond (bq a0.2.2.2.1 2) (cond (c4 1 a0.2.2.2.2.1) (cond (c4 a0.2.2.2.2.1 1000000000) (cond (c4 1 a0.2.2.2.2.2.1) (some (c4 a0.2.2.2.2.2.1 1000000000000)) (some false)) (some false)) (some false)) (some false))) (some false)) (some false)) (some false)) (some false)) (some false)) (some false)
abbrev vA.bW:=n9→n9→Int→Int→Option Bool
def vA.dV(di:vA.bW)(x0 x5:n9)(x6 x7:Int):Option Bool:=
 cond (aX x7 x6) (cond (bB x7 (ℓ x5)) ((L4 N (γ x5 x7.toNat vP)).bind λr2=>cond (!r2) (some false) (cond (aX 0 x7) (let v3:Int:=W .i64 (x7-1);cond (bB v3 (ℓ x0)) (cond (c4 (γ x5 x7.toNat vP).1 (γ x0 v3.toNat vP).1) (some false) (di x0 x5 x6 (W .i64 (x7+1)))) none) (di x0 x5 x6 (W .i64 (x7+1))))) none) (some (c4 (ℓ x0) 32))
def vA.l2(N:Nat):Nat→vA.bW
 |0,_,_,_,_=>none
 |n+1,x0,x5,x6,x7=>vA.dV N (vA.l2 N n) x0 x5 x6 x7
def vA.b(N:Nat)(fK:vA.bW)(a0:n9):Option Bool:=
 fK a0 a0 (ℓ a0) 0
def vA(a0:n9):Option Bool:=vA.b N (vA.l2 N N) a0
abbrev jO.bK:=Int→lD→bN→Int→Int→Option (lD×(Bool))
def jO.dF(N:Nat)(cS:jO.bK)(x1:Int)(x4:lD)(dW:bN)(iN fN:Int):Option (lD×(Bool)):=
 cond (aX fN iN) (cond (bB fN (ℓ dW)) (cond (bq (γ dW fN.toNat aZ).1 x1) (some (γ dW fN.toNat aZ,true)) (cS x1 x4 dW iN (W .i64 (fN+1)))) none) (some (aZ,false))
def jO.l4(N:Nat):Nat→jO.bK
 |0,_,_,_,_,_=>none
 |n+1,x1,x4,dW,iN,fN=>jO.dF N (jO.l4 N n) x1 x4 dW iN fN
def jO.b(eS:jO.bK)(a0:bN)(a1:Int):Option (lD×(Bool)):=
 (ic N a0).bind λr1=>cond (!r1) (some (aZ,false)) (eS a1 aZ a0 (ℓ a0) 0)
def jO(a0:bN)(a1:Int):Option (lD×(Bool)):=jO.b N (jO.l4 N N) a0 a1
def SE(a0:bf)(a1:Int):Option Bool:=
 (jO N a0.2.1 a1).bind λr1=>some r1.2
def WK(N:Nat)(a0:Int):Option Bool:=
 cond (c4 1 a0) (some (c4 a0 1000000000000)) (some false)
def WL(a0:Int):Option Bool:=
 (WK N a0).bind λr1=>some (!r1)
abbrev lR.bW:=(List Int)→Unit→Int→Int→Option Int
def lR.dV(di:lR.bW)(x0:List Int)(x1:Unit)(x7 x8:Int):Option Int:=
 cond (aX x8 x7) (cond (bB x8 (ℓ x0)) ((WL N (γ x0 x8.toNat 0)).bind λr2=>cond (r2) (some x8) (di x0 () x7 (W .i64 (x8+1)))) none) (some (-1))
def lR.l2(N:Nat):Nat→lR.bW
 |0,_,_,_,_=>none
 |n+1,x0,x1,x7,x8=>lR.dV N (lR.l2 N n) x0 x1 x7 x8
def lR.b(N:Nat)(fK:lR.bW)(a0:List Int)(a1:Unit):Option Int:=
 fK a0 () (ℓ a0) 0
def lR(a0:List Int)(a1:Unit):Option Int:=lR.b N (lR.l2 N N) a0 a1
def WM(a0:List Int)(a1:Unit):Option Bool:=
 (lR N a0 ()).bind λr1=>some (c4 0 r1)
abbrev gQ.pQ:=ak→bf→n9→Int→Int→Option Bool
abbrev gQ.Kc:=ak→bf→bo→Int→Int→Option Bool
abbrev gQ.bK:=ak→bf→bo→Int→Int→Option Bool
def gQ.tT(Ds:gQ.pQ)(x2:ak)(x3:bf)(Hp:n9)(ME EO:Int):Option Bool:=
 cond (aX EO ME) (cond (bB EO (ℓ Hp)) ((SE N x3 (γ Hp EO.toNat vP).2.1).bind λYG=>cond (!YG) (some false) (cond (c4 (ℓ x2.1) (γ Hp EO.toNat vP).2.2.1) (some false) (Ds x2 x3 Hp ME (W .i64 (EO+1))))) none) ((WM N x3.2.2.2.2.1 ()).bind λYH=>some (!YH))
def gQ.u6(N:Nat):Nat→gQ.pQ
 |0,_,_,_,_,_=>none
 |n+1,x2,x3,Hp,ME,EO=>gQ.tT N (gQ.u6 N n) x2 x3 Hp ME EO
def gQ.Md(Dt:gQ.pQ)(N3:gQ.Kc)(x2:ak)(x3:bf)(MF:bo)(yw vh:Int):Option Bool:=
 cond (aX vh yw) (cond (bB vh (ℓ MF)) (cond (!bq (γ MF vh.toNat cH).1 0) ((SE N x3 (γ MF vh.toNat cH).1).bind λN4=>cond (!N4) (some false) (cond (c4 (ℓ x2.1) (γ MF vh.toNat cH).2.1) (some false) (N3 x2 x3 MF yw (W .i64 (vh+1))))) (cond (c4 (ℓ x2.1) (γ MF vh.toNat cH).2.1) (some false) (N3 x2 x3 MF yw (W .i64 (vh+1))))) none) (Dt x2 x3 x3.2.2.2.2.2.1 (ℓ x3.2.2.2.2.2.1) 0)
def gQ.Mc(N:Nat):Nat→gQ.Kc
 |0,_,_,_,_,_=>none
 |n+1,x2,x3,MF,yw,vh=>gQ.Md N (gQ.u6 N N) (gQ.Mc N n) x2 x3 MF yw vh
def gQ.dF(Ut:gQ.Kc)(cS:gQ.bK)(x2:ak)(x3:bf)(Hr:bo)(Qa FR:Int):Option Bool:=
 cond (aX FR Qa) (cond (bB FR (ℓ Hr)) (cond (bq (γ Hr FR.toNat cH).1 5) ((SE N x3 (γ Hr FR.toNat cH).2.1).bind λr9=>cond (!r9) (some false) (cS x2 x3 Hr Qa (W .i64 (FR+1)))) (cond (bq (γ Hr FR.toNat cH).1 6) ((tg N x3.1 (γ Hr FR.toNat cH).2.1).bind λEN=>cond (bq EN 0) (some false) (cS x2 x3 Hr Qa (W .i64 (FR+1)))) (cond (bq (γ Hr FR.toNat cH).1 7) ((tg N x3.1 (γ Hr FR.toNat cH).2.1).bind λN5=>cond (bq N5 0) (some false) (cS x2 x3 Hr Qa (W .i64 (FR+1)))) (cS x2 x3 Hr Qa (W .i64 (FR+1)))))) none) (Ut x2 x3 x3.2.2.2.1 (ℓ x3.2.2.2.1) 0)
def gQ.l4(N:Nat):Nat→gQ.bK
 |0,_,_,_,_,_=>none
 |n+1,x2,x3,Hr,Qa,FR=>gQ.dF N (gQ.Mc N N) (gQ.l4 N n) x2 x3 Hr Qa FR
def gQ.b(eS:gQ.bK)(a0:ak)(a1:bf):Option Bool:=
 (tM N a0).bind λr1=>cond (!r1) (some false) ((vC N a1.1 a1.2.1).bind λr2=>cond (!r2) (some false) ((uV N a1.2.2.1).bind λr3=>cond (!r3) (some false) ((uY N a1.2.2.1).bind λr4=>(SD N r4).bind λr5=>cond (!bq r5 0) (some false) ((vF N a1.2.2.2.1).bind λr6=>cond (!r6) (some false) ((vA N a1.2.2.2.2.2.1).bind λr7=>cond (!r7) (some false) (cond (!bq (ℓ a1.2.2.2.2.1) (ℓ a0.1)) (some false) (eS a0 a1 a1.2.2.1 (ℓ a1.2.2.1) 0)))))))
def gQ(a0:ak)(a1:bf):Option Bool:=gQ.b N (gQ.l4 N N) a0 a1
abbrev u9.fL:=Int→aw→bo→Int→Int→Option aw
def u9.mP(N:Nat)(lT:u9.fL)(x1:Int)(x5:aw)(ct:bo)(dW iN:Int):Option aw:=
 cond (aX iN dW) (cond (bB iN (ℓ ct)) (cond (bq (γ ct iN.toNat cH).1 x1) (cond (small (ℓ x5+ℓ ([((γ ct iN.toNat cH).2.1,((γ ct iN.toNat cH).2.2.1,()))]))) (lT x1 (x5++([((γ ct iN.toNat cH).2.1,((γ ct iN.toNat cH).2.2.1,()))])) ct dW (W .i64 (iN+1))) none) (lT x1 x5 ct dW (W .i64 (iN+1)))) none) (some x5)
def u9.l5(N:Nat):Nat→u9.fL
 |0,_,_,_,_,_=>none
 |n+1,x1,x5,ct,dW,iN=>u9.mP N (u9.l5 N n) x1 x5 ct dW iN
def u9.b(pP:u9.fL)(a0:bo)(a1:Int):Option aw:=
 (tO N a0).bind λr1=>cond (!r1) (some ([])) (pP a1 ([]) a0 (ℓ a0) 0)
def u9(a0:bo)(a1:Int):Option aw:=u9.b N (u9.l5 N N) a0 a1
def NQ(N:Nat)(a0:Int):Option Int:=
 cond (aX a0 0) (some (W .u64 (0-(W .u64 a0)))) (some (W .u64 a0))
def WQ(a0 a1:aM):Option (aM×(Bool)):=
 (mh N a0.2.1 a1.2.1 0).bind λr1=>(mh N (W .u64 a0.1) (W .u64 a1.1) r1.2).bind λr4=>let v5:Int:=W .i64 r4.1;cond (mg .bool (aX a0.1 0) (aX a1.1 0)) (cond (!(mg .bool (aX v5 0) (aX a0.1 0))) (some (bE,false)) (some ((v5,(r1.1,())),true))) (some ((v5,(r1.1,())),true))
def Ji(N:Nat)(a0 a1:Int):Option ((Int)×(Int)):=
 let v1:Int:=hZ .and .u64 a0 4294967295;cond (aX 32 0) none (let v2:Int:=shr .u64 a0 32;let v3:Int:=hZ .and .u64 a1 4294967295;cond (aX 32 0) none (let v4:Int:=shr .u64 a1 32;cond (aX 32 0) none (let v8:Int:=W .u64 ((W .u64 (v2*v3))+(shr .u64 (W .u64 (v1*v3)) 32));cond (aX 32 0) none (cond (aX 32 0) none (some ((W .u64 ((W .u64 ((W .u64 (v2*v4))+(shr .u64 v8 32)))+(shr .u64 (W .u64 ((hZ .and .u64 v8 4294967295)+(W .u64 (v1*v4)))) 32))),(W .u64 (a0*a1))))))))
def LD(a0 a1:Int):Option ((Int)×(Int)):=
 (Ji N a0 a1).bind λr1=>some (r1.1,r1.2)
abbrev ly.Kd:=Int→Int→aM→Option (aM×(Bool))
def ly.Jj(x1 x2:Int)(x6:aM):Option (aM×(Bool)):=
 (mi N 0 x2 0).bind λr3=>(mi N 0 x1 r3.2).bind λr4=>some (((W .i64 r4.1),(r3.1,())),true)
def ly.j7(x1 x2:Int)(x6:aM):Option (aM×(Bool)):=ly.Jj N x1 x2 x6
def ly.b(N:Nat)(zf:ly.Kd)(a0:Bool)(a1 a2:Int):Option (aM×(Bool)):=
 cond (!a0) (cond (c4 9223372036854775808 a1) (some (bE,false)) (some (((W .i64 a1),(a2,())),true))) (cond (aX 9223372036854775808 a1) (some (bE,false)) (cond (bq a1 9223372036854775808) (cond (aX 0 a2) (some (bE,false)) (zf a1 a2 bE)) (zf a1 a2 bE)))
def ly(a0:Bool)(a1 a2:Int):Option (aM×(Bool)):=ly.b N (ly.j7 N) a0 a1 a2
def SB(a0 a1:Int):Option aM:=
 (NQ N a0).bind λr1=>(NQ N a1).bind λr2=>(Ji N r1 r2).bind λr3=>(ly N (!(mg .bool (aX a0 0) (aX a1 0))) r3.1 r3.2).bind λr4=>some r4.1
abbrev rr.bK:=Int→aM→Int→Option Int
def rr.dF(cS:rr.bK)(x1:Int)(x2:aM)(x5:Int):Option Int:=
 cond (aX x5 3) ((SB N x5 x1).bind λr3=>(Uh N r3 x2).bind λr4=>cond (aX r4 0) (cS x1 x2 (W .i64 (x5+1))) (some x5)) (some x5)
def rr.l4(N:Nat):Nat→rr.bK
 |0,_,_,_=>none
 |n+1,x1,x2,x5=>rr.dF N (rr.l4 N n) x1 x2 x5
def rr.b(eS:rr.bK)(a0:aM)(a1:Int):Option Int:=
 (SD N a0).bind λr1=>cond (aX r1 1) (some 0) (cond (aX a1 1) (some 0) (eS a1 a0 1))
def rr(a0:aM)(a1:Int):Option Int:=rr.b N (rr.l4 N N) a0 a1
def PZ(N:Nat)(a0:Int):Option Bool:=
 some (aX a0 0)
abbrev gd.bW:=(List Int)→Unit→Int→Int→Option Int
def gd.dV(di:gd.bW)(x0:List Int)(x1:Unit)(x7 x8:Int):Option Int:=
 cond (aX x8 x7) (cond (bB x8 (ℓ x0)) ((PZ N (γ x0 x8.toNat 0)).bind λr2=>cond (r2) (some x8) (di x0 () x7 (W .i64 (x8+1)))) none) (some (-1))
def gd.l2(N:Nat):Nat→gd.bW
 |0,_,_,_,_=>none
 |n+1,x0,x1,x7,x8=>gd.dV N (gd.l2 N n) x0 x1 x7 x8
def gd.b(N:Nat)(fK:gd.bW)(a0:List Int)(a1:Unit):Option Int:=
 fK a0 () (ℓ a0) 0
def gd(a0:List Int)(a1:Unit):Option Int:=gd.b N (gd.l2 N N) a0 a1
def P1(a0:List Int)(a1:Unit):Option Bool:=
 (gd N a0 ()).bind λr1=>some (c4 0 r1)
def Mq(a0:List Int):Option Bool:=
 cond (c4 (ℓ a0) 64) ((P1 N a0 ()).bind λr1=>some (!r1)) (some false)
abbrev lz.ey:=Int→Int→(List Int)→Int→Int→Option ((Int)×(Bool))
def lz.qJ(dP:lz.ey)(x4 x5:Int)(cG:List Int)(ct dW:Int):Option ((Int)×(Bool)):=
 cond (aX dW ct) (cond (bB dW (ℓ cG)) ((mh N x5 (W .u64 (γ cG dW.toNat 0)) 0).bind λr3=>cond (aX 63 0) none (dP (W .i64 ((W .i64 (x4+(shr .i64 (γ cG dW.toNat 0) 63)))+(W .i64 r3.2))) r3.1 cG ct (W .i64 (dW+1)))) none) (cond (aX 63 0) none (cond (!bq x4 (shr .i64 (W .i64 x5) 63)) (some (0,false)) (some ((W .i64 x5),true))))
def lz.l3(N:Nat):Nat→lz.ey
 |0,_,_,_,_,_=>none
 |n+1,x4,x5,cG,ct,dW=>lz.qJ N (lz.l3 N n) x4 x5 cG ct dW
def lz.b(N:Nat)(rn:lz.ey)(a0:List Int):Option ((Int)×(Bool)):=
 rn 0 0 a0 (ℓ a0) 0
def lz(a0:List Int):Option ((Int)×(Bool)):=lz.b N (lz.l3 N N) a0
def LR(a0:aM):Option ((Int)×(Int)):=
 cond (c4 0 a0.1) (some ((W .u64 a0.1),a0.2.1)) ((mi N 0 a0.2.1 0).bind λr2=>(mi N 0 (W .u64 a0.1) r2.2).bind λr4=>some (r4.1,r2.1))
abbrev ib.Kd:=Int→Int→Option Int
abbrev ib.YI:=Int→Int→Option Int
def ib.Jj(N:Nat)(x0 x2:Int):Option Int:=
 cond (c4 256 x0) (cond (aX 8 0) none (let v8:Int:=W .u8 (shr .u64 x0 8);cond (bB v8 (ByteArray.size (strOf [0,1,2,2,3,3,3,3,4,4,4,4,4,4,4,4,5,5,5,5,5,5,5,5,5,5,5,5,5,5,5,5,6,6,6,6,6,6,6,6,6,6,6,6,6,6,6,6,6,6,6,6,6,6,6,6,6,6,6,6,6,6,6,6,7,7,7,7,7,7,7,7,7,7,7,7,7,7,7,7,7,7,7,7,7,7,7,7,7,7,7,7,7,7,7,7,7,7,7,7,7,7,7,7,7,7,7,7,7,7,7,7,7,7,7,7,7,7,7,7,7,7,7,7,7,7,7,7,8,8,8,8,8,8,8,8,8,8,8,8,8,8,8,8,8,8,8,8,8,8,8,8,8,8,8,8,8,8,8,8,8,8,8,8,8,8,8,8,8,8,8,8,8,8,8,8,8,8,8,8,8,8,8,8,8,8,8,8,8,8,8,8,8,8,8,8,8,8,8,8,8,8,8,8,8,8,8,8,8,8,8,8,8,8,8,8,8,8,8,8,8,8,8,8,8,8,8,8,8,8,8,8,8,8,8,8,8,8,8,8,8,8,8,8,8,8,8,8,8,8,8,8,8,8,8,8]))) (some (W .i64 ((W .i64 (x2+8))+(W .i64 (((strOf [0,1,2,2,3,3,3,3,4,4,4,4,4,4,4,4,5,5,5,5,5,5,5,5,5,5,5,5,5,5,5,5,6,6,6,6,6,6,6,6,6,6,6,6,6,6,6,6,6,6,6,6,6,6,6,6,6,6,6,6,6,6,6,6,7,7,7,7,7,7,7,7,7,7,7,7,7,7,7,7,7,7,7,7,7,7,7,7,7,7,7,7,7,7,7,7,7,7,7,7,7,7,7,7,7,7,7,7,7,7,7,7,7,7,7,7,7,7,7,7,7,7,7,7,7,7,7,7,8,8,8,8,8,8,8,8,8,8,8,8,8,8,8,8,8,8,8,8,8,8,8,8,8,8,8,8,8,8,8,8,8,8,8,8,8,8,8,8,8,8,8,8,8,8,8,8,8,8,8,8,8,8,8,8,8,8,8,8,8,8,8,8,8,8,8,8,8,8,8,8,8,8,8,8,8,8,8,8,8,8,8,8,8,8,8,8,8,8,8,8,8,8,8,8,8,8,8,8,8,8,8,8,8,8,8,8,8,8,8,8,8,8,8,8,8,8,8,8,8,8,8,8,8,8,8,8]).data.getD v8.toNat 0).toNat:Int))))) none)) (let v11:Int:=W .u8 x0;cond (bB v11 (ByteArray.size (strOf [0,1,2,2,3,3,3,3,4,4,4,4,4,4,4,4,5,5,5,5,5,5,5,5,5,5,5,5,5,5,5,5,6,6,6,6,6,6,6,6,6,6,6,6,6,6,6,6,6,6,6,6,6,6,6,6,6,6,6,6,6,6,6,6,7,7,7,7,7,7,7,7,7,7,7,7,7,7,7,7,7,7,7,7,7,7,7,7,7,7,7,7,7,7,7,7,7,7,7,7,7,7,7,7,7,7,7,7,7,7,7,7,7,7,7,7,7,7,7,7,7,7,7,7,7,7,7,7,8,8,8,8,8,8,8,8,8,8,8,8,8,8,8,8,8,8,8,8,8,8,8,8,8,8,8,8,8,8,8,8,8,8,8,8,8,8,8,8,8,8,8,8,8,8,8,8,8,8,8,8,8,8,8,8,8,8,8,8,8,8,8,8,8,8,8,8,8,8,8,8,8,8,8,8,8,8,8,8,8,8,8,8,8,8,8,8,8,8,8,8,8,8,8,8,8,8,8,8,8,8,8,8,8,8,8,8,8,8,8,8,8,8,8,8,8,8,8,8,8,8,8,8,8,8,8,8]))) (some (W .i64 (x2+(W .i64 (((strOf [0,1,2,2,3,3,3,3,4,4,4,4,4,4,4,4,5,5,5,5,5,5,5,5,5,5,5,5,5,5,5,5,6,6,6,6,6,6,6,6,6,6,6,6,6,6,6,6,6,6,6,6,6,6,6,6,6,6,6,6,6,6,6,6,7,7,7,7,7,7,7,7,7,7,7,7,7,7,7,7,7,7,7,7,7,7,7,7,7,7,7,7,7,7,7,7,7,7,7,7,7,7,7,7,7,7,7,7,7,7,7,7,7,7,7,7,7,7,7,7,7,7,7,7,7,7,7,7,8,8,8,8,8,8,8,8,8,8,8,8,8,8,8,8,8,8,8,8,8,8,8,8,8,8,8,8,8,8,8,8,8,8,8,8,8,8,8,8,8,8,8,8,8,8,8,8,8,8,8,8,8,8,8,8,8,8,8,8,8,8,8,8,8,8,8,8,8,8,8,8,8,8,8,8,8,8,8,8,8,8,8,8,8,8,8,8,8,8,8,8,8,8,8,8,8,8,8,8,8,8,8,8,8,8,8,8,8,8,8,8,8,8,8,8,8,8,8,8,8,8,8,8,8,8,8,8]).data.getD v11.toNat 0).toNat:Int))))) none)
def ib.j7(x0 x2:Int):Option Int:=ib.Jj N x0 x2
def ib.Yd(N:Nat)(zf:ib.Kd)(x0 x2:Int):Option Int:=
 cond (c4 65536 x0) (cond (aX 16 0) none (zf (shr .u64 x0 16) (W .i64 (x2+16)))) (zf x0 x2)
def ib.j4(x0 x2:Int):Option Int:=ib.Yd N (ib.j7 N) x0 x2
def ib.b(N:Nat)(Uu:ib.YI)(a0:Int):Option Int:=
 cond (c4 4294967296 a0) (cond (aX 32 0) none (Uu (shr .u64 a0 32) 32)) (Uu a0 0)
def ib(a0:Int):Option Int:=ib.b N (ib.j4 N) a0
def LG(a0:Int):Option Int:=
 (ib N a0).bind λr1=>some (W .i64 (64-r1))
abbrev cv.Uv:=Int→Int→Int→Int→Int→Int→Option ((Int)×(Int))
abbrev cv.pR:=Int→Int→Int→Int→Int→Int→Int→Int→Int→Option ((Int)×(Int))
abbrev cv.Uw:=Int→Int→Int→Int→Int→Int→Int→Int→Option ((Int)×(Int))
abbrev cv.yx:=Int→Int→Int→Int→Int→Int→Int→Int→Int→Option ((Int)×(Int))
def cv.PL(N:Nat)(x2 x8:Int)(fN cR:Int)(ez wm:Int):Option ((Int)×(Int)):=
 cond (aX x8 0) none (some ((W .u64 ((W .u64 (cR*4294967296))+wm)),(shr .u64 (W .u64 ((W .u64 ((W .u64 (ez*4294967296))+fN))-(W .u64 (wm*x2)))) x8)))
def cv.NS(x2 x8:Int)(fN cR:Int)(ez wm:Int):Option ((Int)×(Int)):=cv.PL N x2 x8 fN cR ez wm
def cv.CB(N:Nat)(Ke:cv.Uv)(oI:cv.pR)(x2 x8:Int)(x9 cG:Int)(fN cR:Int)(gn ez wm:Int):Option ((Int)×(Int)):=
 cond (c4 4294967296 wm) (let v30:Int:=W .u64 (wm-1);let Ux:Int:=W .u64 (gn+x9);cond (c4 4294967296 Ux) (Ke x2 x8 fN cR ez v30) (oI x2 x8 x9 cG fN cR Ux ez v30)) (cond (aX (W .u64 ((W .u64 (4294967296*gn))+fN)) (W .u64 (wm*cG))) (let v43:Int:=W .u64 (wm-1);let v44:Int:=W .u64 (gn+x9);cond (c4 4294967296 v44) (Ke x2 x8 fN cR ez v43) (oI x2 x8 x9 cG fN cR v44 ez v43)) (Ke x2 x8 fN cR ez wm))
def cv.AB(N:Nat):Nat→cv.pR
 |0,_,_,_,_,_,_,_,_,_=>none
 |n+1,x2,x8,x9,cG,fN,cR,gn,ez,wm=>cv.CB N (cv.NS N) (cv.AB N n) x2 x8 x9 cG fN cR gn ez wm
def cv.PK(N:Nat)(Kf:cv.pR)(x2 x8:Int)(x9 cG:Int)(ct iN:Int)(fN cR:Int):Option ((Int)×(Int)):=
 let YJ:Int:=W .u64 ((W .u64 ((W .u64 (ct*4294967296))+iN))-(W .u64 (cR*x2)));cond (bq x9 0) none (let v26:Int:=W .u64 (quo YJ x9);Kf x2 x8 x9 cG fN cR (W .u64 (YJ-(W .u64 (v26*x9)))) YJ v26)
def cv.NR(x2 x8:Int)(x9 cG:Int)(ct iN:Int)(fN cR:Int):Option ((Int)×(Int)):=cv.PK N (cv.AB N N) x2 x8 x9 cG ct iN fN cR
def cv.CA(N:Nat)(Kg:cv.Uw)(FT:cv.yx)(x2 x8:Int)(x9 cG:Int)(ct iN:Int)(fN cR gn:Int):Option ((Int)×(Int)):=
 cond (c4 4294967296 cR) (let v19:Int:=W .u64 (cR-1);let v20:Int:=W .u64 (gn+x9);cond (c4 4294967296 v20) (Kg x2 x8 x9 cG ct iN fN v19) (FT x2 x8 x9 cG ct iN fN v19 v20)) (cond (aX (W .u64 ((W .u64 (4294967296*gn))+iN)) (W .u64 (cR*cG))) (let v48:Int:=W .u64 (cR-1);let v49:Int:=W .u64 (gn+x9);cond (c4 4294967296 v49) (Kg x2 x8 x9 cG ct iN fN v48) (FT x2 x8 x9 cG ct iN fN v48 v49)) (Kg x2 x8 x9 cG ct iN fN cR))
def cv.Cz(N:Nat):Nat→cv.yx
 |0,_,_,_,_,_,_,_,_,_=>none
 |n+1,x2,x8,x9,cG,ct,iN,fN,cR,gn=>cv.CA N (cv.NR N) (cv.Cz N n) x2 x8 x9 cG ct iN fN cR gn
def cv.b(Kh:cv.yx)(a0 a1 a2:Int):Option ((Int)×(Int)):=
 cond (bq a2 0) none (cond (c4 a2 a0) none (cond (bq a0 0) (cond (bq a2 0) none (cond (bq a2 0) none (some ((W .u64 (quo a1 a2)),(rem a1 a2))))) ((LG N a2).bind λr3=>let v4:Int:=W .u64 r3;cond (aX v4 0) none (let v5:Int:=W .u64 (shl .u64 a2 v4);cond (aX 32 0) none (let v6:Int:=shr .u64 v5 32;cond (aX v4 0) none (let v9:Int:=W .u64 (64-v4);cond (aX v9 0) none (let v11:Int:=hZ .or .u64 (W .u64 (shl .u64 a0 v4)) (shr .u64 a1 v9);cond (aX v4 0) none (let Uy:Int:=W .u64 (shl .u64 a1 v4);cond (aX 32 0) none (cond (bq v6 0) none (let MG:Int:=W .u64 (quo v11 v6);Kh v5 v4 v6 (hZ .and .u64 v5 4294967295) v11 (shr .u64 Uy 32) (hZ .and .u64 Uy 4294967295) MG (W .u64 (v11-(W .u64 (MG*v6))))))))))))))
def cv(a0 a1 a2:Int):Option ((Int)×(Int)):=cv.b N (cv.Cz N N) a0 a1 a2
abbrev nq.Uz:=aM→Int→Int→Int→Option (aM×(Int)×(Bool))
def nq.LW(x4:aM)(cG ct dW:Int):Option (aM×(Int)×(Bool)):=
 (ly N true cG dW).bind λEN=>some (EN.1,(W .i64 ct),true)
def nq.SC(x4:aM)(cG ct dW:Int):Option (aM×(Int)×(Bool)):=nq.LW N x4 cG ct dW
def nq.b(N6:nq.Uz)(a0:aM)(a1:Int):Option (aM×(Int)×(Bool)):=
 cond (aX a1 1) (some (bE,0,false)) ((LR N a0).bind λr1=>let v2:Int:=W .u64 a1;(cv N 0 r1.1 v2).bind λr3=>(cv N r3.2 r1.2 v2).bind λr4=>cond (c4 0 a0.1) (some (((W .i64 r3.1),(r4.1,())),(W .i64 r4.2),true)) (cond (aX 0 r4.2) ((mh N r4.1 1 0).bind λr7=>N6 bE (W .u64 (r3.1+r7.2)) (W .u64 (v2-r4.2)) r7.1) (N6 bE r3.1 r4.2 r4.1)))
def nq(a0:aM)(a1:Int):Option (aM×(Int)×(Bool)):=nq.b N (nq.SC N) a0 a1
def PQ(N:Nat)(a0:aM):Option ((Int)×(Bool)):=
 cond (aX 63 0) none (cond (!bq a0.1 (shr .i64 (W .i64 a0.2.1) 63)) (some (0,false)) (some ((W .i64 a0.2.1),true)))
def PY(N:Nat)(a0:List Int):Option (List Int):=
 cond (kf 0 (ℓ a0) (ℓ a0) (ℓ a0)) (some (List.drop (0:Int).toNat (List.take (ℓ a0:Int).toNat a0))) none
abbrev eu.ou:=(List Int)→(List Int)→Int→Int→Int→Int→Option (List Int)
abbrev eu.ey:=(List Int)→(List Int)→Int→Int→Option (List Int)
def eu.y7(dP:eu.ey)(tc:eu.ou)(x0 x3:List Int)(x4 x5:Int)(cG ct:Int):Option (List Int):=
 cond (aX 0 x5) (let v4:Int:=W .i64 (x5-1);cond (bB v4 (ℓ x3)) (cond (bB (γ x3 v4.toNat 0) (ℓ x0)) (cond (bB x4 (ℓ x0)) (cond (aX (γ x0 (γ x3 v4.toNat 0).toNat 0) (γ x0 x4.toNat 0)) (tc x0 x3 x4 (W .i64 (x5-1)) cG ct) ((nF N x3 x5 ([x4])).bind λr6=>dP x0 r6 cG (W .i64 (ct+1)))) none) none) none) ((nF N x3 x5 ([x4])).bind λr8=>dP x0 r8 cG (W .i64 (ct+1)))
def eu.l6(N:Nat)(dP:eu.ey):Nat→eu.ou
 |0,_,_,_,_,_,_=>none
 |n+1,x0,x3,x4,x5,cG,ct=>eu.y7 N dP (eu.l6 N dP n) x0 x3 x4 x5 cG ct
def eu.qJ(A5:eu.ou)(dP:eu.ey)(x0 x3:List Int)(cG ct:Int):Option (List Int):=
 cond (aX ct cG) (A5 x0 x3 ct (ℓ x3) cG ct) ((PY N x3).bind λDr=>some Dr)
def eu.l3(N:Nat):Nat→eu.ey
 |0,_,_,_,_=>none
 |n+1,x0,x3,cG,ct=>eu.qJ N (eu.l6 N (eu.l3 N n) N) (eu.l3 N n) x0 x3 cG ct
def eu.b(N:Nat)(rn:eu.ey)(a0:List Int):Option (List Int):=
 cond (gh 0 (ℓ a0)) (rn a0 (List.replicate (0:Int).toNat 0) (ℓ a0) 0) none
def eu(a0:List Int):Option (List Int):=eu.b N (eu.l3 N N) a0
abbrev kk.oH:=(List Int)→(List Int)→Int→Int→Option ((List Int)×(Int))
abbrev kk.pS:=Int→Int→(List Int)→(List Int)→Int→(List Int)→Int→Int→Option ((List Int)×(Int))
abbrev kk.Ki:=Int→(List Int)→Int→Option ((List Int)×(Int))
def kk.Db(N:Nat)(oJ:kk.oH)(x8 N7:List Int)(W0 MH:Int):Option ((List Int)×(Int)):=
 cond (aX MH W0) (cond (bB MH (ℓ N7)) (cond (bB (γ N7 MH.toNat 0) (ℓ x8)) (cond (bB (γ N7 MH.toNat 0) (ℓ x8)) (oJ (List.set x8 (γ N7 MH.toNat 0).toNat (W .i64 ((γ x8 (γ N7 MH.toNat 0).toNat 0)+1))) N7 W0 (W .i64 (MH+1))) none) none) none) (some (x8,0))
def kk.AU(N:Nat):Nat→kk.oH
 |0,_,_,_,_=>none
 |n+1,x8,N7,W0,MH=>kk.Db N (kk.AU N n) x8 N7 W0 MH
def kk.tY(Kj:kk.oH)(yz:kk.pS)(x0 x6:Int)(x8 x9:List Int)(cG:Int)(Kk:List Int)(D0 HJ:Int):Option ((List Int)×(Int)):=
 cond (aX HJ D0) (cond (bB HJ (ℓ Kk)) ((SB N x0 (γ Kk HJ.toNat 0)).bind λr7=>(nq N r7 x6).bind λr8=>(PQ N r8.1).bind λr9=>cond (bB HJ (ℓ x8)) (let v10:List Int:=List.set x8 HJ.toNat r9.1;cond (bB HJ (ℓ x9)) (cond (bB HJ (ℓ v10)) (yz x0 x6 v10 (List.set x9 HJ.toNat r8.2.1) (W .i64 (cG-(γ v10 HJ.toNat 0))) Kk D0 (W .i64 (HJ+1))) none) none) none) none) ((eu N x9).bind λUA=>cond (kf 0 cG (ℓ UA) (ℓ UA)) (let MG:List Int:=List.drop (0:Int).toNat (List.take cG.toNat UA);Kj x8 MG (ℓ MG) 0) none)
def kk.wi(N:Nat):Nat→kk.pS
 |0,_,_,_,_,_,_,_,_=>none
 |n+1,x0,x6,x8,x9,cG,Kk,D0,HJ=>kk.tY N (kk.AU N N) (kk.wi N n) x0 x6 x8 x9 cG Kk D0 HJ
def kk.HH(N:Nat)(Du:kk.pS)(x0:Int)(x1:List Int)(x6:Int):Option ((List Int)×(Int)):=
 cond (gh (ℓ x1) (ℓ x1)) (let v4:List Int:=List.replicate (ℓ x1:Int).toNat 0;cond (gh (ℓ x1) (ℓ x1)) (cond (bq x0 0) (some (v4,0)) (Du x0 x6 v4 (List.replicate (ℓ x1:Int).toNat 0) x0 x1 (ℓ x1) 0)) none) none
def kk.j8(x0:Int)(x1:List Int)(x6:Int):Option ((List Int)×(Int)):=kk.HH N (kk.wi N N) x0 x1 x6
def kk.b(Dv:kk.Ki)(a0:Int)(a1:List Int):Option ((List Int)×(Int)):=
 cond (aX a0 0) (some ([],1)) ((Mq N a1).bind λr1=>cond (!r1) (some ([],1)) ((lz N a1).bind λr2=>cond (!r2.2) (some ([],2)) (cond (bq r2.1 0) (cond (aX 0 a0) (some ([],1)) (Dv a0 a1 r2.1)) (Dv a0 a1 r2.1))))
def kk(a0:Int)(a1:List Int):Option ((List Int)×(Int)):=kk.b N (kk.j8 N) a0 a1
def WS(a0 a1:Int):Option ((List Int)×(Int)):=
 cond (aX a0 0) (some ([],1)) (cond (aX a1 1) (some ([],1)) (cond (aX 64 a1) (some ([],1)) ((sl N ([1]) a1).bind λr1=>(kk N a0 r1).bind λr2=>some (r2.1,r2.2))))
abbrev tU.bW:=aw→ak→aw→Int→Int→Option Bool
def tU.dV(di:tU.bW)(x1:aw)(x2:ak)(x7:aw)(x8 x9:Int):Option Bool:=
 cond (aX x9 x8) (cond (bB x9 (ℓ x7)) (cond (aX (γ x7 x9.toNat bE).1 0) (some false) (cond (c4 (ℓ x2.1) (γ x7 x9.toNat bE).1) (some false) (cond (bq (γ x7 x9.toNat bE).2.1 0) (some false) ((Jv N (γ x7 x9.toNat bE).2.1).bind λr2=>cond (!r2) (some false) (cond (aX 0 x9) (let v3:Int:=W .i64 (x9-1);cond (bB v3 (ℓ x1)) (cond (c4 (γ x7 x9.toNat bE).1 (γ x1 v3.toNat bE).1) (some false) (di x1 x2 x7 x8 (W .i64 (x9+1)))) none) (di x1 x2 x7 x8 (W .i64 (x9+1)))))))) none) ((tM N x2).bind λr6=>some r6)
def tU.l2(N:Nat):Nat→tU.bW
 |0,_,_,_,_,_=>none
 |n+1,x1,x2,x7,x8,x9=>tU.dV N (tU.l2 N n) x1 x2 x7 x8 x9
def tU.b(N:Nat)(fK:tU.bW)(a0:ak)(a1:aw):Option Bool:=
 fK a1 a0 a1 (ℓ a1) 0
def tU(a0:ak)(a1:aw):Option Bool:=tU.b N (tU.l2 N N) a0 a1
def Yw(N:Nat)(a0:lD):Option Int:=
 some a0.2.2.2.1
abbrev vI.fL:=Unit→ak→aM→mQ→aw→Int→Int→Option (aM×(Int))
def vI.mP(lT:vI.fL)(x2:Unit)(x3:ak)(x6:aM)(x8:mQ)(wm:aw)(HL Bj:Int):Option (aM×(Int)):=
 cond (aX Bj HL) (cond (bB Bj (ℓ wm)) ((NQ N (γ wm Bj.toNat bE).2.1).bind λr3=>cond (bB (γ wm Bj.toNat bE).1 (ℓ x3.1)) ((Yw N (γ x3.1 (γ wm Bj.toNat bE).1.toNat aZ)).bind λr5=>(SB N (W .i64 r3) r5).bind λr6=>cond (small (ℓ x8+ℓ ([r6]))) (lT () x3 x6 (x8++([r6])) wm HL (W .i64 (Bj+1))) none) none) none) ((jK N x8).bind λr9=>some (r9.1,0))
def vI.l5(N:Nat):Nat→vI.fL
 |0,_,_,_,_,_,_,_=>none
 |n+1,x2,x3,x6,x8,wm,HL,Bj=>vI.mP N (vI.l5 N n) x2 x3 x6 x8 wm HL Bj
def vI.b(pP:vI.fL)(a0:ak)(a1:aw)(a2:Unit):Option (aM×(Int)):=
 (tU N a0 a1).bind λr1=>cond (!r1) (some (bE,1)) (pP () a0 bE ([]) a1 (ℓ a1) 0)
def vI(a0:ak)(a1:aw)(a2:Unit):Option (aM×(Int)):=vI.b N (vI.l5 N N) a0 a1 a2
def WN(a0:ak)(a1:aw):Option (aM×(Int)):=
 (vI N a0 a1 ()).bind λr1=>some (r1.1,r1.2)
def Yz(a0 a1:aM):Option (aM×(Bool)):=
 (mi N a0.2.1 a1.2.1 0).bind λr1=>(mi N (W .u64 a0.1) (W .u64 a1.1) r1.2).bind λr4=>let v5:Int:=W .i64 r4.1;cond (!(mg .bool (aX a0.1 0) (aX a1.1 0))) (cond (!(mg .bool (aX v5 0) (aX a0.1 0))) (some (bE,false)) (some ((v5,(r1.1,())),true))) (some ((v5,(r1.1,())),true))
def WT(a0:aM):Option (aM×(Bool)):=
 (Yz N bE a0).bind λr1=>some (r1.1,r1.2)
abbrev ck.Kl:=Int→ak→aw→aA→(List aw)→mO→Int→Int→Int→aw→Int→Int→(List Int)→Int→Int→Option (aA×(Int))
abbrev ck.Dw:=Int→ak→aw→aA→(List aw)→mO→Int→aw→Int→Int→(List Int)→Int→Int→Option (aA×(Int))
abbrev ck.Km:=Int→ak→aw→aA→Int→(List aw)→Int→Int→Option (aA×(Int))
abbrev ck.oH:=Int→ak→aw→aA→(List aw)→Int→aw→Int→Int→Option (aA×(Int))
abbrev ck.pS:=Int→ak→aw→aA→Int→aw→aM→Int→Int→Int→Option (aA×(Int))
abbrev ck.eM:=Int→ak→aw→aA→Int→Option (aA×(Int))
def ck.EJ(N:Nat)(db:ck.eM)(oJ:ck.oH)(Dx:ck.Dw)(x2:Int)(x3:ak)(x8:aw)(x9:aA)(cR:List aw)(ez:mO)(Bj UB qA:Int)(yw:aw)(vh Bk:Int)(vK:List Int)(zg rp:Int):Option (aA×(Int)):=
 cond (!bq UB 0) (cond (bB Bj (ℓ cR)) (cond (small (ℓ (γ cR Bj.toNat c5)+ℓ ([(ez.1,(UB,()))]))) (cond (bB Bj (ℓ cR)) (cond (bq (Bj.toNat:Nat) (Bj.toNat:Nat)) (Dx x2 x3 x8 x9 (List.set cR Bj.toNat ((γ cR Bj.toNat c5)++([(ez.1,(UB,()))]))) ez qA yw vh Bk vK zg (W .i64 (rp+1))) none) none) none) none) (Dx x2 x3 x8 x9 cR ez qA yw vh Bk vK zg (W .i64 (rp+1)))
def ck.J0(db:ck.eM)(oJ:ck.oH)(Dx:ck.Dw)(x2:Int)(x3:ak)(x8:aw)(x9:aA)(cR:List aw)(ez:mO)(Bj UB qA:Int)(yw:aw)(vh Bk:Int)(vK:List Int)(zg rp:Int):Option (aA×(Int)):=ck.EJ N db oJ Dx x2 x3 x8 x9 cR ez Bj UB qA yw vh Bk vK zg rp
def ck.Mv(N:Nat)(Dy:ck.Kl)(db:ck.eM)(oJ:ck.oH)(Dx:ck.Dw)(x2:Int)(x3:ak)(x8:aw)(x9:aA)(cR:List aw)(ez:mO)(qA:Int)(yw:aw)(vh Bk:Int)(vK:List Int)(zg rp:Int):Option (aA×(Int)):=
 cond (aX rp zg) (cond (bB rp (ℓ vK)) (cond (aX ez.2.1 0) (Dy x2 x3 x8 x9 cR ez rp (W .i64 (0-(γ vK rp.toNat 0))) qA yw vh Bk vK zg rp) (Dy x2 x3 x8 x9 cR ez rp (γ vK rp.toNat 0) qA yw vh Bk vK zg rp)) none) (oJ x2 x3 x8 x9 cR qA yw vh (W .i64 (Bk+1)))
def ck.KM(N:Nat)(db:ck.eM)(oJ:ck.oH):Nat→ck.Dw
 |0,_,_,_,_,_,_,_,_,_,_,_,_,_=>none
 |n+1,x2,x3,x8,x9,cR,ez,qA,yw,vh,Bk,vK,zg,rp=>ck.Mv N (ck.J0 N db oJ (ck.KM N db oJ n)) db oJ (ck.KM N db oJ n) x2 x3 x8 x9 cR ez qA yw vh Bk vK zg rp
def ck.MA(db:ck.eM)(N8:ck.Km)(x2:Int)(x3:ak)(x8:aw)(x9:aA)(qA:Int)(A6:List aw)(Ko zh:Int):Option (aA×(Int)):=
 cond (aX zh Ko) (cond (bB zh (ℓ A6)) (cond (bq (ℓ (γ A6 zh.toNat c5):Int) 0) (N8 x2 x3 x8 x9 qA A6 Ko (W .i64 (zh+1))) ((WN N x3 (γ A6 zh.toNat c5)).bind λr28=>(WT N r28.1).bind λr29=>(PQ N r29.1).bind λYK=>cond (!YK.2) (some ([],2)) (let Ux:Int:=W .i64 (x2+(ℓ x9:Int));cond (small (ℓ x9+ℓ ([(Ux,(γ A6 zh.toNat c5,(YK.1,(1,bE))))]))) (N8 x2 x3 x8 (x9++([(Ux,(γ A6 zh.toNat c5,(YK.1,(1,bE))))])) qA A6 Ko (W .i64 (zh+1))) none))) none) (db x2 x3 x8 x9 (W .i64 (qA+1)))
def ck.KN(N:Nat)(db:ck.eM):Nat→ck.Km
 |0,_,_,_,_,_,_,_,_=>none
 |n+1,x2,x3,x8,x9,qA,A6,Ko,zh=>ck.MA N db (ck.KN N db n) x2 x3 x8 x9 qA A6 Ko zh
def ck.Db(UC:ck.Dw)(UD:ck.Km)(db:ck.eM)(oJ:ck.oH)(x2:Int)(x3:ak)(x8:aw)(x9:aA)(cR:List aw)(qA:Int)(yw:aw)(vh Bk:Int):Option (aA×(Int)):=
 cond (aX Bk vh) (cond (bB Bk (ℓ yw)) ((NQ N (γ yw Bk.toNat bE).2.1).bind λYL=>(WS N (W .i64 YL) (ℓ cR)).bind λN4=>UC x2 x3 x8 x9 cR (γ yw Bk.toNat bE) qA yw vh Bk N4.1 (ℓ N4.1) 0) none) (UD x2 x3 x8 x9 qA cR (ℓ cR) 0)
def ck.AU(N:Nat)(db:ck.eM):Nat→ck.oH
 |0,_,_,_,_,_,_,_,_,_=>none
 |n+1,x2,x3,x8,x9,cR,qA,yw,vh,Bk=>ck.Db N (ck.KM N db (ck.AU N db n) N) (ck.KN N db N) db (ck.AU N db n) x2 x3 x8 x9 cR qA yw vh Bk
def ck.tY(Kj:ck.oH)(db:ck.eM)(yz:ck.pS)(x2:Int)(x3:ak)(x8:aw)(x9:aA)(cG:Int)(ct:aw)(dW:aM)(qA Kk D0:Int):Option (aA×(Int)):=
 cond (aX D0 Kk) (cond (bB D0 (ℓ x8)) (cond (bB (γ x8 D0.toNat bE).1 (ℓ x3.1)) (cond (bq (γ x3.1 (γ x8 D0.toNat bE).1.toNat aZ).1 cG) (cond (small (ℓ ct+ℓ ([γ x8 D0.toNat bE]))) ((NQ N (γ x8 D0.toNat bE).2.1).bind λr6=>(NX N (W .i64 r6)).bind λr8=>(WQ N dW r8).bind λr9=>yz x2 x3 x8 x9 cG (ct++([γ x8 D0.toNat bE])) r9.1 qA Kk (W .i64 (D0+1))) none) (yz x2 x3 x8 x9 cG ct dW qA Kk (W .i64 (D0+1)))) none) none) ((rr N dW x3.2.2.2.2.2.1).bind λHs=>cond (gh Hs Hs) (Kj x2 x3 x8 x9 (List.replicate Hs.toNat c5) qA ct (ℓ ct) 0) none)
def ck.wi(N:Nat)(db:ck.eM):Nat→ck.pS
 |0,_,_,_,_,_,_,_,_,_,_=>none
 |n+1,x2,x3,x8,x9,cG,ct,dW,qA,Kk,D0=>ck.tY N (ck.AU N db N) db (ck.wi N db n) x2 x3 x8 x9 cG ct dW qA Kk D0
def ck.G2(N:Nat)(Du:ck.pS)(db:ck.eM)(x2:Int)(x3:ak)(x8:aw)(x9:aA)(qA:Int):Option (aA×(Int)):=
 cond (aX qA 4) (Du x2 x3 x8 x9 qA ([]) bE qA (ℓ x8) 0) (some (x9,0))
def ck.l8(N:Nat):Nat→ck.eM
 |0,_,_,_,_,_=>none
 |n+1,x2,x3,x8,x9,qA=>ck.G2 N (ck.wi N (ck.l8 N n) N) (ck.l8 N n) x2 x3 x8 x9 qA
def ck.b(Kp:ck.eM)(a0:ak)(a1:bf)(a2:Int):Option (aA×(Int)):=
 (gQ N a0 a1).bind λr1=>cond (!r1) (some ([],1)) (cond (aX a2 1) (some ([],1)) (cond (aX 1099511627764 a2) (some ([],1)) ((u9 N a1.2.2.2.1 0).bind λr2=>cond (bq (ℓ r2) 0) (some ([],3)) (Kp a2 a0 r2 ([]) 0))))
def ck(a0:ak)(a1:bf)(a2:Int):Option (aA×(Int)):=ck.b N (ck.l8 N N) a0 a1 a2
abbrev ub.bW:=Int→dt→aA→Int→Int→Option (dt×(Bool))
def ub.dV(N:Nat)(di:ub.bW)(x1:Int)(x4:dt)(x8:aA)(x9 cG:Int):Option (dt×(Bool)):=
 cond (aX cG x9) (cond (bB cG (ℓ x8)) (cond (bq (γ x8 cG.toNat (0,(c5,aZ))).1 x1) (cond (small (ℓ (γ x8 cG.toNat (0,(c5,aZ))).2.1)) (some (((γ x8 cG.toNat (0,(c5,aZ))).1,((γ x8 cG.toNat (0,(c5,aZ))).2.1,(γ x8 cG.toNat (0,(c5,aZ))).2.2)),true)) none) (di x1 x4 x8 x9 (W .i64 (cG+1)))) none) (some ((0,(c5,aZ)),false))
def ub.l2(N:Nat):Nat→ub.bW
 |0,_,_,_,_,_=>none
 |n+1,x1,x4,x8,x9,cG=>ub.dV N (ub.l2 N n) x1 x4 x8 x9 cG
def ub.b(N:Nat)(fK:ub.bW)(a0:aA)(a1:Int):Option (dt×(Bool)):=
 fK a1 (0,(c5,aZ)) a0 (ℓ a0) 0
def ub(a0:aA)(a1:Int):Option (dt×(Bool)):=ub.b N (ub.l2 N N) a0 a1
abbrev ru.bK:=aw→aw→Int→Option Bool
def ru.dF(N:Nat)(cS:ru.bK)(x0 x1:aw)(x5:Int):Option Bool:=
 cond (aX x5 (ℓ x0)) (cond (bB x5 (ℓ x0)) (cond (bB x5 (ℓ x1)) (cond (!(mg (.pair (.int .i64) (.pair (.int .i64) .unit)) (γ x0 x5.toNat bE) (γ x1 x5.toNat bE))) (some false) (cS x0 x1 (W .i64 (x5+1)))) none) none) (some true)
def ru.l4(N:Nat):Nat→ru.bK
 |0,_,_,_=>none
 |n+1,x0,x1,x5=>ru.dF N (ru.l4 N n) x0 x1 x5
def ru.b(N:Nat)(eS:ru.bK)(a0 a1:aw):Option Bool:=
 cond (!bq (ℓ a0) (ℓ a1)) (some false) (eS a0 a1 0)
def ru(a0 a1:aw):Option Bool:=ru.b N (ru.l4 N N) a0 a1
abbrev ns.Ki:=aA→ak→dt→aA→Int→Int→Option Bool
abbrev ns.bK:=aA→ak→aA→Int→Int→Option Bool
def ns.HH(N:Nat)(cS:ns.bK)(x1:aA)(x2:ak)(x6:dt)(cR:aA)(gn ez:Int):Option Bool:=
 cond (bq x6.2.2.2.1 1) (cond (!bq x6.2.2.2.2.1 0) (some false) (cond (!bq x6.2.2.2.2.2.1 0) (some false) (cS x1 x2 cR gn (W .i64 (ez+1))))) (cond (bq x6.2.2.2.1 3) (cond (!bq x6.2.2.2.2.1 0) (some false) (cond (!bq x6.2.2.2.2.2.1 0) (some false) (cS x1 x2 cR gn (W .i64 (ez+1))))) (cond (bq x6.2.2.2.1 2) (cond (aX x6.2.2.2.2.1 1) (some false) (cond (aX 12 x6.2.2.2.2.1) (some false) (cond (aX x6.2.2.2.2.2.1 (-1152921504606846976)) (some false) (cond (aX 1152921504606846976 x6.2.2.2.2.2.1) (some false) (cS x1 x2 cR gn (W .i64 (ez+1))))))) (some false)))
def ns.j8(cS:ns.bK)(x1:aA)(x2:ak)(x6:dt)(cR:aA)(gn ez:Int):Option Bool:=ns.HH N cS x1 x2 x6 cR gn ez
def ns.dF(Dv:ns.Ki)(cS:ns.bK)(x1:aA)(x2:ak)(cR:aA)(gn ez:Int):Option Bool:=
 cond (aX ez gn) (cond (bB ez (ℓ cR)) (cond (aX (γ cR ez.toNat (0,(c5,aZ))).1 1) (some false) (cond (aX 1099511627776 (γ cR ez.toNat (0,(c5,aZ))).1) (some false) (cond (aX 0 ez) (let v3:Int:=W .i64 (ez-1);cond (bB v3 (ℓ x1)) (cond (c4 (γ cR ez.toNat (0,(c5,aZ))).1 (γ x1 v3.toNat (0,(c5,aZ))).1) (some false) (cond (bq (ℓ (γ cR ez.toNat (0,(c5,aZ))).2.1:Int) 0) (some false) ((tU N x2 (γ cR ez.toNat (0,(c5,aZ))).2.1).bind λr4=>cond (!r4) (some false) (cond (aX 0 (γ cR ez.toNat (0,(c5,aZ))).2.2.1) (some false) (Dv x1 x2 (γ cR ez.toNat (0,(c5,aZ))) cR gn ez))))) none) (cond (bq (ℓ (γ cR ez.toNat (0,(c5,aZ))).2.1:Int) 0) (some false) ((tU N x2 (γ cR ez.toNat (0,(c5,aZ))).2.1).bind λr9=>cond (!r9) (some false) (cond (aX 0 (γ cR ez.toNat (0,(c5,aZ))).2.2.1) (some false) (Dv x1 x2 (γ cR ez.toNat (0,(c5,aZ))) cR gn ez))))))) none) (some true)
def ns.l4(N:Nat):Nat→ns.bK
 |0,_,_,_,_,_=>none
 |n+1,x1,x2,cR,gn,ez=>ns.dF N (ns.j8 N (ns.l4 N n)) (ns.l4 N n) x1 x2 cR gn ez
def ns.b(eS:ns.bK)(a0:ak)(a1:aA):Option Bool:=
 (tM N a0).bind λr1=>cond (!r1) (some false) (cond (aX 12 (ℓ a1)) (some false) (eS a1 a0 a1 (ℓ a1) 0))
def ns(a0:ak)(a1:aA):Option Bool:=ns.b N (ns.l4 N N) a0 a1
def F7:Option Bool:=
 (WY N).bind λr1=>(ck N r1.1 r1.2 5).bind λr2=>(ub N r2.1 7).bind λr3=>(ck N r1.1 (r1.2.1,(r1.2.2.1,(r1.2.2.2.1,(W6,r1.2.2.2.2.2)))) 5).bind λr4=>cond (bq r2.2 0) (cond (bq (ℓ r2.1) 4) (cond (bB 0 (ℓ r2.1)) (cond (bq (γ r2.1 (0:Int).toNat (0,(c5,aZ))).1 5) (cond (bB 0 (ℓ r2.1)) ((ru N (γ r2.1 (0:Int).toNat (0,(c5,aZ))).2.1 ([(0,(3,()))])).bind λr5=>cond (r5) (cond (bB 0 (ℓ r2.1)) (cond (bq (γ r2.1 (0:Int).toNat (0,(c5,aZ))).2.2.1 (-6)) (cond (bB 0 (ℓ r2.1)) (cond (bq (γ r2.1 (0:Int).toNat (0,(c5,aZ))).2.2.2.1 1) (cond (r3.2) ((ru N r3.1.2.1 ([(0,(2,()))])).bind λr6=>cond (r6) (cond (bB 3 (ℓ r2.1)) ((ru N (γ r2.1 (3:Int).toNat (0,(c5,aZ))).2.1 ([(1,((-2),()))])).bind λr7=>cond (r7) (cond (bq r4.2 3) ((ns N r1.1 r2.1).bind λr8=>cond (r8) ((NX N 7).bind λr9=>(rr N r9 3).bind λDr=>cond (bq Dr 3) ((NX N 6).bind λEN=>(rr N EN 3).bind λHs=>some (bq Hs 2)) (some false)) (some false)) (some false)) (some false)) none) (some false)) (some false)) (some false)) none) (some false)) none) (some false)) none) (some false)) none) (some false)) (some false)
def za(N:Nat)(a0 a1 a2:Int):Option Bool:=
 cond (c4 a1 a0) (some (c4 a0 a2)) (some false)
abbrev tN.bK:=ak→Int→Option Bool
def tN.dF(cS:tN.bK)(x1:ak)(x3:Int):Option Bool:=
 cond (aX x3 (ℓ x1.1)) (cond (bB x3 (ℓ x1.1)) ((za N (γ x1.1 x3.toNat aZ).1 0 3).bind λr2=>cond (!r2) (some false) ((za N (γ x1.1 x3.toNat aZ).2.1 1 1000000000000).bind λr3=>cond (!r3) (some false) ((za N (γ x1.1 x3.toNat aZ).2.2.1 0 1000000000).bind λr4=>cond (!r4) (some false) ((za N (γ x1.1 x3.toNat aZ).2.2.2.1 0 1000000000).bind λr5=>cond (!r5) (some false) (cS x1 (W .i64 (x3+1))))))) none) (cond (c4 0 x1.2.1) ((za N x1.2.2.1 0 4).bind λr7=>cond (r7) ((za N x1.2.2.2.1 0 1000000).bind λr8=>cond (r8) ((za N x1.2.2.2.2.1 0 1000000).bind λr9=>cond (r9) ((za N x1.2.2.2.2.2.1 1 4611686018427387904).bind λDr=>cond (Dr) (some (c4 0 x1.2.2.2.2.2.2.1)) (some false)) (some false)) (some false)) (some false)) (some false))
def tN.l4(N:Nat):Nat→tN.bK
 |0,_,_=>none
 |n+1,x1,x3=>tN.dF N (tN.l4 N n) x1 x3
def tN.b(N:Nat)(eS:tN.bK)(a0:ak):Option Bool:=
 cond (aX (ℓ a0.1) 1) (some false) (cond (aX 6 (ℓ a0.1)) (some false) (eS a0 0))
def tN(a0:ak):Option Bool:=tN.b N (tN.l4 N N) a0
abbrev jM.bW:=aw→Int→Option Bool
def jM.dV(N:Nat)(di:jM.bW)(x0:aw)(x3:Int):Option Bool:=
 cond (aX x3 (ℓ x0)) (cond (bB x3 (ℓ x0)) (cond (aX (γ x0 x3.toNat bE).1 1) (some false) (cond (bB x3 (ℓ x0)) (cond (aX 12 (γ x0 x3.toNat bE).1) (some false) (cond (bB x3 (ℓ x0)) (cond (aX (γ x0 x3.toNat bE).2.1 1) (some false) (cond (bB x3 (ℓ x0)) (cond (aX 4 (γ x0 x3.toNat bE).2.1) (some false) (cond (aX 0 x3) (cond (bB x3 (ℓ x0)) (let v2:Int:=W .i64 (x3-1);cond (bB v2 (ℓ x0)) (cond (c4 (γ x0 x3.toNat bE).1 (γ x0 v2.toNat bE).1) (some false) (di x0 (W .i64 (x3+1)))) none) none) (di x0 (W .i64 (x3+1))))) none)) none)) none)) none) (some true)
def jM.l2(N:Nat):Nat→jM.bW
 |0,_,_=>none
 |n+1,x0,x3=>jM.dV N (jM.l2 N n) x0 x3
def jM.b(N:Nat)(fK:jM.bW)(a0:aw):Option Bool:=
 fK a0 0
def jM(a0:aw):Option Bool:=jM.b N (jM.l2 N N) a0
abbrev cY.eM:=bN→Int→lD→Int→Option Bool
abbrev cY.Kd:=bN→Int→lD→Option Bool
abbrev cY.bW:=bN→Int→Option Bool
def cY.G2(N:Nat)(di:cY.bW)(db:cY.eM)(x0:bN)(x3:Int)(x4:lD)(x5:Int):Option Bool:=
 cond (aX x5 x3) (cond (bq x4.2.2.1 1) (cond (bB x5 (ℓ x0)) (cond (bq (γ x0 x5.toNat aZ).2.2.1 1) (cond (bB x5 (ℓ x0)) (cond (bq (γ x0 x5.toNat aZ).2.1 x4.2.1) (some false) (db x0 x3 x4 (W .i64 (x5+1)))) none) (db x0 x3 x4 (W .i64 (x5+1)))) none) (db x0 x3 x4 (W .i64 (x5+1)))) (di x0 (W .i64 (x3+1)))
def cY.l8(N:Nat)(di:cY.bW):Nat→cY.eM
 |0,_,_,_,_=>none
 |n+1,x0,x3,x4,x5=>cY.G2 N di (cY.l8 N di n) x0 x3 x4 x5
def cY.Jj(N:Nat)(Kp:cY.eM)(di:cY.bW)(x0:bN)(x3:Int)(x4:lD):Option Bool:=
 Kp x0 x3 x4 0
def cY.j7(di:cY.bW)(x0:bN)(x3:Int)(x4:lD):Option Bool:=cY.Jj N (cY.l8 N di N) di x0 x3 x4
def cY.dV(N:Nat)(zf:cY.Kd)(di:cY.bW)(x0:bN)(x3:Int):Option Bool:=
 cond (aX x3 (ℓ x0)) (cond (bB x3 (ℓ x0)) (cond (aX (γ x0 x3.toNat aZ).1 1) (some false) (cond (aX 24 (γ x0 x3.toNat aZ).1) (some false) (cond (aX (γ x0 x3.toNat aZ).2.1 1) (some false) (cond (aX 12 (γ x0 x3.toNat aZ).2.1) (some false) (cond (!bq (γ x0 x3.toNat aZ).2.2.1 1) (cond (!bq (γ x0 x3.toNat aZ).2.2.1 2) (some false) (cond (aX (γ x0 x3.toNat aZ).2.2.2.1 0) (some false) (cond (aX 1000000000000 (γ x0 x3.toNat aZ).2.2.2.1) (some false) (cond (aX 0 x3) (let v2:Int:=W .i64 (x3-1);cond (bB v2 (ℓ x0)) (cond (c4 (γ x0 x3.toNat aZ).1 (γ x0 v2.toNat aZ).1) (some false) (zf x0 x3 (γ x0 x3.toNat aZ))) none) (zf x0 x3 (γ x0 x3.toNat aZ)))))) (cond (aX (γ x0 x3.toNat aZ).2.2.2.1 0) (some false) (cond (aX 1000000000000 (γ x0 x3.toNat aZ).2.2.2.1) (some false) (cond (aX 0 x3) (let v9:Int:=W .i64 (x3-1);cond (bB v9 (ℓ x0)) (cond (c4 (γ x0 x3.toNat aZ).1 (γ x0 v9.toNat aZ).1) (some false) (zf x0 x3 (γ x0 x3.toNat aZ))) none) (zf x0 x3 (γ x0 x3.toNat aZ)))))))))) none) (some true)
def cY.l2(N:Nat):Nat→cY.bW
 |0,_,_=>none
 |n+1,x0,x3=>cY.dV N (cY.j7 N (cY.l2 N n)) (cY.l2 N n) x0 x3
def cY.b(N:Nat)(fK:cY.bW)(a0:bN):Option Bool:=
 fK a0 0
def cY(a0:bN):Option Bool:=cY.b N (cY.l2 N N) a0
abbrev jN.bW:=aw→Int→Int→Option Int
def jN.dV(N:Nat)(di:jN.bW)(x0:aw)(x1 x5:Int):Option Int:=
 cond (aX x5 (ℓ x0)) (cond (bB x5 (ℓ x0)) (cond (bq (γ x0 x5.toNat bE).1 x1) (cond (bB x5 (ℓ x0)) (some (γ x0 x5.toNat bE).2.1) none) (di x0 x1 (W .i64 (x5+1)))) none) (some 0)
def jN.l2(N:Nat):Nat→jN.bW
 |0,_,_,_=>none
 |n+1,x0,x1,x5=>jN.dV N (jN.l2 N n) x0 x1 x5
def jN.b(N:Nat)(fK:jN.bW)(a0:aw)(a1:Int):Option Int:=
 fK a0 a1 0
def jN(a0:aw)(a1:Int):Option Int:=jN.b N (jN.l2 N N) a0 a1
abbrev vD.bK:=aw→bN→Int→Option Bool
def vD.dF(cS:vD.bK)(x0:aw)(x1:bN)(x5:Int):Option Bool:=
 cond (aX x5 (ℓ x1)) (cond (bB x5 (ℓ x1)) ((jN N x0 (γ x1 x5.toNat aZ).2.1).bind λr4=>cond (bq r4 0) (some false) (cS x0 x1 (W .i64 (x5+1)))) none) (some true)
def vD.l4(N:Nat):Nat→vD.bK
 |0,_,_,_=>none
 |n+1,x0,x1,x5=>vD.dF N (vD.l4 N n) x0 x1 x5
def vD.b(eS:vD.bK)(a0:aw)(a1:bN):Option Bool:=
 (jM N a0).bind λr1=>cond (!r1) (some false) ((cY N a1).bind λr2=>cond (!r2) (some false) (eS a0 a1 0))
def vD(a0:aw)(a1:bN):Option Bool:=vD.b N (vD.l4 N N) a0 a1
def L0(N:Nat)(a0 a1:Int):Option Bool:=
 cond (bq a0 1) (some (bq a1 0)) (cond (bq a0 2) (some (bq a1 0)) (cond (bq a0 3) (some (bq a1 0)) (cond (bq a0 4) (some (bq a1 0)) (cond (bq a0 5) (cond (c4 1 a1) (some (c4 a1 24)) (some false)) (cond (bq a0 6) (cond (c4 1 a1) (some (c4 a1 12)) (some false)) (cond (bq a0 7) (cond (c4 1 a1) (some (c4 a1 12)) (some false)) (some false)))))))
abbrev uW.bW:=bo→Int→Option Bool
def uW.dV(di:uW.bW)(x0:bo)(x3:Int):Option Bool:=
 cond (aX x3 (ℓ x0)) (cond (bB x3 (ℓ x0)) (cond (bB x3 (ℓ x0)) ((L0 N (γ x0 x3.toNat cH).1 (γ x0 x3.toNat cH).2.1).bind λr2=>cond (!r2) (some false) (cond (bB x3 (ℓ x0)) (cond (bq (γ x0 x3.toNat cH).2.2.1 0) (some false) (cond (aX 0 x3) (cond (bB x3 (ℓ x0)) (let v3:Int:=W .i64 (x3-1);cond (bB v3 (ℓ x0)) (cond (aX (γ x0 x3.toNat cH).1 (γ x0 v3.toNat cH).1) (some false) (cond (bB x3 (ℓ x0)) (let v4:Int:=W .i64 (x3-1);cond (bB v4 (ℓ x0)) (cond (bq (γ x0 x3.toNat cH).1 (γ x0 v4.toNat cH).1) (cond (bB x3 (ℓ x0)) (let v5:Int:=W .i64 (x3-1);cond (bB v5 (ℓ x0)) (cond (c4 (γ x0 x3.toNat cH).2.1 (γ x0 v5.toNat cH).2.1) (some false) (di x0 (W .i64 (x3+1)))) none) none) (di x0 (W .i64 (x3+1)))) none) none)) none) none) (di x0 (W .i64 (x3+1))))) none)) none) none) (some true)
def uW.l2(N:Nat):Nat→uW.bW
 |0,_,_=>none
 |n+1,x0,x3=>uW.dV N (uW.l2 N n) x0 x3
def uW.b(N:Nat)(fK:uW.bW)(a0:bo):Option Bool:=
 fK a0 0
def uW(a0:bo):Option Bool:=uW.b N (uW.l2 N N) a0
abbrev tQ.bW:=bo→Int→Option Bool
def tQ.dV(N:Nat)(di:tQ.bW)(x0:bo)(x3:Int):Option Bool:=
 cond (aX x3 (ℓ x0)) (cond (bB x3 (ℓ x0)) (cond (aX (γ x0 x3.toNat cH).1 0) (some false) (cond (aX 24 (γ x0 x3.toNat cH).1) (some false) (cond (aX (γ x0 x3.toNat cH).2.1 0) (some false) (cond (c4 6 (γ x0 x3.toNat cH).2.1) (some false) (cond (bq (γ x0 x3.toNat cH).2.2.1 0) (some false) (cond (bq (γ x0 x3.toNat cH).2.2.1 (-9223372036854775808)) (some false) (cond (aX 0 x3) (let v2:Int:=W .i64 (x3-1);cond (bB v2 (ℓ x0)) (cond (aX (γ x0 x3.toNat cH).1 (γ x0 v2.toNat cH).1) (some false) (let v3:Int:=W .i64 (x3-1);cond (bB v3 (ℓ x0)) (cond (bq (γ x0 x3.toNat cH).1 (γ x0 v3.toNat cH).1) (let v4:Int:=W .i64 (x3-1);cond (bB v4 (ℓ x0)) (cond (c4 (γ x0 x3.toNat cH).2.1 (γ x0 v4.toNat cH).2.1) (some false) (di x0 (W .i64 (x3+1)))) none) (di x0 (W .i64 (x3+1)))) none)) none) (di x0 (W .i64 (x3+1)))))))))) none) (some true)
def tQ.l2(N:Nat):Nat→tQ.bW
 |0,_,_=>none
 |n+1,x0,x3=>tQ.dV N (tQ.l2 N n) x0 x3
def tQ.b(N:Nat)(fK:tQ.bW)(a0:bo):Option Bool:=
 fK a0 0
def tQ(a0:bo):Option Bool:=tQ.b N (tQ.l2 N N) a0
abbrev iY.bW:=(List Int)→Int→Option (List Int)
def iY.dV(N:Nat)(di:iY.bW)(x0:List Int)(x3:Int):Option (List Int):=
 cond (aX 0 x3) (let v2:Int:=W .i64 (x3-1);cond (bB v2 (ℓ x0)) (cond (bq (γ x0 v2.toNat 0) 0) (di x0 (W .i64 (x3-1))) (cond (kf 0 x3 x3 (ℓ x0)) (some (List.drop (0:Int).toNat (List.take x3.toNat x0))) none)) none) (cond (kf 0 x3 x3 (ℓ x0)) (some (List.drop (0:Int).toNat (List.take x3.toNat x0))) none)
def iY.l2(N:Nat):Nat→iY.bW
 |0,_,_=>none
 |n+1,x0,x3=>iY.dV N (iY.l2 N n) x0 x3
def iY.b(N:Nat)(fK:iY.bW)(a0:List Int):Option (List Int):=
 fK a0 (ℓ a0:Int)
def iY(a0:List Int):Option (List Int):=iY.b N (iY.l2 N N) a0
def T9(a0:Int):Option (List Int):=
 cond (aX 32 0) none ((iY N ([(hZ .and .u64 a0 4294967295),(shr .u64 a0 32)])).bind λr3=>some r3)
def Jm(a0:Bool)(a1:List Int):Option ay:=
 (iY N a1).bind λr1=>cond (a0) (some (aX 0 (ℓ r1:Int),(r1,()))) (some (false,(r1,())))
def AF(a0:Int):Option ay:=
 let v1:Int:=W .u64 a0;cond (aX a0 0) ((T9 N (W .u64 (0-v1))).bind λr3=>(Jm N (aX a0 0) r3).bind λr4=>some r4) ((T9 N v1).bind λr5=>(Jm N (aX a0 0) r5).bind λr6=>some r6)
def LH(N:Nat)(a0:List Int)(a1:Int):Option Int:=
 cond (aX a1 (ℓ a0)) (cond (bB a1 (ℓ a0)) (some (γ a0 a1.toNat 0)) none) (some 0)
abbrev oF.Qb:=(List Int)→(List Int)→(List Int)→Int→Int→Option (List Int)
abbrev oF.bK:=(List Int)→(List Int)→(List Int)→Int→Int→Option (List Int)
def oF.NU(cS:oF.bK)(x0 x1 x5:List Int)(x6 x7:Int):Option (List Int):=
 (LH N x0 x7).bind λr3=>(LH N x1 x7).bind λr4=>let v6:Int:=W .u64 (x6+(W .u64 (r3+r4)));let v7:Int:=hZ .and .u64 v6 4294967295;cond (small (ℓ x5+ℓ ([v7]))) (cond (aX 32 0) none (cS x0 x1 (x5++([v7])) (shr .u64 v6 32) (W .i64 (x7+1)))) none
def oF.j6(cS:oF.bK)(x0 x1 x5:List Int)(x6 x7:Int):Option (List Int):=oF.NU N cS x0 x1 x5 x6 x7
def oF.dF(N:Nat)(Ht:oF.Qb)(cS:oF.bK)(x0 x1 x5:List Int)(x6 x7:Int):Option (List Int):=
 cond (aX x7 (ℓ x0)) (Ht x0 x1 x5 x6 x7) (cond (aX x7 (ℓ x1)) (Ht x0 x1 x5 x6 x7) (cond (aX 0 x6) (Ht x0 x1 x5 x6 x7) (some x5)))
def oF.l4(N:Nat):Nat→oF.bK
 |0,_,_,_,_,_=>none
 |n+1,x0,x1,x5,x6,x7=>oF.dF N (oF.j6 N (oF.l4 N n)) (oF.l4 N n) x0 x1 x5 x6 x7
def oF.b(N:Nat)(eS:oF.bK)(a0 a1:List Int):Option (List Int):=
 eS a0 a1 ([]) 0 0
def oF(a0 a1:List Int):Option (List Int):=oF.b N (oF.l4 N N) a0 a1
abbrev vx.ou:=(List Int)→(List Int)→Int→Option Int
def vx.y7(N:Nat)(tc:vx.ou)(x0 x1:List Int)(x5:Int):Option Int:=
 cond (c4 0 x5) (cond (bB x5 (ℓ x0)) (cond (bB x5 (ℓ x1)) (cond (aX (γ x0 x5.toNat 0) (γ x1 x5.toNat 0)) (some (-1)) (cond (bB x5 (ℓ x0)) (cond (bB x5 (ℓ x1)) (cond (aX (γ x1 x5.toNat 0) (γ x0 x5.toNat 0)) (some 1) (tc x0 x1 (W .i64 (x5-1)))) none) none)) none) none) (some 0)
def vx.l6(N:Nat):Nat→vx.ou
 |0,_,_,_=>none
 |n+1,x0,x1,x5=>vx.y7 N (vx.l6 N n) x0 x1 x5
def vx.b(N:Nat)(A5:vx.ou)(a0 a1:List Int):Option Int:=
 cond (!bq (ℓ a0) (ℓ a1)) (cond (aX (ℓ a0) (ℓ a1)) (some (-1)) (some 1)) (A5 a0 a1 (W .i64 ((ℓ a0:Int)-1)))
def vx(a0 a1:List Int):Option Int:=vx.b N (vx.l6 N N) a0 a1
abbrev vY.bK:=(List Int)→(List Int)→(List Int)→Int→Int→Option (List Int)
def vY.dF(cS:vY.bK)(x0 x1 x5:List Int)(x6 x7:Int):Option (List Int):=
 cond (aX x7 (ℓ x0)) (cond (bB x7 (ℓ x0)) ((LH N x1 x7).bind λr2=>let v3:Int:=W .u64 (r2+x6);cond (aX (γ x0 x7.toNat 0) v3) (let v5:Int:=W .u64 ((W .u64 ((γ x0 x7.toNat 0)+4294967296))-v3);cond (small (ℓ x5+ℓ ([v5]))) (cS x0 x1 (x5++([v5])) 1 (W .i64 (x7+1))) none) (let v8:Int:=W .u64 ((γ x0 x7.toNat 0)-v3);cond (small (ℓ x5+ℓ ([v8]))) (cS x0 x1 (x5++([v8])) 0 (W .i64 (x7+1))) none)) none) (some x5)
def vY.l4(N:Nat):Nat→vY.bK
 |0,_,_,_,_,_=>none
 |n+1,x0,x1,x5,x6,x7=>vY.dF N (vY.l4 N n) x0 x1 x5 x6 x7
def vY.b(N:Nat)(eS:vY.bK)(a0 a1:List Int):Option (List Int):=
 eS a0 a1 ([]) 0 0
def vY(a0 a1:List Int):Option (List Int):=vY.b N (vY.l4 N N) a0 a1
def DZ(a0 a1:ay):Option ay:=
 cond (mg .bool a0.1 a1.1) ((oF N a0.2.1 a1.2.1).bind λr1=>(Jm N a0.1 r1).bind λr2=>some r2) ((vx N a0.2.1 a1.2.1).bind λr3=>cond (c4 0 r3) ((vY N a0.2.1 a1.2.1).bind λr4=>(Jm N a0.1 r4).bind λr5=>some r5) ((vY N a1.2.1 a0.2.1).bind λr6=>(Jm N a1.1 r6).bind λr7=>some r7))
abbrev jQ.fL:=bo→Int→ay→ay→Int→Option ay
def jQ.mP(lT:jQ.fL)(x0:bo)(x1:Int)(x4 x5:ay)(x6:Int):Option ay:=
 cond (aX x6 (ℓ x0)) (cond (bB x6 (ℓ x0)) (cond (bq (γ x0 x6.toNat cH).2.1 x1) (cond (bB x6 (ℓ x0)) ((AF N (γ x0 x6.toNat cH).2.2.1).bind λr3=>(DZ N x5 r3).bind λr4=>lT x0 x1 x4 r4 (W .i64 (x6+1))) none) (lT x0 x1 x4 x5 (W .i64 (x6+1)))) none) (some x5)
def jQ.l5(N:Nat):Nat→jQ.fL
 |0,_,_,_,_,_=>none
 |n+1,x0,x1,x4,x5,x6=>jQ.mP N (jQ.l5 N n) x0 x1 x4 x5 x6
def jQ.b(pP:jQ.fL)(a0:bo)(a1:Int):Option ay:=
 (tQ N a0).bind λr1=>cond (!r1) (some (false,z6)) (pP a0 a1 (false,z6) (false,z6) 0)
def jQ(a0:bo)(a1:Int):Option ay:=jQ.b N (jQ.l5 N N) a0 a1
def KL(N:Nat)(a0:ay):Option Int:=
 cond (bq (ℓ a0.2.1) 0) (some 0) (cond (a0.1) (some (-1)) (some 1))
abbrev vG.bW:=bo→Int→Option Bool
def vG.dV(di:vG.bW)(x0:bo)(x3:Int):Option Bool:=
 cond (aX x3 6) ((jQ N x0 x3).bind λr2=>(KL N r2).bind λr3=>cond (!bq r3 0) (some false) (di x0 (W .i64 (x3+1)))) ((tQ N x0).bind λr5=>some r5)
def vG.l2(N:Nat):Nat→vG.bW
 |0,_,_=>none
 |n+1,x0,x3=>vG.dV N (vG.l2 N n) x0 x3
def vG.b(N:Nat)(fK:vG.bW)(a0:bo):Option Bool:=
 fK a0 0
def vG(a0:bo):Option Bool:=vG.b N (vG.l2 N N) a0
def Ug(N:Nat)(a0:Int):Option Bool:=
 cond (c4 1 a0) (some (c4 a0 1000000000000)) (some false)
def L6(a0:Et):Option Bool:=
 cond (c4 1 a0.1) (cond (c4 a0.1 1099511627776) (cond (c4 1 a0.2.1) (cond (c4 a0.2.1 24) (cond (c4 0 a0.2.2.1) (cond (aX a0.2.2.1 6) (cond (bq a0.2.2.2.1 1) (cond (c4 1 a0.2.2.2.2.1) (cond (c4 a0.2.2.2.2.1 1000000000) ((Ug N a0.2.2.2.2.2.1).bind λr1=>some r1) (some false)) (some false)) (cond (bq a0.2.2.2.1 2) (cond (c4 1 a0.2.2.2.2.1) (cond (c4 a0.2.2.2.2.1 1000000000) ((Ug N a0.2.2.2.2.2.1).bind λr2=>some r2) (some false)) (some false)) (some false))) (some false)) (some false)) (some false)) (some false)) (some false)) (some false)
abbrev vB.bK:=n9→Int→Option Bool
def vB.dF(cS:vB.bK)(x0:n9)(x3:Int):Option Bool:=
 cond (aX x3 (ℓ x0)) (cond (bB x3 (ℓ x0)) ((L6 N (γ x0 x3.toNat vP)).bind λr2=>cond (!r2) (some false) (cond (aX 0 x3) (cond (bB x3 (ℓ x0)) (let v3:Int:=W .i64 (x3-1);cond (bB v3 (ℓ x0)) (cond (c4 (γ x0 x3.toNat vP).1 (γ x0 v3.toNat vP).1) (some false) (cS x0 (W .i64 (x3+1)))) none) none) (cS x0 (W .i64 (x3+1))))) none) (some true)
def vB.l4(N:Nat):Nat→vB.bK
 |0,_,_=>none
 |n+1,x0,x3=>vB.dF N (vB.l4 N n) x0 x3
def vB.b(N:Nat)(eS:vB.bK)(a0:n9):Option Bool:=
 cond (aX 32 (ℓ a0)) (some false) (eS a0 0)
def vB(a0:n9):Option Bool:=vB.b N (vB.l4 N N) a0
abbrev uZ.fL:=bo→ay→ay→Int→Option ay
def uZ.mP(lT:uZ.fL)(x0:bo)(x2 x3:ay)(x4:Int):Option ay:=
 cond (aX x4 (ℓ x0)) (cond (bB x4 (ℓ x0)) ((AF N (γ x0 x4.toNat cH).2.2.1).bind λr3=>(DZ N x3 r3).bind λr4=>lT x0 x2 r4 (W .i64 (x4+1))) none) (some x3)
def uZ.l5(N:Nat):Nat→uZ.fL
 |0,_,_,_,_=>none
 |n+1,x0,x2,x3,x4=>uZ.mP N (uZ.l5 N n) x0 x2 x3 x4
def uZ.b(pP:uZ.fL)(a0:bo):Option ay:=
 (uW N a0).bind λr1=>cond (!r1) (some (false,z6)) (pP a0 (false,z6) (false,z6) 0)
def uZ(a0:bo):Option ay:=uZ.b N (uZ.l5 N N) a0
abbrev j2.bW:=bN→Int→lD→Int→Option (lD×(Bool))
def j2.dV(N:Nat)(di:j2.bW)(x0:bN)(x1:Int)(x4:lD)(x6:Int):Option (lD×(Bool)):=
 cond (aX x6 (ℓ x0)) (cond (bB x6 (ℓ x0)) (cond (bq (γ x0 x6.toNat aZ).1 x1) (cond (bB x6 (ℓ x0)) (some (γ x0 x6.toNat aZ,true)) none) (di x0 x1 x4 (W .i64 (x6+1)))) none) (some (aZ,false))
def j2.l2(N:Nat):Nat→j2.bW
 |0,_,_,_,_=>none
 |n+1,x0,x1,x4,x6=>j2.dV N (j2.l2 N n) x0 x1 x4 x6
def j2.b(N:Nat)(fK:j2.bW)(a0:bN)(a1:Int):Option (lD×(Bool)):=
 fK a0 a1 aZ 0
def j2(a0:bN)(a1:Int):Option (lD×(Bool)):=j2.b N (j2.l2 N N) a0 a1
def L8(a0:bN)(a1:Int):Option (lD×(Bool)):=
 (cY N a0).bind λr1=>cond (!r1) (some (aZ,false)) ((j2 N a0 a1).bind λr2=>some (r2.1,r2.2))
def SF(a0:bf)(a1:Int):Option Bool:=
 (L8 N a0.2.1 a1).bind λr1=>cond (r1.2) (some true) (some (bq a1 0))
def PU(a0:aw)(a1:Int):Option Int:=
 (jM N a0).bind λr1=>cond (!r1) (some 0) ((jN N a0 a1).bind λr2=>some r2)
abbrev et.pQ:=ak→bf→Int→Option Bool
abbrev et.yx:=ak→bf→Int→Option Bool
abbrev et.Kq:=ak→bf→Int→Option Bool
abbrev et.ou:=ak→bf→Int→Option Bool
def et.tT(Ds:et.pQ)(x2:ak)(x3:bf)(x9:Int):Option Bool:=
 cond (aX x9 (ℓ x3.2.2.2.2.2.1)) (cond (bB x9 (ℓ x3.2.2.2.2.2.1)) ((SF N x3 (γ x3.2.2.2.2.2.1 x9.toNat vP).2.1).bind λYM=>cond (!YM) (some false) (cond (bB x9 (ℓ x3.2.2.2.2.2.1)) (cond (c4 (ℓ x2.1) (γ x3.2.2.2.2.2.1 x9.toNat vP).2.2.1) (some false) (Ds x2 x3 (W .i64 (x9+1)))) none)) none) (some true)
def et.u6(N:Nat):Nat→et.pQ
 |0,_,_,_=>none
 |n+1,x2,x3,x9=>et.tT N (et.u6 N n) x2 x3 x9
def et.CA(Dt:et.pQ)(FT:et.yx)(x2:ak)(x3:bf)(x8:Int):Option Bool:=
 cond (aX x8 (ℓ x3.2.2.2.2.1)) (cond (bB x8 (ℓ x3.2.2.2.2.1)) ((Ug N (γ x3.2.2.2.2.1 x8.toNat 0)).bind λUE=>cond (!UE) (some false) (FT x2 x3 (W .i64 (x8+1)))) none) (Dt x2 x3 0)
def et.Cz(N:Nat):Nat→et.yx
 |0,_,_,_=>none
 |n+1,x2,x3,x8=>et.CA N (et.u6 N N) (et.Cz N n) x2 x3 x8
def et.Mg(Kh:et.yx)(UF:et.Kq)(x2:ak)(x3:bf)(x7:Int):Option Bool:=
 cond (aX x7 (ℓ x3.2.2.2.1)) (cond (bB x7 (ℓ x3.2.2.2.1)) ((SF N x3 (γ x3.2.2.2.1 x7.toNat cH).1).bind λYG=>cond (!YG) (some false) (cond (bB x7 (ℓ x3.2.2.2.1)) (cond (c4 (ℓ x2.1) (γ x3.2.2.2.1 x7.toNat cH).2.1) (some false) (UF x2 x3 (W .i64 (x7+1)))) none)) none) (Kh x2 x3 0)
def et.Mf(N:Nat):Nat→et.Kq
 |0,_,_,_=>none
 |n+1,x2,x3,x7=>et.Mg N (et.Cz N N) (et.Mf N n) x2 x3 x7
def et.y7(UG:et.Kq)(tc:et.ou)(x2:ak)(x3:bf)(x5:Int):Option Bool:=
 cond (aX x5 (ℓ x3.2.2.1)) (cond (bB x5 (ℓ x3.2.2.1)) (cond (bq (γ x3.2.2.1 x5.toNat cH).1 5) ((SF N x3 (γ x3.2.2.1 x5.toNat cH).2.1).bind λr9=>cond (!r9) (some false) (cond (bq (γ x3.2.2.1 x5.toNat cH).1 6) ((PU N x3.1 (γ x3.2.2.1 x5.toNat cH).2.1).bind λDr=>cond (bq Dr 0) (some false) (tc x2 x3 (W .i64 (x5+1)))) (cond (bq (γ x3.2.2.1 x5.toNat cH).1 7) ((PU N x3.1 (γ x3.2.2.1 x5.toNat cH).2.1).bind λHs=>cond (bq Hs 0) (some false) (tc x2 x3 (W .i64 (x5+1)))) (tc x2 x3 (W .i64 (x5+1)))))) (cond (bq (γ x3.2.2.1 x5.toNat cH).1 6) ((PU N x3.1 (γ x3.2.2.1 x5.toNat cH).2.1).bind λYL=>cond (bq YL 0) (some false) (tc x2 x3 (W .i64 (x5+1)))) (cond (bq (γ x3.2.2.1 x5.toNat cH).1 7) ((PU N x3.1 (γ x3.2.2.1 x5.toNat cH).2.1).bind λN4=>cond (bq N4 0) (some false) (tc x2 x3 (W .i64 (x5+1)))) (tc x2 x3 (W .i64 (x5+1)))))) none) (UG x2 x3 0)
def et.l6(N:Nat):Nat→et.ou
 |0,_,_,_=>none
 |n+1,x2,x3,x5=>et.y7 N (et.Mf N N) (et.l6 N n) x2 x3 x5
def et.b(A5:et.ou)(a0:ak)(a1:bf):Option Bool:=
 (tN N a0).bind λr1=>cond (!r1) (some false) ((vD N a1.1 a1.2.1).bind λr2=>cond (!r2) (some false) ((uW N a1.2.2.1).bind λr3=>cond (!r3) (some false) ((vG N a1.2.2.2.1).bind λr4=>cond (!r4) (some false) ((vB N a1.2.2.2.2.2.1).bind λr5=>cond (!r5) (some false) (cond (!bq (ℓ a1.2.2.2.2.1) (ℓ a0.1)) (some false) ((uZ N a1.2.2.1).bind λr6=>(KL N r6).bind λr7=>cond (!bq r7 0) (some false) (A5 a0 a1 0)))))))
def et(a0:ak)(a1:bf):Option Bool:=et.b N (et.l6 N N) a0 a1
abbrev vb.fL:=bo→Int→aw→Int→Option aw
def vb.mP(N:Nat)(lT:vb.fL)(x0:bo)(x1:Int)(x5:aw)(x6:Int):Option aw:=
 cond (aX x6 (ℓ x0)) (cond (bB x6 (ℓ x0)) (cond (bq (γ x0 x6.toNat cH).1 x1) (cond (bB x6 (ℓ x0)) (cond (bB x6 (ℓ x0)) (cond (small (ℓ x5+ℓ ([((γ x0 x6.toNat cH).2.1,((γ x0 x6.toNat cH).2.2.1,()))]))) (lT x0 x1 (x5++([((γ x0 x6.toNat cH).2.1,((γ x0 x6.toNat cH).2.2.1,()))])) (W .i64 (x6+1))) none) none) none) (lT x0 x1 x5 (W .i64 (x6+1)))) none) (some x5)
def vb.l5(N:Nat):Nat→vb.fL
 |0,_,_,_,_=>none
 |n+1,x0,x1,x5,x6=>vb.mP N (vb.l5 N n) x0 x1 x5 x6
def vb.b(pP:vb.fL)(a0:bo)(a1:Int):Option aw:=
 (tQ N a0).bind λr1=>cond (!r1) (some ([])) (pP a0 a1 ([]) 0)
def vb(a0:bo)(a1:Int):Option aw:=vb.b N (vb.l5 N N) a0 a1
def Sy(a0:ay):Option ay:=
 (Jm N false a0.2.1).bind λr1=>some r1
abbrev g8.Qc:=ay→ay→ay→(List Int)→Int→Int→Int→Option ay
abbrev g8.Kr:=ay→ay→ay→(List Int)→Int→Int→Int→Option ay
abbrev g8.ey:=ay→ay→ay→(List Int)→Int→Option ay
def g8.PO(dP:g8.ey)(MI:g8.Kr)(x2 x3 x4:ay)(x5:List Int)(x6 x7 x8:Int):Option ay:=
 let v7:Int:=W .i64 (x6+x8);cond (bB v7 (ℓ x5)) (cond (bB x6 (ℓ x2.2.1)) ((LH N x3.2.1 x8).bind λr8=>let v11:Int:=W .u64 (x7+(W .u64 ((γ x5 v7.toNat 0)+(W .u64 ((γ x2.2.1 x6.toNat 0)*r8)))));let Uy:Int:=W .i64 (x6+x8);cond (bB Uy (ℓ x5)) (cond (aX 32 0) none (MI x2 x3 x4 (List.set x5 Uy.toNat (hZ .and .u64 v11 4294967295)) x6 (shr .u64 v11 32) (W .i64 (x8+1)))) none) none) none
def g8.j9(dP:g8.ey)(MI:g8.Kr)(x2 x3 x4:ay)(x5:List Int)(x6 x7 x8:Int):Option ay:=g8.PO N dP MI x2 x3 x4 x5 x6 x7 x8
def g8.Yo(N:Nat)(Ks:g8.Qc)(dP:g8.ey)(MI:g8.Kr)(x2 x3 x4:ay)(x5:List Int)(x6 x7 x8:Int):Option ay:=
 cond (aX x8 (ℓ x3.2.1)) (Ks x2 x3 x4 x5 x6 x7 x8) (cond (aX 0 x7) (Ks x2 x3 x4 x5 x6 x7 x8) (dP x2 x3 x4 x5 (W .i64 (x6+1))))
def g8.l7(N:Nat)(dP:g8.ey):Nat→g8.Kr
 |0,_,_,_,_,_,_,_=>none
 |n+1,x2,x3,x4,x5,x6,x7,x8=>g8.Yo N (g8.j9 N dP (g8.l7 N dP n)) dP (g8.l7 N dP n) x2 x3 x4 x5 x6 x7 x8
def g8.qJ(YN:g8.Kr)(dP:g8.ey)(x2 x3 x4:ay)(x5:List Int)(x6:Int):Option ay:=
 cond (aX x6 (ℓ x2.2.1)) (YN x2 x3 x4 x5 x6 0 0) ((Jm N (!(mg .bool x2.1 x3.1)) x5).bind λYO=>some YO)
def g8.l3(N:Nat):Nat→g8.ey
 |0,_,_,_,_,_=>none
 |n+1,x2,x3,x4,x5,x6=>g8.qJ N (g8.l7 N (g8.l3 N n) N) (g8.l3 N n) x2 x3 x4 x5 x6
def g8.b(N:Nat)(rn:g8.ey)(a0 a1:ay):Option ay:=
 let v2:Int:=W .i64 ((W .i64 ((ℓ a0.2.1:Int)+(ℓ a1.2.1:Int)))+1);cond (gh v2 v2) (rn a0 a1 (false,z6) (List.replicate v2.toNat 0) 0) none
def g8(a0 a1:ay):Option ay:=g8.b N (g8.l3 N N) a0 a1
def PM(a0:ay):Option ay:=
 (Jm N (!a0.1) a0.2.1).bind λr1=>some r1
def NV(a0 a1:ay):Option ay:=
 (PM N a1).bind λr1=>(DZ N a0 r1).bind λr2=>some r2
def Sz(a0 a1:ay):Option Int:=
 (NV N a0 a1).bind λr1=>(KL N r1).bind λr2=>some r2
abbrev th.bK:=Int→ay→Int→Option Int
def th.dF(cS:th.bK)(x1:Int)(x2:ay)(x5:Int):Option Int:=
 cond (aX x5 3) ((AF N x5).bind λr3=>(AF N x1).bind λr4=>(g8 N r3 r4).bind λr5=>(Sz N r5 x2).bind λr6=>cond (aX r6 0) (cS x1 x2 (W .i64 (x5+1))) (some x5)) (some x5)
def th.l4(N:Nat):Nat→th.bK
 |0,_,_,_=>none
 |n+1,x1,x2,x5=>th.dF N (th.l4 N n) x1 x2 x5
def th.b(eS:th.bK)(a0:ay)(a1:Int):Option Int:=
 (KL N a0).bind λr1=>cond (c4 r1 0) (some 0) (cond (aX a1 1) (some 0) (eS a1 a0 1))
def th(a0:ay)(a1:Int):Option Int:=th.b N (th.l4 N N) a0 a1
abbrev lG.bK:=(List Int)→Int→Option Bool
def lG.dF(N:Nat)(cS:lG.bK)(x1:List Int)(x5:Int):Option Bool:=
 cond (aX x5 (ℓ x1)) (cond (bB x5 (ℓ x1)) (cond (aX (γ x1 x5.toNat 0) 0) (some true) (cS x1 (W .i64 (x5+1)))) none) (some false)
def lG.l4(N:Nat):Nat→lG.bK
 |0,_,_=>none
 |n+1,x1,x5=>lG.dF N (lG.l4 N n) x1 x5
def lG.b(N:Nat)(eS:lG.bK)(a0:Int)(a1:List Int):Option Bool:=
 cond (aX a0 0) (some true) (cond (aX 64 (ℓ a1)) (some true) (eS a1 0))
def lG(a0:Int)(a1:List Int):Option Bool:=lG.b N (lG.l4 N N) a0 a1
abbrev lx.ey:=(List Int)→ay→ay→Int→Option ay
def lx.qJ(dP:lx.ey)(x0:List Int)(x2 x3:ay)(x4:Int):Option ay:=
 cond (aX x4 (ℓ x0)) (cond (bB x4 (ℓ x0)) ((AF N (γ x0 x4.toNat 0)).bind λr2=>(DZ N x3 r2).bind λr3=>dP x0 x2 r3 (W .i64 (x4+1))) none) (some x3)
def lx.l3(N:Nat):Nat→lx.ey
 |0,_,_,_,_=>none
 |n+1,x0,x2,x3,x4=>lx.qJ N (lx.l3 N n) x0 x2 x3 x4
def lx.b(N:Nat)(rn:lx.ey)(a0:List Int):Option ay:=
 rn a0 (false,z6) (false,z6) 0
def lx(a0:List Int):Option ay:=lx.b N (lx.l3 N N) a0
def PN(a0:ay):Option ((Int)×(Bool)):=
 cond (aX 2 (ℓ a0.2.1)) (some (0,false)) ((LH N a0.2.1 0).bind λr1=>(LH N a0.2.1 1).bind λr2=>cond (aX 32 0) none (let v4:Int:=hZ .or .u64 r1 (W .u64 (shl .u64 r2 32));cond (a0.1) (cond (aX 9223372036854775808 v4) (some (0,false)) (some ((W .i64 (W .u64 (0-v4))),true))) (cond (aX 9223372036854775807 v4) (some (0,false)) (some ((W .i64 v4),true)))))
abbrev jZ.bK:=(List Int)→(List Int)→Int→Int→Option ((List Int)×(Int))
def jZ.dF(cS:jZ.bK)(x0 x4:List Int)(x5 x6:Int):Option ((List Int)×(Int)):=
 cond (c4 0 x6) (cond (aX 32 0) none (cond (bB x6 (ℓ x0)) (let v5:Int:=hZ .or .u64 (W .u64 (shl .u64 x5 32)) (γ x0 x6.toNat 0);cond (aX 1 0) none (cond (bB x6 (ℓ x4)) (cS x0 (List.set x4 x6.toNat (shr .u64 v5 1)) (hZ .and .u64 v5 1) (W .i64 (x6-1))) none)) none)) ((iY N x4).bind λDr=>some (Dr,x5))
def jZ.l4(N:Nat):Nat→jZ.bK
 |0,_,_,_,_=>none
 |n+1,x0,x4,x5,x6=>jZ.dF N (jZ.l4 N n) x0 x4 x5 x6
def jZ.b(N:Nat)(eS:jZ.bK)(a0:List Int):Option ((List Int)×(Int)):=
 cond (gh (ℓ a0) (ℓ a0)) (eS a0 (List.replicate (ℓ a0:Int).toNat 0) 0 (W .i64 ((ℓ a0:Int)-1))) none
def jZ(a0:List Int):Option ((List Int)×(Int)):=jZ.b N (jZ.l4 N N) a0
abbrev ek.Qd:=ay→ay→ay→ay→(List Int)→ay→ay→Int→Option (ay×ay)
abbrev ek.ey:=ay→ay→ay→ay→(List Int)→(List Int)→Option (ay×ay)
def ek.WG(MJ:ek.Qd)(x2 x3:ay)(x4 x5:ay)(x6:List Int)(cG ct:ay)(dW:Int):Option (ay×ay):=
 cond (c4 0 dW) ((DZ N cG cG).bind λr6=>(DZ N ct ct).bind λr7=>cond (bB dW (ℓ x6)) (cond (bq (γ x6 dW.toNat 0) 1) ((AF N 1).bind λr8=>(DZ N r7 r8).bind λr9=>(Sz N r9 x3).bind λDr=>cond (c4 0 Dr) ((NV N r9 x3).bind λEN=>(AF N 1).bind λHs=>(DZ N r6 Hs).bind λN5=>MJ x2 x3 x4 x5 x6 N5 EN (W .i64 (dW-1))) (MJ x2 x3 x4 x5 x6 r6 r9 (W .i64 (dW-1)))) ((Sz N r7 x3).bind λMK=>cond (c4 0 MK) ((NV N r7 x3).bind λN4=>(AF N 1).bind λYO=>(DZ N r6 YO).bind λr19=>MJ x2 x3 x4 x5 x6 r19 N4 (W .i64 (dW-1))) (MJ x2 x3 x4 x5 x6 r6 r7 (W .i64 (dW-1))))) none) (cond (!x2.1) (some (cG,ct)) ((KL N ct).bind λr22=>cond (bq r22 0) ((PM N cG).bind λYH=>some (YH,ct)) ((PM N cG).bind λUE=>(AF N 1).bind λYP=>(NV N UE YP).bind λUH=>(NV N x3 ct).bind λYM=>some (UH,YM))))
def ek.l9(N:Nat):Nat→ek.Qd
 |0,_,_,_,_,_,_,_,_=>none
 |n+1,x2,x3,x4,x5,x6,cG,ct,dW=>ek.WG N (ek.l9 N n) x2 x3 x4 x5 x6 cG ct dW
def ek.qJ(YQ:ek.Qd)(dP:ek.ey)(x2 x3:ay)(x4 x5:ay)(x6 x7:List Int):Option (ay×ay):=
 cond (aX 0 (ℓ x7)) ((jZ N x7).bind λr2=>cond (small (ℓ x6+ℓ ([r2.2]))) (dP x2 x3 x4 x5 (x6++([r2.2])) r2.1) none) (YQ x2 x3 x4 x5 x6 (false,z6) (false,z6) (W .i64 ((ℓ x6:Int)-1)))
def ek.l3(N:Nat):Nat→ek.ey
 |0,_,_,_,_,_,_=>none
 |n+1,x2,x3,x4,x5,x6,x7=>ek.qJ N (ek.l9 N N) (ek.l3 N n) x2 x3 x4 x5 x6 x7
def ek.b(N:Nat)(rn:ek.ey)(a0 a1:ay):Option (ay×ay):=
 rn a0 a1 (false,z6) (false,z6) ([]) a0.2.1
def ek(a0 a1:ay):Option (ay×ay):=ek.b N (ek.l3 N N) a0 a1
abbrev dd.Ki:=(List Int)→(List Int)→Int→Int→Option (List Int)
abbrev dd.ou:=(List Int)→(List Int)→Int→Int→Option (List Int)
abbrev dd.ey:=(List Int)→(List Int)→Int→Option (List Int)
def dd.HH(N:Nat)(dP:dd.ey)(x0 x3:List Int)(x4 x5:Int):Option (List Int):=
 cond (kf 0 x5 (ℓ x3) (ℓ x3)) (let v5:List Int:=List.drop (0:Int).toNat (List.take x5.toNat x3);cond (small (ℓ v5)) (cond (small (ℓ v5+ℓ ([x4]))) (let v6:List Int:=v5++([x4]);cond (kf x5 (ℓ x3) (ℓ x3) (ℓ x3)) (let v7:List Int:=List.drop x5.toNat (List.take (ℓ x3:Int).toNat x3);cond (small (ℓ v6+ℓ v7)) (dP x0 (v6++v7) (W .i64 (x4+1))) none) none) none) none) none
def dd.j8(dP:dd.ey)(x0 x3:List Int)(x4 x5:Int):Option (List Int):=dd.HH N dP x0 x3 x4 x5
def dd.y7(N:Nat)(Dv:dd.Ki)(dP:dd.ey)(tc:dd.ou)(x0 x3:List Int)(x4 x5:Int):Option (List Int):=
 cond (aX x5 (ℓ x3)) (cond (bB x5 (ℓ x3)) (cond (bB (γ x3 x5.toNat 0) (ℓ x0)) (cond (bB x4 (ℓ x0)) (cond (c4 (γ x0 x4.toNat 0) (γ x0 (γ x3 x5.toNat 0).toNat 0)) (tc x0 x3 x4 (W .i64 (x5+1))) (Dv x0 x3 x4 x5)) none) none) none) (Dv x0 x3 x4 x5)
def dd.l6(N:Nat)(dP:dd.ey):Nat→dd.ou
 |0,_,_,_,_=>none
 |n+1,x0,x3,x4,x5=>dd.y7 N (dd.j8 N dP) dP (dd.l6 N dP n) x0 x3 x4 x5
def dd.qJ(N:Nat)(A5:dd.ou)(dP:dd.ey)(x0 x3:List Int)(x4:Int):Option (List Int):=
 cond (aX x4 (ℓ x0)) (A5 x0 x3 x4 0) (some x3)
def dd.l3(N:Nat):Nat→dd.ey
 |0,_,_,_=>none
 |n+1,x0,x3,x4=>dd.qJ N (dd.l6 N (dd.l3 N n) N) (dd.l3 N n) x0 x3 x4
def dd.b(N:Nat)(rn:dd.ey)(a0:List Int):Option (List Int):=
 rn a0 ([]) 0
def dd(a0:List Int):Option (List Int):=dd.b N (dd.l3 N N) a0
abbrev ke.pQ:=(List Int)→Int→(List Int)→Int→Option ((List Int)×(Int))
abbrev ke.Kt:=Int→(List Int)→ay→(List Int)→(List Int)→Int→Int→Option ((List Int)×(Int))
abbrev ke.Qb:=Int→(List Int)→ay→Option ((List Int)×(Int))
def ke.tT(N:Nat)(Ds:ke.pQ)(x9:List Int)(ct:Int)(cR:List Int)(gn:Int):Option ((List Int)×(Int)):=
 cond (aX gn (ℓ cR)) (cond (aX 0 ct) (cond (bB gn (ℓ cR)) (cond (bB (γ cR gn.toNat 0) (ℓ x9)) (cond (bB (γ cR gn.toNat 0) (ℓ x9)) (Ds (List.set x9 (γ cR gn.toNat 0).toNat (W .i64 ((γ x9 (γ cR gn.toNat 0).toNat 0)+1))) (W .i64 (ct-1)) cR (W .i64 (gn+1))) none) none) none) (some (x9,0))) (some (x9,0))
def ke.u6(N:Nat):Nat→ke.pQ
 |0,_,_,_,_=>none
 |n+1,x9,ct,cR,gn=>ke.tT N (ke.u6 N n) x9 ct cR gn
def ke.P4(Dt:ke.pQ)(UI:ke.Kt)(x0:Int)(x1:List Int)(x6:ay)(x9 cG:List Int)(ct dW:Int):Option ((List Int)×(Int)):=
 cond (aX dW (ℓ x1)) ((AF N x0).bind λDr=>cond (bB dW (ℓ x1)) ((AF N (γ x1 dW.toNat 0)).bind λEN=>(g8 N Dr EN).bind λHs=>(ek N Hs x6).bind λN5=>(PN N N5.1).bind λUA=>cond (bB dW (ℓ x9)) (let MG:List Int:=List.set x9 dW.toNat UA.1;(PN N N5.2).bind λMK=>cond (bB dW (ℓ cG)) (cond (bB dW (ℓ MG)) (UI x0 x1 x6 MG (List.set cG dW.toNat MK.1) (W .i64 (ct-(γ MG dW.toNat 0))) (W .i64 (dW+1))) none) none) none) none) ((dd N cG).bind λr20=>Dt x9 ct r20 0)
def ke.SI(N:Nat):Nat→ke.Kt
 |0,_,_,_,_,_,_,_=>none
 |n+1,x0,x1,x6,x9,cG,ct,dW=>ke.P4 N (ke.u6 N N) (ke.SI N n) x0 x1 x6 x9 cG ct dW
def ke.NU(UJ:ke.Kt)(x0:Int)(x1:List Int)(x6:ay):Option ((List Int)×(Int)):=
 (PN N x6).bind λr5=>cond (!r5.2) (some ([],2)) (cond (gh (ℓ x1) (ℓ x1)) (let v6:List Int:=List.replicate (ℓ x1:Int).toNat 0;cond (gh (ℓ x1) (ℓ x1)) ((KL N x6).bind λr8=>cond (bq r8 0) (some (v6,0)) (UJ x0 x1 x6 v6 (List.replicate (ℓ x1:Int).toNat 0) x0 0)) none) none)
def ke.j6(x0:Int)(x1:List Int)(x6:ay):Option ((List Int)×(Int)):=ke.NU N (ke.SI N N) x0 x1 x6
def ke.b(Ht:ke.Qb)(a0:Int)(a1:List Int):Option ((List Int)×(Int)):=
 (lG N a0 a1).bind λr1=>cond (r1) (some ([],1)) ((lx N a1).bind λr2=>(KL N r2).bind λr3=>cond (bq r3 0) (cond (!bq a0 0) (some ([],1)) (Ht a0 a1 r2)) (Ht a0 a1 r2))
def ke(a0:Int)(a1:List Int):Option ((List Int)×(Int)):=ke.b N (ke.j6 N) a0 a1
abbrev yk.fL:=Int→Int→(List Int)→Int→Option ((List Int)×(Int))
def yk.mP(lT:yk.fL)(x0 x1:Int)(x6:List Int)(x7:Int):Option ((List Int)×(Int)):=
 cond (aX x7 x1) (cond (bB x7 (ℓ x6)) (lT x0 x1 (List.set x6 x7.toNat 1) (W .i64 (x7+1))) none) ((ke N x0 x6).bind λr5=>some (r5.1,r5.2))
def yk.l5(N:Nat):Nat→yk.fL
 |0,_,_,_,_=>none
 |n+1,x0,x1,x6,x7=>yk.mP N (yk.l5 N n) x0 x1 x6 x7
def yk.b(N:Nat)(pP:yk.fL)(a0 a1:Int):Option ((List Int)×(Int)):=
 cond (aX a0 0) (some ([],1)) (cond (aX a1 1) (some ([],1)) (cond (aX 64 a1) (some ([],1)) (cond (gh a1 a1) (pP a0 a1 (List.replicate a1.toNat 0) 0) none)))
def yk(a0 a1:Int):Option ((List Int)×(Int)):=yk.b N (yk.l5 N N) a0 a1
abbrev tV.bK:=aw→ak→Int→Option Bool
def tV.dF(N:Nat)(cS:tV.bK)(x1:aw)(x2:ak)(x5:Int):Option Bool:=
 cond (aX x5 (ℓ x1)) (cond (bB x5 (ℓ x1)) (cond (aX (γ x1 x5.toNat bE).1 0) (some false) (cond (bB x5 (ℓ x1)) (cond (c4 (ℓ x2.1) (γ x1 x5.toNat bE).1) (some false) (cond (bB x5 (ℓ x1)) (cond (bq (γ x1 x5.toNat bE).2.1 0) (some false) (cond (bB x5 (ℓ x1)) (cond (bq (γ x1 x5.toNat bE).2.1 (-9223372036854775808)) (some false) (cond (aX 0 x5) (cond (bB x5 (ℓ x1)) (let v3:Int:=W .i64 (x5-1);cond (bB v3 (ℓ x1)) (cond (c4 (γ x1 x5.toNat bE).1 (γ x1 v3.toNat bE).1) (some false) (cS x1 x2 (W .i64 (x5+1)))) none) none) (cS x1 x2 (W .i64 (x5+1))))) none)) none)) none)) none) (some true)
def tV.l4(N:Nat):Nat→tV.bK
 |0,_,_,_=>none
 |n+1,x1,x2,x5=>tV.dF N (tV.l4 N n) x1 x2 x5
def tV.b(eS:tV.bK)(a0:ak)(a1:aw):Option Bool:=
 (tN N a0).bind λr1=>cond (!r1) (some false) (eS a1 a0 0)
def tV(a0:ak)(a1:aw):Option Bool:=tV.b N (tV.l4 N N) a0 a1
abbrev wc.fL:=aw→Bool→ak→ay→ay→Int→Option (ay×(Int))
def wc.mP(lT:wc.fL)(x1:aw)(x2:Bool)(x3:ak)(x6 x8:ay)(x9:Int):Option (ay×(Int)):=
 cond (aX x9 (ℓ x1)) (cond (bB x9 (ℓ x1)) (cond (bB (γ x1 x9.toNat bE).1 (ℓ x3.1)) (cond (x2) (cond (bB x9 (ℓ x1)) (cond (bB (γ x1 x9.toNat bE).1 (ℓ x3.1)) (cond (bB x9 (ℓ x1)) ((AF N (γ x1 x9.toNat bE).2.1).bind λr3=>(Sy N r3).bind λr4=>(AF N (γ x3.1 (γ x1 x9.toNat bE).1.toNat aZ).2.2.2.1).bind λr5=>(g8 N r4 r5).bind λr6=>(DZ N x8 r6).bind λr7=>lT x1 x2 x3 x6 r7 (W .i64 (x9+1))) none) none) none) (cond (bB x9 (ℓ x1)) ((AF N (γ x1 x9.toNat bE).2.1).bind λr9=>(Sy N r9).bind λDr=>(AF N (γ x3.1 (γ x1 x9.toNat bE).1.toNat aZ).2.2.1).bind λEN=>(g8 N Dr EN).bind λHs=>(DZ N x8 Hs).bind λN5=>lT x1 x2 x3 x6 N5 (W .i64 (x9+1))) none)) none) none) (some (x8,0))
def wc.l5(N:Nat):Nat→wc.fL
 |0,_,_,_,_,_,_=>none
 |n+1,x1,x2,x3,x6,x8,x9=>wc.mP N (wc.l5 N n) x1 x2 x3 x6 x8 x9
def wc.b(pP:wc.fL)(a0:ak)(a1:aw)(a2:Bool):Option (ay×(Int)):=
 (tV N a0 a1).bind λr1=>cond (!r1) (some ((false,z6),1)) (pP a1 a2 a0 (false,z6) (false,z6) 0)
def wc(a0:ak)(a1:aw)(a2:Bool):Option (ay×(Int)):=wc.b N (wc.l5 N N) a0 a1 a2
def WO(a0:ak)(a1:aw):Option (ay×(Int)):=
 (wc N a0 a1 true).bind λr1=>some (r1.1,r1.2)
abbrev cw.UK:=Int→ak→aw→aA→Int→aw→Int→Int→dt→aw→Int→(List Int)→Option (aA×(Int))
abbrev cw.Kl:=Int→ak→aw→aA→Int→aw→Int→Int→dt→aw→Int→Int→Option (aA×(Int))
abbrev cw.pR:=Int→ak→aw→aA→Int→aw→Int→Int→dt→aw→Int→Option (aA×(Int))
abbrev cw.qP:=Int→ak→aw→aA→Int→aw→Int→Int→Option (aA×(Int))
abbrev cw.pS:=Int→ak→aw→aA→Int→aw→ay→Int→Option (aA×(Int))
abbrev cw.eM:=Int→ak→aw→aA→Int→Option (aA×(Int))
def cw.P8(N:Nat)(db:cw.eM)(lJ:cw.qP)(oI:cw.pR)(x2:Int)(x3:ak)(x8:aw)(x9:aA)(cG:Int)(ct:aw)(fN cR:Int)(gn:dt)(ov:aw)(ez:Int)(HL:List Int):Option (aA×(Int)):=
 cond (bB cR (ℓ HL)) (cond (!bq (γ HL cR.toNat 0) 0) (cond (bB ez (ℓ ct)) (cond (bB cR (ℓ HL)) (cond (small (ℓ ov+ℓ ([((γ ct ez.toNat bE).1,(γ HL cR.toNat 0,()))]))) (oI x2 x3 x8 x9 cG ct fN cR (gn.1,(c5,gn.2.2)) (ov++([((γ ct ez.toNat bE).1,(γ HL cR.toNat 0,()))])) (W .i64 (ez+1))) none) none) none) (oI x2 x3 x8 x9 cG ct fN cR gn ov (W .i64 (ez+1)))) none
def cw.WX(db:cw.eM)(lJ:cw.qP)(oI:cw.pR)(x2:Int)(x3:ak)(x8:aw)(x9:aA)(cG:Int)(ct:aw)(fN cR:Int)(gn:dt)(ov:aw)(ez:Int)(HL:List Int):Option (aA×(Int)):=cw.P8 N db lJ oI x2 x3 x8 x9 cG ct fN cR gn ov ez HL
def cw.EJ(N9:cw.UK)(db:cw.eM)(lJ:cw.qP)(oI:cw.pR)(x2:Int)(x3:ak)(x8:aw)(x9:aA)(cG:Int)(ct:aw)(fN cR:Int)(gn:dt)(ov:aw)(ez wm:Int):Option (aA×(Int)):=
 (yk N wm fN).bind λMK=>cond (bB ez (ℓ ct)) (cond (aX (γ ct ez.toNat bE).2.1 0) (cond (bB cR (ℓ MK.1)) (cond (bB cR (ℓ MK.1)) (N9 x2 x3 x8 x9 cG ct fN cR gn ov ez (List.set MK.1 cR.toNat (W .i64 (0-(γ MK.1 cR.toNat 0))))) none) none) (N9 x2 x3 x8 x9 cG ct fN cR gn ov ez MK.1)) none
def cw.J0(db:cw.eM)(lJ:cw.qP)(oI:cw.pR)(x2:Int)(x3:ak)(x8:aw)(x9:aA)(cG:Int)(ct:aw)(fN cR:Int)(gn:dt)(ov:aw)(ez wm:Int):Option (aA×(Int)):=cw.EJ N (cw.WX N db lJ oI) db lJ oI x2 x3 x8 x9 cG ct fN cR gn ov ez wm
def cw.CB(Dy:cw.Kl)(db:cw.eM)(lJ:cw.qP)(oI:cw.pR)(x2:Int)(x3:ak)(x8:aw)(x9:aA)(cG:Int)(ct:aw)(fN cR:Int)(gn:dt)(ov:aw)(ez:Int):Option (aA×(Int)):=
 cond (aX ez (ℓ ct)) (cond (bB ez (ℓ ct)) (cond (aX (γ ct ez.toNat bE).2.1 0) (Dy x2 x3 x8 x9 cG ct fN cR gn ov ez (W .i64 (0-((γ ct ez.toNat bE).2.1)))) (Dy x2 x3 x8 x9 cG ct fN cR gn ov ez (γ ct ez.toNat bE).2.1)) none) (cond (bq (ℓ ov) 0) (lJ x2 x3 x8 x9 cG ct fN (W .i64 (cR+1))) ((WO N x3 ov).bind λUE=>(PM N UE.1).bind λYP=>(PN N YP).bind λUH=>cond (!UH.2) (some ([],2)) (cond (small (ℓ x9+ℓ ([(gn.1,(ov,(UH.1,gn.2.2.2)))]))) (lJ (W .i64 (x2+1)) x3 x8 (x9++([(gn.1,(ov,(UH.1,gn.2.2.2)))])) cG ct fN (W .i64 (cR+1))) none)))
def cw.AB(N:Nat)(db:cw.eM)(lJ:cw.qP):Nat→cw.pR
 |0,_,_,_,_,_,_,_,_,_,_,_=>none
 |n+1,x2,x3,x8,x9,cG,ct,fN,cR,gn,ov,ez=>cw.CB N (cw.J0 N db lJ (cw.AB N db lJ n)) db lJ (cw.AB N db lJ n) x2 x3 x8 x9 cG ct fN cR gn ov ez
def cw.MC(N:Nat)(Kf:cw.pR)(db:cw.eM)(lJ:cw.qP)(x2:Int)(x3:ak)(x8:aw)(x9:aA)(cG:Int)(ct:aw)(fN cR:Int):Option (aA×(Int)):=
 cond (aX cR fN) (Kf x2 x3 x8 x9 cG ct fN cR (x2,(c5,(0,(1,bE)))) c5 0) (db x2 x3 x8 x9 (W .i64 (cG+1)))
def cw.HI(N:Nat)(db:cw.eM):Nat→cw.qP
 |0,_,_,_,_,_,_,_,_=>none
 |n+1,x2,x3,x8,x9,cG,ct,fN,cR=>cw.MC N (cw.AB N db (cw.HI N db n) N) db (cw.HI N db n) x2 x3 x8 x9 cG ct fN cR
def cw.tY(UL:cw.qP)(db:cw.eM)(yz:cw.pS)(x2:Int)(x3:ak)(x8:aw)(x9:aA)(cG:Int)(ct:aw)(dW:ay)(iN:Int):Option (aA×(Int)):=
 cond (aX iN (ℓ x8)) (cond (bB iN (ℓ x8)) (cond (bB (γ x8 iN.toNat bE).1 (ℓ x3.1)) (cond (bq (γ x3.1 (γ x8 iN.toNat bE).1.toNat aZ).1 cG) (cond (bB iN (ℓ x8)) (cond (small (ℓ ct+ℓ ([γ x8 iN.toNat bE]))) (cond (bB iN (ℓ x8)) ((AF N (γ x8 iN.toNat bE).2.1).bind λr6=>(Sy N r6).bind λr7=>(DZ N dW r7).bind λr8=>yz x2 x3 x8 x9 cG (ct++([γ x8 iN.toNat bE])) r8 (W .i64 (iN+1))) none) none) none) (yz x2 x3 x8 x9 cG ct dW (W .i64 (iN+1)))) none) none) ((th N dW x3.2.2.2.2.2.1).bind λEN=>UL x2 x3 x8 x9 cG ct EN 0)
def cw.wi(N:Nat)(db:cw.eM):Nat→cw.pS
 |0,_,_,_,_,_,_,_,_=>none
 |n+1,x2,x3,x8,x9,cG,ct,dW,iN=>cw.tY N (cw.HI N db N) db (cw.wi N db n) x2 x3 x8 x9 cG ct dW iN
def cw.G2(N:Nat)(Du:cw.pS)(db:cw.eM)(x2:Int)(x3:ak)(x8:aw)(x9:aA)(cG:Int):Option (aA×(Int)):=
 cond (aX cG 4) (Du x2 x3 x8 x9 cG ([]) (false,z6) 0) (some (x9,0))
def cw.l8(N:Nat):Nat→cw.eM
 |0,_,_,_,_,_=>none
 |n+1,x2,x3,x8,x9,cG=>cw.G2 N (cw.wi N (cw.l8 N n) N) (cw.l8 N n) x2 x3 x8 x9 cG
def cw.b(Kp:cw.eM)(a0:ak)(a1:bf)(a2:Int):Option (aA×(Int)):=
 (et N a0 a1).bind λr1=>cond (!r1) (some ([],1)) (cond (aX a2 1) (some ([],1)) (cond (aX 1099511627764 a2) (some ([],1)) ((vb N a1.2.2.2.1 0).bind λr2=>cond (bq (ℓ r2) 0) (some ([],3)) (Kp a2 a0 r2 ([]) 0))))
def cw(a0:ak)(a1:bf)(a2:Int):Option (aA×(Int)):=cw.b N (cw.l8 N N) a0 a1 a2
abbrev vJ.bW:=aA→Int→dt→Int→Option (dt×(Bool))
def vJ.dV(N:Nat)(di:vJ.bW)(x0:aA)(x1:Int)(x4:dt)(x6:Int):Option (dt×(Bool)):=
 cond (aX x6 (ℓ x0)) (cond (bB x6 (ℓ x0)) (cond (bq (γ x0 x6.toNat (0,(c5,aZ))).1 x1) (cond (bB x6 (ℓ x0)) (some (γ x0 x6.toNat (0,(c5,aZ)),true)) none) (di x0 x1 x4 (W .i64 (x6+1)))) none) (some ((0,(c5,aZ)),false))
def vJ.l2(N:Nat):Nat→vJ.bW
 |0,_,_,_,_=>none
 |n+1,x0,x1,x4,x6=>vJ.dV N (vJ.l2 N n) x0 x1 x4 x6
def vJ.b(N:Nat)(fK:vJ.bW)(a0:aA)(a1:Int):Option (dt×(Bool)):=
 fK a0 a1 (0,(c5,aZ)) 0
def vJ(a0:aA)(a1:Int):Option (dt×(Bool)):=vJ.b N (vJ.l2 N N) a0 a1
abbrev kM.Ku:=aA→aA→Int→dt→dt→Int→Option Bool
abbrev kM.bK:=aA→aA→Int→Option Bool
def kM.Mj(N:Nat)(cS:kM.bK)(UM:kM.Ku)(x0 x1:aA)(x5:Int)(x6 x7:dt)(x8:Int):Option Bool:=
 cond (aX x8 (ℓ x6.2.1)) (cond (bB x8 (ℓ x6.2.1)) (cond (bB x8 (ℓ x7.2.1)) (cond (!(mg (.pair (.int .i64) (.pair (.int .i64) .unit)) (γ x6.2.1 x8.toNat bE) (γ x7.2.1 x8.toNat bE))) (some false) (UM x0 x1 x5 x6 x7 (W .i64 (x8+1)))) none) none) (cS x0 x1 (W .i64 (x5+1)))
def kM.NZ(N:Nat)(cS:kM.bK):Nat→kM.Ku
 |0,_,_,_,_,_,_=>none
 |n+1,x0,x1,x5,x6,x7,x8=>kM.Mj N cS (kM.NZ N cS n) x0 x1 x5 x6 x7 x8
def kM.dF(N:Nat)(UN:kM.Ku)(cS:kM.bK)(x0 x1:aA)(x5:Int):Option Bool:=
 cond (aX x5 (ℓ x0)) (cond (bB x5 (ℓ x0)) (cond (bB x5 (ℓ x1)) (cond (!bq (γ x0 x5.toNat (0,(c5,aZ))).1 (γ x1 x5.toNat (0,(c5,aZ))).1) (some false) (cond (!bq (γ x0 x5.toNat (0,(c5,aZ))).2.2.1 (γ x1 x5.toNat (0,(c5,aZ))).2.2.1) (some false) (cond (!bq (γ x0 x5.toNat (0,(c5,aZ))).2.2.2.1 (γ x1 x5.toNat (0,(c5,aZ))).2.2.2.1) (some false) (cond (!bq (γ x0 x5.toNat (0,(c5,aZ))).2.2.2.2.1 (γ x1 x5.toNat (0,(c5,aZ))).2.2.2.2.1) (some false) (cond (!bq (γ x0 x5.toNat (0,(c5,aZ))).2.2.2.2.2.1 (γ x1 x5.toNat (0,(c5,aZ))).2.2.2.2.2.1) (some false) (cond (!bq (ℓ (γ x0 x5.toNat (0,(c5,aZ))).2.1:Int) (ℓ (γ x1 x5.toNat (0,(c5,aZ))).2.1:Int)) (some false) (UN x0 x1 x5 (γ x0 x5.toNat (0,(c5,aZ))) (γ x1 x5.toNat (0,(c5,aZ))) 0))))))) none) none) (some true)
def kM.l4(N:Nat):Nat→kM.bK
 |0,_,_,_=>none
 |n+1,x0,x1,x5=>kM.dF N (kM.NZ N (kM.l4 N n) N) (kM.l4 N n) x0 x1 x5
def kM.b(N:Nat)(eS:kM.bK)(a0 a1:aA):Option Bool:=
 cond (!bq (ℓ a0) (ℓ a1)) (some false) (eS a0 a1 0)
def kM(a0 a1:aA):Option Bool:=kM.b N (kM.l4 N N) a0 a1
abbrev oG.Qc:=aA→ak→Int→dt→Option Bool
abbrev oG.bK:=aA→ak→Int→Option Bool
def oG.PO(N:Nat)(cS:oG.bK)(x1:aA)(x2:ak)(x5:Int)(x6:dt):Option Bool:=
 cond (bq x6.2.2.2.1 1) (cond (!bq x6.2.2.2.2.1 0) (some false) (cond (!bq x6.2.2.2.2.2.1 0) (some false) (cS x1 x2 (W .i64 (x5+1))))) (cond (bq x6.2.2.2.1 3) (cond (!bq x6.2.2.2.2.1 0) (some false) (cond (!bq x6.2.2.2.2.2.1 0) (some false) (cS x1 x2 (W .i64 (x5+1))))) (cond (bq x6.2.2.2.1 2) (cond (aX x6.2.2.2.2.1 1) (some false) (cond (aX 12 x6.2.2.2.2.1) (some false) (cond (aX x6.2.2.2.2.2.1 (-1152921504606846976)) (some false) (cond (aX 1152921504606846976 x6.2.2.2.2.2.1) (some false) (cS x1 x2 (W .i64 (x5+1))))))) (some false)))
def oG.j9(cS:oG.bK)(x1:aA)(x2:ak)(x5:Int)(x6:dt):Option Bool:=oG.PO N cS x1 x2 x5 x6
def oG.dF(Ks:oG.Qc)(cS:oG.bK)(x1:aA)(x2:ak)(x5:Int):Option Bool:=
 cond (aX x5 (ℓ x1)) (cond (bB x5 (ℓ x1)) (cond (aX (γ x1 x5.toNat (0,(c5,aZ))).1 1) (some false) (cond (aX 1099511627776 (γ x1 x5.toNat (0,(c5,aZ))).1) (some false) (cond (aX 0 x5) (let v3:Int:=W .i64 (x5-1);cond (bB v3 (ℓ x1)) (cond (c4 (γ x1 x5.toNat (0,(c5,aZ))).1 (γ x1 v3.toNat (0,(c5,aZ))).1) (some false) (cond (bq (ℓ (γ x1 x5.toNat (0,(c5,aZ))).2.1:Int) 0) (some false) ((tV N x2 (γ x1 x5.toNat (0,(c5,aZ))).2.1).bind λr4=>cond (!r4) (some false) (cond (aX 0 (γ x1 x5.toNat (0,(c5,aZ))).2.2.1) (some false) (Ks x1 x2 x5 (γ x1 x5.toNat (0,(c5,aZ)))))))) none) (cond (bq (ℓ (γ x1 x5.toNat (0,(c5,aZ))).2.1:Int) 0) (some false) ((tV N x2 (γ x1 x5.toNat (0,(c5,aZ))).2.1).bind λr9=>cond (!r9) (some false) (cond (aX 0 (γ x1 x5.toNat (0,(c5,aZ))).2.2.1) (some false) (Ks x1 x2 x5 (γ x1 x5.toNat (0,(c5,aZ)))))))))) none) (some true)
def oG.l4(N:Nat):Nat→oG.bK
 |0,_,_,_=>none
 |n+1,x1,x2,x5=>oG.dF N (oG.j9 N (oG.l4 N n)) (oG.l4 N n) x1 x2 x5
def oG.b(eS:oG.bK)(a0:ak)(a1:aA):Option Bool:=
 (tN N a0).bind λr1=>cond (!r1) (some false) (cond (aX 12 (ℓ a1)) (some false) (eS a1 a0 0))
def oG(a0:ak)(a1:aA):Option Bool:=oG.b N (oG.l4 N N) a0 a1
def F8(a0:ak)(a1:bf)(a2:aA)(a3 a4:Int):Option Bool:=
 (ck N a0 a1 a3).bind λr1=>(cw N a0 a1 a3).bind λr2=>(ub N a2 a4).bind λr3=>(vJ N a2 a4).bind λr4=>cond (bq r1.2 r2.2) ((kM N r1.1 r2.1).bind λr5=>cond (r5) ((ns N a0 a2).bind λr6=>(oG N a0 a2).bind λr7=>cond (mg .bool r6 r7) (cond (mg .bool r3.2 r4.2) ((kM N ([r3.1]) ([r4.1])).bind λr8=>some r8) (some false)) (some false)) (some false)) (some false)
abbrev F3.ou:=aA→Int→Int→ak→bf→Int→Option Bool
def F3.y7(tc:F3.ou)(x2:aA)(x3 x4:Int)(x5:ak)(x6:bf)(ct:Int):Option Bool:=
 cond (aX ct (ℓ x2)) (cond (bB ct (ℓ x2)) (cond (aX 12 (ℓ (γ x2 ct.toNat (0,(c5,aZ))).2.1:Int)) (some true) (tc x2 x3 x4 x5 x6 (W .i64 (ct+1)))) none) ((F8 N x5 x6 x2 x3 x4).bind λr4=>some r4)
def F3.l6(N:Nat):Nat→F3.ou
 |0,_,_,_,_,_,_=>none
 |n+1,x2,x3,x4,x5,x6,ct=>F3.y7 N (F3.l6 N n) x2 x3 x4 x5 x6 ct
def F3.b(A5:F3.ou)(a0:ak)(a1:bf)(a2:aA)(a3 a4:Int):Option Bool:=
 (F7 N).bind λr1=>cond (!r1) (some false) (cond (aX 10 (ℓ a0.1)) (some true) (cond (aX 16 (ℓ a1.1)) (some true) (cond (aX 30 (ℓ a1.2.1)) (some true) (cond (aX 60 (ℓ a1.2.2.1)) (some true) (cond (aX 60 (ℓ a1.2.2.2.1)) (some true) (cond (aX 10 (ℓ a1.2.2.2.2.1)) (some true) (cond (aX 40 (ℓ a1.2.2.2.2.2.1)) (some true) (cond (aX 20 (ℓ a2)) (some true) (A5 a2 a3 a4 a0 a1 0)))))))))
def F3(a0:ak)(a1:bf)(a2:aA)(a3 a4:Int):Option Bool:=F3.b N (F3.l6 N N) a0 a1 a2 a3 a4
end
end VM.F
