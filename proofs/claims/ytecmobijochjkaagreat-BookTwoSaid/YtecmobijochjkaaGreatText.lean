/- A part of the proof of BookTwo of layer 18: the functions as equations between values, printed by a program. -/
import Derived.Test.YtecmobijochjkaaGreatVm0
set_option linter.all false
open List renaming length→ℓ, getD→γ
namespace VM.F
open Go VM
set_option maxRecDepth 100000
noncomputable section
variable (N:Nat)
abbrev mj:Ty:=(.pair .str (.pair (.int .u64) .unit))
abbrev kM:Ty:=(.pair (.int .i64) (.pair (.int .i64) .unit))
abbrev eO:Ty:=(.pair (.int .i64) (.pair (.int .u64) .unit))
abbrev dk:Ty:=(.pair .bool (.pair (.slice (.int .u64)) .unit))
abbrev dI:Ty:=(.pair (.slice (.int .u64)) (.pair (.int .i64) .unit))
abbrev jZ:Ty:=(.pair (.int .i64) kM)
abbrev wB:Ty:=(.pair (.int .i64) (.pair (.int .i64) (.pair .bool (.pair (.int .u8) .unit))))
abbrev e7:Ty:=(.pair (.int .i64) jZ)
abbrev s6:Ty:=(.pair (.int .i64) (.pair (.int .i64) (.pair eO .unit)))
abbrev qo:Ty:=(.pair (.int .i64) e7)
abbrev s7:Ty:=(.pair (.int .i64) (.pair (.int .i64) (.pair dk .unit)))
abbrev nn:Ty:=(.pair (.int .i64) qo)
abbrev lZ:Ty:=(.pair (.int .i64) (.pair (.int .i64) nn))
abbrev jU:Ty:=(.pair (.int .i64) (.pair (.slice kM) e7))
abbrev im:Ty:=(.pair (.int .i64) (.pair (.int .i64) (.pair (.slice qo) (.pair (.int .i64) .unit))))
abbrev aA:Ty:=(.pair (.slice e7) nn)
abbrev aJ:Ty:=(.pair (.slice kM) (.pair (.slice e7) (.pair (.slice jZ) (.pair (.slice jZ) (.pair (.slice (.int .i64)) (.pair (.slice nn) .unit))))))
abbrev sX:Ty:=(.pair (.int .i64) (.pair (.int .i64) (.pair (.int .i64) (.pair (.int .i64) (.pair (.slice e7) (.pair (.slice jU) (.pair (.slice e7) (.pair (.slice (.int .i64)) (.pair (.slice kM) (.pair (.slice kM) .unit))))))))))
abbrev dQ:Ty:=(.pair (.int .i64) (.pair (.int .i64) (.pair aJ (.pair sX (.pair im .unit)))))
abbrev nq:Ty:=(.pair aA (.pair dQ (.pair (.int .i64) .unit)))
abbrev Qq:=Ty.den mj
abbrev Qr:=List (Ty.den mj)
abbrev BK:=Ty.den kM
abbrev aE:=List (Ty.den kM)
abbrev bU:=Ty.den eO
abbrev ku:=List (Ty.den eO)
abbrev aM:=Ty.den dk
abbrev ql:=List (Ty.den dk)
abbrev aG:=Ty.den dI
abbrev awL:=List (Ty.den dI)
abbrev de:=Ty.den jZ
abbrev au:=List (Ty.den jZ)
abbrev abQ:=Ty.den wB
abbrev abR:=List (Ty.den wB)
abbrev cG:=Ty.den e7
abbrev aO:=List (Ty.den e7)
abbrev tS:=Ty.den s6
abbrev c7:=List (Ty.den s6)
abbrev iu:=Ty.den qo
abbrev bf:=List (Ty.den qo)
abbrev ak3:=Ty.den s7
abbrev bP:=List (Ty.den s7)
abbrev fV:=Ty.den nn
abbrev aY:=List (Ty.den nn)
abbrev iw:=Ty.den lZ
abbrev di:=List (Ty.den lZ)
abbrev jd:=Ty.den jU
abbrev bJ:=List (Ty.den jU)
abbrev eu:=Ty.den im
abbrev aqT:=List (Ty.den im)
abbrev ae:=Ty.den aA
abbrev aqU:=List (Ty.den aA)
abbrev an:=Ty.den aJ
abbrev awM:=List (Ty.den aJ)
abbrev aoL:=Ty.den sX
abbrev aoM:=List (Ty.den sX)
abbrev aQ:=Ty.den dQ
abbrev au1:=List (Ty.den dQ)
abbrev cW:=Ty.den nq
abbrev au2:=List (Ty.den nq)
def F97(N:Nat):Option (ae×an):=
 some (([(0,(100,(2,(0,()))))],(5,(0,(0,(0,(1,(0,()))))))),([(1,(1,()))],([(1,(1,(1,(0,())))),(2,(1,(2,(0,()))))],([(1,(0,((-5),()))),(3,(0,(5,())))],(bn,([100],([(1,(2,(0,(1,(4,(1,()))))))],())))))))
def EY(N:Nat)(a0 a1 a2:Int):Option Bool:=
 cond (du a1 a0) (some (du a0 a2)) (some false)
abbrev Ct.bO:=ae→aO→Int→Int→Option Bool
def Ct.dU(cH:Ct.bO)(x1:ae)(a7:aO)(bp ch:Int):Option Bool:=
 cond (aX ch bp) (cond (bc ch (ℓ a7)) ((EY N (γ a7 ch.toNat bb).1 0 3).bind λr3=>cond (!r3) (some false) ((EY N (γ a7 ch.toNat bb).2.1 1 1000000000000).bind λr4=>cond (!r4) (some false) ((EY N (γ a7 ch.toNat bb).2.2.1 0 1000000000).bind λr5=>cond (!r5) (some false) ((EY N (γ a7 ch.toNat bb).2.2.2.1 0 1000000000).bind λr6=>cond (!r6) (some false) (cH x1 a7 bp (W .i64 (ch+1))))))) none) (cond (du 0 x1.2.1) ((EY N x1.2.2.1 0 4).bind λr8=>cond (r8) ((EY N x1.2.2.2.1 0 1000000).bind λr9=>cond (r9) ((EY N x1.2.2.2.2.1 0 1000000).bind λke=>cond (ke) ((EY N x1.2.2.2.2.2.1 1 4611686018427387904).bind λnF=>cond (nF) (some (du 0 x1.2.2.2.2.2.2.1)) (some false)) (some false)) (some false)) (some false)) (some false))
def Ct.l4(N:Nat):Nat→Ct.bO
 |0,_,_,_,_=>none
 |n+1,x1,a7,bp,ch=>Ct.dU N (Ct.l4 N n) x1 a7 bp ch
def Ct.b(fa:Ct.bO)(a0:ae):Option Bool:=
 (EY N (ℓ a0.1) 1 6).bind λr1=>cond (!r1) (some false) (fa a0 a0.1 (ℓ a0.1) 0)
def Ct(a0:ae):Option Bool:=Ct.b N (Ct.l4 N N) a0
abbrev w1.eZ:=an→an→(List Int)→aO→Int→Int→Option (an×(Int))
abbrev w1.Tz:=ae→an→an→(List Int)→Option (an×(Int))
def w1.oP(N:Nat)(eV:w1.eZ)(x2 x4:an)(MW:List Int)(x24:aO)(x25 Qs:Int):Option (an×(Int)):=
 cond (aX Qs x25) (cond (bc Qs (ℓ x24)) (cond (small (ℓ MW+ℓ ([(γ x24 Qs.toNat bb).2.1]))) (eV x2 (x4.1,(x4.2.1,(x4.2.2.1,(x4.2.2.2.1,(dd,x4.2.2.2.2.2))))) (MW++([(γ x24 Qs.toNat bb).2.1])) x24 x25 (W .i64 (Qs+1))) none) none) (some ((x4.1,(x4.2.1,(x4.2.2.1,(x4.2.2.2.1,(MW,x4.2.2.2.2.2))))),0))
def w1.l7(N:Nat):Nat→w1.eZ
 |0,_,_,_,_,_,_=>none
 |n+1,x2,x4,MW,x24,x25,Qs=>w1.oP N (w1.l7 N n) x2 x4 MW x24 x25 Qs
def w1.ON(N:Nat)(s8:w1.eZ)(x1:ae)(x2 x4:an)(MW:List Int):Option (an×(Int)):=
 s8 x2 x4 MW x1.1 (ℓ x1.1) 0
def w1.j6(x1:ae)(x2 x4:an)(MW:List Int):Option (an×(Int)):=w1.ON N (w1.l7 N N) x1 x2 x4 MW
def w1.b(Fe:w1.Tz)(a0:ae):Option (an×(Int)):=
 (Ct N a0).bind λr1=>cond (!r1) (some ((cf,(cS,(bn,(bn,(dd,(dm,())))))),1)) (cond (!aN a0.2.1 0) (Fe a0 (cf,(cS,(bn,(bn,(dd,(dm,())))))) (cf,(cS,([(1,(0,((W .i64 (0-a0.2.1)),()))),(3,(0,(a0.2.1,())))],(bn,(dd,(dm,())))))) dd) (Fe a0 (cf,(cS,(bn,(bn,(dd,(dm,())))))) (cf,(cS,(bn,(bn,(dd,(dm,())))))) dd))
def w1(a0:ae):Option (an×(Int)):=w1.b N (w1.j6 N) a0
abbrev p4.cX:=aE→aE→Int→Int→Option Bool
def p4.fG(N:Nat)(dW:p4.cX)(x0 x5:aE)(x6 x7:Int):Option Bool:=
 cond (aX x7 x6) (cond (bc x7 (ℓ x5)) (cond (aX (γ x5 x7.toNat da).1 1) (some false) (cond (aX 12 (γ x5 x7.toNat da).1) (some false) (cond (aX (γ x5 x7.toNat da).2.1 1) (some false) (cond (aX 4 (γ x5 x7.toNat da).2.1) (some false) (cond (aX 0 x7) (let v2:Int:=W .i64 (x7-1);cond (bc v2 (ℓ x0)) (cond (du (γ x5 x7.toNat da).1 (γ x0 v2.toNat da).1) (some false) (dW x0 x5 x6 (W .i64 (x7+1)))) none) (dW x0 x5 x6 (W .i64 (x7+1)))))))) none) (some true)
def p4.l2(N:Nat):Nat→p4.cX
 |0,_,_,_,_=>none
 |n+1,x0,x5,x6,x7=>p4.fG N (p4.l2 N n) x0 x5 x6 x7
def p4.b(N:Nat)(gT:p4.cX)(a0:aE):Option Bool:=
 gT a0 a0 (ℓ a0) 0
def p4(a0:aE):Option Bool:=p4.b N (p4.l2 N N) a0
abbrev ng.dR:=aO→(List Bool)→aO→Int→Int→Option Bool
def ng.nw(N:Nat)(dt:ng.dR)(x0:aO)(x3:List Bool)(x6:aO)(x7 x8:Int):Option Bool:=
 cond (aX x8 x7) (cond (bc x8 (ℓ x6)) (cond (aX (γ x6 x8.toNat bb).1 1) (some false) (cond (aX 24 (γ x6 x8.toNat bb).1) (some false) (cond (aX (γ x6 x8.toNat bb).2.1 1) (some false) (cond (aX 12 (γ x6 x8.toNat bb).2.1) (some false) (cond (!aN (γ x6 x8.toNat bb).2.2.1 1) (cond (!aN (γ x6 x8.toNat bb).2.2.1 2) (some false) (cond (aX (γ x6 x8.toNat bb).2.2.2.1 0) (some false) (cond (aX 1000000000000 (γ x6 x8.toNat bb).2.2.2.1) (some false) (cond (aX 0 x8) (let v2:Int:=W .i64 (x8-1);cond (bc v2 (ℓ x0)) (cond (du (γ x6 x8.toNat bb).1 (γ x0 v2.toNat bb).1) (some false) (cond (aN (γ x6 x8.toNat bb).2.2.1 1) (cond (bc (γ x6 x8.toNat bb).2.1 13) (cond (γ x3 (γ x6 x8.toNat bb).2.1.toNat false) (some false) (cond (bc (γ x6 x8.toNat bb).2.1 13) (dt x0 (List.set x3 (γ x6 x8.toNat bb).2.1.toNat true) x6 x7 (W .i64 (x8+1))) none)) none) (dt x0 x3 x6 x7 (W .i64 (x8+1))))) none) (cond (aN (γ x6 x8.toNat bb).2.2.1 1) (cond (bc (γ x6 x8.toNat bb).2.1 13) (cond (γ x3 (γ x6 x8.toNat bb).2.1.toNat false) (some false) (cond (bc (γ x6 x8.toNat bb).2.1 13) (dt x0 (List.set x3 (γ x6 x8.toNat bb).2.1.toNat true) x6 x7 (W .i64 (x8+1))) none)) none) (dt x0 x3 x6 x7 (W .i64 (x8+1)))))))) (cond (aX (γ x6 x8.toNat bb).2.2.2.1 0) (some false) (cond (aX 1000000000000 (γ x6 x8.toNat bb).2.2.2.1) (some false) (cond (aX 0 x8) (let v7:Int:=W .i64 (x8-1);cond (bc v7 (ℓ x0)) (cond (du (γ x6 x8.toNat bb).1 (γ x0 v7.toNat bb).1) (some false) (cond (aN (γ x6 x8.toNat bb).2.2.1 1) (cond (bc (γ x6 x8.toNat bb).2.1 13) (cond (γ x3 (γ x6 x8.toNat bb).2.1.toNat false) (some false) (cond (bc (γ x6 x8.toNat bb).2.1 13) (dt x0 (List.set x3 (γ x6 x8.toNat bb).2.1.toNat true) x6 x7 (W .i64 (x8+1))) none)) none) (dt x0 x3 x6 x7 (W .i64 (x8+1))))) none) (cond (aN (γ x6 x8.toNat bb).2.2.1 1) (cond (bc (γ x6 x8.toNat bb).2.1 13) (cond (γ x3 (γ x6 x8.toNat bb).2.1.toNat false) (some false) (cond (bc (γ x6 x8.toNat bb).2.1 13) (dt x0 (List.set x3 (γ x6 x8.toNat bb).2.1.toNat true) x6 x7 (W .i64 (x8+1))) none)) none) (dt x0 x3 x6 x7 (W .i64 (x8+1)))))))))))) none) (some true)
def ng.l3(N:Nat):Nat→ng.dR
 |0,_,_,_,_,_=>none
 |n+1,x0,x3,x6,x7,x8=>ng.nw N (ng.l3 N n) x0 x3 x6 x7 x8
def ng.b(N:Nat)(oK:ng.dR)(a0:aO):Option Bool:=
 oK a0 (List.replicate 13 false) a0 (ℓ a0) 0
def ng(a0:aO):Option Bool:=ng.b N (ng.l3 N N) a0
abbrev BL.bO:=Int→aE→Int→Int→Option Int
def BL.dU(N:Nat)(cH:BL.bO)(x1:Int)(bm:aE)(a7 bp:Int):Option Int:=
 cond (aX bp a7) (cond (bc bp (ℓ bm)) (cond (aN (γ bm bp.toNat da).1 x1) (some (γ bm bp.toNat da).2.1) (cH x1 bm a7 (W .i64 (bp+1)))) none) (some 0)
def BL.l4(N:Nat):Nat→BL.bO
 |0,_,_,_,_=>none
 |n+1,x1,bm,a7,bp=>BL.dU N (BL.l4 N n) x1 bm a7 bp
def BL.b(fa:BL.bO)(a0:aE)(a1:Int):Option Int:=
 (p4 N a0).bind λr1=>cond (!r1) (some 0) (fa a1 a0 (ℓ a0) 0)
def BL(a0:aE)(a1:Int):Option Int:=BL.b N (BL.l4 N N) a0 a1
abbrev E0.bO:=aE→aO→Int→Int→Option Bool
def E0.dU(cH:E0.bO)(x0:aE)(eB:aO)(fx ga:Int):Option Bool:=
 cond (aX ga fx) (cond (bc ga (ℓ eB)) ((BL N x0 (γ eB ga.toNat bb).2.1).bind λr4=>cond (aN r4 0) (some false) (cH x0 eB fx (W .i64 (ga+1)))) none) (some true)
def E0.l4(N:Nat):Nat→E0.bO
 |0,_,_,_,_=>none
 |n+1,x0,eB,fx,ga=>E0.dU N (E0.l4 N n) x0 eB fx ga
def E0.b(fa:E0.bO)(a0:aE)(a1:aO):Option Bool:=
 (p4 N a0).bind λr1=>cond (!r1) (some false) ((ng N a1).bind λr2=>cond (!r2) (some false) (fa a0 a1 (ℓ a1) 0))
def E0(a0:aE)(a1:aO):Option Bool:=E0.b N (E0.l4 N N) a0 a1
def Sw(N:Nat)(a0 a1:Int):Option Bool:=
 cond (aN a0 1) (some (aN a1 0)) (cond (aN a0 2) (some (aN a1 0)) (cond (aN a0 3) (some (aN a1 0)) (cond (aN a0 4) (some (aN a1 0)) (cond (aN a0 5) (cond (du 1 a1) (some (du a1 24)) (some false)) (cond (aN a0 6) (cond (du 1 a1) (some (du a1 12)) (some false)) (cond (aN a0 7) (cond (du 1 a1) (some (du a1 12)) (some false)) (some false)))))))
def Sy(N:Nat)(a0 a1:Int)(a2:de):Option Int:=
 cond (!aN a0 a2.1) (some (W .i64 (a0-a2.1))) (some (W .i64 (a1-a2.2.1)))
abbrev CQ.cX:=au→au→Int→Int→Option Bool
def CQ.fG(dW:CQ.cX)(x0 x5:au)(x6 x7:Int):Option Bool:=
 cond (aX x7 x6) (cond (bc x7 (ℓ x5)) ((Sw N (γ x5 x7.toNat ba).1 (γ x5 x7.toNat ba).2.1).bind λr2=>cond (!r2) (some false) (cond (aN (γ x5 x7.toNat ba).2.2.1 0) (some false) (cond (aX 0 x7) (let v3:Int:=W .i64 (x7-1);cond (bc v3 (ℓ x0)) ((Sy N (γ x5 x7.toNat ba).1 (γ x5 x7.toNat ba).2.1 (γ x0 v3.toNat ba)).bind λr4=>cond (du r4 0) (some false) (dW x0 x5 x6 (W .i64 (x7+1)))) none) (dW x0 x5 x6 (W .i64 (x7+1)))))) none) (some true)
def CQ.l2(N:Nat):Nat→CQ.cX
 |0,_,_,_,_=>none
 |n+1,x0,x5,x6,x7=>CQ.fG N (CQ.l2 N n) x0 x5 x6 x7
def CQ.b(N:Nat)(gT:CQ.cX)(a0:au):Option Bool:=
 gT a0 a0 (ℓ a0) 0
def CQ(a0:au):Option Bool:=CQ.b N (CQ.l2 N N) a0
def OU(N:Nat)(a0:Int):Option bU:=
 cond (aX 63 0) none (some ((shr .i64 a0 63),((W .u64 a0),())))
abbrev nI.dR:=bU→Int→Int→Int→ku→Int→Int→Option (bU×(Bool))
def nI.nw(dt:nI.dR)(x2:bU)(x4 x5 x6:Int)(bm:ku)(a7 bp:Int):Option (bU×(Bool)):=
 cond (aX bp a7) (cond (bc bp (ℓ bm)) ((uO N x6 (γ bm bp.toNat da).2.1 0).bind λr2=>(uO N x5 (W .u64 (γ bm bp.toNat da).1) r2.2).bind λr4=>cond (aX 63 0) none (dt x2 (W .i64 ((W .i64 (x4+(shr .i64 (γ bm bp.toNat da).1 63)))+(W .i64 r4.2))) r4.1 r2.1 bm a7 (W .i64 (bp+1)))) none) (cond (aX 63 0) none (cond (!aN x4 (shr .i64 (W .i64 x5) 63)) (some (da,false)) (some (((W .i64 x5),(x6,())),true))))
def nI.l3(N:Nat):Nat→nI.dR
 |0,_,_,_,_,_,_,_=>none
 |n+1,x2,x4,x5,x6,bm,a7,bp=>nI.nw N (nI.l3 N n) x2 x4 x5 x6 bm a7 bp
def nI.b(N:Nat)(oK:nI.dR)(a0:ku):Option (bU×(Bool)):=
 oK da 0 0 0 a0 (ℓ a0) 0
def nI(a0:ku):Option (bU×(Bool)):=nI.b N (nI.l3 N N) a0
abbrev Ed.bK:=bU→ku→au→Int→Int→Option bU
def Ed.eA(bL:Ed.bK)(x2:bU)(x3:ku)(bp:au)(ch cY:Int):Option bU:=
 cond (aX cY ch) (cond (bc cY (ℓ bp)) ((OU N (γ bp cY.toNat ba).2.2.1).bind λr3=>cond (small (ℓ x3+ℓ ([r3]))) (bL x2 (x3++([r3])) bp ch (W .i64 (cY+1))) none) none) ((nI N x3).bind λr6=>some r6.1)
def Ed.l5(N:Nat):Nat→Ed.bK
 |0,_,_,_,_,_=>none
 |n+1,x2,x3,bp,ch,cY=>Ed.eA N (Ed.l5 N n) x2 x3 bp ch cY
def Ed.b(eW:Ed.bK)(a0:au):Option bU:=
 (CQ N a0).bind λr1=>cond (!r1) (some da) (eW da ([]) a0 (ℓ a0) 0)
def Ed(a0:au):Option bU:=Ed.b N (Ed.l5 N N) a0
def Wm(N:Nat)(a0 a1:bU):Option Int:=
 cond (aX a0.1 a1.1) (some (-1)) (cond (aN a0.1 a1.1) (cond (aX a0.2.1 a1.2.1) (some (-1)) (cond (pC (.pair (.int .i64) (.pair (.int .u64) .unit)) a0 a1) (some 0) (some 1))) (cond (pC (.pair (.int .i64) (.pair (.int .u64) .unit)) a0 a1) (some 0) (some 1)))
def F74(a0:bU):Option Int:=
 (Wm N a0 da).bind λr1=>some r1
def Zh(N:Nat)(a0 a1:Int):Option Bool:=
 cond (du 0 a0) (cond (du a0 24) (cond (du 0 a1) (some (aX a1 6)) (some false)) (some false)) (some false)
def SA(N:Nat)(a0:Int):Option Bool:=
 some (!aN a0 (-9223372036854775808))
def Wj(N:Nat)(a0 a1:Int)(a2:de):Option Int:=
 cond (!aN a0 a2.1) (some (W .i64 (a0-a2.1))) (some (W .i64 (a1-a2.2.1)))
abbrev og.cX:=au→au→Int→Int→Option Bool
def og.fG(dW:og.cX)(x0 x5:au)(x6 x7:Int):Option Bool:=
 cond (aX x7 x6) (cond (bc x7 (ℓ x5)) ((Zh N (γ x5 x7.toNat ba).1 (γ x5 x7.toNat ba).2.1).bind λr2=>cond (!r2) (some false) (cond (aN (γ x5 x7.toNat ba).2.2.1 0) (some false) ((SA N (γ x5 x7.toNat ba).2.2.1).bind λr3=>cond (!r3) (some false) (cond (aX 0 x7) (let v4:Int:=W .i64 (x7-1);cond (bc v4 (ℓ x0)) ((Wj N (γ x5 x7.toNat ba).1 (γ x5 x7.toNat ba).2.1 (γ x0 v4.toNat ba)).bind λr5=>cond (du r5 0) (some false) (dW x0 x5 x6 (W .i64 (x7+1)))) none) (dW x0 x5 x6 (W .i64 (x7+1))))))) none) (some true)
def og.l2(N:Nat):Nat→og.cX
 |0,_,_,_,_=>none
 |n+1,x0,x5,x6,x7=>og.fG N (og.l2 N n) x0 x5 x6 x7
def og.b(N:Nat)(gT:og.cX)(a0:au):Option Bool:=
 gT a0 a0 (ℓ a0) 0
def og(a0:au):Option Bool:=og.b N (og.l2 N N) a0
abbrev p6.bK:=Int→bU→ku→au→Int→Int→Option bU
def p6.eA(bL:p6.bK)(x1:Int)(x4:bU)(x5:ku)(cY:au)(eB fx:Int):Option bU:=
 cond (aX fx eB) (cond (bc fx (ℓ cY)) (cond (aN (γ cY fx.toNat ba).2.1 x1) ((OU N (γ cY fx.toNat ba).2.2.1).bind λr3=>cond (small (ℓ x5+ℓ ([r3]))) (bL x1 x4 (x5++([r3])) cY eB (W .i64 (fx+1))) none) (bL x1 x4 x5 cY eB (W .i64 (fx+1)))) none) ((nI N x5).bind λr7=>some r7.1)
def p6.l5(N:Nat):Nat→p6.bK
 |0,_,_,_,_,_,_=>none
 |n+1,x1,x4,x5,cY,eB,fx=>p6.eA N (p6.l5 N n) x1 x4 x5 cY eB fx
def p6.b(eW:p6.bK)(a0:au)(a1:Int):Option bU:=
 (og N a0).bind λr1=>cond (!r1) (some da) (eW a1 da ([]) a0 (ℓ a0) 0)
def p6(a0:au)(a1:Int):Option bU:=p6.b N (p6.l5 N N) a0 a1
abbrev E1.cX:=au→Int→Option Bool
def E1.fG(dW:E1.cX)(x0:au)(x4:Int):Option Bool:=
 cond (aX x4 6) ((p6 N x0 x4).bind λr2=>(F74 N r2).bind λr3=>cond (!aN r3 0) (some false) (dW x0 (W .i64 (x4+1)))) ((og N x0).bind λr5=>some r5)
def E1.l2(N:Nat):Nat→E1.cX
 |0,_,_=>none
 |n+1,x0,x4=>E1.fG N (E1.l2 N n) x0 x4
def E1.b(N:Nat)(gT:E1.cX)(a0:au):Option Bool:=
 gT a0 0
def E1(a0:au):Option Bool:=E1.b N (E1.l2 N N) a0
def acV(N:Nat)(a0:fV):Option Bool:=
 cond (du 1 a0.1) (cond (du a0.1 1099511627776) (cond (du 1 a0.2.1) (cond (du a0.2.1 24) (cond (du 0 a0.2.2.1) (cond (aX a0.2.2.1 6) (cond (aN a0.2.2.2.1 1) (cond (du 1 a0.2.2.2.2.1) (cond (du a0.2.2.2.2.1 1000000000) (cond (du 1 a0.2.2.2.2.2.1) (some (du a0.2.2.2.2.2.1 1000000000000)) (some false)) (some false)) (some false)) (cond (aN a0.2.2.2.1 2) (cond (du 1 a0.2.2.2.2.1) (cond (du a0.2.2.2.2.1 1000000000) (cond (du 1 a0.2.2.2.2.2.1) (some (du a0.2.2.2.2.2.1 1000000000000)) (some false)) (some false)) (some false)) (some false))) (some false)) (some false)) (some false)) (some false)) (some false)) (some false)
abbrev CV.cX:=aY→aY→Int→Int→Option Bool
def CV.fG(dW:CV.cX)(x0 x5:aY)(x6 x7:Int):Option Bool:=
 cond (aX x7 x6) (cond (bc x7 (ℓ x5)) ((acV N (γ x5 x7.toNat eF)).bind λr2=>cond (!r2) (some false) (cond (aX 0 x7) (let v3:Int:=W .i64 (x7-1);cond (bc v3 (ℓ x0)) (cond (du (γ x5 x7.toNat eF).1 (γ x0 v3.toNat eF).1) (some false) (dW x0 x5 x6 (W .i64 (x7+1)))) none) (dW x0 x5 x6 (W .i64 (x7+1))))) none) (some (du (ℓ x0) 32))
def CV.l2(N:Nat):Nat→CV.cX
 |0,_,_,_,_=>none
 |n+1,x0,x5,x6,x7=>CV.fG N (CV.l2 N n) x0 x5 x6 x7
def CV.b(N:Nat)(gT:CV.cX)(a0:aY):Option Bool:=
 gT a0 a0 (ℓ a0) 0
def CV(a0:aY):Option Bool:=CV.b N (CV.l2 N N) a0
abbrev p5.bO:=Int→cG→aO→Int→Int→Option (cG×(Bool))
def p5.dU(N:Nat)(cH:p5.bO)(x1:Int)(x4:cG)(bp:aO)(ch cY:Int):Option (cG×(Bool)):=
 cond (aX cY ch) (cond (bc cY (ℓ bp)) (cond (aN (γ bp cY.toNat bb).1 x1) (some (γ bp cY.toNat bb,true)) (cH x1 x4 bp ch (W .i64 (cY+1)))) none) (some (bb,false))
def p5.l4(N:Nat):Nat→p5.bO
 |0,_,_,_,_,_=>none
 |n+1,x1,x4,bp,ch,cY=>p5.dU N (p5.l4 N n) x1 x4 bp ch cY
def p5.b(fa:p5.bO)(a0:aO)(a1:Int):Option (cG×(Bool)):=
 (ng N a0).bind λr1=>cond (!r1) (some (bb,false)) (fa a1 bb a0 (ℓ a0) 0)
def p5(a0:aO)(a1:Int):Option (cG×(Bool)):=p5.b N (p5.l4 N N) a0 a1
def F78(a0:an)(a1:Int):Option Bool:=
 (p5 N a0.2.1 a1).bind λr1=>some r1.2
def F81(N:Nat)(a0:Int):Option Bool:=
 cond (du 1 a0) (some (du a0 1000000000000)) (some false)
def F80(a0:Int):Option Bool:=
 (F81 N a0).bind λr1=>some (!r1)
abbrev tg.cX:=(List Int)→Unit→Int→Int→Option Int
def tg.fG(dW:tg.cX)(x0:List Int)(x1:Unit)(x7 x8:Int):Option Int:=
 cond (aX x8 x7) (cond (bc x8 (ℓ x0)) ((F80 N (γ x0 x8.toNat 0)).bind λr2=>cond (r2) (some x8) (dW x0 () x7 (W .i64 (x8+1)))) none) (some (-1))
def tg.l2(N:Nat):Nat→tg.cX
 |0,_,_,_,_=>none
 |n+1,x0,x1,x7,x8=>tg.fG N (tg.l2 N n) x0 x1 x7 x8
def tg.b(N:Nat)(gT:tg.cX)(a0:List Int)(a1:Unit):Option Int:=
 gT a0 () (ℓ a0) 0
def tg(a0:List Int)(a1:Unit):Option Int:=tg.b N (tg.l2 N N) a0 a1
def F79(a0:List Int)(a1:Unit):Option Bool:=
 (tg N a0 ()).bind λr1=>some (du 0 r1)
abbrev kQ.s9:=ae→an→aY→Int→Int→Option Bool
abbrev kQ.nC:=ae→an→au→Int→Int→Option Bool
abbrev kQ.bO:=ae→an→au→Int→Int→Option Bool
def kQ.wW(ID:kQ.s9)(x2:ae)(x3:an)(tq:aY)(aed TA:Int):Option Bool:=
 cond (aX TA aed) (cond (bc TA (ℓ tq)) ((F78 N x3 (γ tq TA.toNat eF).2.1).bind λFR=>cond (!FR) (some false) (cond (du (ℓ x2.1) (γ tq TA.toNat eF).2.2.1) (some false) (ID x2 x3 tq aed (W .i64 (TA+1))))) none) ((F79 N x3.2.2.2.2.1 ()).bind λEF=>some (!EF))
def kQ.yc(N:Nat):Nat→kQ.s9
 |0,_,_,_,_,_=>none
 |n+1,x2,x3,tq,aed,TA=>kQ.wW N (kQ.yc N n) x2 x3 tq aed TA
def kQ.wV(IE:kQ.s9)(oY:kQ.nC)(x2:ae)(x3:an)(x83:au)(x84 x85:Int):Option Bool:=
 cond (aX x85 x84) (cond (bc x85 (ℓ x83)) (cond (!aN (γ x83 x85.toNat ba).1 0) ((F78 N x3 (γ x83 x85.toNat ba).1).bind λwY=>cond (!wY) (some false) (cond (du (ℓ x2.1) (γ x83 x85.toNat ba).2.1) (some false) (oY x2 x3 x83 x84 (W .i64 (x85+1))))) (cond (du (ℓ x2.1) (γ x83 x85.toNat ba).2.1) (some false) (oY x2 x3 x83 x84 (W .i64 (x85+1))))) none) (IE x2 x3 x3.2.2.2.2.2.1 (ℓ x3.2.2.2.2.2.1) 0)
def kQ.yb(N:Nat):Nat→kQ.nC
 |0,_,_,_,_,_=>none
 |n+1,x2,x3,x83,x84,x85=>kQ.wV N (kQ.yc N N) (kQ.yb N n) x2 x3 x83 x84 x85
def kQ.dU(IF:kQ.nC)(cH:kQ.bO)(x2:ae)(x3:an)(I7:au)(XC FT:Int):Option Bool:=
 cond (aX FT XC) (cond (bc FT (ℓ I7)) (cond (aN (γ I7 FT.toNat ba).1 5) ((F78 N x3 (γ I7 FT.toNat ba).2.1).bind λr9=>cond (!r9) (some false) (cH x2 x3 I7 XC (W .i64 (FT+1)))) (cond (aN (γ I7 FT.toNat ba).1 6) ((BL N x3.1 (γ I7 FT.toNat ba).2.1).bind λnF=>cond (aN nF 0) (some false) (cH x2 x3 I7 XC (W .i64 (FT+1)))) (cond (aN (γ I7 FT.toNat ba).1 7) ((BL N x3.1 (γ I7 FT.toNat ba).2.1).bind λpq=>cond (aN pq 0) (some false) (cH x2 x3 I7 XC (W .i64 (FT+1)))) (cH x2 x3 I7 XC (W .i64 (FT+1)))))) none) (IF x2 x3 x3.2.2.2.1 (ℓ x3.2.2.2.1) 0)
def kQ.l4(N:Nat):Nat→kQ.bO
 |0,_,_,_,_,_=>none
 |n+1,x2,x3,I7,XC,FT=>kQ.dU N (kQ.yb N N) (kQ.l4 N n) x2 x3 I7 XC FT
def kQ.b(fa:kQ.bO)(a0:ae)(a1:an):Option Bool:=
 (Ct N a0).bind λr1=>cond (!r1) (some false) ((E0 N a1.1 a1.2.1).bind λr2=>cond (!r2) (some false) ((CQ N a1.2.2.1).bind λr3=>cond (!r3) (some false) ((Ed N a1.2.2.1).bind λr4=>(F74 N r4).bind λr5=>cond (!aN r5 0) (some false) ((E1 N a1.2.2.2.1).bind λr6=>cond (!r6) (some false) ((CV N a1.2.2.2.2.2.1).bind λr7=>cond (!r7) (some false) (cond (!aN (ℓ a1.2.2.2.2.1) (ℓ a0.1)) (some false) (fa a0 a1 a1.2.2.1 (ℓ a1.2.2.1) 0)))))))
def kQ(a0:ae)(a1:an):Option Bool:=kQ.b N (kQ.l4 N N) a0 a1
abbrev ph.cX:=iu→(List Int)→Int→Option Bool
def ph.fG(dW:ph.cX)(x1:iu)(x9:List Int)(bm:Int):Option Bool:=
 cond (aX bm 2) (cond (bc bm 2) (cond (aX (γ x9 bm.toNat 0) 0) (some false) (cond (aX 24 (γ x9 bm.toNat 0)) (some false) (dW x1 x9 (W .i64 (bm+1))))) none) (cond (!aN x1.1 x1.2.1) (cond (du 0 x1.2.2.1) (cond (aX x1.2.2.1 6) (cond (du 1 x1.2.2.2.1) (cond (du x1.2.2.2.1 1000000000) ((F81 N x1.2.2.2.2.1).bind λr4=>some r4) (some false)) (some false)) (some false)) (some false)) (some false))
def ph.l2(N:Nat):Nat→ph.cX
 |0,_,_,_=>none
 |n+1,x1,x9,bm=>ph.fG N (ph.l2 N n) x1 x9 bm
def ph.b(N:Nat)(gT:ph.cX)(a0:iu):Option Bool:=
 gT a0 (List.set (List.set (List.replicate 2 0) 0 a0.1) 1 a0.2.1) 0
def ph(a0:iu):Option Bool:=ph.b N (ph.l2 N N) a0
def ak7(a0:iu):Option Bool:=
 (ph N a0).bind λr1=>some (!r1)
abbrev th.cX:=bf→Unit→Int→Int→Option Int
def th.fG(dW:th.cX)(x0:bf)(x1:Unit)(x7 x8:Int):Option Int:=
 cond (aX x8 x7) (cond (bc x8 (ℓ x0)) ((ak7 N (γ x0 x8.toNat gl)).bind λr2=>cond (r2) (some x8) (dW x0 () x7 (W .i64 (x8+1)))) none) (some (-1))
def th.l2(N:Nat):Nat→th.cX
 |0,_,_,_,_=>none
 |n+1,x0,x1,x7,x8=>th.fG N (th.l2 N n) x0 x1 x7 x8
def th.b(N:Nat)(gT:th.cX)(a0:bf)(a1:Unit):Option Int:=
 gT a0 () (ℓ a0) 0
def th(a0:bf)(a1:Unit):Option Int:=th.b N (th.l2 N N) a0 a1
def adg(a0:bf)(a1:Unit):Option Bool:=
 (th N a0 ()).bind λr1=>some (du 0 r1)
def Wf(N:Nat)(a0:Int):Option Int:=
 cond (aX a0 0) (some (W .u64 (0-(W .u64 a0)))) (some (W .u64 a0))
def We(N:Nat)(a0 a1:Int):Option ((Int)×(Int)):=
 let v1:Int:=sd .and .u64 a0 4294967295;cond (aX 32 0) none (let v2:Int:=shr .u64 a0 32;let v3:Int:=sd .and .u64 a1 4294967295;cond (aX 32 0) none (let v4:Int:=shr .u64 a1 32;cond (aX 32 0) none (let v8:Int:=W .u64 ((W .u64 (v2*v3))+(shr .u64 (W .u64 (v1*v3)) 32));cond (aX 32 0) none (cond (aX 32 0) none (some ((W .u64 ((W .u64 ((W .u64 (v2*v4))+(shr .u64 v8 32)))+(shr .u64 (W .u64 ((sd .and .u64 v8 4294967295)+(W .u64 (v1*v4)))) 32))),(W .u64 (a0*a1))))))))
abbrev q6.abb:=Int→Int→bU→Option (bU×(Bool))
def q6.XV(x1 x2:Int)(x6:bU):Option (bU×(Bool)):=
 (tD N 0 x2 0).bind λr3=>(tD N 0 x1 r3.2).bind λr4=>some (((W .i64 r4.1),(r3.1,())),true)
def q6.j7(x1 x2:Int)(x6:bU):Option (bU×(Bool)):=q6.XV N x1 x2 x6
def q6.b(N:Nat)(JO:q6.abb)(a0:Bool)(a1 a2:Int):Option (bU×(Bool)):=
 cond (!a0) (cond (du 9223372036854775808 a1) (some (da,false)) (some (((W .i64 a1),(a2,())),true))) (cond (aX 9223372036854775808 a1) (some (da,false)) (cond (aN a1 9223372036854775808) (cond (aX 0 a2) (some (da,false)) (JO a1 a2 da)) (JO a1 a2 da)))
def q6(a0:Bool)(a1 a2:Int):Option (bU×(Bool)):=q6.b N (q6.j7 N) a0 a1 a2
def Wi(a0 a1:Int):Option bU:=
 (Wf N a0).bind λr1=>(Wf N a1).bind λr2=>(We N r1 r2).bind λr3=>(q6 N (!(pC .bool (aX a0 0) (aX a1 0))) r3.1 r3.2).bind λr4=>some r4.1
def WJ(N:Nat)(a0:Int)(a1:bU):Option tS:=
 cond (aN a0 0) (some (2,(0,(a1,())))) (some (5,(a0,(a1,()))))
def ZM(a0:iu)(a1:Int):Option (c7×(Int)):=
 (ph N a0).bind λr1=>cond (!r1) (some ([],1)) ((F81 N a1).bind λr2=>cond (!r2) (some ([],1)) (cond (aN a1 a0.2.2.2.2.1) (some ([],0)) ((Wi N a0.2.2.2.1 (W .i64 (a1-a0.2.2.2.2.1))).bind λr4=>(WJ N a0.1 r4).bind λr5=>(Wi N a0.2.2.2.1 (W .i64 (a0.2.2.2.2.1-a1))).bind λr7=>(WJ N a0.2.1 r7).bind λr8=>some ([r5,r8],0))))
def Zy(a0:an):Option an:=
 (js N a0.1).bind λr1=>(js N a0.2.1).bind λr2=>(js N a0.2.2.1).bind λr3=>(js N a0.2.2.2.1).bind λr4=>(js N a0.2.2.2.2.1).bind λr5=>(js N a0.2.2.2.2.2.1).bind λr6=>some (r1,(r2,(r3,(r4,(r5,(r6,()))))))
abbrev gY.kv:=au→Int→ku→Int→au→Int→Int→Option Bool
abbrev gY.cX:=au→Int→Option Bool
def gY.uU(dW:gY.cX)(lA:gY.kv)(x0:au)(x3:Int)(x4:ku)(x9:Int)(bp:au)(ch cY:Int):Option Bool:=
 cond (aX cY ch) (cond (bc cY (ℓ bp)) (cond (aN (γ bp cY.toNat ba).2.1 x3) ((OU N (γ bp cY.toNat ba).2.2.1).bind λr3=>cond (small (ℓ x4+ℓ ([r3]))) (lA x0 x3 (x4++([r3])) x9 bp ch (W .i64 (cY+1))) none) (lA x0 x3 x4 x9 bp ch (W .i64 (cY+1)))) none) ((nI N x4).bind λr7=>cond (!r7.2) (some false) ((F74 N r7.1).bind λr8=>cond (!aN r8 0) (some false) (dW x0 (W .i64 (x9+1)))))
def gY.l6(N:Nat)(dW:gY.cX):Nat→gY.kv
 |0,_,_,_,_,_,_,_=>none
 |n+1,x0,x3,x4,x9,bp,ch,cY=>gY.uU N dW (gY.l6 N dW n) x0 x3 x4 x9 bp ch cY
def gY.fG(N:Nat)(yw:gY.kv)(dW:gY.cX)(x0:au)(x9:Int):Option Bool:=
 cond (aX x9 6) (yw x0 x9 ([]) x9 x0 (ℓ x0) 0) (some true)
def gY.l2(N:Nat):Nat→gY.cX
 |0,_,_=>none
 |n+1,x0,x9=>gY.fG N (gY.l6 N (gY.l2 N n) N) (gY.l2 N n) x0 x9
def gY.b(N:Nat)(gT:gY.cX)(a0:au):Option Bool:=
 gT a0 0
def gY(a0:au):Option Bool:=gY.b N (gY.l2 N N) a0
def F92(N:Nat)(a0:bU):Option ((Int)×(Bool)):=
 cond (aX 63 0) none (cond (!aN a0.1 (shr .i64 (W .i64 a0.2.1) 63)) (some (0,false)) (some ((W .i64 a0.2.1),true)))
def ac2(N:Nat)(a0:au):Option au:=
 cond (jq 0 (ℓ a0) (ℓ a0) (ℓ a0)) (some (List.drop (0:Int).toNat (List.take (ℓ a0:Int).toNat a0))) none
abbrev cJ.aqW:=au→au→de→Int→au→Int→Int→Option (au×(Int))
abbrev cJ.nC:=au→au→de→Int→au→Int→Int→Option (au×(Int))
abbrev cJ.abc:=au→au→de→ku→au→Int→Int→au→Int→Int→Option (au×(Int))
abbrev cJ.Ko:=au→au→au→Int→Int→Option (au×(Int))
abbrev cJ.fN:=au→au→au→Int→Int→Option (au×(Int))
abbrev cJ.bO:=au→au→au→Int→Int→Option (au×(Int))
def cJ.akZ(gK:cJ.fN)(x1 x8:au)(bm:de)(a7:Int)(Qt:au)(R4 Nn:Int):Option (au×(Int)):=
 cond (aN a7 (ℓ x8)) ((qW N x8 a7 ([(bm.1,(bm.2.1,(0,())))])).bind λpq=>gK x1 pq Qt R4 (W .i64 (Nn+1))) (cond (bc a7 (ℓ x8)) ((Wj N bm.1 bm.2.1 (γ x8 a7.toNat ba)).bind λvn=>cond (!aN vn 0) ((qW N x8 a7 ([(bm.1,(bm.2.1,(0,())))])).bind λwu=>gK x1 wu Qt R4 (W .i64 (Nn+1))) (gK x1 x8 Qt R4 (W .i64 (Nn+1)))) none)
def cJ.j18(gK:cJ.fN)(x1 x8:au)(bm:de)(a7:Int)(Qt:au)(R4 Nn:Int):Option (au×(Int)):=cJ.akZ N gK x1 x8 bm a7 Qt R4 Nn
def cJ.wV(aji:cJ.aqW)(gK:cJ.fN)(oY:cJ.nC)(x1 x8:au)(bm:de)(a7:Int)(Qt:au)(R4 Nn:Int):Option (au×(Int)):=
 cond (aX a7 (ℓ x8)) (cond (bc a7 (ℓ x8)) ((Wj N bm.1 bm.2.1 (γ x8 a7.toNat ba)).bind λke=>cond (aX 0 ke) (oY x1 x8 bm (W .i64 (a7+1)) Qt R4 Nn) (aji x1 x8 bm a7 Qt R4 Nn)) none) (aji x1 x8 bm a7 Qt R4 Nn)
def cJ.yb(N:Nat)(gK:cJ.fN):Nat→cJ.nC
 |0,_,_,_,_,_,_,_=>none
 |n+1,x1,x8,bm,a7,Qt,R4,Nn=>cJ.wV N (cJ.j18 N gK) gK (cJ.yb N gK n) x1 x8 bm a7 Qt R4 Nn
def cJ.ac3(Lg:cJ.Ko)(abd:cJ.abc)(x1 bp:au)(cY:de)(eB:ku)(Ck:au)(Ff tq:Int)(MX:au)(XD JP:Int):Option (au×(Int)):=
 cond (aX JP XD) (cond (bc JP (ℓ MX)) (cond (aN (γ MX JP.toNat ba).1 cY.1) (cond (aN (γ MX JP.toNat ba).2.1 cY.2.1) ((OU N (γ MX JP.toNat ba).2.2.1).bind λEF=>cond (small (ℓ eB+ℓ ([EF]))) (abd x1 bp cY (eB++([EF])) Ck Ff tq MX XD (W .i64 (JP+1))) none) (abd x1 bp cY eB Ck Ff tq MX XD (W .i64 (JP+1)))) (abd x1 bp cY eB Ck Ff tq MX XD (W .i64 (JP+1)))) none) ((nI N eB).bind λr28=>(F92 N r28.1).bind λFU=>cond (!FU.2) (some (bn,2)) ((SA N FU.1).bind λTB=>cond (!TB) (some (bn,2)) (cond (!aN FU.1 0) (cond (small (ℓ bp+ℓ ([(cY.1,(cY.2.1,(FU.1,())))]))) (Lg x1 (bp++([(cY.1,(cY.2.1,(FU.1,())))])) Ck Ff (W .i64 (tq+1))) none) (Lg x1 bp Ck Ff (W .i64 (tq+1))))))
def cJ.l27(N:Nat)(Lg:cJ.Ko):Nat→cJ.abc
 |0,_,_,_,_,_,_,_,_,_,_=>none
 |n+1,x1,bp,cY,eB,Ck,Ff,tq,MX,XD,JP=>cJ.ac3 N Lg (cJ.l27 N Lg n) x1 bp cY eB Ck Ff tq MX XD JP
def cJ.ac5(aqX:cJ.abc)(Lg:cJ.Ko)(x1 bp Ck:au)(Ff tq:Int):Option (au×(Int)):=
 cond (aX tq Ff) (cond (bc tq (ℓ Ck)) ((OU N (γ Ck tq.toNat ba).2.2.1).bind λFR=>aqX x1 bp (γ Ck tq.toNat ba) ([FR]) Ck Ff tq x1 (ℓ x1) 0) none) ((ac2 N bp).bind λr34=>some (r34,0))
def cJ.l23(N:Nat):Nat→cJ.Ko
 |0,_,_,_,_,_=>none
 |n+1,x1,bp,Ck,Ff,tq=>cJ.ac5 N (cJ.l27 N (cJ.l23 N n) N) (cJ.l23 N n) x1 bp Ck Ff tq
def cJ.lq(N:Nat)(IF:cJ.nC)(aqY:cJ.Ko)(gK:cJ.fN)(x1 x8 Qt:au)(R4 Nn:Int):Option (au×(Int)):=
 cond (aX Nn R4) (cond (bc Nn (ℓ Qt)) (IF x1 x8 (γ Qt Nn.toNat ba) 0 Qt R4 Nn) none) (cond (kT 0 (ℓ x8)) (aqY x1 (List.replicate (0:Int).toNat ba) x8 (ℓ x8) 0) none)
def cJ.mq(N:Nat):Nat→cJ.fN
 |0,_,_,_,_,_=>none
 |n+1,x1,x8,Qt,R4,Nn=>cJ.lq N (cJ.yb N (cJ.mq N n) N) (cJ.l23 N N) (cJ.mq N n) x1 x8 Qt R4 Nn
def cJ.dU(ta:cJ.fN)(cH:cJ.bO)(x0 x1 Ax:au)(Lh Dx:Int):Option (au×(Int)):=
 cond (aX Dx Lh) (cond (bc Dx (ℓ Ax)) ((Zh N (γ Ax Dx.toNat ba).1 (γ Ax Dx.toNat ba).2.1).bind λr3=>cond (!r3) (some (bn,1)) ((SA N (γ Ax Dx.toNat ba).2.2.1).bind λr4=>cond (!r4) (some (bn,1)) (cH x0 x1 Ax Lh (W .i64 (Dx+1))))) none) ((gY N x1).bind λr6=>cond (!r6) (some (bn,1)) ((js N x0).bind λr7=>ta x1 r7 x1 (ℓ x1) 0))
def cJ.l4(N:Nat):Nat→cJ.bO
 |0,_,_,_,_,_=>none
 |n+1,x0,x1,Ax,Lh,Dx=>cJ.dU N (cJ.mq N N) (cJ.l4 N n) x0 x1 Ax Lh Dx
def cJ.b(fa:cJ.bO)(a0 a1:au):Option (au×(Int)):=
 (og N a0).bind λr1=>cond (!r1) (some (bn,1)) (cond (aX 400 (ℓ a1)) (some (bn,1)) (fa a0 a1 a1 (ℓ a1) 0))
def cJ(a0 a1:au):Option (au×(Int)):=cJ.b N (cJ.l4 N N) a0 a1
def ak1(N:Nat)(a0:au):Option au:=
 cond (jq 0 (ℓ a0) (ℓ a0) (ℓ a0)) (some (List.drop (0:Int).toNat (List.take (ℓ a0:Int).toNat a0))) none
abbrev cK.aqZ:=c7→au→tS→Int→c7→Int→Int→Option (au×(Int))
abbrev cK.IG:=c7→au→tS→Int→c7→Int→Int→Option (au×(Int))
abbrev cK.IH:=c7→au→de→ku→au→Int→Int→c7→Int→Int→Option (au×(Int))
abbrev cK.Kx:=c7→au→au→Int→Int→Option (au×(Int))
abbrev cK.nC:=c7→au→c7→Int→Int→Option (au×(Int))
abbrev cK.bK:=au→c7→ku→c7→Int→Int→Option (au×(Int))
def cK.ak2(oY:cK.nC)(x1:c7)(a7:au)(ch:tS)(cY:Int)(w8:c7)(JQ wL:Int):Option (au×(Int)):=
 cond (aN cY (ℓ a7)) ((qW N a7 cY ([(ch.1,(ch.2.1,(0,())))])).bind λvn=>oY x1 vn w8 JQ (W .i64 (wL+1))) (cond (bc cY (ℓ a7)) ((Sy N ch.1 ch.2.1 (γ a7 cY.toNat ba)).bind λwY=>cond (!aN wY 0) ((qW N a7 cY ([(ch.1,(ch.2.1,(0,())))])).bind λw3=>oY x1 w3 w8 JQ (W .i64 (wL+1))) (oY x1 a7 w8 JQ (W .i64 (wL+1)))) none)
def cK.j21(oY:cK.nC)(x1:c7)(a7:au)(ch:tS)(cY:Int)(w8:c7)(JQ wL:Int):Option (au×(Int)):=cK.ak2 N oY x1 a7 ch cY w8 JQ wL
def cK.SO(ajk:cK.aqZ)(oY:cK.nC)(abf:cK.IG)(x1:c7)(a7:au)(ch:tS)(cY:Int)(w8:c7)(JQ wL:Int):Option (au×(Int)):=
 cond (aX cY (ℓ a7)) (cond (bc cY (ℓ a7)) ((Sy N ch.1 ch.2.1 (γ a7 cY.toNat ba)).bind λoR=>cond (aX 0 oR) (abf x1 a7 ch (W .i64 (cY+1)) w8 JQ wL) (ajk x1 a7 ch cY w8 JQ wL)) none) (ajk x1 a7 ch cY w8 JQ wL)
def cK.WB(N:Nat)(oY:cK.nC):Nat→cK.IG
 |0,_,_,_,_,_,_,_=>none
 |n+1,x1,a7,ch,cY,w8,JQ,wL=>cK.SO N (cK.j21 N oY) oY (cK.WB N oY n) x1 a7 ch cY w8 JQ wL
def cK.Mi(Li:cK.Kx)(EG:cK.IH)(x1:c7)(eB:au)(ga:de)(mu:ku)(Cl:au)(Fg Ar:Int)(JR:c7)(XE II:Int):Option (au×(Int)):=
 cond (aX II XE) (cond (bc II (ℓ JR)) (cond (aN (γ JR II.toNat (0,(0,(da,())))).1 ga.1) (cond (aN (γ JR II.toNat (0,(0,(da,())))).2.1 ga.2.1) (cond (small (ℓ mu+ℓ ([(γ JR II.toNat (0,(0,(da,())))).2.2.1]))) (EG x1 eB ga (mu++([(γ JR II.toNat (0,(0,(da,())))).2.2.1])) Cl Fg Ar JR XE (W .i64 (II+1))) none) (EG x1 eB ga mu Cl Fg Ar JR XE (W .i64 (II+1)))) (EG x1 eB ga mu Cl Fg Ar JR XE (W .i64 (II+1)))) none) ((nI N mu).bind λFU=>(F92 N FU.1).bind λTB=>cond (!FU.2) (some (bn,2)) (cond (!TB.2) (some (bn,2)) (cond (!aN TB.1 0) (cond (small (ℓ eB+ℓ ([(ga.1,(ga.2.1,(TB.1,())))]))) (Li x1 (eB++([(ga.1,(ga.2.1,(TB.1,())))])) Cl Fg (W .i64 (Ar+1))) none) (Li x1 eB Cl Fg (W .i64 (Ar+1))))))
def cK.O8(N:Nat)(Li:cK.Kx):Nat→cK.IH
 |0,_,_,_,_,_,_,_,_,_,_=>none
 |n+1,x1,eB,ga,mu,Cl,Fg,Ar,JR,XE,II=>cK.Mi N Li (cK.O8 N Li n) x1 eB ga mu Cl Fg Ar JR XE II
def cK.ac9(abg:cK.IH)(Li:cK.Kx)(x1:c7)(eB Cl:au)(Fg Ar:Int):Option (au×(Int)):=
 cond (aX Ar Fg) (cond (bc Ar (ℓ Cl)) ((OU N (γ Cl Ar.toNat ba).2.2.1).bind λEF=>abg x1 eB (γ Cl Ar.toNat ba) ([EF]) Cl Fg Ar x1 (ℓ x1) 0) none) ((ak1 N eB).bind λr34=>some (r34,0))
def cK.l26(N:Nat):Nat→cK.Kx
 |0,_,_,_,_,_=>none
 |n+1,x1,eB,Cl,Fg,Ar=>cK.ac9 N (cK.O8 N (cK.l26 N n) N) (cK.l26 N n) x1 eB Cl Fg Ar
def cK.wV(N:Nat)(abh:cK.IG)(aq0:cK.Kx)(oY:cK.nC)(x1:c7)(a7:au)(w8:c7)(JQ wL:Int):Option (au×(Int)):=
 cond (aX wL JQ) (cond (bc wL (ℓ w8)) (abh x1 a7 (γ w8 wL.toNat (0,(0,(da,())))) 0 w8 JQ wL) none) (cond (kT 0 (ℓ a7)) (aq0 x1 (List.replicate (0:Int).toNat ba) a7 (ℓ a7) 0) none)
def cK.yb(N:Nat):Nat→cK.nC
 |0,_,_,_,_,_=>none
 |n+1,x1,a7,w8,JQ,wL=>cK.wV N (cK.WB N (cK.yb N n) N) (cK.l26 N N) (cK.yb N n) x1 a7 w8 JQ wL
def cK.eA(IF:cK.nC)(bL:cK.bK)(x0:au)(x1:c7)(x6:ku)(x36:c7)(x37 x38:Int):Option (au×(Int)):=
 cond (aX x38 x37) (cond (bc x38 (ℓ x36)) ((Sw N (γ x36 x38.toNat (0,(0,(da,())))).1 (γ x36 x38.toNat (0,(0,(da,())))).2.1).bind λr4=>cond (!r4) (some (bn,1)) (cond (small (ℓ x6+ℓ ([(γ x36 x38.toNat (0,(0,(da,())))).2.2.1]))) (bL x0 x1 (x6++([(γ x36 x38.toNat (0,(0,(da,())))).2.2.1])) x36 x37 (W .i64 (x38+1))) none)) none) ((nI N x6).bind λr7=>cond (!r7.2) (some (bn,1)) ((F74 N r7.1).bind λr8=>cond (!aN r8 0) (some (bn,1)) ((js N x0).bind λr9=>IF x1 r9 x1 (ℓ x1) 0)))
def cK.l5(N:Nat):Nat→cK.bK
 |0,_,_,_,_,_,_=>none
 |n+1,x0,x1,x6,x36,x37,x38=>cK.eA N (cK.yb N N) (cK.l5 N n) x0 x1 x6 x36 x37 x38
def cK.b(eW:cK.bK)(a0:au)(a1:c7):Option (au×(Int)):=
 (CQ N a0).bind λr1=>cond (!r1) (some (bn,1)) (cond (aX 400 (ℓ a1)) (some (bn,1)) (cond (kT 0 (ℓ a1)) (eW a0 a1 (List.replicate (0:Int).toNat da) a1 (ℓ a1) 0) none))
def cK(a0:au)(a1:c7):Option (au×(Int)):=cK.b N (cK.l5 N N) a0 a1
def F68(a0:an)(a1:au)(a2:c7):Option (an×(Int)):=
 (Zy N a0).bind λr1=>(cJ N a0.2.2.2.1 a1).bind λr2=>cond (!aN r2.2 0) (some ((cf,(cS,(bn,(bn,(dd,(dm,())))))),r2.2)) ((cK N a0.2.2.1 a2).bind λr3=>cond (!aN r3.2 0) (some ((cf,(cS,(bn,(bn,(dd,(dm,())))))),r3.2)) (some ((r1.1,(r1.2.1,(r3.1,(r2.1,r1.2.2.2.2)))),0)))
abbrev uu.iO:=an→an→au→c7→bf→Int→Int→Option (an×(Int))
abbrev uu.bO:=bf→ae→an→an→bf→Int→Int→Option (an×(Int))
def uu.nK(lB:uu.iO)(x4 x6:an)(bm:au)(a7:c7)(w8:bf)(JQ wL:Int):Option (an×(Int)):=
 cond (aX wL JQ) (cond (bc wL (ℓ w8)) (let Vi:Int:=W .i64 (0-((γ w8 wL.toNat gl).2.2.2.1));cond (small (ℓ bm+ℓ ([((γ w8 wL.toNat gl).1,((γ w8 wL.toNat gl).2.2.1,((γ w8 wL.toNat gl).2.2.2.1,()))),((γ w8 wL.toNat gl).2.1,((γ w8 wL.toNat gl).2.2.1,(Vi,())))]))) (cond (bc (γ w8 wL.toNat gl).2.2.1 (ℓ x4.2.2.2.2.1)) ((ZM N (γ w8 wL.toNat gl) (γ x4.2.2.2.2.1 (γ w8 wL.toNat gl).2.2.1.toNat 0)).bind λtj=>cond (small (ℓ a7+ℓ tj.1)) (lB x4 x6 (bm++([((γ w8 wL.toNat gl).1,((γ w8 wL.toNat gl).2.2.1,((γ w8 wL.toNat gl).2.2.2.1,()))),((γ w8 wL.toNat gl).2.1,((γ w8 wL.toNat gl).2.2.1,(Vi,())))])) (a7++tj.1) w8 JQ (W .i64 (wL+1))) none) none) none) none) ((F68 N x4 bm a7).bind λwY=>some (wY.1,wY.2))
def uu.oM(N:Nat):Nat→uu.iO
 |0,_,_,_,_,_,_,_=>none
 |n+1,x4,x6,bm,a7,w8,JQ,wL=>uu.nK N (uu.oM N n) x4 x6 bm a7 w8 JQ wL
def uu.dU(vi:uu.iO)(cH:uu.bO)(x2:bf)(x3:ae)(x4 x6:an)(Ax:bf)(Lh Dx:Int):Option (an×(Int)):=
 cond (aX Dx Lh) (cond (bc Dx (ℓ Ax)) (cond (!aN (γ Ax Dx.toNat gl).1 0) ((F78 N x4 (γ Ax Dx.toNat gl).1).bind λr4=>cond (!r4) (some ((cf,(cS,(bn,(bn,(dd,(dm,())))))),3)) (cond (!aN (γ Ax Dx.toNat gl).2.1 0) ((F78 N x4 (γ Ax Dx.toNat gl).2.1).bind λr5=>cond (!r5) (some ((cf,(cS,(bn,(bn,(dd,(dm,())))))),3)) (cond (du (ℓ x3.1) (γ Ax Dx.toNat gl).2.2.1) (some ((cf,(cS,(bn,(bn,(dd,(dm,())))))),3)) (cH x2 x3 x4 x6 Ax Lh (W .i64 (Dx+1))))) (cond (du (ℓ x3.1) (γ Ax Dx.toNat gl).2.2.1) (some ((cf,(cS,(bn,(bn,(dd,(dm,())))))),3)) (cH x2 x3 x4 x6 Ax Lh (W .i64 (Dx+1)))))) (cond (!aN (γ Ax Dx.toNat gl).2.1 0) ((F78 N x4 (γ Ax Dx.toNat gl).2.1).bind λr8=>cond (!r8) (some ((cf,(cS,(bn,(bn,(dd,(dm,())))))),3)) (cond (du (ℓ x3.1) (γ Ax Dx.toNat gl).2.2.1) (some ((cf,(cS,(bn,(bn,(dd,(dm,())))))),3)) (cH x2 x3 x4 x6 Ax Lh (W .i64 (Dx+1))))) (cond (du (ℓ x3.1) (γ Ax Dx.toNat gl).2.2.1) (some ((cf,(cS,(bn,(bn,(dd,(dm,())))))),3)) (cH x2 x3 x4 x6 Ax Lh (W .i64 (Dx+1)))))) none) (vi x4 x6 ([]) ([]) x2 (ℓ x2) 0)
def uu.l4(N:Nat):Nat→uu.bO
 |0,_,_,_,_,_,_,_=>none
 |n+1,x2,x3,x4,x6,Ax,Lh,Dx=>uu.dU N (uu.oM N N) (uu.l4 N n) x2 x3 x4 x6 Ax Lh Dx
def uu.b(fa:uu.bO)(a0:ae)(a1:an)(a2:bf):Option (an×(Int)):=
 (kQ N a0 a1).bind λr1=>cond (!r1) (some ((cf,(cS,(bn,(bn,(dd,(dm,())))))),1)) (cond (aX 200 (ℓ a2)) (some ((cf,(cS,(bn,(bn,(dd,(dm,())))))),1)) ((adg N a2 ()).bind λr2=>cond (r2) (some ((cf,(cS,(bn,(bn,(dd,(dm,())))))),1)) (fa a2 a0 a1 (cf,(cS,(bn,(bn,(dd,(dm,())))))) a2 (ℓ a2) 0)))
def uu(a0:ae)(a1:an)(a2:bf):Option (an×(Int)):=uu.b N (uu.l4 N N) a0 a1 a2
abbrev qt.bK:=Int→Int→Int→c7→au→Int→Int→Option (c7×(Int))
def qt.eA(bL:qt.bK)(x1 x2 x3:Int)(bm:c7)(Qs:au)(x27 x28:Int):Option (c7×(Int)):=
 cond (aX x28 x27) (cond (bc x28 (ℓ Qs)) (cond (aN (γ Qs x28.toNat ba).2.1 x1) (cond (!aN x3 x2) ((Wi N (γ Qs x28.toNat ba).2.2.1 (W .i64 (x3-x2))).bind λr6=>(WJ N (γ Qs x28.toNat ba).1 r6).bind λr7=>cond (small (ℓ bm+ℓ ([r7]))) (bL x1 x2 x3 (bm++([r7])) Qs x27 (W .i64 (x28+1))) none) (bL x1 x2 x3 bm Qs x27 (W .i64 (x28+1)))) (bL x1 x2 x3 bm Qs x27 (W .i64 (x28+1)))) none) (some (bm,0))
def qt.l5(N:Nat):Nat→qt.bK
 |0,_,_,_,_,_,_,_=>none
 |n+1,x1,x2,x3,bm,Qs,x27,x28=>qt.eA N (qt.l5 N n) x1 x2 x3 bm Qs x27 x28
def qt.b(eW:qt.bK)(a0:au)(a1 a2 a3:Int):Option (c7×(Int)):=
 (og N a0).bind λr1=>cond (!r1) (some ([],1)) ((F81 N a2).bind λr2=>cond (!r2) (some ([],1)) ((F81 N a3).bind λr3=>cond (!r3) (some ([],1)) (eW a1 a2 a3 ([]) a0 (ℓ a0) 0)))
def qt(a0:au)(a1 a2 a3:Int):Option (c7×(Int)):=qt.b N (qt.l5 N N) a0 a1 a2 a3
def ajm(a0:an):Option an:=
 (js N a0.1).bind λr1=>(js N a0.2.1).bind λr2=>(js N a0.2.2.1).bind λr3=>(js N a0.2.2.2.1).bind λr4=>(js N a0.2.2.2.2.1).bind λr5=>(js N a0.2.2.2.2.2.1).bind λr6=>some (r1,(r2,(r3,(r4,(r5,(r6,()))))))
def als(a0:an)(a1:au)(a2:c7):Option (an×(Int)):=
 (ajm N a0).bind λr1=>(cJ N a0.2.2.2.1 a1).bind λr2=>cond (!aN r2.2 0) (some ((cf,(cS,(bn,(bn,(dd,(dm,())))))),r2.2)) ((cK N a0.2.2.1 a2).bind λr3=>cond (!aN r3.2 0) (some ((cf,(cS,(bn,(bn,(dd,(dm,())))))),r3.2)) (some ((r1.1,(r1.2.1,(r3.1,(r2.1,(r1.2.2.2.2.1,r1.2.2.2.2.2))))),0)))
def F42(a0:ae)(a1:an)(a2 a3:Int):Option (an×c7×(Int)):=
 (kQ N a0 a1).bind λr1=>cond (!r1) (some ((cf,(cS,(bn,(bn,(dd,(dm,())))))),([]:List ((Int)×((Int)×(((Int)×((Int)×(Unit)))×(Unit))))),1)) ((F81 N a3).bind λr2=>cond (!r2) (some ((cf,(cS,(bn,(bn,(dd,(dm,())))))),([]:List ((Int)×((Int)×(((Int)×((Int)×(Unit)))×(Unit))))),1)) (cond (aX a2 0) (some ((cf,(cS,(bn,(bn,(dd,(dm,())))))),([]:List ((Int)×((Int)×(((Int)×((Int)×(Unit)))×(Unit))))),3)) (cond (du (ℓ a0.1) a2) (some ((cf,(cS,(bn,(bn,(dd,(dm,())))))),([]:List ((Int)×((Int)×(((Int)×((Int)×(Unit)))×(Unit))))),3)) (cond (bc a2 (ℓ a1.2.2.2.2.1)) ((qt N a1.2.2.2.1 a2 (γ a1.2.2.2.2.1 a2.toNat 0) a3).bind λr3=>(als N a1 bn r3.1).bind λr4=>cond (!aN r4.2 0) (some ((cf,(cS,(bn,(bn,(dd,(dm,())))))),([]:List ((Int)×((Int)×(((Int)×((Int)×(Unit)))×(Unit))))),r4.2)) (cond (bc a2 (ℓ r4.1.2.2.2.2.1)) (some ((r4.1.1,(r4.1.2.1,(r4.1.2.2.1,(r4.1.2.2.2.1,((List.set r4.1.2.2.2.2.1 a2.toNat a3),r4.1.2.2.2.2.2))))),r3.1,0)) none)) none))))
abbrev Ej.bK:=Int→aE→au→Int→Int→Option aE
def Ej.eA(N:Nat)(bL:Ej.bK)(x1:Int)(x5:aE)(a7:au)(bp ch:Int):Option aE:=
 cond (aX ch bp) (cond (bc ch (ℓ a7)) (cond (aN (γ a7 ch.toNat ba).1 x1) (cond (small (ℓ x5+ℓ ([((γ a7 ch.toNat ba).2.1,((γ a7 ch.toNat ba).2.2.1,()))]))) (bL x1 (x5++([((γ a7 ch.toNat ba).2.1,((γ a7 ch.toNat ba).2.2.1,()))])) a7 bp (W .i64 (ch+1))) none) (bL x1 x5 a7 bp (W .i64 (ch+1)))) none) (some x5)
def Ej.l5(N:Nat):Nat→Ej.bK
 |0,_,_,_,_,_=>none
 |n+1,x1,x5,a7,bp,ch=>Ej.eA N (Ej.l5 N n) x1 x5 a7 bp ch
def Ej.b(eW:Ej.bK)(a0:au)(a1:Int):Option aE:=
 (og N a0).bind λr1=>cond (!r1) (some ([])) (eW a1 ([]) a0 (ℓ a0) 0)
def Ej(a0:au)(a1:Int):Option aE:=Ej.b N (Ej.l5 N N) a0 a1
abbrev gZ.lC:=aY→Int→au→Int→de→Int→aY→Int→Int→Option au
abbrev gZ.bK:=aY→Int→au→Int→Option au
def gZ.vN(N:Nat)(bL:gZ.bK)(oU:gZ.lC)(x0:aY)(x1:Int)(x5:au)(x6:Int)(x7:de)(ch:Int)(mu:aY)(nN Ay:Int):Option au:=
 cond (aX Ay nN) (cond (bc Ay (ℓ mu)) (cond (!aN (γ mu Ay.toNat eF).2.1 x1) (oU x0 x1 x5 x6 x7 ch mu nN (W .i64 (Ay+1))) (cond (!aN (γ mu Ay.toNat eF).2.2.1 x6) (oU x0 x1 x5 x6 x7 ch mu nN (W .i64 (Ay+1))) (cond (aN (γ mu Ay.toNat eF).2.2.2.1 1) (oU x0 x1 x5 x6 (x7.1,((W .i64 (x7.2.1+((γ mu Ay.toNat eF).2.2.2.2.1))),x7.2.2)) ch mu nN (W .i64 (Ay+1))) (oU x0 x1 x5 x6 (x7.1,(x7.2.1,((W .i64 (x7.2.2.1+((γ mu Ay.toNat eF).2.2.2.2.1))),x7.2.2.2))) ch mu nN (W .i64 (Ay+1)))))) none) (cond (aX 0 (W .i64 (x7.2.1+x7.2.2.1))) (cond (small (ℓ x5+ℓ ([x7]))) (bL x0 x1 (x5++([x7])) (W .i64 (ch+1))) none) (bL x0 x1 x5 (W .i64 (ch+1))))
def gZ.l9(N:Nat)(bL:gZ.bK):Nat→gZ.lC
 |0,_,_,_,_,_,_,_,_,_=>none
 |n+1,x0,x1,x5,x6,x7,ch,mu,nN,Ay=>gZ.vN N bL (gZ.l9 N bL n) x0 x1 x5 x6 x7 ch mu nN Ay
def gZ.eA(N:Nat)(yx:gZ.lC)(bL:gZ.bK)(x0:aY)(x1:Int)(x5:au)(ch:Int):Option au:=
 cond (aX ch 6) (yx x0 x1 x5 ch (ch,da) ch x0 (ℓ x0) 0) (some x5)
def gZ.l5(N:Nat):Nat→gZ.bK
 |0,_,_,_,_=>none
 |n+1,x0,x1,x5,ch=>gZ.eA N (gZ.l9 N (gZ.l5 N n) N) (gZ.l5 N n) x0 x1 x5 ch
def gZ.b(eW:gZ.bK)(a0:aY)(a1:Int):Option au:=
 (CV N a0).bind λr1=>cond (!r1) (some ([])) (eW a0 a1 ([]) 0)
def gZ(a0:aY)(a1:Int):Option au:=gZ.b N (gZ.l5 N N) a0 a1
abbrev qa.cX:=aE→ae→aE→Int→Int→Option Bool
def qa.fG(dW:qa.cX)(x1:aE)(x2:ae)(x7:aE)(x8 x9:Int):Option Bool:=
 cond (aX x9 x8) (cond (bc x9 (ℓ x7)) (cond (aX (γ x7 x9.toNat da).1 0) (some false) (cond (du (ℓ x2.1) (γ x7 x9.toNat da).1) (some false) (cond (aN (γ x7 x9.toNat da).2.1 0) (some false) ((SA N (γ x7 x9.toNat da).2.1).bind λr2=>cond (!r2) (some false) (cond (aX 0 x9) (let v3:Int:=W .i64 (x9-1);cond (bc v3 (ℓ x1)) (cond (du (γ x7 x9.toNat da).1 (γ x1 v3.toNat da).1) (some false) (dW x1 x2 x7 x8 (W .i64 (x9+1)))) none) (dW x1 x2 x7 x8 (W .i64 (x9+1)))))))) none) ((Ct N x2).bind λr6=>some r6)
def qa.l2(N:Nat):Nat→qa.cX
 |0,_,_,_,_,_=>none
 |n+1,x1,x2,x7,x8,x9=>qa.fG N (qa.l2 N n) x1 x2 x7 x8 x9
def qa.b(N:Nat)(gT:qa.cX)(a0:ae)(a1:aE):Option Bool:=
 gT a1 a0 a1 (ℓ a1) 0
def qa(a0:ae)(a1:aE):Option Bool:=qa.b N (qa.l2 N N) a0 a1
abbrev qk.cX:=au→ae→au→Int→Int→Option Bool
def qk.fG(dW:qk.cX)(x1:au)(x2:ae)(x7:au)(x8 x9:Int):Option Bool:=
 cond (aX x9 x8) (cond (bc x9 (ℓ x7)) (cond (aX (γ x7 x9.toNat ba).1 0) (some false) (cond (du (ℓ x2.1) (γ x7 x9.toNat ba).1) (some false) (cond (aX (γ x7 x9.toNat ba).2.1 0) (some false) (cond (aX 33000000000 (γ x7 x9.toNat ba).2.1) (some false) (cond (aX (γ x7 x9.toNat ba).2.2.1 0) (some false) (cond (aX 33000000000 (γ x7 x9.toNat ba).2.2.1) (some false) (cond (aN (γ x7 x9.toNat ba).2.1 0) (cond (aN (γ x7 x9.toNat ba).2.2.1 0) (some false) (cond (aX 0 x9) (let v2:Int:=W .i64 (x9-1);cond (bc v2 (ℓ x1)) (cond (du (γ x7 x9.toNat ba).1 (γ x1 v2.toNat ba).1) (some false) (dW x1 x2 x7 x8 (W .i64 (x9+1)))) none) (dW x1 x2 x7 x8 (W .i64 (x9+1))))) (cond (aX 0 x9) (let v5:Int:=W .i64 (x9-1);cond (bc v5 (ℓ x1)) (cond (du (γ x7 x9.toNat ba).1 (γ x1 v5.toNat ba).1) (some false) (dW x1 x2 x7 x8 (W .i64 (x9+1)))) none) (dW x1 x2 x7 x8 (W .i64 (x9+1))))))))))) none) ((Ct N x2).bind λr8=>some r8)
def qk.l2(N:Nat):Nat→qk.cX
 |0,_,_,_,_,_=>none
 |n+1,x1,x2,x7,x8,x9=>qk.fG N (qk.l2 N n) x1 x2 x7 x8 x9
def qk.b(N:Nat)(gT:qk.cX)(a0:ae)(a1:au):Option Bool:=
 gT a1 a0 a1 (ℓ a1) 0
def qk(a0:ae)(a1:au):Option Bool:=qk.b N (qk.l2 N N) a0 a1
def ZN(a0 a1:bU):Option (bU×(Bool)):=
 (uO N a0.2.1 a1.2.1 0).bind λr1=>(uO N (W .u64 a0.1) (W .u64 a1.1) r1.2).bind λr4=>let v5:Int:=W .i64 r4.1;cond (pC .bool (aX a0.1 0) (aX a1.1 0)) (cond (!(pC .bool (aX v5 0) (aX a0.1 0))) (some (da,false)) (some ((v5,(r1.1,())),true))) (some ((v5,(r1.1,())),true))
def S7(a0 a1:bU):Option (bU×(Bool)):=
 (tD N a0.2.1 a1.2.1 0).bind λr1=>(tD N (W .u64 a0.1) (W .u64 a1.1) r1.2).bind λr4=>let v5:Int:=W .i64 r4.1;cond (!(pC .bool (aX a0.1 0) (aX a1.1 0))) (cond (!(pC .bool (aX v5 0) (aX a0.1 0))) (some (da,false)) (some ((v5,(r1.1,())),true))) (some ((v5,(r1.1,())),true))
def F66(a0:bU):Option (bU×(Bool)):=
 (S7 N da a0).bind λr1=>some (r1.1,r1.2)
def S8(a0:bU):Option (bU×(Bool)):=
 cond (aX a0.1 0) ((F66 N a0).bind λr1=>some (r1.1,r1.2)) (some (a0,true))
abbrev iY.fN:=Int→bU→Int→Int→Int→au→Int→Int→Option (bU×(Int))
abbrev iY.eZ:=au→Int→bU→Int→Int→Int→aE→Int→Int→Option (bU×(Int))
def iY.lq(gK:iY.fN)(x3:Int)(x8:bU)(bm a7 bp:Int)(I7:au)(XC FT:Int):Option (bU×(Int)):=
 cond (aX FT XC) (cond (bc FT (ℓ I7)) (cond (aN (γ I7 FT.toNat ba).1 x3) (gK x3 x8 bm (γ I7 FT.toNat ba).2.1 (γ I7 FT.toNat ba).2.2.1 I7 XC (W .i64 (FT+1))) (gK x3 x8 bm a7 bp I7 XC (W .i64 (FT+1)))) none) ((OU N bm).bind λr9=>(OU N a7).bind λke=>(ZN N r9 ke).bind λnF=>(OU N bm).bind λoR=>(OU N bp).bind λpq=>(S7 N oR pq).bind λtj=>(S8 N nF.1).bind λvn=>(S8 N tj.1).bind λwu=>(Wm N vn.1 wu.1).bind λwY=>cond (aX wY 0) (some (wu.1,0)) (some (vn.1,0)))
def iY.mq(N:Nat):Nat→iY.fN
 |0,_,_,_,_,_,_,_,_=>none
 |n+1,x3,x8,bm,a7,bp,I7,XC,FT=>iY.lq N (iY.mq N n) x3 x8 bm a7 bp I7 XC FT
def iY.oP(N:Nat)(ta:iY.fN)(eV:iY.eZ)(x2:au)(x3:Int)(x8:bU)(bm a7 bp:Int)(x44:aE)(x45 x46:Int):Option (bU×(Int)):=
 cond (aX x46 x45) (cond (bc x46 (ℓ x44)) (cond (aN (γ x44 x46.toNat da).1 x3) (eV x2 x3 x8 (γ x44 x46.toNat da).2.1 a7 bp x44 x45 (W .i64 (x46+1))) (eV x2 x3 x8 bm a7 bp x44 x45 (W .i64 (x46+1)))) none) (ta x3 x8 bm a7 bp x2 (ℓ x2) 0)
def iY.l7(N:Nat):Nat→iY.eZ
 |0,_,_,_,_,_,_,_,_,_=>none
 |n+1,x2,x3,x8,bm,a7,bp,x44,x45,x46=>iY.oP N (iY.mq N N) (iY.l7 N n) x2 x3 x8 bm a7 bp x44 x45 x46
def iY.b(s8:iY.eZ)(a0:ae)(a1:aE)(a2:au)(a3:Int):Option (bU×(Int)):=
 (qa N a0 a1).bind λr1=>cond (!r1) (some (da,1)) ((qk N a0 a2).bind λr2=>cond (!r2) (some (da,1)) (cond (aX a3 0) (some (da,3)) (cond (du (ℓ a0.1) a3) (some (da,3)) (s8 a2 a3 da 0 0 0 a1 (ℓ a1) 0))))
def iY(a0:ae)(a1:aE)(a2:au)(a3:Int):Option (bU×(Int)):=iY.b N (iY.l7 N N) a0 a1 a2 a3
def acR(a0:bU):Option ((Int)×(Int)):=
 cond (du 0 a0.1) (some ((W .u64 a0.1),a0.2.1)) ((tD N 0 a0.2.1 0).bind λr2=>(tD N 0 (W .u64 a0.1) r2.2).bind λr4=>some (r4.1,r2.1))
def ado(a0:bU)(a1:Int):Option (bU×(Bool)):=
 (acR N a0).bind λr1=>(Wf N a1).bind λr2=>(We N r1.2 r2).bind λr3=>(We N r1.1 r2).bind λr4=>(uO N r4.2 r3.1 0).bind λr5=>cond (!aN (W .u64 (r4.1+r5.2)) 0) (some (da,false)) ((q6 N (!(pC .bool (aX a0.1 0) (aX a1 0))) r5.1 r3.2).bind λr7=>some (r7.1,r7.2))
abbrev sM.bK:=aE→au→ae→bU→ku→aO→Int→Int→Option (bU×(Int))
def sM.eA(bL:sM.bK)(x1:aE)(x2:au)(x3:ae)(x6:bU)(x8:ku)(x29:aO)(Ax Lh:Int):Option (bU×(Int)):=
 cond (aX Lh Ax) (cond (bc Lh (ℓ x29)) ((iY N x3 x1 x2 Lh).bind λr4=>(ado N r4.1 (γ x29 Lh.toNat bb).2.2.1).bind λr5=>cond (small (ℓ x8+ℓ ([r5.1]))) (bL x1 x2 x3 x6 (x8++([r5.1])) x29 Ax (W .i64 (Lh+1))) none) none) ((nI N x8).bind λr8=>some (r8.1,0))
def sM.l5(N:Nat):Nat→sM.bK
 |0,_,_,_,_,_,_,_,_=>none
 |n+1,x1,x2,x3,x6,x8,x29,Ax,Lh=>sM.eA N (sM.l5 N n) x1 x2 x3 x6 x8 x29 Ax Lh
def sM.b(eW:sM.bK)(a0:ae)(a1:aE)(a2:au):Option (bU×(Int)):=
 (qa N a0 a1).bind λr1=>cond (!r1) (some (da,1)) ((qk N a0 a2).bind λr2=>cond (!r2) (some (da,1)) (eW a1 a2 a0 da ([]) a0.1 (ℓ a0.1) 0))
def sM(a0:ae)(a1:aE)(a2:au):Option (bU×(Int)):=sM.b N (sM.l5 N N) a0 a1 a2
def F99(a0:ae)(a1:an)(a2:Int):Option (bU×(Int)):=
 (kQ N a0 a1).bind λr1=>cond (!r1) (some (da,1)) ((F78 N a1 a2).bind λr2=>cond (!r2) (some (da,3)) ((Ej N a1.2.2.2.1 a2).bind λr3=>(gZ N a1.2.2.2.2.2.1 a2).bind λr4=>(sM N a0 r3 r4).bind λr5=>some (r5.1,r5.2)))
abbrev qu.bK:=Int→(List Int)→aO→Int→Int→Option (List Int)
def qu.eA(N:Nat)(bL:qu.bK)(x1:Int)(x5:List Int)(a7:aO)(bp ch:Int):Option (List Int):=
 cond (aX ch bp) (cond (bc ch (ℓ a7)) (cond (aN (γ a7 ch.toNat bb).2.1 x1) (cond (small (ℓ x5+ℓ ([(γ a7 ch.toNat bb).1]))) (bL x1 (x5++([(γ a7 ch.toNat bb).1])) a7 bp (W .i64 (ch+1))) none) (bL x1 x5 a7 bp (W .i64 (ch+1)))) none) (some x5)
def qu.l5(N:Nat):Nat→qu.bK
 |0,_,_,_,_,_=>none
 |n+1,x1,x5,a7,bp,ch=>qu.eA N (qu.l5 N n) x1 x5 a7 bp ch
def qu.b(eW:qu.bK)(a0:aO)(a1:Int):Option (List Int):=
 (ng N a0).bind λr1=>cond (!r1) (some ([])) (eW a1 ([]) a0 (ℓ a0) 0)
def qu(a0:aO)(a1:Int):Option (List Int):=qu.b N (qu.l5 N N) a0 a1
abbrev s0.cX:=(List Int)→Int→Int→Int→Option Int
def s0.fG(N:Nat)(dW:s0.cX)(x0:List Int)(x1 x7 x8:Int):Option Int:=
 cond (aX x8 x7) (cond (bc x8 (ℓ x0)) (cond (aN x1 (γ x0 x8.toNat 0)) (some x8) (dW x0 x1 x7 (W .i64 (x8+1)))) none) (some (-1))
def s0.l2(N:Nat):Nat→s0.cX
 |0,_,_,_,_=>none
 |n+1,x0,x1,x7,x8=>s0.fG N (s0.l2 N n) x0 x1 x7 x8
def s0.b(N:Nat)(gT:s0.cX)(a0:List Int)(a1:Int):Option Int:=
 gT a0 a1 (ℓ a0) 0
def s0(a0:List Int)(a1:Int):Option Int:=s0.b N (s0.l2 N N) a0 a1
def adZ(a0:List Int)(a1:Int):Option Bool:=
 (s0 N a0 a1).bind λr1=>some (du 0 r1)
def aaN(a0:fV)(a1:List Int):Option Bool:=
 (adZ N a1 a0.2.1).bind λr1=>some r1
abbrev qN.cX:=aY→(((List Int)×(Unit))×(Unit))→Int→Int→Option Int
def qN.fG(dW:qN.cX)(x0:aY)(x1:((List Int)×(Unit))×(Unit))(x7 x8:Int):Option Int:=
 cond (aX x8 x7) (cond (bc x8 (ℓ x0)) ((aaN N (γ x0 x8.toNat eF) x1.1.1).bind λr2=>cond (r2) (some x8) (dW x0 ((x1.1.1,()),()) x7 (W .i64 (x8+1)))) none) (some (-1))
def qN.l2(N:Nat):Nat→qN.cX
 |0,_,_,_,_=>none
 |n+1,x0,x1,x7,x8=>qN.fG N (qN.l2 N n) x0 x1 x7 x8
def qN.b(N:Nat)(gT:qN.cX)(a0:aY)(a1:((List Int)×(Unit))×(Unit)):Option Int:=
 gT a0 ((a1.1.1,()),()) (ℓ a0) 0
def qN(a0:aY)(a1:((List Int)×(Unit))×(Unit)):Option Int:=qN.b N (qN.l2 N N) a0 a1
abbrev s4.bK:=aY→(((List Int)×(Unit))×(Unit))→Int→Int→Option aY
def s4.eA(bL:s4.bK)(x0:aY)(x1:((List Int)×(Unit))×(Unit))(x5 x6:Int):Option aY:=
 cond (aX x6 (ℓ x0)) (cond (bc x6 (ℓ x0)) ((aaN N (γ x0 x6.toNat eF) x1.1.1).bind λr4=>cond (!r4) (cond (bc x5 (ℓ x0)) (bL (List.set x0 x5.toNat (γ x0 x6.toNat eF)) ((x1.1.1,()),()) (W .i64 (x5+1)) (W .i64 (x6+1))) none) (bL x0 ((x1.1.1,()),()) x5 (W .i64 (x6+1)))) none) (cond (jq x5 (ℓ x0) (ℓ x0) (ℓ x0)) (let v9:List ((Int)×((Int)×((Int)×((Int)×((Int)×((Int)×(Unit))))))):=List.take x5.toNat x0++List.replicate (ℓ x0-x5.toNat) eF;cond (jq 0 x5 (ℓ v9) (ℓ v9)) (some (List.drop (0:Int).toNat (List.take x5.toNat v9))) none) none)
def s4.l5(N:Nat):Nat→s4.bK
 |0,_,_,_,_=>none
 |n+1,x0,x1,x5,x6=>s4.eA N (s4.l5 N n) x0 x1 x5 x6
def s4.b(eW:s4.bK)(a0:aY)(a1:((List Int)×(Unit))×(Unit)):Option aY:=
 (qN N a0 ((a1.1.1,()),())).bind λr1=>cond (aN r1 (-1)) (some a0) (eW a0 ((a1.1.1,()),()) r1 (W .i64 (r1+1)))
def s4(a0:aY)(a1:((List Int)×(Unit))×(Unit)):Option aY:=s4.b N (s4.l5 N N) a0 a1
def ad1(a0:aY)(a1:List Int):Option aY:=
 (CV N a0).bind λr1=>cond (!r1) (some dm) ((js N a0).bind λr2=>(s4 N r2 ((a1,()),())).bind λr3=>some r3)
def aaR(a0:ae)(a1:an)(a2:Int):Option (an×(Int)):=
 (kQ N a0 a1).bind λr1=>cond (!r1) (some ((cf,(cS,(bn,(bn,(dd,(dm,())))))),1)) ((BL N a1.1 a2).bind λr2=>cond (aN r2 0) (some ((cf,(cS,(bn,(bn,(dd,(dm,())))))),3)) ((Zy N a1).bind λr3=>(qu N a1.2.1 a2).bind λr4=>(ad1 N a1.2.2.2.2.2.1 r4).bind λr5=>some ((r3.1,(r3.2.1,(r3.2.2.1,(r3.2.2.2.1,(r3.2.2.2.2.1,(r5,r3.2.2.2.2.2.2)))))),0)))
abbrev C6.bO:=au→au→Int→Option Bool
def C6.dU(N:Nat)(cH:C6.bO)(x0 x1:au)(x5:Int):Option Bool:=
 cond (aX x5 (ℓ x0)) (cond (bc x5 (ℓ x0)) (cond (bc x5 (ℓ x1)) (cond (!(pC (.pair (.int .i64) (.pair (.int .i64) (.pair (.int .i64) .unit))) (γ x0 x5.toNat ba) (γ x1 x5.toNat ba))) (some false) (cH x0 x1 (W .i64 (x5+1)))) none) none) (some true)
def C6.l4(N:Nat):Nat→C6.bO
 |0,_,_,_=>none
 |n+1,x0,x1,x5=>C6.dU N (C6.l4 N n) x0 x1 x5
def C6.b(N:Nat)(fa:C6.bO)(a0 a1:au):Option Bool:=
 cond (!aN (ℓ a0) (ℓ a1)) (some false) (fa a0 a1 0)
def C6(a0 a1:au):Option Bool:=C6.b N (C6.l4 N N) a0 a1
abbrev C8.bO:=(List Int)→(List Int)→Int→Option Bool
def C8.dU(N:Nat)(cH:C8.bO)(x0 x1:List Int)(x5:Int):Option Bool:=
 cond (aX x5 (ℓ x0)) (cond (bc x5 (ℓ x0)) (cond (bc x5 (ℓ x1)) (cond (!aN (γ x0 x5.toNat 0) (γ x1 x5.toNat 0)) (some false) (cH x0 x1 (W .i64 (x5+1)))) none) none) (some true)
def C8.l4(N:Nat):Nat→C8.bO
 |0,_,_,_=>none
 |n+1,x0,x1,x5=>C8.dU N (C8.l4 N n) x0 x1 x5
def C8.b(N:Nat)(fa:C8.bO)(a0 a1:List Int):Option Bool:=
 cond (!aN (ℓ a0) (ℓ a1)) (some false) (fa a0 a1 0)
def C8(a0 a1:List Int):Option Bool:=C8.b N (C8.l4 N N) a0 a1
abbrev Av.cX:=au→Int→Option Bool
def Av.fG(N:Nat)(dW:Av.cX)(x0:au)(x3:Int):Option Bool:=
 cond (aX x3 (ℓ x0)) (cond (bc x3 (ℓ x0)) (cond (aX (γ x0 x3.toNat ba).1 0) (some false) (cond (aX 24 (γ x0 x3.toNat ba).1) (some false) (cond (aX (γ x0 x3.toNat ba).2.1 0) (some false) (cond (du 6 (γ x0 x3.toNat ba).2.1) (some false) (cond (aN (γ x0 x3.toNat ba).2.2.1 0) (some false) (cond (aN (γ x0 x3.toNat ba).2.2.1 (-9223372036854775808)) (some false) (cond (aX 0 x3) (let v2:Int:=W .i64 (x3-1);cond (bc v2 (ℓ x0)) (cond (aX (γ x0 x3.toNat ba).1 (γ x0 v2.toNat ba).1) (some false) (let v3:Int:=W .i64 (x3-1);cond (bc v3 (ℓ x0)) (cond (aN (γ x0 x3.toNat ba).1 (γ x0 v3.toNat ba).1) (let v4:Int:=W .i64 (x3-1);cond (bc v4 (ℓ x0)) (cond (du (γ x0 x3.toNat ba).2.1 (γ x0 v4.toNat ba).2.1) (some false) (dW x0 (W .i64 (x3+1)))) none) (dW x0 (W .i64 (x3+1)))) none)) none) (dW x0 (W .i64 (x3+1)))))))))) none) (some true)
def Av.l2(N:Nat):Nat→Av.cX
 |0,_,_=>none
 |n+1,x0,x3=>Av.fG N (Av.l2 N n) x0 x3
def Av.b(N:Nat)(gT:Av.cX)(a0:au):Option Bool:=
 gT a0 0
def Av(a0:au):Option Bool:=Av.b N (Av.l2 N N) a0
abbrev Cv.bO:=au→Int→Int→Int→Option Int
def Cv.dU(N:Nat)(cH:Cv.bO)(x0:au)(x1 x2 x7:Int):Option Int:=
 cond (aX x7 (ℓ x0)) (cond (bc x7 (ℓ x0)) (cond (aN (γ x0 x7.toNat ba).1 x1) (cond (bc x7 (ℓ x0)) (cond (aN (γ x0 x7.toNat ba).2.1 x2) (cond (bc x7 (ℓ x0)) (some (γ x0 x7.toNat ba).2.2.1) none) (cH x0 x1 x2 (W .i64 (x7+1)))) none) (cH x0 x1 x2 (W .i64 (x7+1)))) none) (some 0)
def Cv.l4(N:Nat):Nat→Cv.bO
 |0,_,_,_,_=>none
 |n+1,x0,x1,x2,x7=>Cv.dU N (Cv.l4 N n) x0 x1 x2 x7
def Cv.b(fa:Cv.bO)(a0:au)(a1 a2:Int):Option Int:=
 (Av N a0).bind λr1=>cond (!r1) (some 0) (fa a0 a1 a2 0)
def Cv(a0:au)(a1 a2:Int):Option Int:=Cv.b N (Cv.l4 N N) a0 a1 a2
def Sx(N:Nat)(a0 a1:Int):Option Bool:=
 cond (aN a0 1) (some (aN a1 0)) (cond (aN a0 2) (some (aN a1 0)) (cond (aN a0 3) (some (aN a1 0)) (cond (aN a0 4) (some (aN a1 0)) (cond (aN a0 5) (cond (du 1 a1) (some (du a1 24)) (some false)) (cond (aN a0 6) (cond (du 1 a1) (some (du a1 12)) (some false)) (cond (aN a0 7) (cond (du 1 a1) (some (du a1 12)) (some false)) (some false)))))))
abbrev CR.cX:=au→Int→Option Bool
def CR.fG(dW:CR.cX)(x0:au)(x3:Int):Option Bool:=
 cond (aX x3 (ℓ x0)) (cond (bc x3 (ℓ x0)) (cond (bc x3 (ℓ x0)) ((Sx N (γ x0 x3.toNat ba).1 (γ x0 x3.toNat ba).2.1).bind λr2=>cond (!r2) (some false) (cond (bc x3 (ℓ x0)) (cond (aN (γ x0 x3.toNat ba).2.2.1 0) (some false) (cond (aX 0 x3) (cond (bc x3 (ℓ x0)) (let v3:Int:=W .i64 (x3-1);cond (bc v3 (ℓ x0)) (cond (aX (γ x0 x3.toNat ba).1 (γ x0 v3.toNat ba).1) (some false) (cond (bc x3 (ℓ x0)) (let v4:Int:=W .i64 (x3-1);cond (bc v4 (ℓ x0)) (cond (aN (γ x0 x3.toNat ba).1 (γ x0 v4.toNat ba).1) (cond (bc x3 (ℓ x0)) (let v5:Int:=W .i64 (x3-1);cond (bc v5 (ℓ x0)) (cond (du (γ x0 x3.toNat ba).2.1 (γ x0 v5.toNat ba).2.1) (some false) (dW x0 (W .i64 (x3+1)))) none) none) (dW x0 (W .i64 (x3+1)))) none) none)) none) none) (dW x0 (W .i64 (x3+1))))) none)) none) none) (some true)
def CR.l2(N:Nat):Nat→CR.cX
 |0,_,_=>none
 |n+1,x0,x3=>CR.fG N (CR.l2 N n) x0 x3
def CR.b(N:Nat)(gT:CR.cX)(a0:au):Option Bool:=
 gT a0 0
def CR(a0:au):Option Bool:=CR.b N (CR.l2 N N) a0
abbrev vm.bO:=au→Int→Int→Int→Option Int
def vm.dU(N:Nat)(cH:vm.bO)(x0:au)(x1 x2 x7:Int):Option Int:=
 cond (aX x7 (ℓ x0)) (cond (bc x7 (ℓ x0)) (cond (aN (γ x0 x7.toNat ba).1 x1) (cond (bc x7 (ℓ x0)) (cond (aN (γ x0 x7.toNat ba).2.1 x2) (cond (bc x7 (ℓ x0)) (some (γ x0 x7.toNat ba).2.2.1) none) (cH x0 x1 x2 (W .i64 (x7+1)))) none) (cH x0 x1 x2 (W .i64 (x7+1)))) none) (some 0)
def vm.l4(N:Nat):Nat→vm.bO
 |0,_,_,_,_=>none
 |n+1,x0,x1,x2,x7=>vm.dU N (vm.l4 N n) x0 x1 x2 x7
def vm.b(fa:vm.bO)(a0:au)(a1 a2:Int):Option Int:=
 (CR N a0).bind λr1=>cond (!r1) (some 0) (fa a0 a1 a2 0)
def vm(a0:au)(a1 a2:Int):Option Int:=vm.b N (vm.l4 N N) a0 a1 a2
def F36:Option Bool:=
 (F97 N).bind λr1=>(w1 N r1.1).bind λr2=>(uu N r1.1 r1.2 ([(1,(2,(0,(5,(90,())))))])).bind λr3=>(F42 N r1.1 r3.1 0 110).bind λr4=>(F99 N r1.1 r3.1 2).bind λr5=>(aaR N r1.1 r1.2 1).bind λr6=>(F99 N r1.1 r1.2 9).bind λr7=>cond (aN r2.2 0) ((C6 N r2.1.2.2.1 r1.2.2.2.1).bind λr8=>cond (r8) ((C8 N r2.1.2.2.2.2.1 ([100])).bind λr9=>cond (r9) (cond (aN r3.2 0) ((Cv N r3.1.2.2.2.1 1 0).bind λke=>cond (aN ke 5) ((vm N r3.1.2.2.1 5 1).bind λnF=>cond (aN nF 50) (cond (aN r4.2.2 0) (cond (aN (ℓ r4.2.1) 2) ((vm N r4.1.2.2.1 5 1).bind λoR=>cond (aN oR 100) (cond (aN (ℓ r4.1.2.2.2.2.1) 1) (cond (bc 0 (ℓ r4.1.2.2.2.2.1)) (cond (aN (γ r4.1.2.2.2.2.1 (0:Int).toNat 0) 110) (cond (aN r5.2 0) (cond (aN r5.1.2.1 10) (cond (aN r6.2 0) (cond (aN (ℓ r6.1.2.2.2.2.2.1) 0) (cond (aN r7.2 3) ((kQ N r1.1 r1.2).bind λpq=>some pq) (some false)) (some false)) (some false)) (some false)) (some false)) (some false)) none) (some false)) (some false)) (some false)) (some false)) (some false)) (some false)) (some false)) (some false)) (some false)) (some false)
def F16(N:Nat)(a0:List Int):Option aG:=
 some (a0,(0,()))
def F62(N:Nat)(a0:aG):Option ((Int)×aG):=
 cond (aX a0.2.1 (ℓ a0.1)) (cond (bc a0.2.1 (ℓ a0.1)) (some (γ a0.1 a0.2.1.toNat 0,(a0.1,((W .i64 (a0.2.1+1)),a0.2.2)))) none) (some (0,(a0.1,((W .i64 (a0.2.1+1)),a0.2.2))))
def oS(a0:aG)(a1:Int):Option ((Int)×aG):=
 (F62 N a0).bind λr1=>let v2:Int:=W .u64 a1;cond (aN v2 0) none (some ((W .i64 (rem r1.1 v2)),r1.2))
def PN(a0:aG)(a1:Int):Option ((Bool)×aG):=
 (oS N a0 a1).bind λr1=>some (aN r1.1 (W .i64 (a1-1)),r1.2)
def KX(a0:aG):Option ((Int)×aG):=
 (F62 N a0).bind λr1=>cond (aN 8 0) none (let v2:Int:=rem r1.1 8;cond (aN v2 0) (cond (aX 1 0) none (some ((W .i64 (shr .u64 r1.1 1)),r1.2))) (cond (aN v2 1) (cond (aX 3 0) none (cond (aN 1000000000000 0) none (some ((W .i64 (rem (shr .u64 r1.1 3) 1000000000000)),r1.2)))) (cond (aN v2 2) (cond (aX 3 0) none (cond (aN 2 0) none (some ((W .i64 (rem (shr .u64 r1.1 3) 2)),r1.2)))) (cond (aX 3 0) none (cond (aN 5000 0) none (some ((W .i64 (rem (shr .u64 r1.1 3) 5000)),r1.2)))))))
abbrev wA.abi:=aG→ae→ae→aO→Int→cG→Option (ae×aG)
abbrev wA.dR:=aG→ae→ae→aO→Int→Option (ae×aG)
def wA.Zz(dt:wA.dR)(x0:aG)(x2 x3:ae)(XF:aO)(x4:Int)(x5:cG):Option (ae×aG):=
 (PN N x0 12).bind λtj=>cond (tj.1) ((KX N tj.2).bind λvn=>cond (aN 1000000001 0) none (let v16:Int:=rem vn.1 1000000001;(KX N vn.2).bind λwY=>cond (aN 1000000001 0) none (let v18:Int:=rem wY.1 1000000001;cond (small (ℓ XF+ℓ ([(x5.1,(x5.2.1,(v16,(v18,x5.2.2.2.2))))]))) (dt wY.2 x2 (cS,x3.2) (XF++([(x5.1,(x5.2.1,(v16,(v18,x5.2.2.2.2))))])) (W .i64 (x4-1))) none))) (cond (small (ℓ XF+ℓ ([x5]))) (dt tj.2 x2 (cS,x3.2) (XF++([x5])) (W .i64 (x4-1))) none)
def wA.j8(dt:wA.dR)(x0:aG)(x2 x3:ae)(XF:aO)(x4:Int)(x5:cG):Option (ae×aG):=wA.Zz N dt x0 x2 x3 XF x4 x5
def wA.nw(Qu:wA.abi)(dt:wA.dR)(x0:aG)(x2 x3:ae)(XF:aO)(x4:Int):Option (ae×aG):=
 cond (aX 0 x4) ((oS N x0 3).bind λr4=>(oS N r4.2 300).bind λr5=>(oS N r5.2 12).bind λr7=>(oS N r7.2 6).bind λr8=>(PN N r8.2 12).bind λr9=>cond (r9.1) ((KX N r9.2).bind λke=>cond (aN 1000000000000 0) none (Qu ke.2 x2 x3 XF x4 (r4.1,((W .i64 (1+(rem ke.1 1000000000000))),(r7.1,(r8.1,())))))) (Qu r9.2 x2 x3 XF x4 (r4.1,((W .i64 (1+r5.1)),(r7.1,(r8.1,())))))) ((oS N x0 300).bind λEF=>(oS N EF.2 5).bind λNo=>(oS N No.2 3).bind λI8=>(oS N I8.2 3).bind λEH=>(oS N EH.2 20).bind λQv=>let v28:Int:=W .i64 (1+Qv.1);(oS N Qv.2 100).bind λFU=>(PN N FU.2 15).bind λTB=>cond (TB.1) ((KX N TB.2).bind λI9=>some ((XF,(I9.1,(No.1,(I8.1,(EH.1,(v28,(FU.1,x3.2.2.2.2.2.2.2))))))),I9.2)) (some ((XF,(EF.1,(No.1,(I8.1,(EH.1,(v28,(FU.1,x3.2.2.2.2.2.2.2))))))),TB.2)))
def wA.l3(N:Nat):Nat→wA.dR
 |0,_,_,_,_,_=>none
 |n+1,x0,x2,x3,XF,x4=>wA.nw N (wA.j8 N (wA.l3 N n)) (wA.l3 N n) x0 x2 x3 XF x4
def wA.b(oK:wA.dR)(a0:aG):Option (ae×aG):=
 (oS N a0 4).bind λr1=>oK r1.2 (cS,eF) (cS,eF) cS (W .i64 (1+r1.1))
def wA(a0:aG):Option (ae×aG):=wA.b N (wA.l3 N N) a0
def WX(a0:aG)(a1:ae)(a2:Int):Option (iw×aG):=
 cond (bc a2 (ℓ a1.1)) ((oS N a0 61).bind λr1=>(PN N r1.2 20).bind λr6=>cond (r6.1) ((KX N r6.2).bind λr7=>cond (aN 1000000000000 0) none (some ((9,(0,(0,(a2,(0,(0,(0,((W .i64 (1+(rem r7.1 1000000000000))),())))))))),r7.2))) (some ((9,(0,(0,(a2,(0,(0,(0,((mx 1 (mn 1000000000000 (W .i64 ((W .i64 ((γ a1.1 a2.toNat bb).2.1+r1.1))-30)))),())))))))),r6.2))) none
def aac(a0:aG)(a1:ae):Option (iw×aG):=
 (oS N a0 (ℓ a1.1)).bind λr1=>(oS N r1.2 7).bind λr2=>let v3:Int:=W .i64 (1+r2.1);(oS N r2.2 2).bind λr4=>let v5:Int:=W .i64 (1+r4.1);(oS N r4.2 30).bind λr6=>cond (bc r1.1 (ℓ a1.1)) ((oS N r6.2 21).bind λr8=>(PN N r8.2 30).bind λpq=>cond (pq.1) ((KX N pq.2).bind λtj=>cond (aN 1000000000 0) none ((KX N tj.2).bind λwY=>cond (aN 1000000000000 0) none (some ((7,(0,(v3,(r1.1,(v5,(0,((W .i64 (1+(rem tj.1 1000000000))),((W .i64 (1+(rem wY.1 1000000000000))),())))))))),wY.2)))) (some ((7,(0,(v3,(r1.1,(v5,(0,((W .i64 (1+r6.1)),((mx 1 (mn 1000000000000 (W .i64 ((W .i64 ((γ a1.1 r1.1.toNat bb).2.1+r8.1))-10)))),())))))))),pq.2))) none
def WY(a0:aG)(a1:ae):Option (iw×aG):=
 (oS N a0 4).bind λr1=>let v2:Int:=W .i64 (1+r1.1);(oS N r1.2 7).bind λr3=>let v4:Int:=W .i64 (1+r3.1);(oS N r3.2 (ℓ a1.1)).bind λr5=>(oS N r5.2 36).bind λr6=>let v7:Int:=W .i64 (1+r6.1);cond (aN v7 1) (some ((v7,(v2,eF)),r6.2)) (cond (aN v7 11) (some ((v7,(v2,eF)),r6.2)) (cond (aN v7 12) (some ((v7,(v2,eF)),r6.2)) (cond (aN v7 13) (some ((v7,(v2,eF)),r6.2)) (cond (aN v7 2) ((oS N r6.2 2).bind λr8=>some ((v7,(v2,(v4,(0,((W .i64 (1+r8.1)),ba))))),r8.2)) (cond (aN v7 3) ((KX N r6.2).bind λke=>some ((v7,(0,(v4,(0,(0,(0,((mx ke.1 1),(0,())))))))),ke.2)) (cond (aN v7 4) ((KX N r6.2).bind λoR=>some ((v7,(0,(v4,(0,(0,(0,((mx oR.1 1),(0,())))))))),oR.2)) (cond (aN v7 5) ((KX N r6.2).bind λtj=>some ((v7,(v2,(0,(0,(0,(0,((mx tj.1 1),(0,())))))))),tj.2)) (cond (aN v7 22) ((KX N r6.2).bind λwu=>some ((v7,(v2,(0,(0,(0,(0,((mx wu.1 1),(0,())))))))),wu.2)) (cond (aN v7 6) ((KX N r6.2).bind λw3=>cond (aN 1000000000001 0) none (some ((v7,(0,(v4,(0,(0,(0,((rem w3.1 1000000000001),(0,())))))))),w3.2))) (cond (aN v7 8) ((oS N r6.2 40).bind λQw=>some ((v7,(0,(v4,(0,(0,((W .i64 (1+Qw.1)),da)))))),Qw.2)) (cond (aN v7 9) ((WX N r6.2 a1 r5.1).bind λMY=>some (MY.1,MY.2)) (cond (aN v7 10) ((oS N r6.2 3).bind λEF=>some ((v7,(0,(0,(0,(0,(0,((W .i64 (1+EF.1)),(0,())))))))),EF.2)) (cond (aN v7 14) (some ((v7,(v2,(v4,gl))),r6.2)) (cond (aN v7 15) (some ((v7,Ng),r6.2)) (cond (aN v7 16) (some ((v7,Ng),r6.2)) (cond (aN v7 18) (some ((v7,Ng),r6.2)) (cond (aN v7 20) (some ((v7,Ng),r6.2)) (cond (aN v7 21) (some ((v7,Ng),r6.2)) (cond (aN v7 17) ((oS N r6.2 60).bind λI8=>(oS N I8.2 20).bind λQv=>cond (bc r5.1 (ℓ a1.1)) (some ((v7,(0,(v4,(0,(0,((W .i64 (1+I8.1)),((W .i64 (1+Qv.1)),((γ a1.1 r5.1.toNat bb).2.1,())))))))),Qv.2)) none) (cond (aN v7 19) ((oS N r6.2 60).bind λFU=>(oS N FU.2 80).bind λI9=>some ((v7,(v2,(0,(0,(0,((W .i64 (1+FU.1)),(0,((W .i64 (I9.1-60)),())))))))),I9.2)) ((aac N r6.2 a1).bind λr33=>some (r33.1,r33.2))))))))))))))))))))))
abbrev gw.fN:=aG→di→Int→Option (di×aG)
abbrev gw.lC:=aG→di→Int→Option (di×aG)
abbrev gw.dR:=aG→di→Int→Option (di×aG)
def gw.lq(gK:gw.fN)(x0:aG)(x5:di)(x8:Int):Option (di×aG):=
 cond (du x8 7) ((oS N x0 3000).bind λvn=>let v16:Int:=W .i64 (200+vn.1);(oS N vn.2 200).bind λwY=>let v18:Int:=W .i64 (20+wY.1);cond (small (ℓ x5+ℓ ([(3,(0,(x8,(0,(0,(0,(v16,(0,())))))))),(6,(0,(x8,(0,(0,(0,(v18,(0,()))))))))]))) (gK wY.2 (x5++([(3,(0,(x8,(0,(0,(0,(v16,(0,())))))))),(6,(0,(x8,(0,(0,(0,(v18,(0,()))))))))])) (W .i64 (x8+1))) none) (some (x5,x0))
def gw.mq(N:Nat):Nat→gw.fN
 |0,_,_,_=>none
 |n+1,x0,x5,x8=>gw.lq N (gw.mq N n) x0 x5 x8
def gw.vN(ta:gw.fN)(oU:gw.lC)(x0:aG)(x5:di)(x7:Int):Option (di×aG):=
 cond (du x7 7) ((oS N x0 2).bind λke=>let v11:Int:=W .i64 (1+ke.1);cond (small (ℓ x5+ℓ ([(2,(v11,(x7,(0,(2,ba)))))]))) (oU ke.2 (x5++([(2,(v11,(x7,(0,(2,ba)))))])) (W .i64 (x7+1))) none) (ta x0 x5 1)
def gw.l9(N:Nat):Nat→gw.lC
 |0,_,_,_=>none
 |n+1,x0,x5,x7=>gw.vN N (gw.mq N N) (gw.l9 N n) x0 x5 x7
def gw.nw(yx:gw.lC)(dt:gw.dR)(x0:aG)(x5:di)(x6:Int):Option (di×aG):=
 cond (du x6 4) (cond (small (ℓ x5+ℓ ([(1,(x6,eF)),(2,(x6,(x6,(0,(1,ba)))))]))) (let v2:List ((Int)×((Int)×((Int)×((Int)×((Int)×((Int)×((Int)×((Int)×(Unit))))))))):=x5++([(1,(x6,eF)),(2,(x6,(x6,(0,(1,ba)))))]);(PN N x0 5).bind λr3=>cond (!r3.1) ((oS N r3.2 400).bind λr4=>let v5:Int:=W .i64 (1+r4.1);cond (small (ℓ v2+ℓ ([(5,(x6,(0,(0,(0,(0,(v5,(0,()))))))))]))) (dt r4.2 (v2++([(5,(x6,(0,(0,(0,(0,(v5,(0,()))))))))])) (W .i64 (x6+1))) none) (dt r3.2 v2 (W .i64 (x6+1)))) none) (yx x0 x5 5)
def gw.l3(N:Nat):Nat→gw.dR
 |0,_,_,_=>none
 |n+1,x0,x5,x6=>gw.nw N (gw.l9 N N) (gw.l3 N n) x0 x5 x6
def gw.b(N:Nat)(oK:gw.dR)(a0:aG)(a1:ae):Option (di×aG):=
 oK a0 ([]) 1
def gw(a0:aG)(a1:ae):Option (di×aG):=gw.b N (gw.l3 N N) a0 a1
abbrev qJ.dR:=aG→ae→di→Int→Option (di×aG)
def qJ.nw(dt:qJ.dR)(x0:aG)(x4:ae)(x7:di)(x8:Int):Option (di×aG):=
 cond (aX 0 x8) ((oS N x0 8).bind λr5=>cond (aN r5.1 0) ((WY N r5.2 x4).bind λr6=>cond (small (ℓ x7+ℓ ([r6.1]))) (dt r6.2 x4 (x7++([r6.1])) (W .i64 (x8-1))) none) (cond (aN r5.1 1) ((oS N r5.2 (ℓ x4.1)).bind λr9=>(WX N r9.2 x4 r9.1).bind λke=>cond (small (ℓ x7+ℓ ([ke.1]))) (dt ke.2 x4 (x7++([ke.1])) (W .i64 (x8-1))) none) ((aac N r5.2 x4).bind λpq=>cond (small (ℓ x7+ℓ ([pq.1]))) (dt pq.2 x4 (x7++([pq.1])) (W .i64 (x8-1))) none))) (some (x7,x0))
def qJ.l3(N:Nat):Nat→qJ.dR
 |0,_,_,_,_=>none
 |n+1,x0,x4,x7,x8=>qJ.nw N (qJ.l3 N n) x0 x4 x7 x8
def qJ.b(oK:qJ.dR)(a0:aG)(a1:ae)(a2:Int):Option (di×aG):=
 (gw N a0 a1).bind λr1=>(oS N r1.2 (W .i64 (a2+1))).bind λr3=>oK r3.2 a1 r1.1 r3.1
def qJ(a0:aG)(a1:ae)(a2:Int):Option (di×aG):=qJ.b N (qJ.l3 N N) a0 a1 a2
def Jv(N:Nat)(a0 a1 a2:Int):Option Bool:=
 cond (du a1 a0) (some (du a0 a2)) (some false)
abbrev m7.bO:=ae→Int→Option Bool
def m7.dU(cH:m7.bO)(x1:ae)(x3:Int):Option Bool:=
 cond (aX x3 (ℓ x1.1)) (cond (bc x3 (ℓ x1.1)) ((Jv N (γ x1.1 x3.toNat bb).1 0 3).bind λr2=>cond (!r2) (some false) ((Jv N (γ x1.1 x3.toNat bb).2.1 1 1000000000000).bind λr3=>cond (!r3) (some false) ((Jv N (γ x1.1 x3.toNat bb).2.2.1 0 1000000000).bind λr4=>cond (!r4) (some false) ((Jv N (γ x1.1 x3.toNat bb).2.2.2.1 0 1000000000).bind λr5=>cond (!r5) (some false) (cH x1 (W .i64 (x3+1))))))) none) (cond (du 0 x1.2.1) ((Jv N x1.2.2.1 0 4).bind λr7=>cond (r7) ((Jv N x1.2.2.2.1 0 1000000).bind λr8=>cond (r8) ((Jv N x1.2.2.2.2.1 0 1000000).bind λr9=>cond (r9) ((Jv N x1.2.2.2.2.2.1 1 4611686018427387904).bind λke=>cond (ke) (some (du 0 x1.2.2.2.2.2.2.1)) (some false)) (some false)) (some false)) (some false)) (some false))
def m7.l4(N:Nat):Nat→m7.bO
 |0,_,_=>none
 |n+1,x1,x3=>m7.dU N (m7.l4 N n) x1 x3
def m7.b(N:Nat)(fa:m7.bO)(a0:ae):Option Bool:=
 cond (aX (ℓ a0.1) 1) (some false) (cond (aX 6 (ℓ a0.1)) (some false) (fa a0 0))
def m7(a0:ae):Option Bool:=m7.b N (m7.l4 N N) a0
abbrev ja.eZ:=ae→an→an→(List Int)→Int→Option (an×(Int))
abbrev ja.Tz:=ae→an→an→(List Int)→Option (an×(Int))
def ja.oP(N:Nat)(eV:ja.eZ)(x1:ae)(x2 x4:an)(MW:List Int)(x5:Int):Option (an×(Int)):=
 cond (aX x5 (ℓ x1.1)) (cond (bc x5 (ℓ x1.1)) (cond (small (ℓ MW+ℓ ([(γ x1.1 x5.toNat bb).2.1]))) (eV x1 x2 (x4.1,(x4.2.1,(x4.2.2.1,(x4.2.2.2.1,(dd,x4.2.2.2.2.2))))) (MW++([(γ x1.1 x5.toNat bb).2.1])) (W .i64 (x5+1))) none) none) (some ((x4.1,(x4.2.1,(x4.2.2.1,(x4.2.2.2.1,(MW,x4.2.2.2.2.2))))),0))
def ja.l7(N:Nat):Nat→ja.eZ
 |0,_,_,_,_,_=>none
 |n+1,x1,x2,x4,MW,x5=>ja.oP N (ja.l7 N n) x1 x2 x4 MW x5
def ja.ON(N:Nat)(s8:ja.eZ)(x1:ae)(x2 x4:an)(MW:List Int):Option (an×(Int)):=
 s8 x1 x2 x4 MW 0
def ja.j6(x1:ae)(x2 x4:an)(MW:List Int):Option (an×(Int)):=ja.ON N (ja.l7 N N) x1 x2 x4 MW
def ja.b(Fe:ja.Tz)(a0:ae):Option (an×(Int)):=
 (m7 N a0).bind λr1=>cond (!r1) (some ((cf,(cS,(bn,(bn,(dd,(dm,())))))),1)) (cond (!aN a0.2.1 0) (Fe a0 (cf,(cS,(bn,(bn,(dd,(dm,())))))) (cf,(cS,([(1,(0,((W .i64 (0-a0.2.1)),()))),(3,(0,(a0.2.1,())))],(bn,(dd,(dm,())))))) dd) (Fe a0 (cf,(cS,(bn,(bn,(dd,(dm,())))))) (cf,(cS,(bn,(bn,(dd,(dm,())))))) dd))
def ja(a0:ae):Option (an×(Int)):=ja.b N (ja.j6 N) a0
def aa8(a0:ae):Option (aQ×(Int)):=
 (ja N a0).bind λr1=>cond (!aN r1.2 0) (some ((0,(0,((cf,(cS,(bn,(bn,(dd,(dm,())))))),((0,(0,(0,(0,(cS,(([]:List ((Int)×((List ((Int)×((Int)×(Unit))))×((Int)×((Int)×((Int)×((Int)×(Unit)))))))),(cS,(dd,(cf,(cf,())))))))))),((0,(0,(EL,(0,())))),()))))),r1.2)) (some ((0,(1,(r1.1,((0,(0,(0,(0,(cS,(([]:List ((Int)×((List ((Int)×((Int)×(Unit))))×((Int)×((Int)×((Int)×((Int)×(Unit)))))))),(cS,(dd,(cf,(cf,())))))))))),((0,(0,(EL,(0,())))),()))))),0))
abbrev oD.dR:=aG→ae→di→Int→Option (di×aG)
def oD.nw(dt:oD.dR)(x0:aG)(x3:ae)(x5:di)(x6:Int):Option (di×aG):=
 cond (aX 0 x6) ((PN N x0 2).bind λr3=>cond (r3.1) ((oS N r3.2 (ℓ x3.1)).bind λr4=>(WX N r4.2 x3 r4.1).bind λr5=>cond (small (ℓ x5+ℓ ([r5.1]))) (dt r5.2 x3 (x5++([r5.1])) (W .i64 (x6-1))) none) ((WY N r3.2 x3).bind λr8=>cond (small (ℓ x5+ℓ ([r8.1]))) (dt r8.2 x3 (x5++([r8.1])) (W .i64 (x6-1))) none)) (some (x5,x0))
def oD.l3(N:Nat):Nat→oD.dR
 |0,_,_,_,_=>none
 |n+1,x0,x3,x5,x6=>oD.nw N (oD.l3 N n) x0 x3 x5 x6
def oD.b(oK:oD.dR)(a0:aG)(a1:ae):Option (di×aG):=
 (oS N a0 3).bind λr1=>oK r1.2 a1 ([]) r1.1
def oD(a0:aG)(a1:ae):Option (di×aG):=oD.b N (oD.l3 N N) a0 a1
def alh(N:Nat)(a0:Int):Option Bool:=
 cond (du 1 a0) (some (du a0 22)) (some false)
def adA(N:Nat)(a0:Int):Option ByteArray:=
 cond (aN a0 1) (some (strOf [77])) (cond (aN a0 11) (some (strOf [77])) (cond (aN a0 12) (some (strOf [77])) (cond (aN a0 13) (some (strOf [77])) (cond (aN a0 2) (some (strOf [77,65,83])) (cond (aN a0 3) (some (strOf [65,81])) (cond (aN a0 4) (some (strOf [65,81])) (cond (aN a0 6) (some (strOf [65,81])) (cond (aN a0 5) (some (strOf [77,81])) (cond (aN a0 22) (some (strOf [77,81])) (cond (aN a0 7) (some (strOf [65,73,83,81,80])) (cond (aN a0 8) (some (strOf [65,68])) (cond (aN a0 9) (some (strOf [73,80])) (cond (aN a0 10) (some (strOf [81])) (cond (aN a0 14) (some (strOf [77,65])) (cond (aN a0 17) (some (strOf [65,68,81,80])) (cond (aN a0 19) (some (strOf [77,68,80])) (some (strOf []))))))))))))))))))
def alf(N:Nat)(a0:Int):Option ((Int)×(Int)):=
 cond (aN a0 6) (some (0,1000000000000)) (cond (aN a0 7) (some (1,1000000000)) (cond (aN a0 17) (some (1,1000000000)) (cond (aN a0 10) (some (1,1000000)) (some (1,9223372036854775807)))))
def alg(N:Nat)(a0:Int):Option ((Int)×(Int)):=
 cond (aN a0 19) (some ((-1152921504606846976),1152921504606846976)) (some (1,1000000000000))
def adB(a0 a1:Int):Option ((Int)×(Int)):=
 cond (aN a1 77) (some (1,12)) (cond (aN a1 65) (some (1,24)) (cond (aN a1 73) (some (0,5)) (cond (aN a1 83) (some (1,2)) (cond (aN a1 68) (some (1,1099511627776)) (cond (aN a1 81) ((alf N a0).bind λr1=>some (r1.1,r1.2)) ((alg N a0).bind λr2=>some (r2.1,r2.2)))))))
def adC(N:Nat)(a0:iw)(a1:Int):Option Int:=
 cond (aN a1 77) (some a0.2.1) (cond (aN a1 65) (some a0.2.2.1) (cond (aN a1 73) (some a0.2.2.2.1) (cond (aN a1 83) (some a0.2.2.2.2.1) (cond (aN a1 68) (some a0.2.2.2.2.2.1) (cond (aN a1 81) (some a0.2.2.2.2.2.2.1) (some a0.2.2.2.2.2.2.2.1))))))
def adD(N:Nat)(a0:iw)(a1 a2:Int):Option iw:=
 cond (aN a1 77) (some (a0.1,(a2,a0.2.2))) (cond (aN a1 65) (some (a0.1,(a0.2.1,(a2,a0.2.2.2)))) (cond (aN a1 73) (some (a0.1,(a0.2.1,(a0.2.2.1,(a2,a0.2.2.2.2))))) (cond (aN a1 83) (some (a0.1,(a0.2.1,(a0.2.2.1,(a0.2.2.2.1,(a2,a0.2.2.2.2.2)))))) (cond (aN a1 68) (some (a0.1,(a0.2.1,(a0.2.2.1,(a0.2.2.2.1,(a0.2.2.2.2.1,(a2,a0.2.2.2.2.2.2))))))) (cond (aN a1 81) (some (a0.1,(a0.2.1,(a0.2.2.1,(a0.2.2.2.1,(a0.2.2.2.2.1,(a0.2.2.2.2.2.1,(a2,a0.2.2.2.2.2.2.2)))))))) (some (a0.1,(a0.2.1,(a0.2.2.1,(a0.2.2.2.1,(a0.2.2.2.2.1,(a0.2.2.2.2.2.1,(a0.2.2.2.2.2.2.1,(a2,a0.2.2.2.2.2.2.2.2))))))))))))))
abbrev sO.kv:=iw→ByteArray→iw→Int→Option Bool
def sO.uU(lA:sO.kv)(x1:iw)(x3:ByteArray)(x4:iw)(x5:Int):Option Bool:=
 cond (aX x5 (ByteArray.size x3:Int)) (cond (bc x5 (ByteArray.size x3)) ((adB N x1.1 ((x3.data.getD x5.toNat 0).toNat:Int)).bind λr4=>cond (bc x5 (ByteArray.size x3)) ((adC N x1 ((x3.data.getD x5.toNat 0).toNat:Int)).bind λr5=>cond (aX r5 r4.1) (some false) (cond (aX r4.2 r5) (some false) (cond (bc x5 (ByteArray.size x3)) ((adD N x4 ((x3.data.getD x5.toNat 0).toNat:Int) r5).bind λr6=>lA x1 x3 r6 (W .i64 (x5+1))) none))) none) none) (some (pC (.pair (.int .i64) (.pair (.int .i64) (.pair (.int .i64) (.pair (.int .i64) (.pair (.int .i64) (.pair (.int .i64) (.pair (.int .i64) (.pair (.int .i64) .unit)))))))) x4 x1))
def sO.l6(N:Nat):Nat→sO.kv
 |0,_,_,_,_=>none
 |n+1,x1,x3,x4,x5=>sO.uU N (sO.l6 N n) x1 x3 x4 x5
def sO.b(yw:sO.kv)(a0:iw):Option Bool:=
 (alh N a0.1).bind λr1=>cond (!r1) (some false) ((adA N a0.1).bind λr2=>yw a0 r2 (a0.1,Ng) 0)
def sO(a0:iw):Option Bool:=sO.b N (sO.l6 N N) a0
abbrev Cu.cX:=aE→Int→Option Bool
def Cu.fG(N:Nat)(dW:Cu.cX)(x0:aE)(x3:Int):Option Bool:=
 cond (aX x3 (ℓ x0)) (cond (bc x3 (ℓ x0)) (cond (aX (γ x0 x3.toNat da).1 1) (some false) (cond (bc x3 (ℓ x0)) (cond (aX 12 (γ x0 x3.toNat da).1) (some false) (cond (bc x3 (ℓ x0)) (cond (aX (γ x0 x3.toNat da).2.1 1) (some false) (cond (bc x3 (ℓ x0)) (cond (aX 4 (γ x0 x3.toNat da).2.1) (some false) (cond (aX 0 x3) (cond (bc x3 (ℓ x0)) (let v2:Int:=W .i64 (x3-1);cond (bc v2 (ℓ x0)) (cond (du (γ x0 x3.toNat da).1 (γ x0 v2.toNat da).1) (some false) (dW x0 (W .i64 (x3+1)))) none) none) (dW x0 (W .i64 (x3+1))))) none)) none)) none)) none) (some true)
def Cu.l2(N:Nat):Nat→Cu.cX
 |0,_,_=>none
 |n+1,x0,x3=>Cu.fG N (Cu.l2 N n) x0 x3
def Cu.b(N:Nat)(gT:Cu.cX)(a0:aE):Option Bool:=
 gT a0 0
def Cu(a0:aE):Option Bool:=Cu.b N (Cu.l2 N N) a0
abbrev Aw.cX:=aE→Int→Int→Option Int
def Aw.fG(N:Nat)(dW:Aw.cX)(x0:aE)(x1 x5:Int):Option Int:=
 cond (aX x5 (ℓ x0)) (cond (bc x5 (ℓ x0)) (cond (aN (γ x0 x5.toNat da).1 x1) (cond (bc x5 (ℓ x0)) (some (γ x0 x5.toNat da).2.1) none) (dW x0 x1 (W .i64 (x5+1)))) none) (some 0)
def Aw.l2(N:Nat):Nat→Aw.cX
 |0,_,_,_=>none
 |n+1,x0,x1,x5=>Aw.fG N (Aw.l2 N n) x0 x1 x5
def Aw.b(N:Nat)(gT:Aw.cX)(a0:aE)(a1:Int):Option Int:=
 gT a0 a1 0
def Aw(a0:aE)(a1:Int):Option Int:=Aw.b N (Aw.l2 N N) a0 a1
abbrev iZ.MZ:=aE→Int→aE→Int→Option (aE×(Int))
abbrev iZ.eZ:=aE→Int→aE→Int→Option (aE×(Int))
def iZ.Js(N:Nat)(x0:aE)(x1:Int)(x6:aE)(x7:Int):Option (aE×(Int)):=
 cond (jq 0 x7 (ℓ x0) (ℓ x0)) (let v6:List ((Int)×((Int)×(Unit))):=List.drop (0:Int).toNat (List.take x7.toNat x0);cond (small (ℓ x6+ℓ v6)) (let v7:List ((Int)×((Int)×(Unit))):=x6++v6;cond (small (ℓ v7+ℓ ([(x1,(1,()))]))) (let v8:List ((Int)×((Int)×(Unit))):=v7++([(x1,(1,()))]);cond (jq x7 (ℓ x0) (ℓ x0) (ℓ x0)) (let v9:List ((Int)×((Int)×(Unit))):=List.drop x7.toNat (List.take (ℓ x0:Int).toNat x0);cond (small (ℓ v8+ℓ v9)) (some ((v8++v9),0)) none) none) none) none) none
def iZ.j9(x0:aE)(x1:Int)(x6:aE)(x7:Int):Option (aE×(Int)):=iZ.Js N x0 x1 x6 x7
def iZ.oP(N:Nat)(Cm:iZ.MZ)(eV:iZ.eZ)(x0:aE)(x1:Int)(x6:aE)(x7:Int):Option (aE×(Int)):=
 cond (aX x7 (ℓ x0)) (cond (bc x7 (ℓ x0)) (cond (aX (γ x0 x7.toNat da).1 x1) (eV x0 x1 x6 (W .i64 (x7+1))) (Cm x0 x1 x6 x7)) none) (Cm x0 x1 x6 x7)
def iZ.l7(N:Nat):Nat→iZ.eZ
 |0,_,_,_,_=>none
 |n+1,x0,x1,x6,x7=>iZ.oP N (iZ.j9 N) (iZ.l7 N n) x0 x1 x6 x7
def iZ.b(s8:iZ.eZ)(a0:aE)(a1:Int):Option (aE×(Int)):=
 (Cu N a0).bind λr1=>cond (!r1) (some ([],1)) (cond (aX a1 1) (some ([],1)) (cond (aX 12 a1) (some ([],1)) ((Aw N a0 a1).bind λr2=>cond (!aN r2 0) (some ([],4)) (s8 a0 a1 ([]) 0))))
def iZ(a0:aE)(a1:Int):Option (aE×(Int)):=iZ.b N (iZ.l7 N N) a0 a1
def fZ(N:Nat)(a0:Int):Option de:=
 some (a0,da)
abbrev eY.jX:=aO→Int→cG→Int→Option Bool
abbrev eY.abb:=aO→Int→cG→Option Bool
abbrev eY.cX:=aO→Int→Option Bool
def eY.Ec(N:Nat)(dW:eY.cX)(gD:eY.jX)(x0:aO)(x3:Int)(x4:cG)(x5:Int):Option Bool:=
 cond (aX x5 x3) (cond (aN x4.2.2.1 1) (cond (bc x5 (ℓ x0)) (cond (aN (γ x0 x5.toNat bb).2.2.1 1) (cond (bc x5 (ℓ x0)) (cond (aN (γ x0 x5.toNat bb).2.1 x4.2.1) (some false) (gD x0 x3 x4 (W .i64 (x5+1)))) none) (gD x0 x3 x4 (W .i64 (x5+1)))) none) (gD x0 x3 x4 (W .i64 (x5+1)))) (dW x0 (W .i64 (x3+1)))
def eY.l8(N:Nat)(dW:eY.cX):Nat→eY.jX
 |0,_,_,_,_=>none
 |n+1,x0,x3,x4,x5=>eY.Ec N dW (eY.l8 N dW n) x0 x3 x4 x5
def eY.XV(N:Nat)(IJ:eY.jX)(dW:eY.cX)(x0:aO)(x3:Int)(x4:cG):Option Bool:=
 IJ x0 x3 x4 0
def eY.j7(dW:eY.cX)(x0:aO)(x3:Int)(x4:cG):Option Bool:=eY.XV N (eY.l8 N dW N) dW x0 x3 x4
def eY.fG(N:Nat)(JO:eY.abb)(dW:eY.cX)(x0:aO)(x3:Int):Option Bool:=
 cond (aX x3 (ℓ x0)) (cond (bc x3 (ℓ x0)) (cond (aX (γ x0 x3.toNat bb).1 1) (some false) (cond (aX 24 (γ x0 x3.toNat bb).1) (some false) (cond (aX (γ x0 x3.toNat bb).2.1 1) (some false) (cond (aX 12 (γ x0 x3.toNat bb).2.1) (some false) (cond (!aN (γ x0 x3.toNat bb).2.2.1 1) (cond (!aN (γ x0 x3.toNat bb).2.2.1 2) (some false) (cond (aX (γ x0 x3.toNat bb).2.2.2.1 0) (some false) (cond (aX 1000000000000 (γ x0 x3.toNat bb).2.2.2.1) (some false) (cond (aX 0 x3) (let v2:Int:=W .i64 (x3-1);cond (bc v2 (ℓ x0)) (cond (du (γ x0 x3.toNat bb).1 (γ x0 v2.toNat bb).1) (some false) (JO x0 x3 (γ x0 x3.toNat bb))) none) (JO x0 x3 (γ x0 x3.toNat bb)))))) (cond (aX (γ x0 x3.toNat bb).2.2.2.1 0) (some false) (cond (aX 1000000000000 (γ x0 x3.toNat bb).2.2.2.1) (some false) (cond (aX 0 x3) (let v9:Int:=W .i64 (x3-1);cond (bc v9 (ℓ x0)) (cond (du (γ x0 x3.toNat bb).1 (γ x0 v9.toNat bb).1) (some false) (JO x0 x3 (γ x0 x3.toNat bb))) none) (JO x0 x3 (γ x0 x3.toNat bb)))))))))) none) (some true)
def eY.l2(N:Nat):Nat→eY.cX
 |0,_,_=>none
 |n+1,x0,x3=>eY.fG N (eY.j7 N (eY.l2 N n)) (eY.l2 N n) x0 x3
def eY.b(N:Nat)(gT:eY.cX)(a0:aO):Option Bool:=
 gT a0 0
def eY(a0:aO):Option Bool:=eY.b N (eY.l2 N N) a0
abbrev pb.bO:=aE→aO→Int→Option Bool
def pb.dU(cH:pb.bO)(x0:aE)(x1:aO)(x5:Int):Option Bool:=
 cond (aX x5 (ℓ x1)) (cond (bc x5 (ℓ x1)) ((Aw N x0 (γ x1 x5.toNat bb).2.1).bind λr4=>cond (aN r4 0) (some false) (cH x0 x1 (W .i64 (x5+1)))) none) (some true)
def pb.l4(N:Nat):Nat→pb.bO
 |0,_,_,_=>none
 |n+1,x0,x1,x5=>pb.dU N (pb.l4 N n) x0 x1 x5
def pb.b(fa:pb.bO)(a0:aE)(a1:aO):Option Bool:=
 (Cu N a0).bind λr1=>cond (!r1) (some false) ((eY N a1).bind λr2=>cond (!r2) (some false) (fa a0 a1 0))
def pb(a0:aE)(a1:aO):Option Bool:=pb.b N (pb.l4 N N) a0 a1
abbrev oQ.cX:=aO→Int→cG→Int→Option (cG×(Bool))
def oQ.fG(N:Nat)(dW:oQ.cX)(x0:aO)(x1:Int)(x4:cG)(x6:Int):Option (cG×(Bool)):=
 cond (aX x6 (ℓ x0)) (cond (bc x6 (ℓ x0)) (cond (aN (γ x0 x6.toNat bb).1 x1) (cond (bc x6 (ℓ x0)) (some (γ x0 x6.toNat bb,true)) none) (dW x0 x1 x4 (W .i64 (x6+1)))) none) (some (bb,false))
def oQ.l2(N:Nat):Nat→oQ.cX
 |0,_,_,_,_=>none
 |n+1,x0,x1,x4,x6=>oQ.fG N (oQ.l2 N n) x0 x1 x4 x6
def oQ.b(N:Nat)(gT:oQ.cX)(a0:aO)(a1:Int):Option (cG×(Bool)):=
 gT a0 a1 bb 0
def oQ(a0:aO)(a1:Int):Option (cG×(Bool)):=oQ.b N (oQ.l2 N N) a0 a1
abbrev nc.bO:=aO→Int→Int→Option Int
def nc.dU(N:Nat)(cH:nc.bO)(x0:aO)(x1 x5:Int):Option Int:=
 cond (aX x5 (ℓ x0)) (cond (bc x5 (ℓ x0)) (cond (aN (γ x0 x5.toNat bb).2.1 x1) (cond (bc x5 (ℓ x0)) (cond (aN (γ x0 x5.toNat bb).2.2.1 1) (cond (bc x5 (ℓ x0)) (some (γ x0 x5.toNat bb).1) none) (cH x0 x1 (W .i64 (x5+1)))) none) (cH x0 x1 (W .i64 (x5+1)))) none) (some 0)
def nc.l4(N:Nat):Nat→nc.bO
 |0,_,_,_=>none
 |n+1,x0,x1,x5=>nc.dU N (nc.l4 N n) x0 x1 x5
def nc.b(fa:nc.bO)(a0:aO)(a1:Int):Option Int:=
 (eY N a0).bind λr1=>cond (!r1) (some 0) (fa a0 a1 0)
def nc(a0:aO)(a1:Int):Option Int:=nc.b N (nc.l4 N N) a0 a1
abbrev fO.IK:=aO→cG→aO→Int→Option (aO×(Int))
abbrev fO.fN:=aO→cG→aO→Int→Option (aO×(Int))
abbrev fO.IL:=aO→cG→Option (aO×(Int))
def fO.wZ(N:Nat)(x1:aO)(x5:cG)(a7:aO)(bp:Int):Option (aO×(Int)):=
 cond (jq 0 bp (ℓ x1) (ℓ x1)) (let v10:List ((Int)×((Int)×((Int)×((Int)×(Unit))))):=List.drop (0:Int).toNat (List.take bp.toNat x1);cond (small (ℓ a7+ℓ v10)) (let v11:List ((Int)×((Int)×((Int)×((Int)×(Unit))))):=a7++v10;cond (small (ℓ v11+ℓ ([x5]))) (let Vi:List ((Int)×((Int)×((Int)×((Int)×(Unit))))):=v11++([x5]);cond (jq bp (ℓ x1) (ℓ x1) (ℓ x1)) (let v13:List ((Int)×((Int)×((Int)×((Int)×(Unit))))):=List.drop bp.toNat (List.take (ℓ x1:Int).toNat x1);cond (small (ℓ Vi+ℓ v13)) (some ((Vi++v13),0)) none) none) none) none) none
def fO.Dg(x1:aO)(x5:cG)(a7:aO)(bp:Int):Option (aO×(Int)):=fO.wZ N x1 x5 a7 bp
def fO.lq(N:Nat)(wM:fO.IK)(gK:fO.fN)(x1:aO)(x5:cG)(a7:aO)(bp:Int):Option (aO×(Int)):=
 cond (aX bp (ℓ x1)) (cond (bc bp (ℓ x1)) (cond (aX (γ x1 bp.toNat bb).1 x5.1) (gK x1 x5 a7 (W .i64 (bp+1))) (wM x1 x5 a7 bp)) none) (wM x1 x5 a7 bp)
def fO.mq(N:Nat):Nat→fO.fN
 |0,_,_,_,_=>none
 |n+1,x1,x5,a7,bp=>fO.lq N (fO.Dg N) (fO.mq N n) x1 x5 a7 bp
def fO.yr(N:Nat)(ta:fO.fN)(x1:aO)(x5:cG):Option (aO×(Int)):=
 ta x1 x5 ([]) 0
def fO.E9(x1:aO)(x5:cG):Option (aO×(Int)):=fO.yr N (fO.mq N N) x1 x5
def fO.b(yz:fO.IL)(a0:aE)(a1:aO)(a2:cG):Option (aO×(Int)):=
 (pb N a0 a1).bind λr1=>cond (!r1) (some ([],1)) ((eY N ([a2])).bind λr2=>cond (!r2) (some ([],1)) ((Aw N a0 a2.2.1).bind λr3=>cond (aN r3 0) (some ([],3)) (cond (!aN r3 1) (some ([],7)) ((oQ N a1 a2.1).bind λr4=>cond (r4.2) (some ([],4)) (cond (aN a2.2.2.1 1) ((nc N a1 a2.2.1).bind λr5=>cond (!aN r5 0) (some ([],4)) (yz a1 a2)) (yz a1 a2))))))
def fO(a0:aE)(a1:aO)(a2:cG):Option (aO×(Int)):=fO.b N (fO.E9 N) a0 a1 a2
def XW(a0:aO)(a1:Int):Option (cG×(Bool)):=
 (eY N a0).bind λr1=>cond (!r1) (some (bb,false)) ((oQ N a0 a1).bind λr2=>some (r2.1,r2.2))
def Ti(a0:aQ)(a1:Int):Option Bool:=
 (XW N a0.2.2.1.2.1 a1).bind λr1=>some r1.2
abbrev o8.cX:=(List Int)→Int→Option (List Int)
def o8.fG(N:Nat)(dW:o8.cX)(x0:List Int)(x3:Int):Option (List Int):=
 cond (aX 0 x3) (let v2:Int:=W .i64 (x3-1);cond (bc v2 (ℓ x0)) (cond (aN (γ x0 v2.toNat 0) 0) (dW x0 (W .i64 (x3-1))) (cond (jq 0 x3 x3 (ℓ x0)) (some (List.drop (0:Int).toNat (List.take x3.toNat x0))) none)) none) (cond (jq 0 x3 x3 (ℓ x0)) (some (List.drop (0:Int).toNat (List.take x3.toNat x0))) none)
def o8.l2(N:Nat):Nat→o8.cX
 |0,_,_=>none
 |n+1,x0,x3=>o8.fG N (o8.l2 N n) x0 x3
def o8.b(N:Nat)(gT:o8.cX)(a0:List Int):Option (List Int):=
 gT a0 (ℓ a0:Int)
def o8(a0:List Int):Option (List Int):=o8.b N (o8.l2 N N) a0
def F83(a0:Int):Option (List Int):=
 cond (aX 32 0) none ((o8 N ([(sd .and .u64 a0 4294967295),(shr .u64 a0 32)])).bind λr3=>some r3)
def Za(a0:Bool)(a1:List Int):Option aM:=
 (o8 N a1).bind λr1=>cond (a0) (some (aX 0 (ℓ r1:Int),(r1,()))) (some (false,(r1,())))
def lh(a0:Int):Option aM:=
 let v1:Int:=W .u64 a0;cond (aX a0 0) ((F83 N (W .u64 (0-v1))).bind λr3=>(Za N (aX a0 0) r3).bind λr4=>some r4) ((F83 N v1).bind λr5=>(Za N (aX a0 0) r5).bind λr6=>some r6)
def XU(a0:aM):Option aM:=
 (Za N (!a0.1) a0.2.1).bind λr1=>some r1
def Dj(a0 a1:Int)(a2 a3:Int)(a4:aM):Option bP:=
 (XU N a4).bind λr1=>some ([(a0,(a1,(r1,()))),(a2,(a3,(a4,())))])
def F93(N:Nat)(a0:List Int)(a1:Int):Option Int:=
 cond (aX a1 (ℓ a0)) (cond (bc a1 (ℓ a0)) (some (γ a0 a1.toNat 0)) none) (some 0)
abbrev wJ.Tz:=(List Int)→(List Int)→(List Int)→Int→Int→Option (List Int)
abbrev wJ.bO:=(List Int)→(List Int)→(List Int)→Int→Int→Option (List Int)
def wJ.ON(cH:wJ.bO)(x0 x1 x5:List Int)(x6 x7:Int):Option (List Int):=
 (F93 N x0 x7).bind λr3=>(F93 N x1 x7).bind λr4=>let v6:Int:=W .u64 (x6+(W .u64 (r3+r4)));let v7:Int:=sd .and .u64 v6 4294967295;cond (small (ℓ x5+ℓ ([v7]))) (cond (aX 32 0) none (cH x0 x1 (x5++([v7])) (shr .u64 v6 32) (W .i64 (x7+1)))) none
def wJ.j6(cH:wJ.bO)(x0 x1 x5:List Int)(x6 x7:Int):Option (List Int):=wJ.ON N cH x0 x1 x5 x6 x7
def wJ.dU(N:Nat)(Fe:wJ.Tz)(cH:wJ.bO)(x0 x1 x5:List Int)(x6 x7:Int):Option (List Int):=
 cond (aX x7 (ℓ x0)) (Fe x0 x1 x5 x6 x7) (cond (aX x7 (ℓ x1)) (Fe x0 x1 x5 x6 x7) (cond (aX 0 x6) (Fe x0 x1 x5 x6 x7) (some x5)))
def wJ.l4(N:Nat):Nat→wJ.bO
 |0,_,_,_,_,_=>none
 |n+1,x0,x1,x5,x6,x7=>wJ.dU N (wJ.j6 N (wJ.l4 N n)) (wJ.l4 N n) x0 x1 x5 x6 x7
def wJ.b(N:Nat)(fa:wJ.bO)(a0 a1:List Int):Option (List Int):=
 fa a0 a1 ([]) 0 0
def wJ(a0 a1:List Int):Option (List Int):=wJ.b N (wJ.l4 N N) a0 a1
abbrev EX.kv:=(List Int)→(List Int)→Int→Option Int
def EX.uU(N:Nat)(lA:EX.kv)(x0 x1:List Int)(x5:Int):Option Int:=
 cond (du 0 x5) (cond (bc x5 (ℓ x0)) (cond (bc x5 (ℓ x1)) (cond (aX (γ x0 x5.toNat 0) (γ x1 x5.toNat 0)) (some (-1)) (cond (bc x5 (ℓ x0)) (cond (bc x5 (ℓ x1)) (cond (aX (γ x1 x5.toNat 0) (γ x0 x5.toNat 0)) (some 1) (lA x0 x1 (W .i64 (x5-1)))) none) none)) none) none) (some 0)
def EX.l6(N:Nat):Nat→EX.kv
 |0,_,_,_=>none
 |n+1,x0,x1,x5=>EX.uU N (EX.l6 N n) x0 x1 x5
def EX.b(N:Nat)(yw:EX.kv)(a0 a1:List Int):Option Int:=
 cond (!aN (ℓ a0) (ℓ a1)) (cond (aX (ℓ a0) (ℓ a1)) (some (-1)) (some 1)) (yw a0 a1 (W .i64 ((ℓ a0:Int)-1)))
def EX(a0 a1:List Int):Option Int:=EX.b N (EX.l6 N N) a0 a1
abbrev FC.bO:=(List Int)→(List Int)→(List Int)→Int→Int→Option (List Int)
def FC.dU(cH:FC.bO)(x0 x1 x5:List Int)(x6 x7:Int):Option (List Int):=
 cond (aX x7 (ℓ x0)) (cond (bc x7 (ℓ x0)) ((F93 N x1 x7).bind λr2=>let v3:Int:=W .u64 (r2+x6);cond (aX (γ x0 x7.toNat 0) v3) (let v5:Int:=W .u64 ((W .u64 ((γ x0 x7.toNat 0)+4294967296))-v3);cond (small (ℓ x5+ℓ ([v5]))) (cH x0 x1 (x5++([v5])) 1 (W .i64 (x7+1))) none) (let v8:Int:=W .u64 ((γ x0 x7.toNat 0)-v3);cond (small (ℓ x5+ℓ ([v8]))) (cH x0 x1 (x5++([v8])) 0 (W .i64 (x7+1))) none)) none) (some x5)
def FC.l4(N:Nat):Nat→FC.bO
 |0,_,_,_,_,_=>none
 |n+1,x0,x1,x5,x6,x7=>FC.dU N (FC.l4 N n) x0 x1 x5 x6 x7
def FC.b(N:Nat)(fa:FC.bO)(a0 a1:List Int):Option (List Int):=
 fa a0 a1 ([]) 0 0
def FC(a0 a1:List Int):Option (List Int):=FC.b N (FC.l4 N N) a0 a1
def BE(a0 a1:aM):Option aM:=
 cond (pC .bool a0.1 a1.1) ((wJ N a0.2.1 a1.2.1).bind λr1=>(Za N a0.1 r1).bind λr2=>some r2) ((EX N a0.2.1 a1.2.1).bind λr3=>cond (du 0 r3) ((FC N a0.2.1 a1.2.1).bind λr4=>(Za N a0.1 r4).bind λr5=>some r5) ((FC N a1.2.1 a0.2.1).bind λr6=>(Za N a1.1 r6).bind λr7=>some r7))
def xV(a0:aM):Option ((Int)×(Bool)):=
 cond (aX 2 (ℓ a0.2.1)) (some (0,false)) ((F93 N a0.2.1 0).bind λr1=>(F93 N a0.2.1 1).bind λr2=>cond (aX 32 0) none (let v4:Int:=sd .or .u64 r1 (W .u64 (shl .u64 r2 32));cond (a0.1) (cond (aX 9223372036854775808 v4) (some (0,false)) (some ((W .i64 (W .u64 (0-v4))),true))) (cond (aX 9223372036854775807 v4) (some (0,false)) (some ((W .i64 v4),true)))))
def SN(a0:aM):Option ((Int)×(Bool)):=
 (xV N a0).bind λr1=>cond (!r1.2) (some (0,false)) (cond (aN r1.1 (-9223372036854775808)) (some (0,false)) (some (r1.1,true)))
abbrev cP.IM:=au→au→au→Int→Int→Int→Int→Bool→aM→Int→Option (au×(Bool))
abbrev cP.abk:=au→au→au→Int→Int→Int→Int→Bool→Option (au×(Bool))
abbrev cP.eZ:=au→au→au→Int→Int→Int→Option (au×(Bool))
abbrev cP.bO:=au→au→au→Int→Int→Option (au×(Bool))
def cP.JC(cH:cP.bO)(eV:cP.eZ)(Lj:cP.IM)(x0 x1 x6:au)(x7 x8:Int)(x9 bm:Int)(a7:Bool)(bp:aM)(ch:Int):Option (au×(Bool)):=
 cond (aX ch (ℓ x1)) (cond (bc ch (ℓ x1)) (cond (aN (γ x1 ch.toNat ba).1 x8) (cond (bc ch (ℓ x1)) (cond (aN (γ x1 ch.toNat ba).2.1 x9) (cond (bc ch (ℓ x1)) ((lh N (γ x1 ch.toNat ba).2.2.1).bind λr6=>(BE N bp r6).bind λr7=>Lj x0 x1 x6 x7 x8 x9 bm true r7 (W .i64 (ch+1))) none) (Lj x0 x1 x6 x7 x8 x9 bm a7 bp (W .i64 (ch+1)))) none) (Lj x0 x1 x6 x7 x8 x9 bm a7 bp (W .i64 (ch+1)))) none) (cond (a7) ((lh N bm).bind λnF=>(BE N bp nF).bind λoR=>(SN N oR).bind λpq=>cond (!pq.2) (some ([],false)) (cond (!aN pq.1 0) (cond (small (ℓ x6+ℓ ([(x8,(x9,(pq.1,())))]))) (eV x0 x1 (x6++([(x8,(x9,(pq.1,())))])) x7 x8 (W .i64 (x9+1))) none) (eV x0 x1 x6 x7 x8 (W .i64 (x9+1))))) (cond (!aN bm 0) (cond (small (ℓ x6+ℓ ([(x8,(x9,(bm,())))]))) (eV x0 x1 (x6++([(x8,(x9,(bm,())))])) x7 x8 (W .i64 (x9+1))) none) (eV x0 x1 x6 x7 x8 (W .i64 (x9+1)))))
def cP.Ks(N:Nat)(cH:cP.bO)(eV:cP.eZ):Nat→cP.IM
 |0,_,_,_,_,_,_,_,_,_,_=>none
 |n+1,x0,x1,x6,x7,x8,x9,bm,a7,bp,ch=>cP.JC N cH eV (cP.Ks N cH eV n) x0 x1 x6 x7 x8 x9 bm a7 bp ch
def cP.Mf(N:Nat)(abl:cP.IM)(cH:cP.bO)(eV:cP.eZ)(x0 x1 x6:au)(x7 x8:Int)(x9 bm:Int)(a7:Bool):Option (au×(Bool)):=
 abl x0 x1 x6 x7 x8 x9 bm a7 (false,qx) 0
def cP.UD(cH:cP.bO)(eV:cP.eZ)(x0 x1 x6:au)(x7 x8:Int)(x9 bm:Int)(a7:Bool):Option (au×(Bool)):=cP.Mf N (cP.Ks N cH eV N) cH eV x0 x1 x6 x7 x8 x9 bm a7
def cP.oP(N:Nat)(Cn:cP.abk)(cH:cP.bO)(eV:cP.eZ)(x0 x1 x6:au)(x7 x8 x9:Int):Option (au×(Bool)):=
 cond (aX x9 6) (cond (aX x7 (ℓ x0)) (cond (bc x7 (ℓ x0)) (cond (aN (γ x0 x7.toNat ba).1 x8) (cond (bc x7 (ℓ x0)) (cond (aN (γ x0 x7.toNat ba).2.1 x9) (cond (bc x7 (ℓ x0)) (Cn x0 x1 x6 (W .i64 (x7+1)) x8 x9 (γ x0 x7.toNat ba).2.2.1 false) none) (Cn x0 x1 x6 x7 x8 x9 0 false)) none) (Cn x0 x1 x6 x7 x8 x9 0 false)) none) (Cn x0 x1 x6 x7 x8 x9 0 false)) (cH x0 x1 x6 x7 (W .i64 (x8+1)))
def cP.l7(N:Nat)(cH:cP.bO):Nat→cP.eZ
 |0,_,_,_,_,_,_=>none
 |n+1,x0,x1,x6,x7,x8,x9=>cP.oP N (cP.UD N cH (cP.l7 N cH n)) cH (cP.l7 N cH n) x0 x1 x6 x7 x8 x9
def cP.dU(N:Nat)(s8:cP.eZ)(cH:cP.bO)(x0 x1 x6:au)(x7 x8:Int):Option (au×(Bool)):=
 cond (du x8 24) (s8 x0 x1 x6 x7 x8 0) (some (x6,true))
def cP.l4(N:Nat):Nat→cP.bO
 |0,_,_,_,_,_=>none
 |n+1,x0,x1,x6,x7,x8=>cP.dU N (cP.l7 N (cP.l4 N n) N) (cP.l4 N n) x0 x1 x6 x7 x8
def cP.b(N:Nat)(fa:cP.bO)(a0 a1:au):Option (au×(Bool)):=
 fa a0 a1 ([]) 0 0
def cP(a0 a1:au):Option (au×(Bool)):=cP.b N (cP.l4 N N) a0 a1
abbrev oy.dR:=Int→Int→Int→bP→aM→Bool→Int→Option ((Int)×(Bool))
def oy.nw(dt:oy.dR)(x0 x1 x2:Int)(x3:bP)(bm:aM)(a7:Bool)(bp:Int):Option ((Int)×(Bool)):=
 cond (aX bp (ℓ x3)) (cond (bc bp (ℓ x3)) (cond (aN (γ x3 bp.toNat (0,(0,((false,qx),())))).1 x1) (cond (bc bp (ℓ x3)) (cond (aN (γ x3 bp.toNat (0,(0,((false,qx),())))).2.1 x2) (cond (bc bp (ℓ x3)) ((BE N bm (γ x3 bp.toNat (0,(0,((false,qx),())))).2.2.1).bind λr2=>dt x0 x1 x2 x3 r2 true (W .i64 (bp+1))) none) (dt x0 x1 x2 x3 bm a7 (W .i64 (bp+1)))) none) (dt x0 x1 x2 x3 bm a7 (W .i64 (bp+1)))) none) (cond (!a7) (some (x0,true)) ((lh N x0).bind λr6=>(BE N bm r6).bind λr7=>(xV N r7).bind λr8=>some (r8.1,r8.2)))
def oy.l3(N:Nat):Nat→oy.dR
 |0,_,_,_,_,_,_,_=>none
 |n+1,x0,x1,x2,x3,bm,a7,bp=>oy.nw N (oy.l3 N n) x0 x1 x2 x3 bm a7 bp
def oy.b(N:Nat)(oK:oy.dR)(a0 a1 a2:Int)(a3:bP):Option ((Int)×(Bool)):=
 oK a0 a1 a2 a3 (false,qx) false 0
def oy(a0 a1 a2:Int)(a3:bP):Option ((Int)×(Bool)):=oy.b N (oy.l3 N N) a0 a1 a2 a3
abbrev dS.abk:=au→bP→au→Int→Int→Int→Int→Option (au×(Bool))
abbrev dS.eZ:=au→bP→au→Int→Int→Int→Option (au×(Bool))
abbrev dS.bO:=au→bP→au→Int→Int→Option (au×(Bool))
def dS.Mf(cH:dS.bO)(eV:dS.eZ)(x0:au)(x1:bP)(x6:au)(x7 x8:Int)(x9 bm:Int):Option (au×(Bool)):=
 (oy N bm x8 x9 x1).bind λr5=>cond (!r5.2) (some ([],false)) (cond (!aN r5.1 0) (cond (small (ℓ x6+ℓ ([(x8,(x9,(r5.1,())))]))) (eV x0 x1 (x6++([(x8,(x9,(r5.1,())))])) x7 x8 (W .i64 (x9+1))) none) (eV x0 x1 x6 x7 x8 (W .i64 (x9+1))))
def dS.UD(cH:dS.bO)(eV:dS.eZ)(x0:au)(x1:bP)(x6:au)(x7 x8:Int)(x9 bm:Int):Option (au×(Bool)):=dS.Mf N cH eV x0 x1 x6 x7 x8 x9 bm
def dS.oP(N:Nat)(Cn:dS.abk)(cH:dS.bO)(eV:dS.eZ)(x0:au)(x1:bP)(x6:au)(x7 x8 x9:Int):Option (au×(Bool)):=
 cond (du x9 24) (cond (aX x7 (ℓ x0)) (cond (bc x7 (ℓ x0)) (cond (aN (γ x0 x7.toNat ba).1 x8) (cond (bc x7 (ℓ x0)) (cond (aN (γ x0 x7.toNat ba).2.1 x9) (cond (bc x7 (ℓ x0)) (Cn x0 x1 x6 (W .i64 (x7+1)) x8 x9 (γ x0 x7.toNat ba).2.2.1) none) (Cn x0 x1 x6 x7 x8 x9 0)) none) (Cn x0 x1 x6 x7 x8 x9 0)) none) (Cn x0 x1 x6 x7 x8 x9 0)) (cH x0 x1 x6 x7 (W .i64 (x8+1)))
def dS.l7(N:Nat)(cH:dS.bO):Nat→dS.eZ
 |0,_,_,_,_,_,_=>none
 |n+1,x0,x1,x6,x7,x8,x9=>dS.oP N (dS.UD N cH (dS.l7 N cH n)) cH (dS.l7 N cH n) x0 x1 x6 x7 x8 x9
def dS.dU(N:Nat)(s8:dS.eZ)(cH:dS.bO)(x0:au)(x1:bP)(x6:au)(x7 x8:Int):Option (au×(Bool)):=
 cond (du x8 7) (s8 x0 x1 x6 x7 x8 0) (some (x6,true))
def dS.l4(N:Nat):Nat→dS.bO
 |0,_,_,_,_,_=>none
 |n+1,x0,x1,x6,x7,x8=>dS.dU N (dS.l7 N (dS.l4 N n) N) (dS.l4 N n) x0 x1 x6 x7 x8
def dS.b(N:Nat)(fa:dS.bO)(a0:au)(a1:bP):Option (au×(Bool)):=
 fa a0 a1 ([]) 0 1
def dS(a0:au)(a1:bP):Option (au×(Bool)):=dS.b N (dS.l4 N N) a0 a1
def zt(a0:an)(a1:au)(a2:bP):Option (an×(Int)):=
 (cP N a0.2.2.2.1 a1).bind λr1=>cond (!r1.2) (some ((cf,(cS,(bn,(bn,(dd,(dm,())))))),2)) ((dS N a0.2.2.1 a2).bind λr2=>cond (!r2.2) (some ((cf,(cS,(bn,(bn,(dd,(dm,())))))),2)) (some ((a0.1,(a0.2.1,(r2.1,(r1.1,a0.2.2.2.2)))),0)))
def P6(a0:aQ)(a1 a2:Int)(a3 a4 a5:Int):Option (aQ×de):=
 (lh N a5).bind λr1=>(Dj N a1 a2 a3 a4 r1).bind λr2=>(zt N a0.2.2.1 bn r2).bind λr3=>some ((a0.1,(a0.2.1,(r3.1,a0.2.2.2))),(r3.2,da))
abbrev p7.bK:=au→Int→aM→aM→Int→Option aM
def p7.eA(bL:p7.bK)(x0:au)(x1:Int)(x4 x5:aM)(x6:Int):Option aM:=
 cond (aX x6 (ℓ x0)) (cond (bc x6 (ℓ x0)) (cond (aN (γ x0 x6.toNat ba).2.1 x1) (cond (bc x6 (ℓ x0)) ((lh N (γ x0 x6.toNat ba).2.2.1).bind λr3=>(BE N x5 r3).bind λr4=>bL x0 x1 x4 r4 (W .i64 (x6+1))) none) (bL x0 x1 x4 x5 (W .i64 (x6+1)))) none) (some x5)
def p7.l5(N:Nat):Nat→p7.bK
 |0,_,_,_,_,_=>none
 |n+1,x0,x1,x4,x5,x6=>p7.eA N (p7.l5 N n) x0 x1 x4 x5 x6
def p7.b(eW:p7.bK)(a0:au)(a1:Int):Option aM:=
 (Av N a0).bind λr1=>cond (!r1) (some (false,qx)) (eW a0 a1 (false,qx) (false,qx) 0)
def p7(a0:au)(a1:Int):Option aM:=p7.b N (p7.l5 N N) a0 a1
def Sq(N:Nat)(a0:aM):Option Int:=
 cond (aN (ℓ a0.2.1) 0) (some 0) (cond (a0.1) (some (-1)) (some 1))
abbrev Ee.cX:=au→Int→Option Bool
def Ee.fG(dW:Ee.cX)(x0:au)(x3:Int):Option Bool:=
 cond (aX x3 6) ((p7 N x0 x3).bind λr2=>(Sq N r2).bind λr3=>cond (!aN r3 0) (some false) (dW x0 (W .i64 (x3+1)))) ((Av N x0).bind λr5=>some r5)
def Ee.l2(N:Nat):Nat→Ee.cX
 |0,_,_=>none
 |n+1,x0,x3=>Ee.fG N (Ee.l2 N n) x0 x3
def Ee.b(N:Nat)(gT:Ee.cX)(a0:au):Option Bool:=
 gT a0 0
def Ee(a0:au):Option Bool:=Ee.b N (Ee.l2 N N) a0
def EZ(N:Nat)(a0:Int):Option Bool:=
 cond (du 1 a0) (some (du a0 1000000000000)) (some false)
def SC(a0:fV):Option Bool:=
 cond (du 1 a0.1) (cond (du a0.1 1099511627776) (cond (du 1 a0.2.1) (cond (du a0.2.1 24) (cond (du 0 a0.2.2.1) (cond (aX a0.2.2.1 6) (cond (aN a0.2.2.2.1 1) (cond (du 1 a0.2.2.2.2.1) (cond (du a0.2.2.2.2.1 1000000000) ((EZ N a0.2.2.2.2.2.1).bind λr1=>some r1) (some false)) (some false)) (cond (aN a0.2.2.2.1 2) (cond (du 1 a0.2.2.2.2.1) (cond (du a0.2.2.2.2.1 1000000000) ((EZ N a0.2.2.2.2.2.1).bind λr2=>some r2) (some false)) (some false)) (some false))) (some false)) (some false)) (some false)) (some false)) (some false)) (some false)
abbrev nJ.bO:=aY→Int→Option Bool
def nJ.dU(cH:nJ.bO)(x0:aY)(x3:Int):Option Bool:=
 cond (aX x3 (ℓ x0)) (cond (bc x3 (ℓ x0)) ((SC N (γ x0 x3.toNat eF)).bind λr2=>cond (!r2) (some false) (cond (aX 0 x3) (cond (bc x3 (ℓ x0)) (let v3:Int:=W .i64 (x3-1);cond (bc v3 (ℓ x0)) (cond (du (γ x0 x3.toNat eF).1 (γ x0 v3.toNat eF).1) (some false) (cH x0 (W .i64 (x3+1)))) none) none) (cH x0 (W .i64 (x3+1))))) none) (some true)
def nJ.l4(N:Nat):Nat→nJ.bO
 |0,_,_=>none
 |n+1,x0,x3=>nJ.dU N (nJ.l4 N n) x0 x3
def nJ.b(N:Nat)(fa:nJ.bO)(a0:aY):Option Bool:=
 cond (aX 32 (ℓ a0)) (some false) (fa a0 0)
def nJ(a0:aY):Option Bool:=nJ.b N (nJ.l4 N N) a0
abbrev CY.bK:=au→aM→aM→Int→Option aM
def CY.eA(bL:CY.bK)(x0:au)(x2 x3:aM)(x4:Int):Option aM:=
 cond (aX x4 (ℓ x0)) (cond (bc x4 (ℓ x0)) ((lh N (γ x0 x4.toNat ba).2.2.1).bind λr3=>(BE N x3 r3).bind λr4=>bL x0 x2 r4 (W .i64 (x4+1))) none) (some x3)
def CY.l5(N:Nat):Nat→CY.bK
 |0,_,_,_,_=>none
 |n+1,x0,x2,x3,x4=>CY.eA N (CY.l5 N n) x0 x2 x3 x4
def CY.b(eW:CY.bK)(a0:au):Option aM:=
 (CR N a0).bind λr1=>cond (!r1) (some (false,qx)) (eW a0 (false,qx) (false,qx) 0)
def CY(a0:au):Option aM:=CY.b N (CY.l5 N N) a0
def Ma(a0:an)(a1:Int):Option Bool:=
 (XW N a0.2.1 a1).bind λr1=>cond (r1.2) (some true) (some (aN a1 0))
def Uu(a0:aE)(a1:Int):Option Int:=
 (Cu N a0).bind λr1=>cond (!r1) (some 0) ((Aw N a0 a1).bind λr2=>some r2)
abbrev gH.s9:=ae→an→Int→Option Bool
abbrev gH.yA:=ae→an→Int→Option Bool
abbrev gH.iO:=ae→an→Int→Option Bool
abbrev gH.kv:=ae→an→Int→Option Bool
def gH.wW(ID:gH.s9)(x2:ae)(x3:an)(x9:Int):Option Bool:=
 cond (aX x9 (ℓ x3.2.2.2.2.2.1)) (cond (bc x9 (ℓ x3.2.2.2.2.2.1)) ((Ma N x3 (γ x3.2.2.2.2.2.1 x9.toNat eF).2.1).bind λQv=>cond (!Qv) (some false) (cond (bc x9 (ℓ x3.2.2.2.2.2.1)) (cond (du (ℓ x2.1) (γ x3.2.2.2.2.2.1 x9.toNat eF).2.2.1) (some false) (ID x2 x3 (W .i64 (x9+1)))) none)) none) (some true)
def gH.yc(N:Nat):Nat→gH.s9
 |0,_,_,_=>none
 |n+1,x2,x3,x9=>gH.wW N (gH.yc N n) x2 x3 x9
def gH.E3(IE:gH.s9)(Lk:gH.yA)(x2:ae)(x3:an)(x8:Int):Option Bool:=
 cond (aX x8 (ℓ x3.2.2.2.2.1)) (cond (bc x8 (ℓ x3.2.2.2.2.1)) ((EZ N (γ x3.2.2.2.2.1 x8.toNat 0)).bind λNo=>cond (!No) (some false) (Lk x2 x3 (W .i64 (x8+1)))) none) (IE x2 x3 0)
def gH.FG(N:Nat):Nat→gH.yA
 |0,_,_,_=>none
 |n+1,x2,x3,x8=>gH.E3 N (gH.yc N N) (gH.FG N n) x2 x3 x8
def gH.nK(Qx:gH.yA)(lB:gH.iO)(x2:ae)(x3:an)(x7:Int):Option Bool:=
 cond (aX x7 (ℓ x3.2.2.2.1)) (cond (bc x7 (ℓ x3.2.2.2.1)) ((Ma N x3 (γ x3.2.2.2.1 x7.toNat ba).1).bind λFR=>cond (!FR) (some false) (cond (bc x7 (ℓ x3.2.2.2.1)) (cond (du (ℓ x2.1) (γ x3.2.2.2.1 x7.toNat ba).2.1) (some false) (lB x2 x3 (W .i64 (x7+1)))) none)) none) (Qx x2 x3 0)
def gH.oM(N:Nat):Nat→gH.iO
 |0,_,_,_=>none
 |n+1,x2,x3,x7=>gH.nK N (gH.FG N N) (gH.oM N n) x2 x3 x7
def gH.uU(vi:gH.iO)(lA:gH.kv)(x2:ae)(x3:an)(x5:Int):Option Bool:=
 cond (aX x5 (ℓ x3.2.2.1)) (cond (bc x5 (ℓ x3.2.2.1)) (cond (aN (γ x3.2.2.1 x5.toNat ba).1 5) ((Ma N x3 (γ x3.2.2.1 x5.toNat ba).2.1).bind λr9=>cond (!r9) (some false) (cond (aN (γ x3.2.2.1 x5.toNat ba).1 6) ((Uu N x3.1 (γ x3.2.2.1 x5.toNat ba).2.1).bind λke=>cond (aN ke 0) (some false) (lA x2 x3 (W .i64 (x5+1)))) (cond (aN (γ x3.2.2.1 x5.toNat ba).1 7) ((Uu N x3.1 (γ x3.2.2.1 x5.toNat ba).2.1).bind λoR=>cond (aN oR 0) (some false) (lA x2 x3 (W .i64 (x5+1)))) (lA x2 x3 (W .i64 (x5+1)))))) (cond (aN (γ x3.2.2.1 x5.toNat ba).1 6) ((Uu N x3.1 (γ x3.2.2.1 x5.toNat ba).2.1).bind λvn=>cond (aN vn 0) (some false) (lA x2 x3 (W .i64 (x5+1)))) (cond (aN (γ x3.2.2.1 x5.toNat ba).1 7) ((Uu N x3.1 (γ x3.2.2.1 x5.toNat ba).2.1).bind λwY=>cond (aN wY 0) (some false) (lA x2 x3 (W .i64 (x5+1)))) (lA x2 x3 (W .i64 (x5+1)))))) none) (vi x2 x3 0)
def gH.l6(N:Nat):Nat→gH.kv
 |0,_,_,_=>none
 |n+1,x2,x3,x5=>gH.uU N (gH.oM N N) (gH.l6 N n) x2 x3 x5
def gH.b(yw:gH.kv)(a0:ae)(a1:an):Option Bool:=
 (m7 N a0).bind λr1=>cond (!r1) (some false) ((pb N a1.1 a1.2.1).bind λr2=>cond (!r2) (some false) ((CR N a1.2.2.1).bind λr3=>cond (!r3) (some false) ((Ee N a1.2.2.2.1).bind λr4=>cond (!r4) (some false) ((nJ N a1.2.2.2.2.2.1).bind λr5=>cond (!r5) (some false) (cond (!aN (ℓ a1.2.2.2.2.1) (ℓ a0.1)) (some false) ((CY N a1.2.2.1).bind λr6=>(Sq N r6).bind λr7=>cond (!aN r7 0) (some false) (yw a0 a1 0)))))))
def gH(a0:ae)(a1:an):Option Bool:=gH.b N (gH.l6 N N) a0 a1
def Uo(a0 a1:aM):Option aM:=
 (XU N a1).bind λr1=>(BE N a0 r1).bind λr2=>some r2
abbrev mL.bK:=au→Int→aE→Int→Option aE
def mL.eA(N:Nat)(bL:mL.bK)(x0:au)(x1:Int)(x5:aE)(x6:Int):Option aE:=
 cond (aX x6 (ℓ x0)) (cond (bc x6 (ℓ x0)) (cond (aN (γ x0 x6.toNat ba).1 x1) (cond (bc x6 (ℓ x0)) (cond (bc x6 (ℓ x0)) (cond (small (ℓ x5+ℓ ([((γ x0 x6.toNat ba).2.1,((γ x0 x6.toNat ba).2.2.1,()))]))) (bL x0 x1 (x5++([((γ x0 x6.toNat ba).2.1,((γ x0 x6.toNat ba).2.2.1,()))])) (W .i64 (x6+1))) none) none) none) (bL x0 x1 x5 (W .i64 (x6+1)))) none) (some x5)
def mL.l5(N:Nat):Nat→mL.bK
 |0,_,_,_,_=>none
 |n+1,x0,x1,x5,x6=>mL.eA N (mL.l5 N n) x0 x1 x5 x6
def mL.b(eW:mL.bK)(a0:au)(a1:Int):Option aE:=
 (Av N a0).bind λr1=>cond (!r1) (some ([])) (eW a0 a1 ([]) 0)
def mL(a0:au)(a1:Int):Option aE:=mL.b N (mL.l5 N N) a0 a1
abbrev iM.eZ:=aY→Int→au→Int→de→Int→Option au
abbrev iM.dR:=aY→Int→au→Int→Option au
def iM.oP(N:Nat)(dt:iM.dR)(eV:iM.eZ)(x0:aY)(x1:Int)(x5:au)(x6:Int)(x7:de)(x8:Int):Option au:=
 cond (aX x8 (ℓ x0)) (cond (bc x8 (ℓ x0)) (cond (!aN (γ x0 x8.toNat eF).2.1 x1) (eV x0 x1 x5 x6 x7 (W .i64 (x8+1))) (cond (bc x8 (ℓ x0)) (cond (!aN (γ x0 x8.toNat eF).2.2.1 x6) (eV x0 x1 x5 x6 x7 (W .i64 (x8+1))) (cond (bc x8 (ℓ x0)) (cond (aN (γ x0 x8.toNat eF).2.2.2.1 1) (cond (bc x8 (ℓ x0)) (eV x0 x1 x5 x6 (x7.1,((W .i64 (x7.2.1+((γ x0 x8.toNat eF).2.2.2.2.1))),x7.2.2)) (W .i64 (x8+1))) none) (cond (bc x8 (ℓ x0)) (eV x0 x1 x5 x6 (x7.1,(x7.2.1,((W .i64 (x7.2.2.1+((γ x0 x8.toNat eF).2.2.2.2.1))),x7.2.2.2))) (W .i64 (x8+1))) none)) none)) none)) none) (cond (aX 0 x7.2.1) (cond (small (ℓ x5+ℓ ([x7]))) (dt x0 x1 (x5++([x7])) (W .i64 (x6+1))) none) (cond (aX 0 x7.2.2.1) (cond (small (ℓ x5+ℓ ([x7]))) (dt x0 x1 (x5++([x7])) (W .i64 (x6+1))) none) (dt x0 x1 x5 (W .i64 (x6+1)))))
def iM.l7(N:Nat)(dt:iM.dR):Nat→iM.eZ
 |0,_,_,_,_,_,_=>none
 |n+1,x0,x1,x5,x6,x7,x8=>iM.oP N dt (iM.l7 N dt n) x0 x1 x5 x6 x7 x8
def iM.nw(N:Nat)(s8:iM.eZ)(dt:iM.dR)(x0:aY)(x1:Int)(x5:au)(x6:Int):Option au:=
 cond (aX x6 6) (s8 x0 x1 x5 x6 (x6,da) 0) (some x5)
def iM.l3(N:Nat):Nat→iM.dR
 |0,_,_,_,_=>none
 |n+1,x0,x1,x5,x6=>iM.nw N (iM.l7 N (iM.l3 N n) N) (iM.l3 N n) x0 x1 x5 x6
def iM.b(N:Nat)(oK:iM.dR)(a0:aY)(a1:Int):Option au:=
 oK a0 a1 ([]) 0
def iM(a0:aY)(a1:Int):Option au:=iM.b N (iM.l3 N N) a0 a1
abbrev ov.bO:=aE→ae→Int→Option Bool
def ov.dU(N:Nat)(cH:ov.bO)(x1:aE)(x2:ae)(x5:Int):Option Bool:=
 cond (aX x5 (ℓ x1)) (cond (bc x5 (ℓ x1)) (cond (aX (γ x1 x5.toNat da).1 0) (some false) (cond (bc x5 (ℓ x1)) (cond (du (ℓ x2.1) (γ x1 x5.toNat da).1) (some false) (cond (bc x5 (ℓ x1)) (cond (aN (γ x1 x5.toNat da).2.1 0) (some false) (cond (bc x5 (ℓ x1)) (cond (aN (γ x1 x5.toNat da).2.1 (-9223372036854775808)) (some false) (cond (aX 0 x5) (cond (bc x5 (ℓ x1)) (let v3:Int:=W .i64 (x5-1);cond (bc v3 (ℓ x1)) (cond (du (γ x1 x5.toNat da).1 (γ x1 v3.toNat da).1) (some false) (cH x1 x2 (W .i64 (x5+1)))) none) none) (cH x1 x2 (W .i64 (x5+1))))) none)) none)) none)) none) (some true)
def ov.l4(N:Nat):Nat→ov.bO
 |0,_,_,_=>none
 |n+1,x1,x2,x5=>ov.dU N (ov.l4 N n) x1 x2 x5
def ov.b(fa:ov.bO)(a0:ae)(a1:aE):Option Bool:=
 (m7 N a0).bind λr1=>cond (!r1) (some false) (fa a1 a0 0)
def ov(a0:ae)(a1:aE):Option Bool:=ov.b N (ov.l4 N N) a0 a1
abbrev rn.bK:=au→ae→Int→Int→Option Bool
def rn.eA(N:Nat)(bL:rn.bK)(x1:au)(x2:ae)(x5 x6:Int):Option Bool:=
 cond (aX x6 (ℓ x1)) (cond (bc x6 (ℓ x1)) (cond (aX (γ x1 x6.toNat ba).1 0) (some false) (cond (du (ℓ x2.1) (γ x1 x6.toNat ba).1) (some false) (cond (aX (γ x1 x6.toNat ba).2.1 0) (some false) (cond (aX x5 (γ x1 x6.toNat ba).2.1) (some false) (cond (aX (γ x1 x6.toNat ba).2.2.1 0) (some false) (cond (aX x5 (γ x1 x6.toNat ba).2.2.1) (some false) (cond (aN (γ x1 x6.toNat ba).2.1 0) (cond (aN (γ x1 x6.toNat ba).2.2.1 0) (some false) (cond (aX 0 x6) (let v3:Int:=W .i64 (x6-1);cond (bc v3 (ℓ x1)) (cond (du (γ x1 x6.toNat ba).1 (γ x1 v3.toNat ba).1) (some false) (bL x1 x2 x5 (W .i64 (x6+1)))) none) (bL x1 x2 x5 (W .i64 (x6+1))))) (cond (aX 0 x6) (let v6:Int:=W .i64 (x6-1);cond (bc v6 (ℓ x1)) (cond (du (γ x1 x6.toNat ba).1 (γ x1 v6.toNat ba).1) (some false) (bL x1 x2 x5 (W .i64 (x6+1)))) none) (bL x1 x2 x5 (W .i64 (x6+1))))))))))) none) (some true)
def rn.l5(N:Nat):Nat→rn.bK
 |0,_,_,_,_=>none
 |n+1,x1,x2,x5,x6=>rn.eA N (rn.l5 N n) x1 x2 x5 x6
def rn.b(eW:rn.bK)(a0:ae)(a1:au):Option Bool:=
 (m7 N a0).bind λr1=>cond (!r1) (some false) (eW a1 a0 33000000000 0)
def rn(a0:ae)(a1:au):Option Bool:=rn.b N (rn.l5 N N) a0 a1
def Zb(a0:aM):Option aM:=
 (Za N false a0.2.1).bind λr1=>some r1
def R3(a0 a1:aM):Option Int:=
 (Uo N a0 a1).bind λr1=>(Sq N r1).bind λr2=>some r2
abbrev jS.iO:=au→Int→aM→aM→aM→aM→Int→Option (aM×(Int))
abbrev jS.eZ:=aE→au→Int→aM→aM→aM→aM→Int→Option (aM×(Int))
def jS.nK(lB:jS.iO)(x2:au)(x3:Int)(x8 bm:aM)(a7 bp:aM)(cY:Int):Option (aM×(Int)):=
 cond (aX cY (ℓ x2)) (cond (bc cY (ℓ x2)) (cond (aN (γ x2 cY.toNat ba).1 x3) (cond (bc cY (ℓ x2)) ((lh N (γ x2 cY.toNat ba).2.1).bind λr8=>cond (bc cY (ℓ x2)) ((lh N (γ x2 cY.toNat ba).2.2.1).bind λr9=>lB x2 x3 x8 bm r8 r9 (W .i64 (cY+1))) none) none) (lB x2 x3 x8 bm a7 bp (W .i64 (cY+1)))) none) ((BE N bm a7).bind λoR=>(Zb N oR).bind λpq=>(Uo N bm bp).bind λtj=>(Zb N tj).bind λvn=>(R3 N vn pq).bind λwu=>cond (aX 0 wu) (some (vn,0)) (some (pq,0)))
def jS.oM(N:Nat):Nat→jS.iO
 |0,_,_,_,_,_,_,_=>none
 |n+1,x2,x3,x8,bm,a7,bp,cY=>jS.nK N (jS.oM N n) x2 x3 x8 bm a7 bp cY
def jS.oP(vi:jS.iO)(eV:jS.eZ)(x1:aE)(x2:au)(x3:Int)(x8 bm:aM)(a7 bp:aM)(ch:Int):Option (aM×(Int)):=
 cond (aX ch (ℓ x1)) (cond (bc ch (ℓ x1)) (cond (aN (γ x1 ch.toNat da).1 x3) (cond (bc ch (ℓ x1)) ((lh N (γ x1 ch.toNat da).2.1).bind λr4=>eV x1 x2 x3 x8 r4 a7 bp (W .i64 (ch+1))) none) (eV x1 x2 x3 x8 bm a7 bp (W .i64 (ch+1)))) none) (vi x2 x3 x8 bm a7 bp 0)
def jS.l7(N:Nat):Nat→jS.eZ
 |0,_,_,_,_,_,_,_,_=>none
 |n+1,x1,x2,x3,x8,bm,a7,bp,ch=>jS.oP N (jS.oM N N) (jS.l7 N n) x1 x2 x3 x8 bm a7 bp ch
def jS.b(s8:jS.eZ)(a0:ae)(a1:aE)(a2:au)(a3:Int):Option (aM×(Int)):=
 (ov N a0 a1).bind λr1=>cond (!r1) (some ((false,qx),1)) ((rn N a0 a2).bind λr2=>cond (!r2) (some ((false,qx),1)) (cond (aX a3 0) (some ((false,qx),3)) (cond (du (ℓ a0.1) a3) (some ((false,qx),3)) (s8 a1 a2 a3 (false,qx) (false,qx) (false,qx) (false,qx) 0))))
def jS(a0:ae)(a1:aE)(a2:au)(a3:Int):Option (aM×(Int)):=jS.b N (jS.l7 N N) a0 a1 a2 a3
abbrev kO.MZ:=aM→aM→aM→(List Int)→Int→Int→Int→Option aM
abbrev kO.eZ:=aM→aM→aM→(List Int)→Int→Int→Int→Option aM
abbrev kO.dR:=aM→aM→aM→(List Int)→Int→Option aM
def kO.Js(dt:kO.dR)(eV:kO.eZ)(x2 x3 x4:aM)(x5:List Int)(x6 x7 x8:Int):Option aM:=
 let v7:Int:=W .i64 (x6+x8);cond (bc v7 (ℓ x5)) (cond (bc x6 (ℓ x2.2.1)) ((F93 N x3.2.1 x8).bind λr8=>let v11:Int:=W .u64 (x7+(W .u64 ((γ x5 v7.toNat 0)+(W .u64 ((γ x2.2.1 x6.toNat 0)*r8)))));let Vi:Int:=W .i64 (x6+x8);cond (bc Vi (ℓ x5)) (cond (aX 32 0) none (eV x2 x3 x4 (List.set x5 Vi.toNat (sd .and .u64 v11 4294967295)) x6 (shr .u64 v11 32) (W .i64 (x8+1)))) none) none) none
def kO.j9(dt:kO.dR)(eV:kO.eZ)(x2 x3 x4:aM)(x5:List Int)(x6 x7 x8:Int):Option aM:=kO.Js N dt eV x2 x3 x4 x5 x6 x7 x8
def kO.oP(N:Nat)(Cm:kO.MZ)(dt:kO.dR)(eV:kO.eZ)(x2 x3 x4:aM)(x5:List Int)(x6 x7 x8:Int):Option aM:=
 cond (aX x8 (ℓ x3.2.1)) (Cm x2 x3 x4 x5 x6 x7 x8) (cond (aX 0 x7) (Cm x2 x3 x4 x5 x6 x7 x8) (dt x2 x3 x4 x5 (W .i64 (x6+1))))
def kO.l7(N:Nat)(dt:kO.dR):Nat→kO.eZ
 |0,_,_,_,_,_,_,_=>none
 |n+1,x2,x3,x4,x5,x6,x7,x8=>kO.oP N (kO.j9 N dt (kO.l7 N dt n)) dt (kO.l7 N dt n) x2 x3 x4 x5 x6 x7 x8
def kO.nw(s8:kO.eZ)(dt:kO.dR)(x2 x3 x4:aM)(x5:List Int)(x6:Int):Option aM:=
 cond (aX x6 (ℓ x2.2.1)) (s8 x2 x3 x4 x5 x6 0 0) ((Za N (!(pC .bool x2.1 x3.1)) x5).bind λw3=>some w3)
def kO.l3(N:Nat):Nat→kO.dR
 |0,_,_,_,_,_=>none
 |n+1,x2,x3,x4,x5,x6=>kO.nw N (kO.l7 N (kO.l3 N n) N) (kO.l3 N n) x2 x3 x4 x5 x6
def kO.b(N:Nat)(oK:kO.dR)(a0 a1:aM):Option aM:=
 let v2:Int:=W .i64 ((W .i64 ((ℓ a0.2.1:Int)+(ℓ a1.2.1:Int)))+1);cond (kT v2 v2) (oK a0 a1 (false,qx) (List.replicate v2.toNat 0) 0) none
def kO(a0 a1:aM):Option aM:=kO.b N (kO.l3 N N) a0 a1
abbrev rp.bK:=aE→au→ae→aM→aM→Int→Option (aM×(Int))
def rp.eA(bL:rp.bK)(x1:aE)(x2:au)(x3:ae)(x6 x8:aM)(x9:Int):Option (aM×(Int)):=
 cond (aX x9 (ℓ x3.1)) ((jS N x3 x1 x2 x9).bind λr4=>cond (bc x9 (ℓ x3.1)) ((lh N (γ x3.1 x9.toNat bb).2.2.1).bind λr5=>(kO N r4.1 r5).bind λr6=>(BE N x8 r6).bind λr7=>bL x1 x2 x3 x6 r7 (W .i64 (x9+1))) none) (some (x8,0))
def rp.l5(N:Nat):Nat→rp.bK
 |0,_,_,_,_,_,_=>none
 |n+1,x1,x2,x3,x6,x8,x9=>rp.eA N (rp.l5 N n) x1 x2 x3 x6 x8 x9
def rp.b(eW:rp.bK)(a0:ae)(a1:aE)(a2:au):Option (aM×(Int)):=
 (ov N a0 a1).bind λr1=>cond (!r1) (some ((false,qx),1)) ((rn N a0 a2).bind λr2=>cond (!r2) (some ((false,qx),1)) (eW a1 a2 a0 (false,qx) (false,qx) 0))
def rp(a0:ae)(a1:aE)(a2:au):Option (aM×(Int)):=rp.b N (rp.l5 N N) a0 a1 a2
def Z8(a0:ae)(a1:an)(a2:Int)(a3:aY):Option aM:=
 cond (small (ℓ dm+ℓ a1.2.2.2.2.2.1)) (let v1:List ((Int)×((Int)×((Int)×((Int)×((Int)×((Int)×(Unit))))))):=dm++a1.2.2.2.2.2.1;cond (small (ℓ v1+ℓ a3)) ((mL N a1.2.2.2.1 a2).bind λr3=>(iM N (v1++a3) a2).bind λr4=>(rp N a0 r3 r4).bind λr5=>some r5.1) none) none
def W4(a0:ae)(a1:an)(a2 a3:Int):Option (an×(Int)):=
 (gH N a0 a1).bind λr1=>cond (!r1) (some ((cf,(cS,(bn,(bn,(dd,(dm,())))))),1)) (cond (aX a3 1) (some ((cf,(cS,(bn,(bn,(dd,(dm,())))))),1)) ((XW N a1.2.1 a2).bind λr2=>cond (!r2.2) (some ((cf,(cS,(bn,(bn,(dd,(dm,())))))),3)) ((Uu N a1.1 r2.1.2.1).bind λr3=>cond (!aN r3 1) (some ((cf,(cS,(bn,(bn,(dd,(dm,())))))),7)) ((vm N a1.2.2.1 5 a2).bind λr4=>(lh N r4).bind λr5=>(lh N a3).bind λr6=>(Uo N r5 r6).bind λr7=>(Z8 N a0 a1 a2 dm).bind λr8=>(R3 N r7 r8).bind λr9=>cond (aX r9 0) (some ((cf,(cS,(bn,(bn,(dd,(dm,())))))),10)) ((lh N a3).bind λke=>(Dj N 5 a2 1 0 ke).bind λnF=>(zt N a1 bn nF).bind λoR=>some (oR.1,oR.2))))))
def Ie(a0:aQ)(a1:Int):Option Int:=
 (Uu N a0.2.2.1.1 a1).bind λr1=>some r1
abbrev oE.jX:=Int→Int→aO→Int→Option (aO×(Int))
def oE.Ec(N:Nat)(gD:oE.jX)(x1 x2:Int)(bm:aO)(a7:Int):Option (aO×(Int)):=
 cond (aX a7 (ℓ bm)) (cond (bc a7 (ℓ bm)) (cond (aN (γ bm a7.toNat bb).1 x1) (cond (bc a7 (ℓ bm)) (gD x1 x2 (List.set bm a7.toNat ((γ bm a7.toNat bb).1,((γ bm a7.toNat bb).2.1,((γ bm a7.toNat bb).2.2.1,(x2,(γ bm a7.toNat bb).2.2.2.2))))) (W .i64 (a7+1))) none) (gD x1 x2 bm (W .i64 (a7+1)))) none) (some (bm,0))
def oE.l8(N:Nat):Nat→oE.jX
 |0,_,_,_,_=>none
 |n+1,x1,x2,bm,a7=>oE.Ec N (oE.l8 N n) x1 x2 bm a7
def oE.b(IJ:oE.jX)(a0:aO)(a1 a2:Int):Option (aO×(Int)):=
 (eY N a0).bind λr1=>cond (!r1) (some ([],1)) (cond (aX a2 0) (some ([],1)) (cond (aX 1000000000000 a2) (some ([],1)) ((oQ N a0 a1).bind λr2=>cond (!r2.2) (some ([],3)) (cond (small (ℓ cS+ℓ a0)) (IJ a1 a2 (cS++a0) 0) none))))
def oE(a0:aO)(a1 a2:Int):Option (aO×(Int)):=oE.b N (oE.l8 N N) a0 a1 a2
def ady(a0:fV)(a1:Int):Option (aM×(Int)):=
 (SC N a0).bind λr1=>cond (!r1) (some ((false,qx),1)) ((EZ N a1).bind λr2=>cond (!r2) (some ((false,qx),1)) (let v3:Int:=W .i64 (a0.2.2.2.2.2.1-a1);cond (aN a0.2.2.2.1 2) (let v4:Int:=W .i64 (a1-a0.2.2.2.2.2.1);cond (aX v4 0) (some ((false,qx),0)) ((lh N a0.2.2.2.2.1).bind λr5=>(lh N v4).bind λr6=>(kO N r5 r6).bind λr7=>some (r7,0))) (cond (aX v3 0) (some ((false,qx),0)) ((lh N a0.2.2.2.2.1).bind λr8=>(lh N v3).bind λr9=>(kO N r8 r9).bind λke=>some (ke,0)))))
def Z9(a0:ae)(a1:an)(a2:fV):Option Int:=
 (gH N a0 a1).bind λr1=>cond (!r1) (some 1) ((SC N a2).bind λr2=>cond (!r2) (some 1) ((XW N a1.2.1 a2.2.1).bind λr3=>cond (!r3.2) (some 3) ((Uu N a1.1 r3.1.2.1).bind λr4=>cond (!aN r4 1) (some 7) (cond (du (ℓ a0.1) a2.2.2.1) (some 3) (cond (small (ℓ dm+ℓ a1.2.2.2.2.2.1)) (let v5:List ((Int)×((Int)×((Int)×((Int)×((Int)×((Int)×(Unit))))))):=dm++a1.2.2.2.2.2.1;cond (small (ℓ v5+ℓ ([a2]))) ((mL N a1.2.2.2.1 a2.2.1).bind λr7=>(iM N (v5++([a2])) a2.2.1).bind λr8=>(jS N a0 r7 r8 a2.2.2.1).bind λr9=>(lh N r3.1.2.2.2.1).bind λke=>(R3 N r9.1 ke).bind λnF=>cond (aX 0 nF) (some 9) (cond (bc a2.2.2.1 (ℓ a1.2.2.2.2.1)) ((ady N a2 (γ a1.2.2.2.2.1 a2.2.2.1.toNat 0)).bind λoR=>(vm N a1.2.2.1 5 a2.2.1).bind λpq=>(lh N pq).bind λtj=>(Uo N tj oR.1).bind λvn=>(Z8 N a0 a1 a2.2.1 ([a2])).bind λwu=>(R3 N vn wu).bind λwY=>cond (aX wY 0) (some 10) (some 0)) none)) none) none)))))
def W3(N:Nat)(a0 a1:fV):Option Bool:=
 cond (!aN a0.2.2.2.2.2.1 a1.2.2.2.2.2.1) (some (pC .bool (aX a1.2.2.2.2.2.1 a0.2.2.2.2.2.1) (aN a0.2.2.2.1 1))) (some (aX a0.1 a1.1))
abbrev et.IL:=aY→Int→Int→aY→Int→Int→Option aY
abbrev et.lC:=aY→Int→Int→aY→Int→Int→Option aY
abbrev et.bK:=aY→Int→Int→aY→Int→Option aY
def et.yr(N:Nat)(bL:et.bK)(x0:aY)(x1 x2:Int)(x7:aY)(x8 x9:Int):Option aY:=
 cond (jq 0 x9 (ℓ x7) (ℓ x7)) (let v9:List ((Int)×((Int)×((Int)×((Int)×((Int)×((Int)×(Unit))))))):=List.drop (0:Int).toNat (List.take x9.toNat x7);cond (small (ℓ v9)) (cond (bc x8 (ℓ x0)) (cond (small (ℓ v9+ℓ ([γ x0 x8.toNat eF]))) (let v10:List ((Int)×((Int)×((Int)×((Int)×((Int)×((Int)×(Unit))))))):=v9++([γ x0 x8.toNat eF]);cond (jq x9 (ℓ x7) (ℓ x7) (ℓ x7)) (let v11:List ((Int)×((Int)×((Int)×((Int)×((Int)×((Int)×(Unit))))))):=List.drop x9.toNat (List.take (ℓ x7:Int).toNat x7);cond (small (ℓ v10+ℓ v11)) (bL x0 x1 x2 (v10++v11) (W .i64 (x8+1))) none) none) none) none) none) none
def et.E9(bL:et.bK)(x0:aY)(x1 x2:Int)(x7:aY)(x8 x9:Int):Option aY:=et.yr N bL x0 x1 x2 x7 x8 x9
def et.vN(yz:et.IL)(bL:et.bK)(oU:et.lC)(x0:aY)(x1 x2:Int)(x7:aY)(x8 x9:Int):Option aY:=
 cond (aX x9 (ℓ x7)) (cond (bc x9 (ℓ x7)) (cond (bc x8 (ℓ x0)) ((W3 N (γ x7 x9.toNat eF) (γ x0 x8.toNat eF)).bind λr6=>cond (r6) (oU x0 x1 x2 x7 x8 (W .i64 (x9+1))) (yz x0 x1 x2 x7 x8 x9)) none) none) (yz x0 x1 x2 x7 x8 x9)
def et.l9(N:Nat)(bL:et.bK):Nat→et.lC
 |0,_,_,_,_,_,_=>none
 |n+1,x0,x1,x2,x7,x8,x9=>et.vN N (et.E9 N bL) bL (et.l9 N bL n) x0 x1 x2 x7 x8 x9
def et.eA(N:Nat)(yx:et.lC)(bL:et.bK)(x0:aY)(x1 x2:Int)(x7:aY)(x8:Int):Option aY:=
 cond (aX x8 (ℓ x0)) (cond (bc x8 (ℓ x0)) (cond (!aN (γ x0 x8.toNat eF).2.2.1 x1) (bL x0 x1 x2 x7 (W .i64 (x8+1))) (cond (bc x8 (ℓ x0)) (cond (!aN (γ x0 x8.toNat eF).2.2.2.1 x2) (bL x0 x1 x2 x7 (W .i64 (x8+1))) (yx x0 x1 x2 x7 x8 0)) none)) none) (some x7)
def et.l5(N:Nat):Nat→et.bK
 |0,_,_,_,_,_=>none
 |n+1,x0,x1,x2,x7,x8=>et.eA N (et.l9 N (et.l5 N n) N) (et.l5 N n) x0 x1 x2 x7 x8
def et.b(eW:et.bK)(a0:aY)(a1 a2:Int):Option aY:=
 (nJ N a0).bind λr1=>cond (!r1) (some ([])) (eW a0 a1 a2 ([]) 0)
def et(a0:aY)(a1 a2:Int):Option aY:=et.b N (et.l5 N N) a0 a1 a2
abbrev cA.yB:=aY→Int→bf→aY→Int→Option (aY×bf×(Int)×(Int))
abbrev cA.aq5:=aY→Int→bf→Option (aY×bf×(Int)×(Int))
abbrev cA.yC:=fV→aY→Int→bf→aY→Int→Int→Int→Option (aY×bf×(Int)×(Int))
abbrev cA.IK:=fV→aY→Int→bf→aY→Int→Int→iu→Option (aY×bf×(Int)×(Int))
abbrev cA.Ll:=fV→aY→Int→bf→aY→Int→Option (aY×bf×(Int)×(Int))
abbrev cA.eZ:=fV→aY→Int→bf→aY→Int→Option (aY×bf×(Int)×(Int))
def cA.PU(N:Nat)(wN:cA.yB)(x8:aY)(x9:Int)(bm:bf)(fx:aY)(ga:Int):Option (aY×bf×(Int)×(Int)):=
 cond (aX ga (ℓ x8)) (cond (bc ga (ℓ x8)) (cond (aX 0 (γ x8 ga.toNat eF).2.2.2.2.1) (cond (bc ga (ℓ x8)) (cond (small (ℓ fx+ℓ ([γ x8 ga.toNat eF]))) (wN x8 x9 bm (fx++([γ x8 ga.toNat eF])) (W .i64 (ga+1))) none) none) (wN x8 x9 bm fx (W .i64 (ga+1)))) none) (some (fx,bm,x9,0))
def cA.Nm(N:Nat):Nat→cA.yB
 |0,_,_,_,_,_=>none
 |n+1,x8,x9,bm,fx,ga=>cA.PU N (cA.Nm N n) x8 x9 bm fx ga
def cA.adG(N:Nat)(abm:cA.yB)(x8:aY)(x9:Int)(bm:bf):Option (aY×bf×(Int)×(Int)):=
 abm x8 x9 bm ([]) 0
def cA.j22(x8:aY)(x9:Int)(bm:bf):Option (aY×bf×(Int)×(Int)):=cA.adG N (cA.Nm N N) x8 x9 bm
def cA.Fa(N:Nat)(eV:cA.eZ)(IN:cA.yC)(x3:fV)(x8:aY)(x9:Int)(bm:bf)(a7:aY)(bp ch eB:Int):Option (aY×bf×(Int)×(Int)):=
 cond (aX eB (ℓ x8)) (cond (bc eB (ℓ x8)) (cond (bc bp (ℓ a7)) (cond (aN (γ x8 eB.toNat eF).1 (γ a7 bp.toNat eF).1) (cond (bc eB (ℓ x8)) (cond (bc eB (ℓ x8)) (IN x3 (List.set x8 eB.toNat ((γ x8 eB.toNat eF).1,((γ x8 eB.toNat eF).2.1,((γ x8 eB.toNat eF).2.2.1,((γ x8 eB.toNat eF).2.2.2.1,((W .i64 ((γ x8 eB.toNat eF).2.2.2.2.1-ch)),(γ x8 eB.toNat eF).2.2.2.2.2)))))) x9 bm a7 bp ch (W .i64 (eB+1))) none) none) (IN x3 x8 x9 bm a7 bp ch (W .i64 (eB+1)))) none) none) (eV x3 x8 x9 bm a7 (W .i64 (bp+1)))
def cA.I5(N:Nat)(eV:cA.eZ):Nat→cA.yC
 |0,_,_,_,_,_,_,_,_=>none
 |n+1,x3,x8,x9,bm,a7,bp,ch,eB=>cA.Fa N eV (cA.I5 N eV n) x3 x8 x9 bm a7 bp ch eB
def cA.wZ(N:Nat)(Qy:cA.yC)(eV:cA.eZ)(x3:fV)(x8:aY)(x9:Int)(bm:bf)(a7:aY)(bp ch:Int)(cY:iu):Option (aY×bf×(Int)×(Int)):=
 cond (small (ℓ bm+ℓ ([cY]))) (Qy x3 x8 (W .i64 (x9-ch)) (bm++([cY])) a7 bp ch 0) none
def cA.Dg(eV:cA.eZ)(x3:fV)(x8:aY)(x9:Int)(bm:bf)(a7:aY)(bp ch:Int)(cY:iu):Option (aY×bf×(Int)×(Int)):=cA.wZ N (cA.I5 N eV N) eV x3 x8 x9 bm a7 bp ch cY
def cA.Dh(N:Nat)(wM:cA.IK)(eV:cA.eZ)(x3:fV)(x8:aY)(x9:Int)(bm:bf)(a7:aY)(bp:Int):Option (aY×bf×(Int)×(Int)):=
 cond (bc bp (ℓ a7)) (cond (aN (γ a7 bp.toNat eF).2.1 x3.2.1) (eV x3 x8 x9 bm a7 (W .i64 (bp+1))) (cond (bc bp (ℓ a7)) (let v14:Int:=mn x9 (γ a7 bp.toNat eF).2.2.2.2.1;cond (bc bp (ℓ a7)) (cond (bc bp (ℓ a7)) (cond (aN x3.2.2.2.1 2) (cond (bc bp (ℓ a7)) (wM x3 x8 x9 bm a7 bp v14 ((γ a7 bp.toNat eF).2.1,(x3.2.1,(x3.2.2.1,(v14,((γ a7 bp.toNat eF).2.2.2.2.2.1,())))))) none) (wM x3 x8 x9 bm a7 bp v14 (x3.2.1,((γ a7 bp.toNat eF).2.1,(x3.2.2.1,(v14,((γ a7 bp.toNat eF).2.2.2.2.2.1,()))))))) none) none) none)) none
def cA.JJ(eV:cA.eZ)(x3:fV)(x8:aY)(x9:Int)(bm:bf)(a7:aY)(bp:Int):Option (aY×bf×(Int)×(Int)):=cA.Dh N (cA.Dg N eV) eV x3 x8 x9 bm a7 bp
def cA.oP(N:Nat)(Qz:cA.aq5)(yD:cA.Ll)(eV:cA.eZ)(x3:fV)(x8:aY)(x9:Int)(bm:bf)(a7:aY)(bp:Int):Option (aY×bf×(Int)×(Int)):=
 cond (aX bp (ℓ a7)) (cond (aX 0 x9) (cond (aN x3.2.2.2.1 1) (cond (bc bp (ℓ a7)) (cond (aX x3.2.2.2.2.2.1 (γ a7 bp.toNat eF).2.2.2.2.2.1) (Qz x8 x9 bm) (cond (aN x3.2.2.2.1 2) (cond (bc bp (ℓ a7)) (cond (aX (γ a7 bp.toNat eF).2.2.2.2.2.1 x3.2.2.2.2.2.1) (Qz x8 x9 bm) (yD x3 x8 x9 bm a7 bp)) none) (yD x3 x8 x9 bm a7 bp))) none) (cond (aN x3.2.2.2.1 2) (cond (bc bp (ℓ a7)) (cond (aX (γ a7 bp.toNat eF).2.2.2.2.2.1 x3.2.2.2.2.2.1) (Qz x8 x9 bm) (yD x3 x8 x9 bm a7 bp)) none) (yD x3 x8 x9 bm a7 bp))) (Qz x8 x9 bm)) (Qz x8 x9 bm)
def cA.l7(N:Nat):Nat→cA.eZ
 |0,_,_,_,_,_,_=>none
 |n+1,x3,x8,x9,bm,a7,bp=>cA.oP N (cA.j22 N) (cA.JJ N (cA.l7 N n)) (cA.l7 N n) x3 x8 x9 bm a7 bp
def cA.b(s8:cA.eZ)(a0:aY)(a1:fV):Option (aY×bf×(Int)×(Int)):=
 (nJ N a0).bind λr1=>cond (!r1) (some ([],[],0,1)) ((SC N a1).bind λr2=>cond (!r2) (some ([],[],0,1)) (cond (small (ℓ dm+ℓ a0)) ((et N a0 a1.2.2.1 (W .i64 (3-a1.2.2.2.1))).bind λr5=>s8 a1 (dm++a0) a1.2.2.2.2.1 ([]) r5 0) none))
def cA(a0:aY)(a1:fV):Option (aY×bf×(Int)×(Int)):=cA.b N (cA.l7 N N) a0 a1
def ZK(a0:iu):Option Bool:=
 cond (du 0 a0.1) (cond (du a0.1 24) (cond (du 0 a0.2.1) (cond (du a0.2.1 24) (cond (!aN a0.1 a0.2.1) (cond (du 0 a0.2.2.1) (cond (aX a0.2.2.1 6) (cond (du 1 a0.2.2.2.1) (cond (du a0.2.2.2.1 1000000000) ((EZ N a0.2.2.2.2.1).bind λr1=>some r1) (some false)) (some false)) (some false)) (some false)) (some false)) (some false)) (some false)) (some false)) (some false)
def Ml(N:Nat)(a0:Int):Option ((Int)×(Int)):=
 cond (aN a0 0) (some (2,0)) (some (5,a0))
def Pm(a0:iu)(a1:Int):Option (bP×(Int)):=
 (ZK N a0).bind λr1=>cond (!r1) (some ([],1)) ((EZ N a1).bind λr2=>cond (!r2) (some ([],1)) ((lh N (W .i64 (a1-a0.2.2.2.2.1))).bind λr4=>(lh N a0.2.2.2.1).bind λr5=>(kO N r4 r5).bind λr6=>(Sq N r6).bind λr7=>cond (aN r7 0) (some ([],0)) ((Ml N a0.1).bind λr8=>(Ml N a0.2.1).bind λr9=>(XU N r6).bind λke=>some ([(r8.1,(r8.2,(r6,()))),(r9.1,(r9.2,(ke,())))],0))))
abbrev fm.yE:=bf→ae→an→an→au→bP→Int→Option (an×(Int))
abbrev fm.bO:=bf→ae→an→an→Int→Option (an×(Int))
def fm.yf(Co:fm.yE)(x2:bf)(x3:ae)(x4 x6:an)(x9:au)(bm:bP)(a7:Int):Option (an×(Int)):=
 cond (aX a7 (ℓ x2)) (cond (bc a7 (ℓ x2)) ((Ma N x4 (γ x2 a7.toNat gl).1).bind λr6=>cond (!r6) (some ((cf,(cS,(bn,(bn,(dd,(dm,())))))),3)) ((Ma N x4 (γ x2 a7.toNat gl).2.1).bind λr7=>cond (!r7) (some ((cf,(cS,(bn,(bn,(dd,(dm,())))))),3)) (cond (du (ℓ x3.1) (γ x2 a7.toNat gl).2.2.1) (some ((cf,(cS,(bn,(bn,(dd,(dm,())))))),3)) (let v8:Int:=W .i64 (0-((γ x2 a7.toNat gl).2.2.2.1));cond (small (ℓ x9+ℓ ([((γ x2 a7.toNat gl).1,((γ x2 a7.toNat gl).2.2.1,((γ x2 a7.toNat gl).2.2.2.1,()))),((γ x2 a7.toNat gl).2.1,((γ x2 a7.toNat gl).2.2.1,(v8,())))]))) (cond (bc (γ x2 a7.toNat gl).2.2.1 (ℓ x4.2.2.2.2.1)) ((Pm N (γ x2 a7.toNat gl) (γ x4.2.2.2.2.1 (γ x2 a7.toNat gl).2.2.1.toNat 0)).bind λke=>cond (small (ℓ bm+ℓ ke.1)) (Co x2 x3 x4 x6 (x9++([((γ x2 a7.toNat gl).1,((γ x2 a7.toNat gl).2.2.1,((γ x2 a7.toNat gl).2.2.2.1,()))),((γ x2 a7.toNat gl).2.1,((γ x2 a7.toNat gl).2.2.1,(v8,())))])) (bm++ke.1) (W .i64 (a7+1))) none) none) none)))) none) ((zt N x4 x9 bm).bind λpq=>some (pq.1,pq.2))
def fm.Al(N:Nat):Nat→fm.yE
 |0,_,_,_,_,_,_,_=>none
 |n+1,x2,x3,x4,x6,x9,bm,a7=>fm.yf N (fm.Al N n) x2 x3 x4 x6 x9 bm a7
def fm.dU(QA:fm.yE)(cH:fm.bO)(x2:bf)(x3:ae)(x4 x6:an)(x8:Int):Option (an×(Int)):=
 cond (aX x8 (ℓ x2)) (cond (bc x8 (ℓ x2)) ((ZK N (γ x2 x8.toNat gl)).bind λr3=>cond (!r3) (some ((cf,(cS,(bn,(bn,(dd,(dm,())))))),1)) (cH x2 x3 x4 x6 (W .i64 (x8+1)))) none) (QA x2 x3 x4 x6 ([]) ([]) 0)
def fm.l4(N:Nat):Nat→fm.bO
 |0,_,_,_,_,_=>none
 |n+1,x2,x3,x4,x6,x8=>fm.dU N (fm.Al N N) (fm.l4 N n) x2 x3 x4 x6 x8
def fm.b(fa:fm.bO)(a0:ae)(a1:an)(a2:bf):Option (an×(Int)):=
 (gH N a0 a1).bind λr1=>cond (!r1) (some ((cf,(cS,(bn,(bn,(dd,(dm,())))))),1)) (cond (aX 200 (ℓ a2)) (some ((cf,(cS,(bn,(bn,(dd,(dm,())))))),1)) (fa a2 a0 a1 (cf,(cS,(bn,(bn,(dd,(dm,())))))) 0))
def fm(a0:ae)(a1:an)(a2:bf):Option (an×(Int)):=fm.b N (fm.l4 N N) a0 a1 a2
abbrev jT.Ll:=ae→an→fV→an→aY→bf→Int→Option (an×bf×(Int)×(Int))
abbrev jT.abb:=ae→an→fV→an→Option (an×bf×(Int)×(Int))
def jT.Dh(x3:ae)(x4:an)(x5:fV)(x6:an)(bp:aY)(ch:bf)(cY:Int):Option (an×bf×(Int)×(Int)):=
 (fm N x3 x4 ch).bind λr6=>cond (!aN r6.2 0) (some ((cf,(cS,(bn,(bn,(dd,(dm,())))))),EL,0,r6.2)) (cond (aX 0 cY) (cond (small (ℓ bp+ℓ ([(x5.1,(x5.2.1,(x5.2.2.1,(x5.2.2.2.1,(cY,x5.2.2.2.2.2)))))]))) (some ((r6.1.1,(r6.1.2.1,(r6.1.2.2.1,(r6.1.2.2.2.1,(r6.1.2.2.2.2.1,((bp++([(x5.1,(x5.2.1,(x5.2.2.1,(x5.2.2.2.1,(cY,x5.2.2.2.2.2)))))])),r6.1.2.2.2.2.2.2)))))),ch,cY,0)) none) (some ((r6.1.1,(r6.1.2.1,(r6.1.2.2.1,(r6.1.2.2.2.1,(r6.1.2.2.2.2.1,(bp,r6.1.2.2.2.2.2.2)))))),ch,cY,0)))
def jT.JJ(x3:ae)(x4:an)(x5:fV)(x6:an)(bp:aY)(ch:bf)(cY:Int):Option (an×bf×(Int)×(Int)):=jT.Dh N x3 x4 x5 x6 bp ch cY
def jT.XV(yD:jT.Ll)(x3:ae)(x4:an)(x5:fV)(x6:an):Option (an×bf×(Int)×(Int)):=
 (cA N x4.2.2.2.2.2.1 x5).bind λr4=>cond (aX 0 r4.2.2.1) (cond (aN (ℓ r4.1) 32) (some ((cf,(cS,(bn,(bn,(dd,(dm,())))))),EL,0,5)) (yD x3 x4 x5 x6 r4.1 r4.2.1 r4.2.2.1)) (yD x3 x4 x5 x6 r4.1 r4.2.1 r4.2.2.1)
def jT.j7(x3:ae)(x4:an)(x5:fV)(x6:an):Option (an×bf×(Int)×(Int)):=jT.XV N (jT.JJ N) x3 x4 x5 x6
def jT.b(JO:jT.abb)(a0:ae)(a1:an)(a2:fV):Option (an×bf×(Int)×(Int)):=
 (Z9 N a0 a1 a2).bind λr1=>cond (!aN r1 0) (some ((cf,(cS,(bn,(bn,(dd,(dm,())))))),EL,0,r1)) (cond (aX 0 (ℓ a1.2.2.2.2.2.1)) (let v2:Int:=W .i64 ((ℓ a1.2.2.2.2.2.1:Int)-1);cond (bc v2 (ℓ a1.2.2.2.2.2.1)) (cond (du a2.1 (γ a1.2.2.2.2.2.1 v2.toNat eF).1) (some ((cf,(cS,(bn,(bn,(dd,(dm,())))))),EL,0,1)) (JO a0 a1 a2 (cf,(cS,(bn,(bn,(dd,(dm,())))))))) none) (JO a0 a1 a2 (cf,(cS,(bn,(bn,(dd,(dm,()))))))))
def jT(a0:ae)(a1:an)(a2:fV):Option (an×bf×(Int)×(Int)):=jT.b N (jT.j7 N) a0 a1 a2
abbrev oG.bK:=aY→Int→Int→aY→Int→Option (aY×(Int))
def oG.eA(N:Nat)(bL:oG.bK)(x0:aY)(x1 x2:Int)(x8:aY)(x9:Int):Option (aY×(Int)):=
 cond (aX x9 (ℓ x0)) (cond (bc x9 (ℓ x0)) (cond (!aN (γ x0 x9.toNat eF).1 x2) (cond (bc x9 (ℓ x0)) (cond (small (ℓ x8+ℓ ([γ x0 x9.toNat eF]))) (bL x0 x1 x2 (x8++([γ x0 x9.toNat eF])) (W .i64 (x9+1))) none) none) (cond (bc x9 (ℓ x0)) (cond (!aN (γ x0 x9.toNat eF).2.1 x1) (cond (bc x9 (ℓ x0)) (cond (small (ℓ x8+ℓ ([γ x0 x9.toNat eF]))) (bL x0 x1 x2 (x8++([γ x0 x9.toNat eF])) (W .i64 (x9+1))) none) none) (bL x0 x1 x2 x8 (W .i64 (x9+1)))) none)) none) (cond (aN (ℓ x8) (ℓ x0)) (some ([],3)) (some (x8,0)))
def oG.l5(N:Nat):Nat→oG.bK
 |0,_,_,_,_,_=>none
 |n+1,x0,x1,x2,x8,x9=>oG.eA N (oG.l5 N n) x0 x1 x2 x8 x9
def oG.b(eW:oG.bK)(a0:aY)(a1 a2:Int):Option (aY×(Int)):=
 (nJ N a0).bind λr1=>cond (!r1) (some ([],1)) (eW a0 a1 a2 ([]) 0)
def oG(a0:aY)(a1 a2:Int):Option (aY×(Int)):=oG.b N (oG.l5 N N) a0 a1 a2
abbrev kf.kv:=au→Int→bP→aM→Int→Option (bP×(Int))
def kf.uU(lA:kf.kv)(x0:au)(x1:Int)(bm:bP)(a7:aM)(bp:Int):Option (bP×(Int)):=
 cond (aX bp (ℓ x0)) (cond (bc bp (ℓ x0)) (cond (!aN (γ x0 bp.toNat ba).2.1 x1) (lA x0 x1 bm a7 (W .i64 (bp+1))) ((Sq N a7).bind λr9=>cond (aN r9 0) (lA x0 x1 bm a7 (W .i64 (bp+1))) (cond (bc bp (ℓ x0)) ((Ml N (γ x0 bp.toNat ba).1).bind λnF=>cond (bc bp (ℓ x0)) ((lh N (γ x0 bp.toNat ba).2.2.1).bind λoR=>(kO N oR a7).bind λpq=>cond (small (ℓ bm+ℓ ([(nF.1,(nF.2,(pq,())))]))) (lA x0 x1 (bm++([(nF.1,(nF.2,(pq,())))])) a7 (W .i64 (bp+1))) none) none) none))) none) (some (bm,0))
def kf.l6(N:Nat):Nat→kf.kv
 |0,_,_,_,_,_=>none
 |n+1,x0,x1,bm,a7,bp=>kf.uU N (kf.l6 N n) x0 x1 bm a7 bp
def kf.b(yw:kf.kv)(a0:au)(a1 a2 a3:Int):Option (bP×(Int)):=
 (Av N a0).bind λr1=>cond (!r1) (some ([],1)) ((EZ N a2).bind λr2=>cond (!r2) (some ([],1)) ((EZ N a3).bind λr3=>cond (!r3) (some ([],1)) ((lh N a3).bind λr4=>(lh N a2).bind λr5=>(Uo N r4 r5).bind λr6=>yw a0 a1 ([]) r6 0)))
def kf(a0:au)(a1 a2 a3:Int):Option (bP×(Int)):=kf.b N (kf.l6 N N) a0 a1 a2 a3
def PV(a0:ae)(a1:an)(a2 a3:Int):Option (an×bP×(Int)):=
 (gH N a0 a1).bind λr1=>cond (!r1) (some ((cf,(cS,(bn,(bn,(dd,(dm,())))))),([]:List ((Int)×((Int)×(((Bool)×((List Int)×(Unit)))×(Unit))))),1)) ((EZ N a3).bind λr2=>cond (!r2) (some ((cf,(cS,(bn,(bn,(dd,(dm,())))))),([]:List ((Int)×((Int)×(((Bool)×((List Int)×(Unit)))×(Unit))))),1)) (cond (aX a2 0) (some ((cf,(cS,(bn,(bn,(dd,(dm,())))))),([]:List ((Int)×((Int)×(((Bool)×((List Int)×(Unit)))×(Unit))))),3)) (cond (du (ℓ a0.1) a2) (some ((cf,(cS,(bn,(bn,(dd,(dm,())))))),([]:List ((Int)×((Int)×(((Bool)×((List Int)×(Unit)))×(Unit))))),3)) (cond (bc a2 (ℓ a1.2.2.2.2.1)) ((kf N a1.2.2.2.1 a2 (γ a1.2.2.2.2.1 a2.toNat 0) a3).bind λr3=>(zt N a1 bn r3.1).bind λr4=>cond (!aN r4.2 0) (some ((cf,(cS,(bn,(bn,(dd,(dm,())))))),([]:List ((Int)×((Int)×(((Bool)×((List Int)×(Unit)))×(Unit))))),r4.2)) (cond (small (ℓ dd+ℓ a1.2.2.2.2.1)) (let v5:List Int:=dd++a1.2.2.2.2.1;cond (bc a2 (ℓ v5)) (some ((r4.1.1,(r4.1.2.1,(r4.1.2.2.1,(r4.1.2.2.2.1,((List.set v5 a2.toNat a3),r4.1.2.2.2.2.2))))),r3.1,0)) none) none)) none))))
abbrev rq.cX:=aE→Int→Option Bool
def rq.fG(N:Nat)(dW:rq.cX)(x0:aE)(x3:Int):Option Bool:=
 cond (aX x3 (ℓ x0)) (cond (bc x3 (ℓ x0)) (cond (aX (γ x0 x3.toNat da).1 1) (some false) (cond (bc x3 (ℓ x0)) (cond (aX 24 (γ x0 x3.toNat da).1) (some false) (cond (bc x3 (ℓ x0)) (cond (aN (γ x0 x3.toNat da).2.1 0) (some false) (cond (aX 0 x3) (cond (bc x3 (ℓ x0)) (let v2:Int:=W .i64 (x3-1);cond (bc v2 (ℓ x0)) (cond (du (γ x0 x3.toNat da).1 (γ x0 v2.toNat da).1) (some false) (dW x0 (W .i64 (x3+1)))) none) none) (dW x0 (W .i64 (x3+1))))) none)) none)) none) (some true)
def rq.l2(N:Nat):Nat→rq.cX
 |0,_,_=>none
 |n+1,x0,x3=>rq.fG N (rq.l2 N n) x0 x3
def rq.b(N:Nat)(gT:rq.cX)(a0:aE):Option Bool:=
 gT a0 0
def rq(a0:aE):Option Bool:=rq.b N (rq.l2 N N) a0
abbrev fp.yF:=aE→bP→aE→Int→aM→Int→Option (aE×(Int))
abbrev fp.lC:=aE→bP→aE→Int→aM→Int→Option (aE×(Int))
abbrev fp.bK:=aE→bP→aE→Int→Option (aE×(Int))
def fp.HM(bL:fp.bK)(EI:fp.yF)(x0:aE)(x1:bP)(x6:aE)(x7:Int)(x8:aM)(bm:Int):Option (aE×(Int)):=
 cond (aX bm (ℓ x1)) (cond (bc bm (ℓ x1)) (cond (aN (γ x1 bm.toNat (0,(0,((false,qx),())))).1 5) (cond (bc bm (ℓ x1)) (cond (aN (γ x1 bm.toNat (0,(0,((false,qx),())))).2.1 x7) (cond (bc bm (ℓ x1)) ((BE N x8 (γ x1 bm.toNat (0,(0,((false,qx),())))).2.2.1).bind λr8=>EI x0 x1 x6 x7 r8 (W .i64 (bm+1))) none) (EI x0 x1 x6 x7 x8 (W .i64 (bm+1)))) none) (EI x0 x1 x6 x7 x8 (W .i64 (bm+1)))) none) ((xV N x8).bind λoR=>cond (!oR.2) (some ([],2)) (cond (!aN oR.1 0) (cond (small (ℓ x6+ℓ ([(x7,(oR.1,()))]))) (bL x0 x1 (x6++([(x7,(oR.1,()))])) (W .i64 (x7+1))) none) (bL x0 x1 x6 (W .i64 (x7+1)))))
def fp.KI(N:Nat)(bL:fp.bK):Nat→fp.yF
 |0,_,_,_,_,_,_=>none
 |n+1,x0,x1,x6,x7,x8,bm=>fp.HM N bL (fp.KI N bL n) x0 x1 x6 x7 x8 bm
def fp.vN(QB:fp.yF)(bL:fp.bK)(oU:fp.lC)(x0:aE)(x1:bP)(x6:aE)(x7:Int)(x8:aM)(x9:Int):Option (aE×(Int)):=
 cond (aX x9 (ℓ x0)) (cond (bc x9 (ℓ x0)) (cond (aN (γ x0 x9.toNat da).1 x7) (cond (bc x9 (ℓ x0)) ((lh N (γ x0 x9.toNat da).2.1).bind λr4=>oU x0 x1 x6 x7 r4 (W .i64 (x9+1))) none) (oU x0 x1 x6 x7 x8 (W .i64 (x9+1)))) none) (QB x0 x1 x6 x7 x8 0)
def fp.l9(N:Nat)(bL:fp.bK):Nat→fp.lC
 |0,_,_,_,_,_,_=>none
 |n+1,x0,x1,x6,x7,x8,x9=>fp.vN N (fp.KI N bL N) bL (fp.l9 N bL n) x0 x1 x6 x7 x8 x9
def fp.eA(N:Nat)(yx:fp.lC)(bL:fp.bK)(x0:aE)(x1:bP)(x6:aE)(x7:Int):Option (aE×(Int)):=
 cond (du x7 24) (yx x0 x1 x6 x7 (false,qx) 0) (some (x6,0))
def fp.l5(N:Nat):Nat→fp.bK
 |0,_,_,_,_=>none
 |n+1,x0,x1,x6,x7=>fp.eA N (fp.l9 N (fp.l5 N n) N) (fp.l5 N n) x0 x1 x6 x7
def fp.b(eW:fp.bK)(a0:aE)(a1:bP):Option (aE×(Int)):=
 (rq N a0).bind λr1=>cond (!r1) (some ([],1)) (eW a0 a1 ([]) 1)
def fp(a0:aE)(a1:bP):Option (aE×(Int)):=fp.b N (fp.l5 N N) a0 a1
def Xg(a0:aQ)(a1:Int):Option ((Int)×(Bool)):=
 (lh N a0.1).bind λr1=>(lh N a1).bind λr2=>(BE N r1 r2).bind λr3=>(xV N r3).bind λr4=>some (r4.1,r4.2)
def W1(N:Nat)(a0 a1:Int):Option ((Int)×(Bool)):=
 cond (aN a0 0) (cond (aN a1 1) (some (1,true)) (cond (aN a0 1) (cond (aN a1 11) (some (2,true)) (cond (aN a0 2) (cond (aN a1 12) (some (1,true)) (cond (aN a0 2) (cond (aN a1 13) (some (3,true)) (cond (aN a0 3) (cond (aN a1 21) (some (4,true)) (some (0,false))) (some (0,false)))) (cond (aN a0 3) (cond (aN a1 21) (some (4,true)) (some (0,false))) (some (0,false))))) (cond (aN a0 2) (cond (aN a1 13) (some (3,true)) (cond (aN a0 3) (cond (aN a1 21) (some (4,true)) (some (0,false))) (some (0,false)))) (cond (aN a0 3) (cond (aN a1 21) (some (4,true)) (some (0,false))) (some (0,false)))))) (cond (aN a0 2) (cond (aN a1 12) (some (1,true)) (cond (aN a0 2) (cond (aN a1 13) (some (3,true)) (cond (aN a0 3) (cond (aN a1 21) (some (4,true)) (some (0,false))) (some (0,false)))) (cond (aN a0 3) (cond (aN a1 21) (some (4,true)) (some (0,false))) (some (0,false))))) (cond (aN a0 2) (cond (aN a1 13) (some (3,true)) (cond (aN a0 3) (cond (aN a1 21) (some (4,true)) (some (0,false))) (some (0,false)))) (cond (aN a0 3) (cond (aN a1 21) (some (4,true)) (some (0,false))) (some (0,false))))))) (cond (aN a0 1) (cond (aN a1 11) (some (2,true)) (cond (aN a0 2) (cond (aN a1 12) (some (1,true)) (cond (aN a0 2) (cond (aN a1 13) (some (3,true)) (cond (aN a0 3) (cond (aN a1 21) (some (4,true)) (some (0,false))) (some (0,false)))) (cond (aN a0 3) (cond (aN a1 21) (some (4,true)) (some (0,false))) (some (0,false))))) (cond (aN a0 2) (cond (aN a1 13) (some (3,true)) (cond (aN a0 3) (cond (aN a1 21) (some (4,true)) (some (0,false))) (some (0,false)))) (cond (aN a0 3) (cond (aN a1 21) (some (4,true)) (some (0,false))) (some (0,false)))))) (cond (aN a0 2) (cond (aN a1 12) (some (1,true)) (cond (aN a0 2) (cond (aN a1 13) (some (3,true)) (cond (aN a0 3) (cond (aN a1 21) (some (4,true)) (some (0,false))) (some (0,false)))) (cond (aN a0 3) (cond (aN a1 21) (some (4,true)) (some (0,false))) (some (0,false))))) (cond (aN a0 2) (cond (aN a1 13) (some (3,true)) (cond (aN a0 3) (cond (aN a1 21) (some (4,true)) (some (0,false))) (some (0,false)))) (cond (aN a0 3) (cond (aN a1 21) (some (4,true)) (some (0,false))) (some (0,false))))))
abbrev mN.yE:=Int→Int→aE→Int→Option (aE×(Int))
def mN.yf(N:Nat)(Co:mN.yE)(x1 x9:Int)(a7:aE)(bp:Int):Option (aE×(Int)):=
 cond (aX bp (ℓ a7)) (cond (bc bp (ℓ a7)) (cond (aN (γ a7 bp.toNat da).1 x1) (cond (bc bp (ℓ a7)) (Co x1 x9 (List.set a7 bp.toNat ((γ a7 bp.toNat da).1,(x9,(γ a7 bp.toNat da).2.2))) (W .i64 (bp+1))) none) (Co x1 x9 a7 (W .i64 (bp+1)))) none) (some (a7,0))
def mN.Al(N:Nat):Nat→mN.yE
 |0,_,_,_,_=>none
 |n+1,x1,x9,a7,bp=>mN.yf N (mN.Al N n) x1 x9 a7 bp
def mN.b(QA:mN.yE)(a0:aE)(a1 a2:Int):Option (aE×(Int)):=
 (Cu N a0).bind λr1=>cond (!r1) (some ([],1)) ((Aw N a0 a1).bind λr2=>cond (aN r2 0) (some ([],3)) ((W1 N r2 a2).bind λr3=>cond (!r3.2) (some ([],8)) (cond (small (ℓ cf+ℓ a0)) (QA a1 r3.1 (cf++a0) 0) none)))
def mN(a0:aE)(a1 a2:Int):Option (aE×(Int)):=mN.b N (mN.Al N N) a0 a1 a2
abbrev sP.bK:=aO→Int→(List Int)→Int→Option (List Int)
def sP.eA(N:Nat)(bL:sP.bK)(x0:aO)(x1:Int)(x5:List Int)(x6:Int):Option (List Int):=
 cond (aX x6 (ℓ x0)) (cond (bc x6 (ℓ x0)) (cond (aN (γ x0 x6.toNat bb).2.1 x1) (cond (bc x6 (ℓ x0)) (cond (small (ℓ x5+ℓ ([(γ x0 x6.toNat bb).1]))) (bL x0 x1 (x5++([(γ x0 x6.toNat bb).1])) (W .i64 (x6+1))) none) none) (bL x0 x1 x5 (W .i64 (x6+1)))) none) (some x5)
def sP.l5(N:Nat):Nat→sP.bK
 |0,_,_,_,_=>none
 |n+1,x0,x1,x5,x6=>sP.eA N (sP.l5 N n) x0 x1 x5 x6
def sP.b(eW:sP.bK)(a0:aO)(a1:Int):Option (List Int):=
 (eY N a0).bind λr1=>cond (!r1) (some ([])) (eW a0 a1 ([]) 0)
def sP(a0:aO)(a1:Int):Option (List Int):=sP.b N (sP.l5 N N) a0 a1
abbrev gC.lC:=aY→(List Int)→aY→Int→Bool→Int→Option aY
abbrev gC.bK:=aY→(List Int)→aY→Int→Option aY
def gC.vN(N:Nat)(bL:gC.bK)(oU:gC.lC)(x0:aY)(x1:List Int)(x5:aY)(x6:Int)(x7:Bool)(x8:Int):Option aY:=
 cond (aX x8 (ℓ x1)) (cond (x7) (oU x0 x1 x5 x6 true (W .i64 (x8+1))) (cond (bc x8 (ℓ x1)) (cond (bc x6 (ℓ x0)) (oU x0 x1 x5 x6 (aN (γ x1 x8.toNat 0) (γ x0 x6.toNat eF).2.1) (W .i64 (x8+1))) none) none)) (cond (!x7) (cond (bc x6 (ℓ x0)) (cond (small (ℓ x5+ℓ ([γ x0 x6.toNat eF]))) (bL x0 x1 (x5++([γ x0 x6.toNat eF])) (W .i64 (x6+1))) none) none) (bL x0 x1 x5 (W .i64 (x6+1))))
def gC.l9(N:Nat)(bL:gC.bK):Nat→gC.lC
 |0,_,_,_,_,_,_=>none
 |n+1,x0,x1,x5,x6,x7,x8=>gC.vN N bL (gC.l9 N bL n) x0 x1 x5 x6 x7 x8
def gC.eA(N:Nat)(yx:gC.lC)(bL:gC.bK)(x0:aY)(x1:List Int)(x5:aY)(x6:Int):Option aY:=
 cond (aX x6 (ℓ x0)) (yx x0 x1 x5 x6 false 0) (some x5)
def gC.l5(N:Nat):Nat→gC.bK
 |0,_,_,_,_=>none
 |n+1,x0,x1,x5,x6=>gC.eA N (gC.l9 N (gC.l5 N n) N) (gC.l5 N n) x0 x1 x5 x6
def gC.b(eW:gC.bK)(a0:aY)(a1:List Int):Option aY:=
 (nJ N a0).bind λr1=>cond (!r1) (some ([])) (eW a0 a1 ([]) 0)
def gC(a0:aY)(a1:List Int):Option aY:=gC.b N (gC.l5 N N) a0 a1
def ME(a0:ae)(a1:an)(a2:Int):Option (an×(Int)):=
 (gH N a0 a1).bind λr1=>cond (!r1) (some ((cf,(cS,(bn,(bn,(dd,(dm,())))))),1)) ((Uu N a1.1 a2).bind λr2=>cond (aN r2 0) (some ((cf,(cS,(bn,(bn,(dd,(dm,())))))),3)) ((sP N a1.2.1 a2).bind λr3=>(gC N a1.2.2.2.2.2.1 r3).bind λr4=>some ((a1.1,(a1.2.1,(a1.2.2.1,(a1.2.2.2.1,(a1.2.2.2.2.1,(r4,a1.2.2.2.2.2.2)))))),0)))
def Zo(N:Nat)(a0:cG):Option Bool:=
 cond (du 1 a0.1) (cond (du a0.1 1099511627776) (cond (du 1 a0.2.1) (cond (du a0.2.1 1099511627776) (cond (du 1 a0.2.2.1) (cond (du a0.2.2.1 12) (cond (du (-1152921504606846976) a0.2.2.2.1) (some (du a0.2.2.2.1 1152921504606846976)) (some false)) (some false)) (some false)) (some false)) (some false)) (some false)) (some false)
abbrev e8.lC:=aO→Int→Int→Option Bool
abbrev e8.abi:=aO→Int→Option Bool
abbrev e8.bO:=aO→Int→Option Bool
def e8.vN(N:Nat)(cH:e8.bO)(oU:e8.lC)(x0:aO)(x3 x4:Int):Option Bool:=
 cond (aX x4 x3) (cond (bc x4 (ℓ x0)) (cond (bc x3 (ℓ x0)) (cond (aN (γ x0 x4.toNat bb).2.2.1 (γ x0 x3.toNat bb).2.2.1) (cond (bc x4 (ℓ x0)) (cond (bc x3 (ℓ x0)) (cond (aN (γ x0 x4.toNat bb).2.1 (γ x0 x3.toNat bb).2.1) (some false) (oU x0 x3 (W .i64 (x4+1)))) none) none) (oU x0 x3 (W .i64 (x4+1)))) none) none) (cH x0 (W .i64 (x3+1)))
def e8.l9(N:Nat)(cH:e8.bO):Nat→e8.lC
 |0,_,_,_=>none
 |n+1,x0,x3,x4=>e8.vN N cH (e8.l9 N cH n) x0 x3 x4
def e8.Zz(N:Nat)(yx:e8.lC)(cH:e8.bO)(x0:aO)(x3:Int):Option Bool:=
 yx x0 x3 0
def e8.j8(cH:e8.bO)(x0:aO)(x3:Int):Option Bool:=e8.Zz N (e8.l9 N cH N) cH x0 x3
def e8.dU(Qu:e8.abi)(cH:e8.bO)(x0:aO)(x3:Int):Option Bool:=
 cond (aX x3 (ℓ x0)) (cond (bc x3 (ℓ x0)) ((Zo N (γ x0 x3.toNat bb)).bind λr2=>cond (!r2) (some false) (cond (aX 0 x3) (cond (bc x3 (ℓ x0)) (let v3:Int:=W .i64 (x3-1);cond (bc v3 (ℓ x0)) (cond (du (γ x0 x3.toNat bb).1 (γ x0 v3.toNat bb).1) (some false) (Qu x0 x3)) none) none) (Qu x0 x3))) none) (some true)
def e8.l4(N:Nat):Nat→e8.bO
 |0,_,_=>none
 |n+1,x0,x3=>e8.dU N (e8.j8 N (e8.l4 N n)) (e8.l4 N n) x0 x3
def e8.b(N:Nat)(fa:e8.bO)(a0:aO):Option Bool:=
 cond (aX 40 (ℓ a0)) (some false) (fa a0 0)
def e8(a0:aO):Option Bool:=e8.b N (e8.l4 N N) a0
abbrev qm.bK:=aO→Int→aO→Int→Option aO
def qm.eA(N:Nat)(bL:qm.bK)(x0:aO)(x1:Int)(x5:aO)(x6:Int):Option aO:=
 cond (aX x6 (ℓ x0)) (cond (bc x6 (ℓ x0)) (cond (!aN (γ x0 x6.toNat bb).2.2.1 x1) (cond (bc x6 (ℓ x0)) (cond (small (ℓ x5+ℓ ([γ x0 x6.toNat bb]))) (bL x0 x1 (x5++([γ x0 x6.toNat bb])) (W .i64 (x6+1))) none) none) (bL x0 x1 x5 (W .i64 (x6+1)))) none) (some x5)
def qm.l5(N:Nat):Nat→qm.bK
 |0,_,_,_,_=>none
 |n+1,x0,x1,x5,x6=>qm.eA N (qm.l5 N n) x0 x1 x5 x6
def qm.b(eW:qm.bK)(a0:aO)(a1:Int):Option aO:=
 (e8 N a0).bind λr1=>cond (!r1) (some ([])) (eW a0 a1 ([]) 0)
def qm(a0:aO)(a1:Int):Option aO:=qm.b N (qm.l5 N N) a0 a1
def adT(N:Nat)(a0:aQ)(a1:Int):Option Bool:=
 cond (aN a1 14) (cond (aN a0.2.2.2.1.2.1 1) (some (aX a0.1 a0.2.2.2.1.2.2.1)) (some false)) (cond (aN a1 15) (cond (aN a0.2.2.2.1.2.1 1) (some (du a0.2.2.2.1.2.2.1 a0.1)) (some false)) (cond (aN a1 19) (cond (aN a0.2.2.2.1.2.1 3) (some (aX a0.1 a0.2.2.2.1.2.2.1)) (some false)) (cond (aN a1 20) (cond (aN a0.2.2.2.1.2.1 3) (some (du a0.2.2.2.1.2.2.1 a0.1)) (some false)) (some (aN a0.2.2.2.1.2.1 2)))))
def MF(a0:an)(a1:Int):Option Int:=
 (Uu N a0.1 a1).bind λr1=>some r1
abbrev qK.bK:=aE→Bool→ae→aM→aM→Int→Option (aM×(Int))
def qK.eA(bL:qK.bK)(x1:aE)(x2:Bool)(x3:ae)(x6 x8:aM)(x9:Int):Option (aM×(Int)):=
 cond (aX x9 (ℓ x1)) (cond (bc x9 (ℓ x1)) (cond (bc (γ x1 x9.toNat da).1 (ℓ x3.1)) (cond (x2) (cond (bc x9 (ℓ x1)) (cond (bc (γ x1 x9.toNat da).1 (ℓ x3.1)) (cond (bc x9 (ℓ x1)) ((lh N (γ x1 x9.toNat da).2.1).bind λr3=>(Zb N r3).bind λr4=>(lh N (γ x3.1 (γ x1 x9.toNat da).1.toNat bb).2.2.2.1).bind λr5=>(kO N r4 r5).bind λr6=>(BE N x8 r6).bind λr7=>bL x1 x2 x3 x6 r7 (W .i64 (x9+1))) none) none) none) (cond (bc x9 (ℓ x1)) ((lh N (γ x1 x9.toNat da).2.1).bind λr9=>(Zb N r9).bind λke=>(lh N (γ x3.1 (γ x1 x9.toNat da).1.toNat bb).2.2.1).bind λnF=>(kO N ke nF).bind λoR=>(BE N x8 oR).bind λpq=>bL x1 x2 x3 x6 pq (W .i64 (x9+1))) none)) none) none) (some (x8,0))
def qK.l5(N:Nat):Nat→qK.bK
 |0,_,_,_,_,_,_=>none
 |n+1,x1,x2,x3,x6,x8,x9=>qK.eA N (qK.l5 N n) x1 x2 x3 x6 x8 x9
def qK.b(eW:qK.bK)(a0:ae)(a1:aE)(a2:Bool):Option (aM×(Int)):=
 (ov N a0 a1).bind λr1=>cond (!r1) (some ((false,qx),1)) (eW a1 a2 a0 (false,qx) (false,qx) 0)
def qK(a0:ae)(a1:aE)(a2:Bool):Option (aM×(Int)):=qK.b N (qK.l5 N N) a0 a1 a2
def alk(a0:ae)(a1:aE):Option (aM×(Int)):=
 (qK N a0 a1 false).bind λr1=>some (r1.1,r1.2)
def Tf(a0:an)(a1:Int):Option Int:=
 (vm N a0.2.2.1 5 a1).bind λr1=>some r1
def adH(a0:ae)(a1:an)(a2 a3 a4:Int):Option Int:=
 (gH N a0 a1).bind λr1=>cond (!r1) (some 1) ((XW N a1.2.1 a4).bind λr2=>cond (!r2.2) (some 3) ((MF N a1 a2).bind λr3=>cond (aN r3 0) (some 3) ((MF N a1 a3).bind λr4=>cond (aN r4 0) (some 3) (cond (!aN r2.1.2.1 a2) (some 8) (cond (!aN r2.1.2.2.1 2) (some 8) ((MF N a1 a3).bind λr5=>cond (!aN r5 1) (some 7) ((mL N a1.2.2.2.1 a4).bind λr6=>(alk N a0 r6).bind λr7=>(Tf N a1 a4).bind λr8=>(lh N r8).bind λr9=>(R3 N r9 r7.1).bind λke=>cond (aX ke 0) (some 10) (some 0))))))))
abbrev oF.fN:=Int→Int→aO→Int→Option (aO×(Int))
def oF.lq(N:Nat)(gK:oF.fN)(x2 x3:Int)(ch:aO)(cY:Int):Option (aO×(Int)):=
 cond (aX cY (ℓ ch)) (cond (bc cY (ℓ ch)) (cond (aN (γ ch cY.toNat bb).1 x2) (cond (bc cY (ℓ ch)) (gK x2 x3 (List.set ch cY.toNat ((γ ch cY.toNat bb).1,(x3,(γ ch cY.toNat bb).2.2))) (W .i64 (cY+1))) none) (gK x2 x3 ch (W .i64 (cY+1)))) none) (some (ch,0))
def oF.mq(N:Nat):Nat→oF.fN
 |0,_,_,_,_=>none
 |n+1,x2,x3,ch,cY=>oF.lq N (oF.mq N n) x2 x3 ch cY
def oF.b(ta:oF.fN)(a0:aE)(a1:aO)(a2 a3:Int):Option (aO×(Int)):=
 (pb N a0 a1).bind λr1=>cond (!r1) (some ([],1)) ((oQ N a1 a2).bind λr2=>(Aw N a0 a3).bind λr3=>cond (!r2.2) (some ([],3)) (cond (aN r3 0) (some ([],3)) (cond (!aN r2.1.2.2.1 2) (some ([],8)) (cond (!aN r3 1) (some ([],7)) (cond (small (ℓ cS+ℓ a1)) (ta a2 a3 (cS++a1) 0) none)))))
def oF(a0:aE)(a1:aO)(a2 a3:Int):Option (aO×(Int)):=oF.b N (oF.mq N N) a0 a1 a2 a3
def W5(a0:ae)(a1:an)(a2 a3 a4:Int):Option (an×(Int)):=
 (adH N a0 a1 a2 a3 a4).bind λr1=>cond (!aN r1 0) (some ((cf,(cS,(bn,(bn,(dd,(dm,())))))),r1)) ((oF N a1.1 a1.2.1 a4 a3).bind λr2=>cond (!aN r2.2 0) (some ((cf,(cS,(bn,(bn,(dd,(dm,())))))),r2.2)) (some ((a1.1,(r2.1,a1.2.2)),0)))
def aaq(a0:ae)(a1:aE):Option (aM×(Int)):=
 (qK N a0 a1 true).bind λr1=>some (r1.1,r1.2)
def F60(a0:ae)(a1:an)(a2:Int):Option ((Int)×(Int)):=
 (gH N a0 a1).bind λr1=>cond (!r1) (some (0,1)) ((XW N a1.2.1 a2).bind λr2=>cond (!r2.2) (some (0,3)) ((mL N a1.2.2.2.1 a2).bind λr3=>(aaq N a0 r3).bind λr4=>(Tf N a1 a2).bind λr5=>cond (du r5 0) (some (0,0)) ((xV N r4.1).bind λr6=>cond (r6.2) (cond (aX r6.1 r5) (some (r6.1,0)) (some (r5,0))) (some (r5,0)))))
abbrev nM.bK:=au→Int→Int→au→Int→Option au
def nM.eA(N:Nat)(bL:nM.bK)(x0:au)(x1 x2:Int)(x7:au)(x8:Int):Option au:=
 cond (aX x8 (ℓ x0)) (cond (bc x8 (ℓ x0)) (cond (aN (γ x0 x8.toNat ba).1 x1) (cond (bc x8 (ℓ x0)) (cond (bc x8 (ℓ x0)) (let v3:Int:=W .i64 (0-((γ x0 x8.toNat ba).2.2.1));cond (bc x8 (ℓ x0)) (cond (bc x8 (ℓ x0)) (cond (small (ℓ x7+ℓ ([(x1,((γ x0 x8.toNat ba).2.1,(v3,()))),(x2,((γ x0 x8.toNat ba).2.1,((γ x0 x8.toNat ba).2.2.1,())))]))) (bL x0 x1 x2 (x7++([(x1,((γ x0 x8.toNat ba).2.1,(v3,()))),(x2,((γ x0 x8.toNat ba).2.1,((γ x0 x8.toNat ba).2.2.1,())))])) (W .i64 (x8+1))) none) none) none) none) none) (bL x0 x1 x2 x7 (W .i64 (x8+1)))) none) (some x7)
def nM.l5(N:Nat):Nat→nM.bK
 |0,_,_,_,_,_=>none
 |n+1,x0,x1,x2,x7,x8=>nM.eA N (nM.l5 N n) x0 x1 x2 x7 x8
def nM.b(eW:nM.bK)(a0:au)(a1 a2:Int):Option au:=
 (Av N a0).bind λr1=>cond (!r1) (some ([])) (cond (aN a1 a2) (some ([])) (cond (aX a1 0) (some ([])) (cond (aX 24 a1) (some ([])) (cond (aX a2 0) (some ([])) (cond (aX 24 a2) (some ([])) (eW a0 a1 a2 ([]) 0))))))
def nM(a0:au)(a1 a2:Int):Option au:=nM.b N (nM.l5 N N) a0 a1 a2
abbrev rM.IK:=Int→ae→an→an→au→bP→Int→cG→Option (an×(Int))
abbrev rM.jX:=Int→ae→an→an→au→bP→Int→Option (an×(Int))
def rM.wZ(gD:rM.jX)(x2:Int)(x3:ae)(x4 x6:an)(x8:au)(x9:bP)(bm:Int)(a7:cG):Option (an×(Int)):=
 (Tf N x4 a7.1).bind λke=>cond (aX ke 0) ((lh N ke).bind λnF=>(XU N nF).bind λoR=>(Dj N 2 0 5 a7.1 oR).bind λpq=>cond (small (ℓ x9+ℓ pq)) ((nM N x4.2.2.2.1 a7.1 0).bind λvn=>cond (small (ℓ x8+ℓ vn)) (gD x2 x3 x4 x6 (x8++vn) (x9++pq) (W .i64 (bm+1))) none) none) ((nM N x4.2.2.2.1 a7.1 0).bind λw3=>cond (small (ℓ x8+ℓ w3)) (gD x2 x3 x4 x6 (x8++w3) x9 (W .i64 (bm+1))) none)
def rM.Dg(gD:rM.jX)(x2:Int)(x3:ae)(x4 x6:an)(x8:au)(x9:bP)(bm:Int)(a7:cG):Option (an×(Int)):=rM.wZ N gD x2 x3 x4 x6 x8 x9 bm a7
def rM.Ec(wM:rM.IK)(gD:rM.jX)(x2:Int)(x3:ae)(x4 x6:an)(x8:au)(x9:bP)(bm:Int):Option (an×(Int)):=
 cond (aX bm (ℓ x4.2.1)) (cond (bc bm (ℓ x4.2.1)) (cond (!aN (γ x4.2.1 bm.toNat bb).2.1 x2) (gD x2 x3 x4 x6 x8 x9 (W .i64 (bm+1))) (cond (aN (γ x4.2.1 bm.toNat bb).2.2.1 2) ((F60 N x3 x4 (γ x4.2.1 bm.toNat bb).1).bind λr5=>(lh N r5.1).bind λr6=>(Dj N 5 (γ x4.2.1 bm.toNat bb).1 2 0 r6).bind λr7=>cond (small (ℓ x9+ℓ r7)) (wM x2 x3 x4 x6 x8 (x9++r7) bm (γ x4.2.1 bm.toNat bb)) none) (wM x2 x3 x4 x6 x8 x9 bm (γ x4.2.1 bm.toNat bb)))) none) ((zt N x4 x8 x9).bind λFR=>some (FR.1,FR.2))
def rM.l8(N:Nat):Nat→rM.jX
 |0,_,_,_,_,_,_,_=>none
 |n+1,x2,x3,x4,x6,x8,x9,bm=>rM.Ec N (rM.Dg N (rM.l8 N n)) (rM.l8 N n) x2 x3 x4 x6 x8 x9 bm
def rM.b(IJ:rM.jX)(a0:ae)(a1:an)(a2:Int):Option (an×(Int)):=
 (gH N a0 a1).bind λr1=>cond (!r1) (some ((cf,(cS,(bn,(bn,(dd,(dm,())))))),1)) ((MF N a1 a2).bind λr2=>cond (aN r2 0) (some ((cf,(cS,(bn,(bn,(dd,(dm,())))))),3)) (IJ a2 a0 a1 (cf,(cS,(bn,(bn,(dd,(dm,())))))) ([]) ([]) 0))
def rM(a0:ae)(a1:an)(a2:Int):Option (an×(Int)):=rM.b N (rM.l8 N N) a0 a1 a2
abbrev sN.bK:=ae→an→ql→Int→Option (ql×(Int))
def sN.eA(bL:sN.bK)(x2:ae)(x3:an)(x6:ql)(x7:Int):Option (ql×(Int)):=
 cond (aX x7 (ℓ x2.1)) (cond (bc x7 (ℓ x2.1)) (cond (bc (γ x2.1 x7.toNat bb).1 (ℓ x6)) ((Cv N x3.2.2.2.1 0 x7).bind λr4=>(lh N r4).bind λr5=>cond (bc x7 (ℓ x3.2.2.2.2.1)) ((lh N (γ x3.2.2.2.2.1 x7.toNat 0)).bind λr6=>(kO N r5 r6).bind λr7=>(BE N (γ x6 (γ x2.1 x7.toNat bb).1.toNat (false,qx)) r7).bind λr8=>cond (bc (γ x2.1 x7.toNat bb).1 (ℓ x6)) (bL x2 x3 (List.set x6 (γ x2.1 x7.toNat bb).1.toNat r8) (W .i64 (x7+1))) none) none) none) none) (some (x6,0))
def sN.l5(N:Nat):Nat→sN.bK
 |0,_,_,_,_=>none
 |n+1,x2,x3,x6,x7=>sN.eA N (sN.l5 N n) x2 x3 x6 x7
def sN.b(eW:sN.bK)(a0:ae)(a1:an):Option (ql×(Int)):=
 (gH N a0 a1).bind λr1=>cond (!r1) (some ([],1)) (cond (kT 4 4) (eW a0 a1 (List.replicate (4:Int).toNat (false,qx)) 0) none)
def sN(a0:ae)(a1:an):Option (ql×(Int)):=sN.b N (sN.l5 N N) a0 a1
abbrev qg.bK:=Int→ae→(List Int)→Int→Option (List Int)
def qg.eA(N:Nat)(bL:qg.bK)(x1:Int)(x2:ae)(x5:List Int)(x6:Int):Option (List Int):=
 cond (aX x6 (ℓ x2.1)) (cond (bc x6 (ℓ x2.1)) (cond (aN (γ x2.1 x6.toNat bb).1 x1) (cond (small (ℓ x5+ℓ ([x6]))) (bL x1 x2 (x5++([x6])) (W .i64 (x6+1))) none) (bL x1 x2 x5 (W .i64 (x6+1)))) none) (some x5)
def qg.l5(N:Nat):Nat→qg.bK
 |0,_,_,_,_=>none
 |n+1,x1,x2,x5,x6=>qg.eA N (qg.l5 N n) x1 x2 x5 x6
def qg.b(eW:qg.bK)(a0:ae)(a1:Int):Option (List Int):=
 (m7 N a0).bind λr1=>cond (!r1) (some ([])) (eW a1 a0 ([]) 0)
def qg(a0:ae)(a1:Int):Option (List Int):=qg.b N (qg.l5 N N) a0 a1
abbrev qC.bO:=(List Int)→(List Int)→Int→Int→Option ((List Int)×(Int))
def qC.dU(cH:qC.bO)(x0 x4:List Int)(x5 x6:Int):Option ((List Int)×(Int)):=
 cond (du 0 x6) (cond (aX 32 0) none (cond (bc x6 (ℓ x0)) (let v5:Int:=sd .or .u64 (W .u64 (shl .u64 x5 32)) (γ x0 x6.toNat 0);cond (aX 1 0) none (cond (bc x6 (ℓ x4)) (cH x0 (List.set x4 x6.toNat (shr .u64 v5 1)) (sd .and .u64 v5 1) (W .i64 (x6-1))) none)) none)) ((o8 N x4).bind λke=>some (ke,x5))
def qC.l4(N:Nat):Nat→qC.bO
 |0,_,_,_,_=>none
 |n+1,x0,x4,x5,x6=>qC.dU N (qC.l4 N n) x0 x4 x5 x6
def qC.b(N:Nat)(fa:qC.bO)(a0:List Int):Option ((List Int)×(Int)):=
 cond (kT (ℓ a0) (ℓ a0)) (fa a0 (List.replicate (ℓ a0:Int).toNat 0) 0 (W .i64 ((ℓ a0:Int)-1))) none
def qC(a0:List Int):Option ((List Int)×(Int)):=qC.b N (qC.l4 N N) a0
abbrev je.lC:=aM→aM→aM→aM→(List Int)→aM→aM→Int→Option (aM×aM)
abbrev je.dR:=aM→aM→aM→aM→(List Int)→(List Int)→Option (aM×aM)
def je.vN(oU:je.lC)(x2 x3:aM)(x4 x5:aM)(x6:List Int)(bm a7:aM)(bp:Int):Option (aM×aM):=
 cond (du 0 bp) ((BE N bm bm).bind λr6=>(BE N a7 a7).bind λr7=>cond (bc bp (ℓ x6)) (cond (aN (γ x6 bp.toNat 0) 1) ((lh N 1).bind λr8=>(BE N r7 r8).bind λr9=>(R3 N r9 x3).bind λke=>cond (du 0 ke) ((Uo N r9 x3).bind λnF=>(lh N 1).bind λoR=>(BE N r6 oR).bind λpq=>oU x2 x3 x4 x5 x6 pq nF (W .i64 (bp-1))) (oU x2 x3 x4 x5 x6 r6 r9 (W .i64 (bp-1)))) ((R3 N r7 x3).bind λwu=>cond (du 0 wu) ((Uo N r7 x3).bind λwY=>(lh N 1).bind λw3=>(BE N r6 w3).bind λJS=>oU x2 x3 x4 x5 x6 JS wY (W .i64 (bp-1))) (oU x2 x3 x4 x5 x6 r6 r7 (W .i64 (bp-1))))) none) (cond (!x2.1) (some (bm,a7)) ((Sq N a7).bind λMY=>cond (aN MY 0) ((XU N bm).bind λEF=>some (EF,a7)) ((XU N bm).bind λNo=>(lh N 1).bind λI8=>(Uo N No I8).bind λEH=>(Uo N x3 a7).bind λQv=>some (EH,Qv))))
def je.l9(N:Nat):Nat→je.lC
 |0,_,_,_,_,_,_,_,_=>none
 |n+1,x2,x3,x4,x5,x6,bm,a7,bp=>je.vN N (je.l9 N n) x2 x3 x4 x5 x6 bm a7 bp
def je.nw(yx:je.lC)(dt:je.dR)(x2 x3:aM)(x4 x5:aM)(x6 x7:List Int):Option (aM×aM):=
 cond (aX 0 (ℓ x7)) ((qC N x7).bind λr2=>cond (small (ℓ x6+ℓ ([r2.2]))) (dt x2 x3 x4 x5 (x6++([r2.2])) r2.1) none) (yx x2 x3 x4 x5 x6 (false,qx) (false,qx) (W .i64 ((ℓ x6:Int)-1)))
def je.l3(N:Nat):Nat→je.dR
 |0,_,_,_,_,_,_=>none
 |n+1,x2,x3,x4,x5,x6,x7=>je.nw N (je.l9 N N) (je.l3 N n) x2 x3 x4 x5 x6 x7
def je.b(N:Nat)(oK:je.dR)(a0 a1:aM):Option (aM×aM):=
 oK a0 a1 (false,qx) (false,qx) ([]) a0.2.1
def je(a0 a1:aM):Option (aM×aM):=je.b N (je.l3 N N) a0 a1
abbrev jH.IK:=Int→ae→an→ql→aO→Int→(List Int)→Int→Option (aO×(Int))
abbrev jH.kv:=Int→ae→an→ql→aO→Int→Option (aO×(Int))
def jH.wZ(lA:jH.kv)(x2:Int)(x3:ae)(x4:an)(x8:ql)(bm:aO)(a7:Int)(bp:List Int)(fx:Int):Option (aO×(Int)):=
 cond (aN fx 0) (lA x2 x3 x4 x8 bm (W .i64 (a7+1))) (cond (bc 0 (ℓ bp)) (cond (bc a7 (ℓ x8)) ((Sq N (γ x8 a7.toNat (false,qx))).bind λtj=>cond (aX 0 tj) (cond (small (ℓ bm+ℓ ([(x2,(γ bp (0:Int).toNat 0,(2,(fx,()))))]))) (lA (W .i64 (x2+1)) x3 x4 x8 (bm++([(x2,(γ bp (0:Int).toNat 0,(2,(fx,()))))])) (W .i64 (a7+1))) none) (cond (small (ℓ bm+ℓ ([(x2,(γ bp (0:Int).toNat 0,(1,(fx,()))))]))) (lA (W .i64 (x2+1)) x3 x4 x8 (bm++([(x2,(γ bp (0:Int).toNat 0,(1,(fx,()))))])) (W .i64 (a7+1))) none)) none) none)
def jH.Dg(lA:jH.kv)(x2:Int)(x3:ae)(x4:an)(x8:ql)(bm:aO)(a7:Int)(bp:List Int)(fx:Int):Option (aO×(Int)):=jH.wZ N lA x2 x3 x4 x8 bm a7 bp fx
def jH.uU(wM:jH.IK)(lA:jH.kv)(x2:Int)(x3:ae)(x4:an)(x8:ql)(bm:aO)(a7:Int):Option (aO×(Int)):=
 cond (aX a7 4) ((qg N x3 a7).bind λr3=>cond (bc a7 (ℓ x8)) ((Zb N (γ x8 a7.toNat (false,qx))).bind λr4=>cond (aN (ℓ r3) 0) (lA x2 x3 x4 x8 bm (W .i64 (a7+1))) ((lh N x3.2.2.2.2.2.2.1).bind λr6=>(R3 N r4 r6).bind λr7=>cond (du r7 0) (lA x2 x3 x4 x8 bm (W .i64 (a7+1))) (cond (bc 0 (ℓ r3)) (cond (bc (γ r3 (0:Int).toNat 0) (ℓ x4.2.2.2.2.1)) ((lh N (γ x4.2.2.2.2.1 (γ r3 (0:Int).toNat 0).toNat 0)).bind λr9=>(je N r4 r9).bind λke=>(xV N ke.1).bind λnF=>cond (!nF.2) (wM x2 x3 x4 x8 bm a7 r3 1000000000) (cond (aX 1000000000 nF.1) (wM x2 x3 x4 x8 bm a7 r3 1000000000) (wM x2 x3 x4 x8 bm a7 r3 nF.1))) none) none))) none) (some (bm,0))
def jH.l6(N:Nat):Nat→jH.kv
 |0,_,_,_,_,_,_=>none
 |n+1,x2,x3,x4,x8,bm,a7=>jH.uU N (jH.Dg N (jH.l6 N n)) (jH.l6 N n) x2 x3 x4 x8 bm a7
def jH.b(yw:jH.kv)(a0:ae)(a1:an)(a2:Int):Option (aO×(Int)):=
 (sN N a0 a1).bind λr1=>cond (!aN r1.2 0) (some ([],1)) (cond (aX a2 1) (some ([],1)) (cond (aX 1099511627772 a2) (some ([],1)) (yw a2 a0 a1 r1.1 ([]) 0)))
def jH(a0:ae)(a1:an)(a2:Int):Option (aO×(Int)):=jH.b N (jH.l6 N N) a0 a1 a2
def ads(N:Nat)(a0:cG):Option Bool:=
 cond (du 1 a0.1) (cond (du a0.1 1099511627776) (cond (du 0 a0.2.1) (cond (aX a0.2.1 6) (cond (aN a0.2.2.1 1) (cond (du 1 a0.2.2.2.1) (some (du a0.2.2.2.1 1000000000)) (some false)) (cond (aN a0.2.2.1 2) (cond (du 1 a0.2.2.2.1) (some (du a0.2.2.2.1 1000000000)) (some false)) (some false))) (some false)) (some false)) (some false)) (some false)
abbrev qI.aq6:=Int→ae→an→cG→an→cG→iu→Option (an×cG×(Int))
def qI.adz(x4:Int)(x6:ae)(x7:an)(x8:cG)(bp:an)(ch:cG)(ga:iu):Option (an×cG×(Int)):=
 (fm N x6 x7 ([ga])).bind λr6=>cond (!aN r6.2 0) (some ((cf,(cS,(bn,(bn,(dd,(dm,())))))),bb,r6.2)) (some (r6.1,(x8.1,(x8.2.1,(x8.2.2.1,((W .i64 (x8.2.2.2.1-x4)),x8.2.2.2.2)))),0))
def qI.j14(x4:Int)(x6:ae)(x7:an)(x8:cG)(bp:an)(ch:cG)(ga:iu):Option (an×cG×(Int)):=qI.adz N x4 x6 x7 x8 bp ch ga
def qI.b(ajp:qI.aq6)(a0:ae)(a1:an)(a2:cG)(a3 a4 a5:Int):Option (an×cG×(Int)):=
 (gH N a0 a1).bind λr1=>cond (!r1) (some ((cf,(cS,(bn,(bn,(dd,(dm,())))))),bb,1)) ((ads N a2).bind λr2=>cond (!r2) (some ((cf,(cS,(bn,(bn,(dd,(dm,())))))),bb,1)) (cond (aX a4 1) (some ((cf,(cS,(bn,(bn,(dd,(dm,())))))),bb,1)) (cond (aX 1000000000 a4) (some ((cf,(cS,(bn,(bn,(dd,(dm,())))))),bb,1)) (cond (aX a5 1) (some ((cf,(cS,(bn,(bn,(dd,(dm,())))))),bb,1)) (cond (aX 1000000000000 a5) (some ((cf,(cS,(bn,(bn,(dd,(dm,())))))),bb,1)) (cond (aX a2.2.2.2.1 a4) (some ((cf,(cS,(bn,(bn,(dd,(dm,())))))),bb,9)) (cond (aX a3 1) (some ((cf,(cS,(bn,(bn,(dd,(dm,())))))),bb,1)) (cond (aX 24 a3) (some ((cf,(cS,(bn,(bn,(dd,(dm,())))))),bb,1)) ((Z9 N a0 a1 (a2.1,(a3,(a2.2.1,((W .i64 (3-a2.2.2.1)),(a4,(a5,()))))))).bind λr4=>cond (!aN r4 0) (some ((cf,(cS,(bn,(bn,(dd,(dm,())))))),bb,r4)) (cond (aN a2.2.2.1 2) (ajp a4 a0 a1 a2 (cf,(cS,(bn,(bn,(dd,(dm,())))))) bb (a3,(0,(a2.2.1,(a4,(a5,())))))) (ajp a4 a0 a1 a2 (cf,(cS,(bn,(bn,(dd,(dm,())))))) bb (0,(a3,(a2.2.1,(a4,(a5,()))))))))))))))))
def qI(a0:ae)(a1:an)(a2:cG)(a3 a4 a5:Int):Option (an×cG×(Int)):=qI.b N (qI.j14 N) a0 a1 a2 a3 a4 a5
abbrev oI.bK:=ae→aQ→iw→aQ→de→aO→Bool→Int→Int→Option (aQ×de)
def oI.eA(bL:oI.bK)(x3:ae)(x4:aQ)(x5:iw)(x6:aQ)(x7:de)(x8:aO)(x9:Bool)(bm a7:Int):Option (aQ×de):=
 cond (aX a7 (ℓ x4.2.2.2.1.2.2.2.2.1)) (cond (bc a7 (ℓ x4.2.2.2.1.2.2.2.2.1)) (cond (aN (γ x4.2.2.2.1.2.2.2.2.1 a7.toNat bb).1 x5.2.2.2.2.2.1) ((qI N x3 x4.2.2.1 (γ x4.2.2.2.1.2.2.2.2.1 a7.toNat bb) x5.2.2.1 x5.2.2.2.2.2.2.1 x5.2.2.2.2.2.2.2.1).bind λr2=>cond (!aN r2.2.2 0) ((fZ N r2.2.2).bind λr3=>some (x4,r3)) (cond (aX 0 r2.2.1.2.2.2.1) (cond (small (ℓ x8+ℓ ([r2.2.1]))) (bL x3 (x4.1,(x4.2.1,(r2.1,x4.2.2.2))) x5 x6 x7 (x8++([r2.2.1])) true r2.2.1.2.2.2.1 (W .i64 (a7+1))) none) (bL x3 (x4.1,(x4.2.1,(r2.1,x4.2.2.2))) x5 x6 x7 x8 true r2.2.1.2.2.2.1 (W .i64 (a7+1))))) (cond (aX 0 (γ x4.2.2.2.1.2.2.2.2.1 a7.toNat bb).2.2.2.1) (cond (small (ℓ x8+ℓ ([γ x4.2.2.2.1.2.2.2.2.1 a7.toNat bb]))) (bL x3 x4 x5 x6 x7 (x8++([γ x4.2.2.2.1.2.2.2.2.1 a7.toNat bb])) x9 bm (W .i64 (a7+1))) none) (bL x3 x4 x5 x6 x7 x8 x9 bm (W .i64 (a7+1))))) none) (cond (!x9) ((fZ N 3).bind λke=>some (x4,ke)) (some ((x4.1,(x4.2.1,(x4.2.2.1,((x4.2.2.2.1.1,(x4.2.2.2.1.2.1,(x4.2.2.2.1.2.2.1,(x4.2.2.2.1.2.2.2.1,(x8,x4.2.2.2.1.2.2.2.2.2))))),x4.2.2.2.2)))),(0,(0,(bm,()))))))
def oI.l5(N:Nat):Nat→oI.bK
 |0,_,_,_,_,_,_,_,_,_=>none
 |n+1,x3,x4,x5,x6,x7,x8,x9,bm,a7=>oI.eA N (oI.l5 N n) x3 x4 x5 x6 x7 x8 x9 bm a7
def oI.b(N:Nat)(eW:oI.bK)(a0:ae)(a1:aQ)(a2:iw):Option (aQ×de):=
 eW a0 a1 a2 (0,(0,((cf,(cS,(bn,(bn,(dd,(dm,())))))),((0,(0,(0,(0,(cS,(([]:List ((Int)×((List ((Int)×((Int)×(Unit))))×((Int)×((Int)×((Int)×((Int)×(Unit)))))))),(cS,(dd,(cf,(cf,())))))))))),((0,(0,(EL,(0,())))),()))))) ba ([]) false 0 0
def oI(a0:ae)(a1:aQ)(a2:iw):Option (aQ×de):=oI.b N (oI.l5 N N) a0 a1 a2
abbrev sQ.bO:=Int→aM→Int→Option Int
def sQ.dU(cH:sQ.bO)(x1:Int)(x2:aM)(x5:Int):Option Int:=
 cond (aX x5 3) ((lh N x5).bind λr3=>(lh N x1).bind λr4=>(kO N r3 r4).bind λr5=>(R3 N r5 x2).bind λr6=>cond (aX r6 0) (cH x1 x2 (W .i64 (x5+1))) (some x5)) (some x5)
def sQ.l4(N:Nat):Nat→sQ.bO
 |0,_,_,_=>none
 |n+1,x1,x2,x5=>sQ.dU N (sQ.l4 N n) x1 x2 x5
def sQ.b(fa:sQ.bO)(a0:aM)(a1:Int):Option Int:=
 (Sq N a0).bind λr1=>cond (du r1 0) (some 0) (cond (aX a1 1) (some 0) (fa a1 a0 1))
def sQ(a0:aM)(a1:Int):Option Int:=sQ.b N (sQ.l4 N N) a0 a1
abbrev qG.bO:=(List Int)→Int→Option Bool
def qG.dU(N:Nat)(cH:qG.bO)(x1:List Int)(x5:Int):Option Bool:=
 cond (aX x5 (ℓ x1)) (cond (bc x5 (ℓ x1)) (cond (aX (γ x1 x5.toNat 0) 0) (some true) (cH x1 (W .i64 (x5+1)))) none) (some false)
def qG.l4(N:Nat):Nat→qG.bO
 |0,_,_=>none
 |n+1,x1,x5=>qG.dU N (qG.l4 N n) x1 x5
def qG.b(N:Nat)(fa:qG.bO)(a0:Int)(a1:List Int):Option Bool:=
 cond (aX a0 0) (some true) (cond (aX 64 (ℓ a1)) (some true) (fa a1 0))
def qG(a0:Int)(a1:List Int):Option Bool:=qG.b N (qG.l4 N N) a0 a1
abbrev qB.dR:=(List Int)→aM→aM→Int→Option aM
def qB.nw(dt:qB.dR)(x0:List Int)(x2 x3:aM)(x4:Int):Option aM:=
 cond (aX x4 (ℓ x0)) (cond (bc x4 (ℓ x0)) ((lh N (γ x0 x4.toNat 0)).bind λr2=>(BE N x3 r2).bind λr3=>dt x0 x2 r3 (W .i64 (x4+1))) none) (some x3)
def qB.l3(N:Nat):Nat→qB.dR
 |0,_,_,_,_=>none
 |n+1,x0,x2,x3,x4=>qB.nw N (qB.l3 N n) x0 x2 x3 x4
def qB.b(N:Nat)(oK:qB.dR)(a0:List Int):Option aM:=
 oK a0 (false,qx) (false,qx) 0
def qB(a0:List Int):Option aM:=qB.b N (qB.l3 N N) a0
abbrev gg.abi:=(List Int)→(List Int)→Int→Int→Option (List Int)
abbrev gg.kv:=(List Int)→(List Int)→Int→Int→Option (List Int)
abbrev gg.dR:=(List Int)→(List Int)→Int→Option (List Int)
def gg.Zz(N:Nat)(dt:gg.dR)(x0 x3:List Int)(x4 x5:Int):Option (List Int):=
 cond (jq 0 x5 (ℓ x3) (ℓ x3)) (let v5:List Int:=List.drop (0:Int).toNat (List.take x5.toNat x3);cond (small (ℓ v5)) (cond (small (ℓ v5+ℓ ([x4]))) (let v6:List Int:=v5++([x4]);cond (jq x5 (ℓ x3) (ℓ x3) (ℓ x3)) (let v7:List Int:=List.drop x5.toNat (List.take (ℓ x3:Int).toNat x3);cond (small (ℓ v6+ℓ v7)) (dt x0 (v6++v7) (W .i64 (x4+1))) none) none) none) none) none
def gg.j8(dt:gg.dR)(x0 x3:List Int)(x4 x5:Int):Option (List Int):=gg.Zz N dt x0 x3 x4 x5
def gg.uU(N:Nat)(Qu:gg.abi)(dt:gg.dR)(lA:gg.kv)(x0 x3:List Int)(x4 x5:Int):Option (List Int):=
 cond (aX x5 (ℓ x3)) (cond (bc x5 (ℓ x3)) (cond (bc (γ x3 x5.toNat 0) (ℓ x0)) (cond (bc x4 (ℓ x0)) (cond (du (γ x0 x4.toNat 0) (γ x0 (γ x3 x5.toNat 0).toNat 0)) (lA x0 x3 x4 (W .i64 (x5+1))) (Qu x0 x3 x4 x5)) none) none) none) (Qu x0 x3 x4 x5)
def gg.l6(N:Nat)(dt:gg.dR):Nat→gg.kv
 |0,_,_,_,_=>none
 |n+1,x0,x3,x4,x5=>gg.uU N (gg.j8 N dt) dt (gg.l6 N dt n) x0 x3 x4 x5
def gg.nw(N:Nat)(yw:gg.kv)(dt:gg.dR)(x0 x3:List Int)(x4:Int):Option (List Int):=
 cond (aX x4 (ℓ x0)) (yw x0 x3 x4 0) (some x3)
def gg.l3(N:Nat):Nat→gg.dR
 |0,_,_,_=>none
 |n+1,x0,x3,x4=>gg.nw N (gg.l6 N (gg.l3 N n) N) (gg.l3 N n) x0 x3 x4
def gg.b(N:Nat)(oK:gg.dR)(a0:List Int):Option (List Int):=
 oK a0 ([]) 0
def gg(a0:List Int):Option (List Int):=gg.b N (gg.l3 N N) a0
abbrev gu.s9:=(List Int)→Int→(List Int)→Int→Option ((List Int)×(Int))
abbrev gu.yF:=Int→(List Int)→aM→(List Int)→(List Int)→Int→Int→Option ((List Int)×(Int))
abbrev gu.Tz:=Int→(List Int)→aM→Option ((List Int)×(Int))
def gu.wW(N:Nat)(ID:gu.s9)(x9:List Int)(a7:Int)(eB:List Int)(fx:Int):Option ((List Int)×(Int)):=
 cond (aX fx (ℓ eB)) (cond (aX 0 a7) (cond (bc fx (ℓ eB)) (cond (bc (γ eB fx.toNat 0) (ℓ x9)) (cond (bc (γ eB fx.toNat 0) (ℓ x9)) (ID (List.set x9 (γ eB fx.toNat 0).toNat (W .i64 ((γ x9 (γ eB fx.toNat 0).toNat 0)+1))) (W .i64 (a7-1)) eB (W .i64 (fx+1))) none) none) none) (some (x9,0))) (some (x9,0))
def gu.yc(N:Nat):Nat→gu.s9
 |0,_,_,_,_=>none
 |n+1,x9,a7,eB,fx=>gu.wW N (gu.yc N n) x9 a7 eB fx
def gu.HM(IE:gu.s9)(EI:gu.yF)(x0:Int)(x1:List Int)(x6:aM)(x9 bm:List Int)(a7 bp:Int):Option ((List Int)×(Int)):=
 cond (aX bp (ℓ x1)) ((lh N x0).bind λke=>cond (bc bp (ℓ x1)) ((lh N (γ x1 bp.toNat 0)).bind λnF=>(kO N ke nF).bind λoR=>(je N oR x6).bind λpq=>(xV N pq.1).bind λtj=>cond (bc bp (ℓ x9)) (let v15:List Int:=List.set x9 bp.toNat tj.1;(xV N pq.2).bind λwu=>cond (bc bp (ℓ bm)) (cond (bc bp (ℓ v15)) (EI x0 x1 x6 v15 (List.set bm bp.toNat wu.1) (W .i64 (a7-(γ v15 bp.toNat 0))) (W .i64 (bp+1))) none) none) none) none) ((gg N bm).bind λQw=>IE x9 a7 Qw 0)
def gu.KI(N:Nat):Nat→gu.yF
 |0,_,_,_,_,_,_,_=>none
 |n+1,x0,x1,x6,x9,bm,a7,bp=>gu.HM N (gu.yc N N) (gu.KI N n) x0 x1 x6 x9 bm a7 bp
def gu.ON(QB:gu.yF)(x0:Int)(x1:List Int)(x6:aM):Option ((List Int)×(Int)):=
 (xV N x6).bind λr5=>cond (!r5.2) (some ([],2)) (cond (kT (ℓ x1) (ℓ x1)) (let v6:List Int:=List.replicate (ℓ x1:Int).toNat 0;cond (kT (ℓ x1) (ℓ x1)) ((Sq N x6).bind λr8=>cond (aN r8 0) (some (v6,0)) (QB x0 x1 x6 v6 (List.replicate (ℓ x1:Int).toNat 0) x0 0)) none) none)
def gu.j6(x0:Int)(x1:List Int)(x6:aM):Option ((List Int)×(Int)):=gu.ON N (gu.KI N N) x0 x1 x6
def gu.b(Fe:gu.Tz)(a0:Int)(a1:List Int):Option ((List Int)×(Int)):=
 (qG N a0 a1).bind λr1=>cond (r1) (some ([],1)) ((qB N a1).bind λr2=>(Sq N r2).bind λr3=>cond (aN r3 0) (cond (!aN a0 0) (some ([],1)) (Fe a0 a1 r2)) (Fe a0 a1 r2))
def gu(a0:Int)(a1:List Int):Option ((List Int)×(Int)):=gu.b N (gu.j6 N) a0 a1
abbrev sJ.bK:=Int→Int→(List Int)→Int→Option ((List Int)×(Int))
def sJ.eA(bL:sJ.bK)(x0 x1:Int)(x6:List Int)(x7:Int):Option ((List Int)×(Int)):=
 cond (aX x7 x1) (cond (bc x7 (ℓ x6)) (bL x0 x1 (List.set x6 x7.toNat 1) (W .i64 (x7+1))) none) ((gu N x0 x6).bind λr5=>some (r5.1,r5.2))
def sJ.l5(N:Nat):Nat→sJ.bK
 |0,_,_,_,_=>none
 |n+1,x0,x1,x6,x7=>sJ.eA N (sJ.l5 N n) x0 x1 x6 x7
def sJ.b(N:Nat)(eW:sJ.bK)(a0 a1:Int):Option ((List Int)×(Int)):=
 cond (aX a0 0) (some ([],1)) (cond (aX a1 1) (some ([],1)) (cond (aX 64 a1) (some ([],1)) (cond (kT a1 a1) (eW a0 a1 (List.replicate a1.toNat 0) 0) none)))
def sJ(a0 a1:Int):Option ((List Int)×(Int)):=sJ.b N (sJ.l5 N N) a0 a1
abbrev cq.aq7:=Int→ae→aE→bJ→Int→aE→Int→Int→jd→aE→Int→(List Int)→Option (bJ×(Int))
abbrev cq.abn:=Int→ae→aE→bJ→Int→aE→Int→Int→jd→aE→Int→Int→Option (bJ×(Int))
abbrev cq.yB:=Int→ae→aE→bJ→Int→aE→Int→Int→jd→aE→Int→Option (bJ×(Int))
abbrev cq.vj:=Int→ae→aE→bJ→Int→aE→Int→Int→Option (bJ×(Int))
abbrev cq.fN:=Int→ae→aE→bJ→Int→aE→aM→Int→Option (bJ×(Int))
abbrev cq.jX:=Int→ae→aE→bJ→Int→Option (bJ×(Int))
def cq.aln(N:Nat)(gD:cq.jX)(nG:cq.vj)(wN:cq.yB)(x2:Int)(x3:ae)(x8:aE)(x9:bJ)(bm:Int)(a7:aE)(cY eB:Int)(fx:jd)(wC:aE)(ga:Int)(nN:List Int):Option (bJ×(Int)):=
 cond (bc eB (ℓ nN)) (cond (!aN (γ nN eB.toNat 0) 0) (cond (bc ga (ℓ a7)) (cond (bc eB (ℓ nN)) (cond (small (ℓ wC+ℓ ([((γ a7 ga.toNat da).1,(γ nN eB.toNat 0,()))]))) (wN x2 x3 x8 x9 bm a7 cY eB (fx.1,(cf,fx.2.2)) (wC++([((γ a7 ga.toNat da).1,(γ nN eB.toNat 0,()))])) (W .i64 (ga+1))) none) none) none) (wN x2 x3 x8 x9 bm a7 cY eB fx wC (W .i64 (ga+1)))) none
def cq.j32(gD:cq.jX)(nG:cq.vj)(wN:cq.yB)(x2:Int)(x3:ae)(x8:aE)(x9:bJ)(bm:Int)(a7:aE)(cY eB:Int)(fx:jd)(wC:aE)(ga:Int)(nN:List Int):Option (bJ×(Int)):=cq.aln N gD nG wN x2 x3 x8 x9 bm a7 cY eB fx wC ga nN
def cq.P0(ajq:cq.aq7)(gD:cq.jX)(nG:cq.vj)(wN:cq.yB)(x2:Int)(x3:ae)(x8:aE)(x9:bJ)(bm:Int)(a7:aE)(cY eB:Int)(fx:jd)(wC:aE)(ga mu:Int):Option (bJ×(Int)):=
 (sJ N mu cY).bind λwu=>cond (bc ga (ℓ a7)) (cond (aX (γ a7 ga.toNat da).2.1 0) (cond (bc eB (ℓ wu.1)) (cond (bc eB (ℓ wu.1)) (ajq x2 x3 x8 x9 bm a7 cY eB fx wC ga (List.set wu.1 eB.toNat (W .i64 (0-(γ wu.1 eB.toNat 0))))) none) none) (ajq x2 x3 x8 x9 bm a7 cY eB fx wC ga wu.1)) none
def cq.W9(gD:cq.jX)(nG:cq.vj)(wN:cq.yB)(x2:Int)(x3:ae)(x8:aE)(x9:bJ)(bm:Int)(a7:aE)(cY eB:Int)(fx:jd)(wC:aE)(ga mu:Int):Option (bJ×(Int)):=cq.P0 N (cq.j32 N gD nG wN) gD nG wN x2 x3 x8 x9 bm a7 cY eB fx wC ga mu
def cq.PU(QC:cq.abn)(gD:cq.jX)(nG:cq.vj)(wN:cq.yB)(x2:Int)(x3:ae)(x8:aE)(x9:bJ)(bm:Int)(a7:aE)(cY eB:Int)(fx:jd)(wC:aE)(ga:Int):Option (bJ×(Int)):=
 cond (aX ga (ℓ a7)) (cond (bc ga (ℓ a7)) (cond (aX (γ a7 ga.toNat da).2.1 0) (QC x2 x3 x8 x9 bm a7 cY eB fx wC ga (W .i64 (0-((γ a7 ga.toNat da).2.1)))) (QC x2 x3 x8 x9 bm a7 cY eB fx wC ga (γ a7 ga.toNat da).2.1)) none) (cond (aN (ℓ wC) 0) (nG x2 x3 x8 x9 bm a7 cY (W .i64 (eB+1))) ((aaq N x3 wC).bind λNo=>(XU N No.1).bind λI8=>(xV N I8).bind λEH=>cond (!EH.2) (some ([],2)) (cond (small (ℓ x9+ℓ ([(fx.1,(wC,(EH.1,fx.2.2.2)))]))) (nG (W .i64 (x2+1)) x3 x8 (x9++([(fx.1,(wC,(EH.1,fx.2.2.2)))])) bm a7 cY (W .i64 (eB+1))) none)))
def cq.Nm(N:Nat)(gD:cq.jX)(nG:cq.vj):Nat→cq.yB
 |0,_,_,_,_,_,_,_,_,_,_,_=>none
 |n+1,x2,x3,x8,x9,bm,a7,cY,eB,fx,wC,ga=>cq.PU N (cq.W9 N gD nG (cq.Nm N gD nG n)) gD nG (cq.Nm N gD nG n) x2 x3 x8 x9 bm a7 cY eB fx wC ga
def cq.PZ(N:Nat)(abm:cq.yB)(gD:cq.jX)(nG:cq.vj)(x2:Int)(x3:ae)(x8:aE)(x9:bJ)(bm:Int)(a7:aE)(cY eB:Int):Option (bJ×(Int)):=
 cond (aX eB cY) (abm x2 x3 x8 x9 bm a7 cY eB (x2,(cf,(0,(1,da)))) cf 0) (gD x2 x3 x8 x9 (W .i64 (bm+1)))
def cq.JK(N:Nat)(gD:cq.jX):Nat→cq.vj
 |0,_,_,_,_,_,_,_,_=>none
 |n+1,x2,x3,x8,x9,bm,a7,cY,eB=>cq.PZ N (cq.Nm N gD (cq.JK N gD n) N) gD (cq.JK N gD n) x2 x3 x8 x9 bm a7 cY eB
def cq.lq(abo:cq.vj)(gD:cq.jX)(gK:cq.fN)(x2:Int)(x3:ae)(x8:aE)(x9:bJ)(bm:Int)(a7:aE)(bp:aM)(ch:Int):Option (bJ×(Int)):=
 cond (aX ch (ℓ x8)) (cond (bc ch (ℓ x8)) (cond (bc (γ x8 ch.toNat da).1 (ℓ x3.1)) (cond (aN (γ x3.1 (γ x8 ch.toNat da).1.toNat bb).1 bm) (cond (bc ch (ℓ x8)) (cond (small (ℓ a7+ℓ ([γ x8 ch.toNat da]))) (cond (bc ch (ℓ x8)) ((lh N (γ x8 ch.toNat da).2.1).bind λr6=>(Zb N r6).bind λr7=>(BE N bp r7).bind λr8=>gK x2 x3 x8 x9 bm (a7++([γ x8 ch.toNat da])) r8 (W .i64 (ch+1))) none) none) none) (gK x2 x3 x8 x9 bm a7 bp (W .i64 (ch+1)))) none) none) ((sQ N bp x3.2.2.2.2.2.1).bind λnF=>abo x2 x3 x8 x9 bm a7 nF 0)
def cq.mq(N:Nat)(gD:cq.jX):Nat→cq.fN
 |0,_,_,_,_,_,_,_,_=>none
 |n+1,x2,x3,x8,x9,bm,a7,bp,ch=>cq.lq N (cq.JK N gD N) gD (cq.mq N gD n) x2 x3 x8 x9 bm a7 bp ch
def cq.Ec(N:Nat)(ta:cq.fN)(gD:cq.jX)(x2:Int)(x3:ae)(x8:aE)(x9:bJ)(bm:Int):Option (bJ×(Int)):=
 cond (aX bm 4) (ta x2 x3 x8 x9 bm ([]) (false,qx) 0) (some (x9,0))
def cq.l8(N:Nat):Nat→cq.jX
 |0,_,_,_,_,_=>none
 |n+1,x2,x3,x8,x9,bm=>cq.Ec N (cq.mq N (cq.l8 N n) N) (cq.l8 N n) x2 x3 x8 x9 bm
def cq.b(IJ:cq.jX)(a0:ae)(a1:an)(a2:Int):Option (bJ×(Int)):=
 (gH N a0 a1).bind λr1=>cond (!r1) (some ([],1)) (cond (aX a2 1) (some ([],1)) (cond (aX 1099511627764 a2) (some ([],1)) ((mL N a1.2.2.2.1 0).bind λr2=>cond (aN (ℓ r2) 0) (some ([],3)) (IJ a2 a0 r2 ([]) 0))))
def cq(a0:ae)(a1:an)(a2:Int):Option (bJ×(Int)):=cq.b N (cq.l8 N N) a0 a1 a2
abbrev sR.bK:=an→(List Int)→Int→Option ((List Int)×(Int))
def sR.eA(bL:sR.bK)(x3:an)(x6:List Int)(x7:Int):Option ((List Int)×(Int)):=
 cond (aX x7 (ℓ x3.1)) (cond (bc x7 (ℓ x3.1)) (cond (aN (γ x3.1 x7.toNat da).2.1 1) (cond (bc x7 (ℓ x3.1)) ((vm N x3.2.2.1 6 (γ x3.1 x7.toNat da).1).bind λr3=>cond (aX 0 r3) (cond (bc x7 (ℓ x3.1)) (cond (small (ℓ x6+ℓ ([(γ x3.1 x7.toNat da).1]))) (bL x3 (x6++([(γ x3.1 x7.toNat da).1])) (W .i64 (x7+1))) none) none) (bL x3 x6 (W .i64 (x7+1)))) none) (bL x3 x6 (W .i64 (x7+1)))) none) (some (x6,0))
def sR.l5(N:Nat):Nat→sR.bK
 |0,_,_,_=>none
 |n+1,x3,x6,x7=>sR.eA N (sR.l5 N n) x3 x6 x7
def sR.b(eW:sR.bK)(a0:ae)(a1:an):Option ((List Int)×(Int)):=
 (gH N a0 a1).bind λr1=>cond (!r1) (some ([],1)) (eW a1 ([]) 0)
def sR(a0:ae)(a1:an):Option ((List Int)×(Int)):=sR.b N (sR.l5 N N) a0 a1
abbrev jG.MZ:=bJ→ae→Int→jd→Option Bool
abbrev jG.bO:=bJ→ae→Int→Option Bool
def jG.Js(N:Nat)(cH:jG.bO)(x1:bJ)(x2:ae)(x5:Int)(x6:jd):Option Bool:=
 cond (aN x6.2.2.2.1 1) (cond (!aN x6.2.2.2.2.1 0) (some false) (cond (!aN x6.2.2.2.2.2.1 0) (some false) (cH x1 x2 (W .i64 (x5+1))))) (cond (aN x6.2.2.2.1 3) (cond (!aN x6.2.2.2.2.1 0) (some false) (cond (!aN x6.2.2.2.2.2.1 0) (some false) (cH x1 x2 (W .i64 (x5+1))))) (cond (aN x6.2.2.2.1 2) (cond (aX x6.2.2.2.2.1 1) (some false) (cond (aX 12 x6.2.2.2.2.1) (some false) (cond (aX x6.2.2.2.2.2.1 (-1152921504606846976)) (some false) (cond (aX 1152921504606846976 x6.2.2.2.2.2.1) (some false) (cH x1 x2 (W .i64 (x5+1))))))) (some false)))
def jG.j9(cH:jG.bO)(x1:bJ)(x2:ae)(x5:Int)(x6:jd):Option Bool:=jG.Js N cH x1 x2 x5 x6
def jG.dU(Cm:jG.MZ)(cH:jG.bO)(x1:bJ)(x2:ae)(x5:Int):Option Bool:=
 cond (aX x5 (ℓ x1)) (cond (bc x5 (ℓ x1)) (cond (aX (γ x1 x5.toNat (0,(cf,bb))).1 1) (some false) (cond (aX 1099511627776 (γ x1 x5.toNat (0,(cf,bb))).1) (some false) (cond (aX 0 x5) (let v3:Int:=W .i64 (x5-1);cond (bc v3 (ℓ x1)) (cond (du (γ x1 x5.toNat (0,(cf,bb))).1 (γ x1 v3.toNat (0,(cf,bb))).1) (some false) (cond (aN (ℓ (γ x1 x5.toNat (0,(cf,bb))).2.1:Int) 0) (some false) ((ov N x2 (γ x1 x5.toNat (0,(cf,bb))).2.1).bind λr4=>cond (!r4) (some false) (cond (aX 0 (γ x1 x5.toNat (0,(cf,bb))).2.2.1) (some false) (Cm x1 x2 x5 (γ x1 x5.toNat (0,(cf,bb)))))))) none) (cond (aN (ℓ (γ x1 x5.toNat (0,(cf,bb))).2.1:Int) 0) (some false) ((ov N x2 (γ x1 x5.toNat (0,(cf,bb))).2.1).bind λr9=>cond (!r9) (some false) (cond (aX 0 (γ x1 x5.toNat (0,(cf,bb))).2.2.1) (some false) (Cm x1 x2 x5 (γ x1 x5.toNat (0,(cf,bb)))))))))) none) (some true)
def jG.l4(N:Nat):Nat→jG.bO
 |0,_,_,_=>none
 |n+1,x1,x2,x5=>jG.dU N (jG.j9 N (jG.l4 N n)) (jG.l4 N n) x1 x2 x5
def jG.b(fa:jG.bO)(a0:ae)(a1:bJ):Option Bool:=
 (m7 N a0).bind λr1=>cond (!r1) (some false) (cond (aX 12 (ℓ a1)) (some false) (fa a1 a0 0))
def jG(a0:ae)(a1:bJ):Option Bool:=jG.b N (jG.l4 N N) a0 a1
abbrev rr.cX:=bJ→Int→jd→Int→Option (jd×(Bool))
def rr.fG(N:Nat)(dW:rr.cX)(x0:bJ)(x1:Int)(x4:jd)(x6:Int):Option (jd×(Bool)):=
 cond (aX x6 (ℓ x0)) (cond (bc x6 (ℓ x0)) (cond (aN (γ x0 x6.toNat (0,(cf,bb))).1 x1) (cond (bc x6 (ℓ x0)) (some (γ x0 x6.toNat (0,(cf,bb)),true)) none) (dW x0 x1 x4 (W .i64 (x6+1)))) none) (some ((0,(cf,bb)),false))
def rr.l2(N:Nat):Nat→rr.cX
 |0,_,_,_,_=>none
 |n+1,x0,x1,x4,x6=>rr.fG N (rr.l2 N n) x0 x1 x4 x6
def rr.b(N:Nat)(gT:rr.cX)(a0:bJ)(a1:Int):Option (jd×(Bool)):=
 gT a0 a1 (0,(cf,bb)) 0
def rr(a0:bJ)(a1:Int):Option (jd×(Bool)):=rr.b N (rr.l2 N N) a0 a1
abbrev fu.iO:=aE→aE→aE→Int→aM→Int→Option (aE×(Bool))
abbrev fu.eZ:=aE→aE→aE→Int→aM→Int→Option (aE×(Bool))
abbrev fu.dR:=aE→aE→aE→Int→Option (aE×(Bool))
def fu.nK(dt:fu.dR)(lB:fu.iO)(x0 x1 x6:aE)(x7:Int)(x8:aM)(bm:Int):Option (aE×(Bool)):=
 cond (aX bm (ℓ x1)) (cond (bc bm (ℓ x1)) (cond (aN (γ x1 bm.toNat da).1 x7) (cond (bc bm (ℓ x1)) ((lh N (γ x1 bm.toNat da).2.1).bind λr8=>(BE N x8 r8).bind λr9=>lB x0 x1 x6 x7 r9 (W .i64 (bm+1))) none) (lB x0 x1 x6 x7 x8 (W .i64 (bm+1)))) none) ((SN N x8).bind λoR=>cond (!oR.2) (some ([],false)) (cond (!aN oR.1 0) (cond (small (ℓ x6+ℓ ([(x7,(oR.1,()))]))) (dt x0 x1 (x6++([(x7,(oR.1,()))])) (W .i64 (x7+1))) none) (dt x0 x1 x6 (W .i64 (x7+1)))))
def fu.oM(N:Nat)(dt:fu.dR):Nat→fu.iO
 |0,_,_,_,_,_,_=>none
 |n+1,x0,x1,x6,x7,x8,bm=>fu.nK N dt (fu.oM N dt n) x0 x1 x6 x7 x8 bm
def fu.oP(vi:fu.iO)(dt:fu.dR)(eV:fu.eZ)(x0 x1 x6:aE)(x7:Int)(x8:aM)(x9:Int):Option (aE×(Bool)):=
 cond (aX x9 (ℓ x0)) (cond (bc x9 (ℓ x0)) (cond (aN (γ x0 x9.toNat da).1 x7) (cond (bc x9 (ℓ x0)) ((lh N (γ x0 x9.toNat da).2.1).bind λr3=>(BE N x8 r3).bind λr4=>eV x0 x1 x6 x7 r4 (W .i64 (x9+1))) none) (eV x0 x1 x6 x7 x8 (W .i64 (x9+1)))) none) (vi x0 x1 x6 x7 x8 0)
def fu.l7(N:Nat)(dt:fu.dR):Nat→fu.eZ
 |0,_,_,_,_,_,_=>none
 |n+1,x0,x1,x6,x7,x8,x9=>fu.oP N (fu.oM N dt N) dt (fu.l7 N dt n) x0 x1 x6 x7 x8 x9
def fu.nw(N:Nat)(s8:fu.eZ)(dt:fu.dR)(x0 x1 x6:aE)(x7:Int):Option (aE×(Bool)):=
 cond (aX x7 6) (s8 x0 x1 x6 x7 (false,qx) 0) (some (x6,true))
def fu.l3(N:Nat):Nat→fu.dR
 |0,_,_,_,_=>none
 |n+1,x0,x1,x6,x7=>fu.nw N (fu.l7 N (fu.l3 N n) N) (fu.l3 N n) x0 x1 x6 x7
def fu.b(N:Nat)(oK:fu.dR)(a0 a1:aE):Option (aE×(Bool)):=
 oK a0 a1 ([]) 0
def fu(a0 a1:aE):Option (aE×(Bool)):=fu.b N (fu.l3 N N) a0 a1
def alm(a0:aY)(a1:Int):Option au:=
 (nJ N a0).bind λr1=>cond (!r1) (some ([])) ((iM N a0 a1).bind λr2=>some r2)
abbrev lV.fN:=aO→ae→an→cG→jd→Int→Int→Option Int
abbrev lV.awN:=bJ→aO→ae→an→cG→Option Int
def lV.lq(gK:lV.fN)(x3:aO)(x5:ae)(x6:an)(x9:cG)(bp:jd)(cY eB:Int):Option Int:=
 cond (aX eB (ℓ x3)) (cond (bc eB (ℓ x3)) (cond (aN (γ x3 eB.toNat bb).2.2.1 x9.2.2.1) (cond (bc eB (ℓ x3)) (cond (aN (γ x3 eB.toNat bb).2.1 x9.2.1) (some 4) (gK x3 x5 x6 x9 bp cY (W .i64 (eB+1)))) none) (gK x3 x5 x6 x9 bp cY (W .i64 (eB+1)))) none) (cond (aN (ℓ x3) 40) (some 5) ((lh N x9.2.2.2.1).bind λpq=>(lh N 4).bind λtj=>(lh N bp.2.2.1).bind λvn=>(kO N tj vn).bind λwu=>(R3 N pq wu).bind λwY=>cond (aX wY 0) (some 11) ((mL N x6.2.2.2.1 cY).bind λw3=>(fu N w3 bp.2.1).bind λJS=>cond (!JS.2) (some 2) ((alm N x6.2.2.2.2.2.1 cY).bind λQw=>(rp N x5 JS.1 Qw).bind λFR=>(Tf N x6 cY).bind λMY=>(lh N MY).bind λEF=>(lh N x9.2.2.2.1).bind λNo=>(Uo N EF No).bind λI8=>(R3 N I8 FR.1).bind λEH=>cond (aX EH 0) (some 10) (some 0)))))
def lV.mq(N:Nat):Nat→lV.fN
 |0,_,_,_,_,_,_,_=>none
 |n+1,x3,x5,x6,x9,bp,cY,eB=>lV.lq N (lV.mq N n) x3 x5 x6 x9 bp cY eB
def lV.j3b(ta:lV.fN)(x2:bJ)(x3:aO)(x5:ae)(x6:an)(x9:cG):Option Int:=
 (MF N x6 x9.2.2.1).bind λr7=>cond (aN r7 0) (some 3) (cond (!aN r7 1) (some 7) ((rr N x2 x9.2.1).bind λr8=>(nc N x6.2.1 x9.2.2.1).bind λr9=>cond (!r8.2) (some 3) (cond (!aN r8.1.2.2.2.1 1) (some 3) (cond (aN r9 0) (some 3) (ta x3 x5 x6 x9 r8.1 r9 0)))))
def lV.j3(x2:bJ)(x3:aO)(x5:ae)(x6:an)(x9:cG):Option Int:=lV.j3b N (lV.mq N N) x2 x3 x5 x6 x9
def lV.b(aq8:lV.awN)(a0:ae)(a1:an)(a2:bJ)(a3:aO)(a4:cG):Option Int:=
 (gH N a0 a1).bind λr1=>cond (!r1) (some 1) ((jG N a0 a2).bind λr2=>cond (!r2) (some 1) ((e8 N a3).bind λr3=>cond (!r3) (some 1) ((Zo N a4).bind λr4=>cond (!r4) (some 1) (cond (aX 0 (ℓ a3)) (let v5:Int:=W .i64 ((ℓ a3:Int)-1);cond (bc v5 (ℓ a3)) (cond (du a4.1 (γ a3 v5.toNat bb).1) (some 1) (aq8 a2 a3 a0 a1 a4)) none) (aq8 a2 a3 a0 a1 a4)))))
def lV(a0:ae)(a1:an)(a2:bJ)(a3:aO)(a4:cG):Option Int:=lV.b N (lV.j3 N) a0 a1 a2 a3 a4
def adJ(a0:ae)(a1:an)(a2:bJ)(a3:aO)(a4:cG):Option (aO×(Int)):=
 (lV N a0 a1 a2 a3 a4).bind λr1=>cond (!aN r1 0) (some ([],r1)) (cond (small (ℓ cS+ℓ a3)) (let v2:List ((Int)×((Int)×((Int)×((Int)×(Unit))))):=cS++a3;cond (small (ℓ v2+ℓ ([a4]))) (some ((v2++([a4])),0)) none) none)
abbrev sW.kv:=aO→Int→cG→cG→Bool→Int→Option (cG×(Bool))
def sW.uU(N:Nat)(lA:sW.kv)(x0:aO)(x1:Int)(x4 x6:cG)(x7:Bool)(x8:Int):Option (cG×(Bool)):=
 cond (aX x8 (ℓ x0)) (cond (bc x8 (ℓ x0)) (cond (aN (γ x0 x8.toNat bb).2.1 x1) (cond (!x7) (cond (bc x8 (ℓ x0)) (lA x0 x1 x4 (γ x0 x8.toNat bb) true (W .i64 (x8+1))) none) (cond (bc x8 (ℓ x0)) (cond (aX x6.2.2.2.1 (γ x0 x8.toNat bb).2.2.2.1) (cond (bc x8 (ℓ x0)) (lA x0 x1 x4 (γ x0 x8.toNat bb) true (W .i64 (x8+1))) none) (lA x0 x1 x4 x6 x7 (W .i64 (x8+1)))) none)) (lA x0 x1 x4 x6 x7 (W .i64 (x8+1)))) none) (some (x6,x7))
def sW.l6(N:Nat):Nat→sW.kv
 |0,_,_,_,_,_,_=>none
 |n+1,x0,x1,x4,x6,x7,x8=>sW.uU N (sW.l6 N n) x0 x1 x4 x6 x7 x8
def sW.b(yw:sW.kv)(a0:aO)(a1:Int):Option (cG×(Bool)):=
 (e8 N a0).bind λr1=>cond (!r1) (some (bb,false)) (yw a0 a1 bb bb false 0)
def sW(a0:aO)(a1:Int):Option (cG×(Bool)):=sW.b N (sW.l6 N N) a0 a1
abbrev gq.s9:=bJ→aO→an→an→au→bP→bJ→Int→jd→cG→Int→Int→Option (an×bJ×(Int))
abbrev gq.eZ:=bJ→aO→an→an→au→bP→bJ→Int→Option (an×bJ×(Int))
def gq.wW(eV:gq.eZ)(ID:gq.s9)(x2:bJ)(x3:aO)(x5 x8:an)(a7:au)(bp:bP)(ch:bJ)(cY:Int)(eB:jd)(fx:cG)(mu nN:Int):Option (an×bJ×(Int)):=
 cond (aX nN (ℓ eB.2.1)) (cond (bc nN (ℓ eB.2.1)) (cond (bc nN (ℓ eB.2.1)) (let v14:Int:=W .i64 (0-((γ eB.2.1 nN.toNat da).2.1));cond (bc nN (ℓ eB.2.1)) (cond (bc nN (ℓ eB.2.1)) (cond (small (ℓ a7+ℓ ([(0,((γ eB.2.1 nN.toNat da).1,(v14,()))),(mu,((γ eB.2.1 nN.toNat da).1,((γ eB.2.1 nN.toNat da).2.1,())))]))) (ID x2 x3 x5 x8 (a7++([(0,((γ eB.2.1 nN.toNat da).1,(v14,()))),(mu,((γ eB.2.1 nN.toNat da).1,((γ eB.2.1 nN.toNat da).2.1,())))])) bp ch cY eB fx mu (W .i64 (nN+1))) none) none) none) none) none) ((lh N fx.2.2.2.1).bind λwY=>(Dj N 5 mu 2 0 wY).bind λw3=>cond (small (ℓ bp+ℓ w3)) (cond (small (ℓ ch+ℓ ([eB]))) (eV x2 x3 x5 x8 a7 (bp++w3) (ch++([eB])) (W .i64 (cY+1))) none) none)
def gq.yc(N:Nat)(eV:gq.eZ):Nat→gq.s9
 |0,_,_,_,_,_,_,_,_,_,_,_,_=>none
 |n+1,x2,x3,x5,x8,a7,bp,ch,cY,eB,fx,mu,nN=>gq.wW N eV (gq.yc N eV n) x2 x3 x5 x8 a7 bp ch cY eB fx mu nN
def gq.oP(IE:gq.s9)(eV:gq.eZ)(x2:bJ)(x3:aO)(x5 x8:an)(a7:au)(bp:bP)(ch:bJ)(cY:Int):Option (an×bJ×(Int)):=
 cond (aX cY (ℓ x2)) (cond (bc cY (ℓ x2)) (cond (small (ℓ cf+ℓ (γ x2 cY.toNat (0,(cf,bb))).2.1)) (let v5:List ((Int)×((Int)×(Unit))):=cf++((γ x2 cY.toNat (0,(cf,bb))).2.1);cond (!aN (γ x2 cY.toNat (0,(cf,bb))).2.2.2.1 1) (cond (small (ℓ ch+ℓ ([((γ x2 cY.toNat (0,(cf,bb))).1,(v5,(γ x2 cY.toNat (0,(cf,bb))).2.2))]))) (eV x2 x3 x5 x8 a7 bp (ch++([((γ x2 cY.toNat (0,(cf,bb))).1,(v5,(γ x2 cY.toNat (0,(cf,bb))).2.2))])) (W .i64 (cY+1))) none) ((sW N x3 (γ x2 cY.toNat (0,(cf,bb))).1).bind λr8=>cond (!r8.2) (cond (small (ℓ ch+ℓ ([((γ x2 cY.toNat (0,(cf,bb))).1,(v5,((γ x2 cY.toNat (0,(cf,bb))).2.2.1,(3,(γ x2 cY.toNat (0,(cf,bb))).2.2.2.2))))]))) (eV x2 x3 x5 x8 a7 bp (ch++([((γ x2 cY.toNat (0,(cf,bb))).1,(v5,((γ x2 cY.toNat (0,(cf,bb))).2.2.1,(3,(γ x2 cY.toNat (0,(cf,bb))).2.2.2.2))))])) (W .i64 (cY+1))) none) ((nc N x5.2.1 r8.1.2.2.1).bind λnF=>cond (aN nF 0) (some ((cf,(cS,(bn,(bn,(dd,(dm,())))))),[],3)) ((MF N x5 r8.1.2.2.1).bind λoR=>cond (aN oR 0) (some ((cf,(cS,(bn,(bn,(dd,(dm,())))))),[],3)) (IE x2 x3 x5 x8 a7 bp ch cY ((γ x2 cY.toNat (0,(cf,bb))).1,(v5,((γ x2 cY.toNat (0,(cf,bb))).2.2.1,(2,(r8.1.2.2.1,(r8.1.2.2.2.1,(γ x2 cY.toNat (0,(cf,bb))).2.2.2.2.2.2)))))) r8.1 nF 0))))) none) none) ((zt N x5 a7 bp).bind λMY=>cond (!aN MY.2 0) (some ((cf,(cS,(bn,(bn,(dd,(dm,())))))),[],MY.2)) (some (MY.1,ch,0)))
def gq.l7(N:Nat):Nat→gq.eZ
 |0,_,_,_,_,_,_,_,_=>none
 |n+1,x2,x3,x5,x8,a7,bp,ch,cY=>gq.oP N (gq.yc N (gq.l7 N n) N) (gq.l7 N n) x2 x3 x5 x8 a7 bp ch cY
def gq.b(s8:gq.eZ)(a0:ae)(a1:an)(a2:bJ)(a3:aO):Option (an×bJ×(Int)):=
 (gH N a0 a1).bind λr1=>cond (!r1) (some ((cf,(cS,(bn,(bn,(dd,(dm,())))))),[],1)) ((jG N a0 a2).bind λr2=>cond (!r2) (some ((cf,(cS,(bn,(bn,(dd,(dm,())))))),[],1)) ((e8 N a3).bind λr3=>cond (!r3) (some ((cf,(cS,(bn,(bn,(dd,(dm,())))))),[],1)) (s8 a2 a3 a1 (cf,(cS,(bn,(bn,(dd,(dm,())))))) ([]) ([]) ([]) 0)))
def gq(a0:ae)(a1:an)(a2:bJ)(a3:aO):Option (an×bJ×(Int)):=gq.b N (gq.l7 N N) a0 a1 a2 a3
abbrev qn.cX:=aE→Int→Option Bool
def qn.fG(N:Nat)(dW:qn.cX)(x0:aE)(x3:Int):Option Bool:=
 cond (aX x3 (ℓ x0)) (cond (bc x3 (ℓ x0)) (cond (aX (γ x0 x3.toNat da).1 1) (some false) (cond (bc x3 (ℓ x0)) (cond (aX 12 (γ x0 x3.toNat da).1) (some false) (cond (bc x3 (ℓ x0)) (cond (aX (γ x0 x3.toNat da).2.1 1) (some false) (cond (bc x3 (ℓ x0)) (cond (aX 4 (γ x0 x3.toNat da).2.1) (some false) (cond (aX 0 x3) (cond (bc x3 (ℓ x0)) (let v2:Int:=W .i64 (x3-1);cond (bc v2 (ℓ x0)) (cond (du (γ x0 x3.toNat da).1 (γ x0 v2.toNat da).1) (some false) (dW x0 (W .i64 (x3+1)))) none) none) (dW x0 (W .i64 (x3+1))))) none)) none)) none)) none) (some true)
def qn.l2(N:Nat):Nat→qn.cX
 |0,_,_=>none
 |n+1,x0,x3=>qn.fG N (qn.l2 N n) x0 x3
def qn.b(N:Nat)(gT:qn.cX)(a0:aE):Option Bool:=
 gT a0 0
def qn(a0:aE):Option Bool:=qn.b N (qn.l2 N N) a0
abbrev sS.cX:=(List Int)→Int→Option Bool
def sS.fG(N:Nat)(dW:sS.cX)(x0:List Int)(x3:Int):Option Bool:=
 cond (aX x3 (ℓ x0)) (cond (bc x3 (ℓ x0)) (cond (aX (γ x0 x3.toNat 0) 1) (some false) (cond (bc x3 (ℓ x0)) (cond (aX 12 (γ x0 x3.toNat 0)) (some false) (cond (aX 0 x3) (cond (bc x3 (ℓ x0)) (let v2:Int:=W .i64 (x3-1);cond (bc v2 (ℓ x0)) (cond (du (γ x0 x3.toNat 0) (γ x0 v2.toNat 0)) (some false) (dW x0 (W .i64 (x3+1)))) none) none) (dW x0 (W .i64 (x3+1))))) none)) none) (some true)
def sS.l2(N:Nat):Nat→sS.cX
 |0,_,_=>none
 |n+1,x0,x3=>sS.fG N (sS.l2 N n) x0 x3
def sS.b(N:Nat)(gT:sS.cX)(a0:List Int):Option Bool:=
 gT a0 0
def sS(a0:List Int):Option Bool:=sS.b N (sS.l2 N N) a0
abbrev kg.iO:=Int→bJ→Int→Int→Option Int
abbrev kg.dR:=Int→bJ→aO→Int→Int→Option Int
def kg.nK(N:Nat)(lB:kg.iO)(x0:Int)(x1:bJ)(x7 bp:Int):Option Int:=
 cond (aX bp (ℓ x1)) (cond (bc bp (ℓ x1)) (cond (aN (γ x1 bp.toNat (0,(cf,bb))).2.2.2.1 2) (cond (bc bp (ℓ x1)) (cond (aN (γ x1 bp.toNat (0,(cf,bb))).2.2.2.2.1 x0) (lB x0 x1 4 (W .i64 (bp+1))) (lB x0 x1 x7 (W .i64 (bp+1)))) none) (lB x0 x1 x7 (W .i64 (bp+1)))) none) (some x7)
def kg.oM(N:Nat):Nat→kg.iO
 |0,_,_,_,_=>none
 |n+1,x0,x1,x7,bp=>kg.nK N (kg.oM N n) x0 x1 x7 bp
def kg.nw(vi:kg.iO)(dt:kg.dR)(x0:Int)(x1:bJ)(x2:aO)(x7 x8:Int):Option Int:=
 cond (aX x8 (ℓ x2)) (cond (bc x8 (ℓ x2)) (cond (!aN (γ x2 x8.toNat bb).2.2.1 x0) (dt x0 x1 x2 x7 (W .i64 (x8+1))) (cond (bc x8 (ℓ x2)) ((rr N x1 (γ x2 x8.toNat bb).2.1).bind λr3=>cond (r3.2) (cond (bc x8 (ℓ x2)) (cond (du r3.1.2.2.1 (γ x2 x8.toNat bb).2.2.2.1) (dt x0 x1 x2 (mx x7 3) (W .i64 (x8+1))) (dt x0 x1 x2 (mx x7 2) (W .i64 (x8+1)))) none) (dt x0 x1 x2 (mx x7 2) (W .i64 (x8+1)))) none)) none) (vi x0 x1 x7 0)
def kg.l3(N:Nat):Nat→kg.dR
 |0,_,_,_,_,_=>none
 |n+1,x0,x1,x2,x7,x8=>kg.nw N (kg.oM N N) (kg.l3 N n) x0 x1 x2 x7 x8
def kg.b(N:Nat)(oK:kg.dR)(a0:Int)(a1:bJ)(a2:aO):Option Int:=
 oK a0 a1 a2 1 0
def kg(a0:Int)(a1:bJ)(a2:aO):Option Int:=kg.b N (kg.l3 N N) a0 a1 a2
abbrev dT.yC:=aE→(List Int)→bJ→aO→aE→Int→Int→Bool→Int→Option (aE×(Int))
abbrev dT.yF:=aE→(List Int)→bJ→aO→aE→Int→Int→Bool→Int→Option (aE×(Int))
abbrev dT.lC:=aE→(List Int)→bJ→aO→aE→Int→Int→Bool→Int→Option (aE×(Int))
abbrev dT.bK:=aE→(List Int)→bJ→aO→aE→Int→Option (aE×(Int))
def dT.Fa(bL:dT.bK)(IN:dT.yC)(x1:aE)(x2:List Int)(x3:bJ)(x4:aO)(bp:aE)(ch cY:Int)(eB:Bool)(mu:Int):Option (aE×(Int)):=
 cond (aX mu (ℓ x4)) (cond (eB) (IN x1 x2 x3 x4 bp ch cY true (W .i64 (mu+1))) (cond (bc mu (ℓ x4)) (IN x1 x2 x3 x4 bp ch cY (aN (γ x4 mu.toNat bb).2.2.1 ch) (W .i64 (mu+1))) none)) (cond (eB) ((kg N ch x3 x4).bind λvn=>let v16:Int:=mx cY vn;cond (small (ℓ bp+ℓ ([(ch,(v16,()))]))) (bL x1 x2 x3 x4 (bp++([(ch,(v16,()))])) (W .i64 (ch+1))) none) (bL x1 x2 x3 x4 bp (W .i64 (ch+1))))
def dT.I5(N:Nat)(bL:dT.bK):Nat→dT.yC
 |0,_,_,_,_,_,_,_,_,_=>none
 |n+1,x1,x2,x3,x4,bp,ch,cY,eB,mu=>dT.Fa N bL (dT.I5 N bL n) x1 x2 x3 x4 bp ch cY eB mu
def dT.HM(N:Nat)(Qy:dT.yC)(bL:dT.bK)(EI:dT.yF)(x1:aE)(x2:List Int)(x3:bJ)(x4:aO)(bp:aE)(ch cY:Int)(eB:Bool)(ga:Int):Option (aE×(Int)):=
 cond (aX ga (ℓ x2)) (cond (eB) (EI x1 x2 x3 x4 bp ch cY true (W .i64 (ga+1))) (cond (bc ga (ℓ x2)) (EI x1 x2 x3 x4 bp ch cY (aN (γ x2 ga.toNat 0) ch) (W .i64 (ga+1))) none)) (Qy x1 x2 x3 x4 bp ch cY eB 0)
def dT.KI(N:Nat)(bL:dT.bK):Nat→dT.yF
 |0,_,_,_,_,_,_,_,_,_=>none
 |n+1,x1,x2,x3,x4,bp,ch,cY,eB,ga=>dT.HM N (dT.I5 N bL N) bL (dT.KI N bL n) x1 x2 x3 x4 bp ch cY eB ga
def dT.vN(N:Nat)(QB:dT.yF)(bL:dT.bK)(oU:dT.lC)(x1:aE)(x2:List Int)(x3:bJ)(x4:aO)(bp:aE)(ch cY:Int)(eB:Bool)(fx:Int):Option (aE×(Int)):=
 cond (aX fx (ℓ x1)) (cond (bc fx (ℓ x1)) (cond (aN (γ x1 fx.toNat da).1 ch) (cond (bc fx (ℓ x1)) (oU x1 x2 x3 x4 bp ch (γ x1 fx.toNat da).2.1 true (W .i64 (fx+1))) none) (oU x1 x2 x3 x4 bp ch cY eB (W .i64 (fx+1)))) none) (QB x1 x2 x3 x4 bp ch cY eB 0)
def dT.l9(N:Nat)(bL:dT.bK):Nat→dT.lC
 |0,_,_,_,_,_,_,_,_,_=>none
 |n+1,x1,x2,x3,x4,bp,ch,cY,eB,fx=>dT.vN N (dT.KI N bL N) bL (dT.l9 N bL n) x1 x2 x3 x4 bp ch cY eB fx
def dT.eA(N:Nat)(yx:dT.lC)(bL:dT.bK)(x1:aE)(x2:List Int)(x3:bJ)(x4:aO)(bp:aE)(ch:Int):Option (aE×(Int)):=
 cond (du ch 12) (yx x1 x2 x3 x4 bp ch 0 false 0) (some (bp,0))
def dT.l5(N:Nat):Nat→dT.bK
 |0,_,_,_,_,_,_=>none
 |n+1,x1,x2,x3,x4,bp,ch=>dT.eA N (dT.l9 N (dT.l5 N n) N) (dT.l5 N n) x1 x2 x3 x4 bp ch
def dT.b(eW:dT.bK)(a0:ae)(a1:aE)(a2:List Int)(a3:bJ)(a4:aO):Option (aE×(Int)):=
 (qn N a1).bind λr1=>cond (!r1) (some ([],1)) ((sS N a2).bind λr2=>cond (!r2) (some ([],1)) ((jG N a0 a3).bind λr3=>cond (!r3) (some ([],1)) ((e8 N a4).bind λr4=>cond (!r4) (some ([],1)) (eW a1 a2 a3 a4 ([]) 1))))
def dT(a0:ae)(a1:aE)(a2:List Int)(a3:bJ)(a4:aO):Option (aE×(Int)):=dT.b N (dT.l5 N N) a0 a1 a2 a3 a4
def MI(a0:bf)(a1:an)(a2 a3 a4:Int):Option bf:=
 (vm N a1.2.2.1 a3 a4).bind λr1=>cond (aX 0 r1) (cond (small (ℓ a0+ℓ ([(a2,(a3,(a4,(r1,(0,())))))]))) (some (a0++([(a2,(a3,(a4,(r1,(0,())))))]))) none) (some a0)
def aat(N:Nat)(a0:Int):Option Bool:=
 cond (aN a0 1) (some true) (some (aN a0 2))
abbrev sT.bO:=aE→Int→Int→Option Int
def sT.dU(N:Nat)(cH:sT.bO)(x0:aE)(x1 x5:Int):Option Int:=
 cond (aX x5 (ℓ x0)) (cond (bc x5 (ℓ x0)) (cond (aN (γ x0 x5.toNat da).1 x1) (cond (bc x5 (ℓ x0)) (some (γ x0 x5.toNat da).2.1) none) (cH x0 x1 (W .i64 (x5+1)))) none) (some 1)
def sT.l4(N:Nat):Nat→sT.bO
 |0,_,_,_=>none
 |n+1,x0,x1,x5=>sT.dU N (sT.l4 N n) x0 x1 x5
def sT.b(fa:sT.bO)(a0:aE)(a1:Int):Option Int:=
 (qn N a0).bind λr1=>cond (!r1) (some 0) (fa a0 a1 0)
def sT(a0:aE)(a1:Int):Option Int:=sT.b N (sT.l4 N N) a0 a1
abbrev sU.bK:=aE→Int→Int→an→(List Int)→Int→Option ((List Int)×(Int))
def sU.eA(bL:sU.bK)(x2:aE)(x3 x4:Int)(x6:an)(bp:List Int)(ch:Int):Option ((List Int)×(Int)):=
 cond (aX ch (ℓ x6.1)) (cond (bc ch (ℓ x6.1)) ((aat N (γ x6.1 ch.toNat da).2.1).bind λr4=>cond (r4) (cond (!aN (γ x6.1 ch.toNat da).1 x3) ((vm N x6.2.2.1 6 (γ x6.1 ch.toNat da).1).bind λr5=>cond (aX 0 r5) ((sT N x2 (γ x6.1 ch.toNat da).1).bind λr6=>cond (aN r6 x4) (cond (small (ℓ bp+ℓ ([(γ x6.1 ch.toNat da).1]))) (bL x2 x3 x4 x6 (bp++([(γ x6.1 ch.toNat da).1])) (W .i64 (ch+1))) none) (bL x2 x3 x4 x6 bp (W .i64 (ch+1)))) (bL x2 x3 x4 x6 bp (W .i64 (ch+1)))) (bL x2 x3 x4 x6 bp (W .i64 (ch+1)))) (bL x2 x3 x4 x6 bp (W .i64 (ch+1)))) none) (some (bp,0))
def sU.l5(N:Nat):Nat→sU.bK
 |0,_,_,_,_,_,_=>none
 |n+1,x2,x3,x4,x6,bp,ch=>sU.eA N (sU.l5 N n) x2 x3 x4 x6 bp ch
def sU.b(eW:sU.bK)(a0:ae)(a1:an)(a2:aE)(a3 a4:Int):Option ((List Int)×(Int)):=
 (gH N a0 a1).bind λr1=>cond (!r1) (some ([],1)) ((qn N a2).bind λr2=>cond (!r2) (some ([],1)) (eW a2 a3 a4 a1 ([]) 0))
def sU(a0:ae)(a1:an)(a2:aE)(a3 a4:Int):Option ((List Int)×(Int)):=sU.b N (sU.l5 N N) a0 a1 a2 a3 a4
abbrev c3.nC:=Int→aE→aE→ae→an→bf→Int→(List Int)→Int→Option (bf×(Int))
abbrev c3.IH:=Int→aE→an→bf→Int→Option (bf×(Int))
abbrev c3.vj:=Int→aE→ae→an→bf→Int→Option (bf×(Int))
abbrev c3.iO:=Int→aE→aE→ae→an→bf→Int→Option (bf×(Int))
abbrev c3.MZ:=Int→aE→aE→ae→an→bf→Option (bf×(Int))
def c3.wV(lB:c3.iO)(oY:c3.nC)(x2:Int)(x3 x4:aE)(x5:ae)(x6:an)(bp:bf)(cY:Int)(eB:List Int)(ga:Int):Option (bf×(Int)):=
 cond (aX ga (ℓ eB)) (cond (bc ga (ℓ eB)) ((MI N bp x6 (W .i64 ((W .i64 (4+cY))-1)) 6 (γ eB ga.toNat 0)).bind λvn=>oY x2 x3 x4 x5 x6 vn cY eB (W .i64 (ga+1))) none) (lB x2 x3 x4 x5 x6 bp (W .i64 (cY+1)))
def c3.yb(N:Nat)(lB:c3.iO):Nat→c3.nC
 |0,_,_,_,_,_,_,_,_,_=>none
 |n+1,x2,x3,x4,x5,x6,bp,cY,eB,ga=>c3.wV N lB (c3.yb N lB n) x2 x3 x4 x5 x6 bp cY eB ga
def c3.Mi(EG:c3.IH)(x2:Int)(x4:aE)(x6:an)(bp:bf)(XG:Int):Option (bf×(Int)):=
 cond (aX XG (ℓ x4)) (cond (bc XG (ℓ x4)) ((XW N x6.2.1 (γ x4 XG.toNat da).1).bind λI9=>cond (bc XG (ℓ x4)) (cond (bc XG (ℓ x4)) ((vm N x6.2.2.1 5 (γ x4 XG.toNat da).1).bind λr32=>let v33:Int:=mn (γ x4 XG.toNat da).2.1 r32;cond (I9.2) (cond (!aN I9.1.2.1 x2) (cond (aX 0 v33) (cond (small (ℓ bp+ℓ ([(9,(5,(I9.1.1,(v33,(0,())))))]))) (EG x2 x4 x6 (bp++([(9,(5,(I9.1.1,(v33,(0,())))))])) (W .i64 (XG+1))) none) (EG x2 x4 x6 bp (W .i64 (XG+1)))) (EG x2 x4 x6 bp (W .i64 (XG+1)))) (EG x2 x4 x6 bp (W .i64 (XG+1)))) none) none) none) (some (bp,0))
def c3.O8(N:Nat):Nat→c3.IH
 |0,_,_,_,_,_=>none
 |n+1,x2,x4,x6,bp,XG=>c3.Mi N (c3.O8 N n) x2 x4 x6 bp XG
def c3.PZ(abg:c3.IH)(nG:c3.vj)(x2:Int)(x4:aE)(x5:ae)(x6:an)(bp:bf)(mu:Int):Option (bf×(Int)):=
 cond (aX mu (ℓ x6.1)) (cond (bc mu (ℓ x6.1)) ((aat N (γ x6.1 mu.toNat da).2.1).bind λJS=>cond (!JS) (nG x2 x4 x5 x6 bp (W .i64 (mu+1))) (cond (aN (γ x6.1 mu.toNat da).1 x2) (nG x2 x4 x5 x6 bp (W .i64 (mu+1))) ((lh N x5.2.2.1).bind λMY=>(vm N x6.2.2.1 6 (γ x6.1 mu.toNat da).1).bind λEF=>(lh N EF).bind λNo=>(kO N MY No).bind λI8=>(xV N I8).bind λEH=>cond (!EH.2) (some ([],2)) (cond (aX 0 EH.1) (cond (small (ℓ bp+ℓ ([(8,(7,((γ x6.1 mu.toNat da).1,(EH.1,(0,())))))]))) (nG x2 x4 x5 x6 (bp++([(8,(7,((γ x6.1 mu.toNat da).1,(EH.1,(0,())))))])) (W .i64 (mu+1))) none) (nG x2 x4 x5 x6 bp (W .i64 (mu+1))))))) none) (abg x2 x4 x6 bp 0)
def c3.JK(N:Nat):Nat→c3.vj
 |0,_,_,_,_,_,_=>none
 |n+1,x2,x4,x5,x6,bp,mu=>c3.PZ N (c3.O8 N N) (c3.JK N n) x2 x4 x5 x6 bp mu
def c3.nK(IF:c3.nC)(abo:c3.vj)(lB:c3.iO)(x2:Int)(x3 x4:aE)(x5:ae)(x6:an)(bp:bf)(cY:Int):Option (bf×(Int)):=
 cond (du cY 4) ((sU N x5 x6 x3 x2 cY).bind λnF=>IF x2 x3 x4 x5 x6 bp cY nF.1 0) (abo x2 x4 x5 x6 bp 0)
def c3.oM(N:Nat):Nat→c3.iO
 |0,_,_,_,_,_,_,_=>none
 |n+1,x2,x3,x4,x5,x6,bp,cY=>c3.nK N (c3.yb N (c3.oM N n) N) (c3.JK N N) (c3.oM N n) x2 x3 x4 x5 x6 bp cY
def c3.Js(vi:c3.iO)(x2:Int)(x3 x4:aE)(x5:ae)(x6:an)(bp:bf):Option (bf×(Int)):=
 (MI N bp x6 2 6 x2).bind λr8=>(MI N r8 x6 3 3 0).bind λr9=>vi x2 x3 x4 x5 x6 r9 1
def c3.j9(x2:Int)(x3 x4:aE)(x5:ae)(x6:an)(bp:bf):Option (bf×(Int)):=c3.Js N (c3.oM N N) x2 x3 x4 x5 x6 bp
def c3.b(Cm:c3.MZ)(a0:ae)(a1:an)(a2:Int)(a3 a4:aE):Option (bf×(Int)):=
 (gH N a0 a1).bind λr1=>cond (!r1) (some ([],1)) ((qn N a3).bind λr2=>cond (!r2) (some ([],1)) ((rq N a4).bind λr3=>cond (!r3) (some ([],1)) ((Uu N a1.1 a2).bind λr4=>cond (aN r4 0) (some ([],3)) ((nc N a1.2.1 a2).bind λr5=>cond (!aN r5 0) ((MI N ([]) a1 1 5 r5).bind λr6=>Cm a2 a3 a4 a0 a1 r6) (Cm a2 a3 a4 a0 a1 ([]))))))
def c3(a0:ae)(a1:an)(a2:Int)(a3 a4:aE):Option (bf×(Int)):=c3.b N (c3.j9 N) a0 a1 a2 a3 a4
def adL(a0:ae)(a1:an):Option ((Int)×(Int)):=
 (gH N a0 a1).bind λr1=>cond (!r1) (some (0,1)) ((vm N a1.2.2.1 2 0).bind λr2=>cond (aN r2 (-9223372036854775808)) (some (0,2)) (some ((mx (W .i64 (0-r2)) 0),0)))
abbrev sV.bO:=bf→Int→Option Bool
def sV.dU(cH:sV.bO)(x0:bf)(x3:Int):Option Bool:=
 cond (aX x3 (ℓ x0)) (cond (bc x3 (ℓ x0)) (cond (aX (γ x0 x3.toNat gl).1 1) (some false) (cond (aX 9 (γ x0 x3.toNat gl).1) (some false) ((Sx N (γ x0 x3.toNat gl).2.1 (γ x0 x3.toNat gl).2.2.1).bind λr2=>cond (!r2) (some false) (cond (aX (γ x0 x3.toNat gl).2.2.2.1 1) (some false) (cond (aX (γ x0 x3.toNat gl).2.2.2.2.1 0) (some false) (cond (aX (γ x0 x3.toNat gl).2.2.2.1 (γ x0 x3.toNat gl).2.2.2.2.1) (some false) (cond (aX 0 x3) (let v3:Int:=W .i64 (x3-1);cond (bc v3 (ℓ x0)) (cond (aX (γ x0 x3.toNat gl).1 (γ x0 v3.toNat gl).1) (some false) (let v4:Int:=W .i64 (x3-1);cond (bc v4 (ℓ x0)) (cond (aN (γ x0 x3.toNat gl).1 (γ x0 v4.toNat gl).1) (let v5:Int:=W .i64 (x3-1);cond (bc v5 (ℓ x0)) (cond (!aN (γ x0 x3.toNat gl).2.1 (γ x0 v5.toNat gl).2.1) (some false) (let v6:Int:=W .i64 (x3-1);cond (bc v6 (ℓ x0)) (cond (du (γ x0 x3.toNat gl).2.2.1 (γ x0 v6.toNat gl).2.2.1) (some false) (cH x0 (W .i64 (x3+1)))) none)) none) (cH x0 (W .i64 (x3+1)))) none)) none) (cH x0 (W .i64 (x3+1)))))))))) none) (some true)
def sV.l4(N:Nat):Nat→sV.bO
 |0,_,_=>none
 |n+1,x0,x3=>sV.dU N (sV.l4 N n) x0 x3
def sV.b(N:Nat)(fa:sV.bO)(a0:bf):Option Bool:=
 cond (aX 64 (ℓ a0)) (some false) (fa a0 0)
def sV(a0:bf):Option Bool:=sV.b N (sV.l4 N N) a0
abbrev ed.yC:=bf→Int→Int→Int→(List Int)→Int→Option (bf×(Int)×(Int))
abbrev ed.IL:=bf→Int→Int→Int→(List Int)→Option (bf×(Int)×(Int))
abbrev ed.jX:=bf→Int→Int→Int→(List Int)→Option (bf×(Int)×(Int))
abbrev ed.bK:=bf→Int→Int→Option (bf×(Int)×(Int))
def ed.Fa(N:Nat)(bL:ed.bK)(IN:ed.yC)(x7:bf)(x8 x9 bm:Int)(cY:List Int)(fx:Int):Option (bf×(Int)×(Int)):=
 cond (aX fx bm) (let v13:Int:=W .i64 (fx-x9);cond (bc v13 (ℓ cY)) (cond (bc fx (ℓ x7)) (let v15:Int:=W .i64 (fx-x9);cond (bc v15 (ℓ cY)) (IN (List.set x7 fx.toNat ((γ x7 fx.toNat gl).1,((γ x7 fx.toNat gl).2.1,((γ x7 fx.toNat gl).2.2.1,((γ x7 fx.toNat gl).2.2.2.1,(γ cY v13.toNat 0,(γ x7 fx.toNat gl).2.2.2.2.2)))))) (W .i64 (x8-(γ cY v15.toNat 0))) x9 bm cY (W .i64 (fx+1))) none) none) none) (bL x7 x8 bm)
def ed.I5(N:Nat)(bL:ed.bK):Nat→ed.yC
 |0,_,_,_,_,_,_=>none
 |n+1,x7,x8,x9,bm,cY,fx=>ed.Fa N bL (ed.I5 N bL n) x7 x8 x9 bm cY fx
def ed.yr(Qy:ed.yC)(bL:ed.bK)(x7:bf)(x8 x9 bm:Int)(a7:List Int):Option (bf×(Int)×(Int)):=
 (qB N a7).bind λr8=>(xV N r8).bind λr9=>cond (!r9.2) (some ([],0,2)) ((gu N (mn r9.1 x8) a7).bind λnF=>cond (!aN nF.2 0) (some ([],0,nF.2)) (Qy x7 x8 x9 bm nF.1 x9))
def ed.E9(bL:ed.bK)(x7:bf)(x8 x9 bm:Int)(a7:List Int):Option (bf×(Int)×(Int)):=ed.yr N (ed.I5 N bL N) bL x7 x8 x9 bm a7
def ed.Ec(N:Nat)(yz:ed.IL)(bL:ed.bK)(gD:ed.jX)(x7:bf)(x8 x9 bm:Int)(a7:List Int):Option (bf×(Int)×(Int)):=
 cond (aX bm (ℓ x7)) (cond (bc bm (ℓ x7)) (cond (bc x9 (ℓ x7)) (cond (aN (γ x7 bm.toNat gl).1 (γ x7 x9.toNat gl).1) (cond (bc bm (ℓ x7)) (cond (small (ℓ a7+ℓ ([(γ x7 bm.toNat gl).2.2.2.1]))) (gD x7 x8 x9 (W .i64 (bm+1)) (a7++([(γ x7 bm.toNat gl).2.2.2.1]))) none) none) (yz x7 x8 x9 bm a7)) none) none) (yz x7 x8 x9 bm a7)
def ed.l8(N:Nat)(bL:ed.bK):Nat→ed.jX
 |0,_,_,_,_,_=>none
 |n+1,x7,x8,x9,bm,a7=>ed.Ec N (ed.E9 N bL) bL (ed.l8 N bL n) x7 x8 x9 bm a7
def ed.eA(N:Nat)(IJ:ed.jX)(bL:ed.bK)(x7:bf)(x8 x9:Int):Option (bf×(Int)×(Int)):=
 cond (aX x9 (ℓ x7)) (IJ x7 x8 x9 x9 ([])) (some (x7,x8,0))
def ed.l5(N:Nat):Nat→ed.bK
 |0,_,_,_=>none
 |n+1,x7,x8,x9=>ed.eA N (ed.l8 N (ed.l5 N n) N) (ed.l5 N n) x7 x8 x9
def ed.b(eW:ed.bK)(a0:bf)(a1:Int):Option (bf×(Int)×(Int)):=
 (sV N a0).bind λr1=>cond (!r1) (some ([],0,1)) (cond (aX a1 0) (some ([],0,1)) (cond (small (ℓ EL+ℓ a0)) (eW (EL++a0) a1 0) none))
def ed(a0:bf)(a1:Int):Option (bf×(Int)×(Int)):=ed.b N (ed.l5 N N) a0 a1
def adM(a0:ae)(a1:an):Option ((Int)×(Int)):=
 (gH N a0 a1).bind λr1=>cond (!r1) (some (0,1)) ((vm N a1.2.2.1 2 0).bind λr2=>some ((mx r2 0),0))
abbrev jb.aq9:=an→an→eu→bP→eu→bf→Int→Int→Int→Option (an×eu×(Int))
abbrev jb.IM:=Int→ae→an→an→eu→bf→Int→bP→eu→bf→Int→Option (an×eu×(Int))
def jb.adO(x6 bm:an)(a7:eu)(mu:bP)(nN:eu)(IP:bf)(x21 x23 x24:Int):Option (an×eu×(Int)):=
 (lh N x21).bind λwY=>(Dj N 2 0 x23 x24 wY).bind λw3=>cond (small (ℓ mu+ℓ w3)) ((zt N x6 bn (mu++w3)).bind λQw=>cond (!aN Qw.2 0) (some ((cf,(cS,(bn,(bn,(dd,(dm,())))))),(0,(0,(EL,(0,())))),Qw.2)) (some (Qw.1,(nN.1,(nN.2.1,(IP,nN.2.2.2))),0))) none
def jb.j26(x6 bm:an)(a7:eu)(mu:bP)(nN:eu)(IP:bf)(x21 x23 x24:Int):Option (an×eu×(Int)):=jb.adO N x6 bm a7 mu nN IP x21 x23 x24
def jb.JC(ajr:jb.aq9)(Lj:jb.IM)(x2:Int)(x5:ae)(x6 bm:an)(a7:eu)(ch:bf)(ga:Int)(mu:bP)(nN:eu)(IP:bf)(Ay:Int):Option (an×eu×(Int)):=
 cond (aX Ay (ℓ ch)) (cond (bc Ay (ℓ ch)) (cond (aX 0 (γ ch Ay.toNat gl).2.2.2.2.1) (cond (bc Ay (ℓ ch)) (cond (small (ℓ IP+ℓ ([γ ch Ay.toNat gl]))) (cond (bc Ay (ℓ ch)) (cond (bc Ay (ℓ ch)) (cond (bc Ay (ℓ ch)) ((lh N (γ ch Ay.toNat gl).2.2.2.2.1).bind λr6=>(Dj N (γ ch Ay.toNat gl).2.1 (γ ch Ay.toNat gl).2.2.1 2 0 r6).bind λr7=>cond (small (ℓ mu+ℓ r7)) (Lj x2 x5 x6 bm a7 ch ga (mu++r7) (nN.1,(nN.2.1,(EL,nN.2.2.2))) (IP++([γ ch Ay.toNat gl])) (W .i64 (Ay+1))) none) none) none) none) none) none) (Lj x2 x5 x6 bm a7 ch ga mu nN IP (W .i64 (Ay+1)))) none) ((lh N ga).bind λnF=>(Dj N 4 0 2 0 nF).bind λoR=>cond (small (ℓ mu+ℓ oR)) (let v13:List ((Int)×((Int)×(((Bool)×((List Int)×(Unit)))×(Unit)))):=mu++oR;(adM N x5 x6).bind λtj=>(nc N x6.2.1 x2).bind λvn=>cond (!aN vn 0) (ajr x6 bm a7 v13 nN IP tj.1 5 vn) (ajr x6 bm a7 v13 nN IP tj.1 6 x2)) none)
def jb.Ks(N:Nat):Nat→jb.IM
 |0,_,_,_,_,_,_,_,_,_,_,_=>none
 |n+1,x2,x5,x6,bm,a7,ch,ga,mu,nN,IP,Ay=>jb.JC N (jb.j26 N) (jb.Ks N n) x2 x5 x6 bm a7 ch ga mu nN IP Ay
def jb.b(abl:jb.IM)(a0:ae)(a1:an)(a2:Int)(a3 a4:aE):Option (an×eu×(Int)):=
 (c3 N a0 a1 a2 a3 a4).bind λr1=>cond (aN r1.2 1) (some ((cf,(cS,(bn,(bn,(dd,(dm,())))))),(0,(0,(EL,(0,())))),r1.2)) (cond (aN r1.2 3) (some ((cf,(cS,(bn,(bn,(dd,(dm,())))))),(0,(0,(EL,(0,())))),r1.2)) ((adL N a0 a1).bind λr2=>cond (!aN r2.2 0) (some ((cf,(cS,(bn,(bn,(dd,(dm,())))))),(0,(0,(EL,(0,())))),r2.2)) (cond (!aN r1.2 0) (some ((cf,(cS,(bn,(bn,(dd,(dm,())))))),(0,(0,(EL,(0,())))),r1.2)) ((ed N r1.1 r2.1).bind λr3=>cond (!aN r3.2.2 0) (some ((cf,(cS,(bn,(bn,(dd,(dm,())))))),(0,(0,(EL,(0,())))),r3.2.2)) (abl a2 a0 a1 (cf,(cS,(bn,(bn,(dd,(dm,())))))) (0,(0,(EL,(0,())))) r3.1 r3.2.1 ([]) (a2,(r2.1,(EL,(r3.2.1,())))) EL 0)))))
def jb(a0:ae)(a1:an)(a2:Int)(a3 a4:aE):Option (an×eu×(Int)):=jb.b N (jb.Ks N N) a0 a1 a2 a3 a4
abbrev fg.IG:=(List Int)→(List Int)→(List Int)→Int→Int→(List Int)→Int→Option ((List Int)×(Int)×(Int))
abbrev fg.iO:=(List Int)→(List Int)→(List Int)→Int→Int→(List Int)→Bool→Int→Option ((List Int)×(Int)×(Int))
abbrev fg.jX:=(List Int)→(List Int)→(List Int)→Int→Int→Option ((List Int)×(Int)×(Int))
def fg.SO(N:Nat)(gD:fg.jX)(abf:fg.IG)(x1 x2 a7:List Int)(bp ch:Int)(ga:List Int)(nN:Int):Option ((List Int)×(Int)×(Int)):=
 cond (aX nN (ℓ x1)) (cond (bc nN (ℓ ga)) (cond (bc nN (ℓ x2)) (cond (bc nN (ℓ a7)) (let v16:Int:=mn (γ ga nN.toNat 0) (W .i64 ((γ x2 nN.toNat 0)-(γ a7 nN.toNat 0)));cond (bc nN (ℓ a7)) (cond (bc nN (ℓ a7)) (abf x1 x2 (List.set a7 nN.toNat (W .i64 ((γ a7 nN.toNat 0)+v16))) (W .i64 (bp-v16)) ch ga (W .i64 (nN+1))) none) none) none) none) none) (gD x1 x2 a7 bp (W .i64 (ch+1)))
def fg.WB(N:Nat)(gD:fg.jX):Nat→fg.IG
 |0,_,_,_,_,_,_,_=>none
 |n+1,x1,x2,a7,bp,ch,ga,nN=>fg.SO N gD (fg.WB N gD n) x1 x2 a7 bp ch ga nN
def fg.nK(abh:fg.IG)(gD:fg.jX)(lB:fg.iO)(x1 x2 a7:List Int)(bp ch:Int)(cY:List Int)(eB:Bool)(fx:Int):Option ((List Int)×(Int)×(Int)):=
 cond (aX fx (ℓ x1)) (cond (bc fx (ℓ x1)) (cond (aX 0 (γ x1 fx.toNat 0)) (cond (bc fx (ℓ a7)) (cond (bc fx (ℓ x2)) (cond (aX (γ a7 fx.toNat 0) (γ x2 fx.toNat 0)) (cond (bc fx (ℓ x1)) (cond (bc fx (ℓ cY)) (lB x1 x2 a7 bp ch (List.set cY fx.toNat (γ x1 fx.toNat 0)) true (W .i64 (fx+1))) none) none) (lB x1 x2 a7 bp ch cY eB (W .i64 (fx+1)))) none) none) (lB x1 x2 a7 bp ch cY eB (W .i64 (fx+1)))) none) (cond (aN bp 0) (some (a7,bp,0)) (cond (!eB) (some (a7,bp,0)) ((gu N bp cY).bind λpq=>abh x1 x2 a7 bp ch pq.1 0)))
def fg.oM(N:Nat)(gD:fg.jX):Nat→fg.iO
 |0,_,_,_,_,_,_,_,_=>none
 |n+1,x1,x2,a7,bp,ch,cY,eB,fx=>fg.nK N (fg.WB N gD N) gD (fg.oM N gD n) x1 x2 a7 bp ch cY eB fx
def fg.Ec(N:Nat)(vi:fg.iO)(gD:fg.jX)(x1 x2 a7:List Int)(bp ch:Int):Option ((List Int)×(Int)×(Int)):=
 cond (du ch (ℓ x1)) (cond (kT (ℓ x1) (ℓ x1)) (vi x1 x2 a7 bp ch (List.replicate (ℓ x1:Int).toNat 0) false 0) none) (some (a7,bp,0))
def fg.l8(N:Nat):Nat→fg.jX
 |0,_,_,_,_,_=>none
 |n+1,x1,x2,a7,bp,ch=>fg.Ec N (fg.oM N (fg.l8 N n) N) (fg.l8 N n) x1 x2 a7 bp ch
def fg.b(IJ:fg.jX)(a0:Int)(a1 a2:List Int):Option ((List Int)×(Int)×(Int)):=
 (qG N a0 a1).bind λr1=>cond (r1) (some ([],0,1)) (cond (!aN (ℓ a2) (ℓ a1)) (some ([],0,1)) ((qG N 0 a2).bind λr2=>cond (r2) (some ([],0,1)) ((qB N a1).bind λr3=>(xV N r3).bind λr4=>cond (!r4.2) (some ([],0,2)) (cond (kT (ℓ a1) (ℓ a1)) (IJ a1 a2 (List.replicate (ℓ a1:Int).toNat 0) a0 0) none))))
def fg(a0:Int)(a1 a2:List Int):Option ((List Int)×(Int)×(Int)):=fg.b N (fg.l8 N N) a0 a1 a2
abbrev gh.abp:=Int→Int→(List Int)→(List Int)→au→Int→Option (au×(Int))
abbrev gh.yE:=Int→an→Int→(List Int)→(List Int)→Int→Option (au×(Int))
def gh.aau(N:Nat)(Vj:gh.abp)(x2 x8:Int)(x9 ch:List Int)(fx:au)(ga:Int):Option (au×(Int)):=
 cond (aX ga (ℓ ch)) (cond (bc ga (ℓ ch)) (cond (aX x8 0) (let v17:Int:=W .i64 (0-(γ ch ga.toNat 0));cond (!aN v17 0) (cond (bc ga (ℓ x9)) (cond (small (ℓ fx+ℓ ([(γ x9 ga.toNat 0,(x2,(v17,())))]))) (Vj x2 x8 x9 ch (fx++([(γ x9 ga.toNat 0,(x2,(v17,())))])) (W .i64 (ga+1))) none) none) (Vj x2 x8 x9 ch fx (W .i64 (ga+1)))) (cond (!aN (γ ch ga.toNat 0) 0) (cond (bc ga (ℓ x9)) (cond (small (ℓ fx+ℓ ([(γ x9 ga.toNat 0,(x2,(γ ch ga.toNat 0,())))]))) (Vj x2 x8 x9 ch (fx++([(γ x9 ga.toNat 0,(x2,(γ ch ga.toNat 0,())))])) (W .i64 (ga+1))) none) none) (Vj x2 x8 x9 ch fx (W .i64 (ga+1))))) none) (some (fx,0))
def gh.Xe(N:Nat):Nat→gh.abp
 |0,_,_,_,_,_,_=>none
 |n+1,x2,x8,x9,ch,fx,ga=>gh.aau N (gh.Xe N n) x2 x8 x9 ch fx ga
def gh.yf(ara:gh.abp)(Co:gh.yE)(x2:Int)(x4:an)(x8:Int)(x9 bm:List Int)(a7:Int):Option (au×(Int)):=
 cond (aX a7 (ℓ x4.2.2.2.1)) (cond (bc a7 (ℓ x4.2.2.2.1)) (cond (!aN (γ x4.2.2.2.1 a7.toNat ba).1 0) (cond (aN (γ x4.2.2.2.1 a7.toNat ba).2.1 x2) (cond (!(pC .bool (aX 0 (γ x4.2.2.2.1 a7.toNat ba).2.2.1) (aX 0 x8))) (cond (small (ℓ x9+ℓ ([(γ x4.2.2.2.1 a7.toNat ba).1]))) (let v6:Int:=mx (γ x4.2.2.2.1 a7.toNat ba).2.2.1 (W .i64 (0-((γ x4.2.2.2.1 a7.toNat ba).2.2.1)));cond (small (ℓ bm+ℓ ([v6]))) (Co x2 x4 x8 (x9++([(γ x4.2.2.2.1 a7.toNat ba).1])) (bm++([v6])) (W .i64 (a7+1))) none) none) (Co x2 x4 x8 x9 bm (W .i64 (a7+1)))) (Co x2 x4 x8 x9 bm (W .i64 (a7+1)))) (Co x2 x4 x8 x9 bm (W .i64 (a7+1)))) none) ((fg N (mx x8 (W .i64 (0-x8))) bm bm).bind λtj=>cond (!aN tj.2.2 0) (some ([],tj.2.2)) (ara x2 x8 x9 tj.1 ([(0,(x2,((W .i64 (0-x8)),())))]) 0))
def gh.Al(N:Nat):Nat→gh.yE
 |0,_,_,_,_,_,_=>none
 |n+1,x2,x4,x8,x9,bm,a7=>gh.yf N (gh.Xe N N) (gh.Al N n) x2 x4 x8 x9 bm a7
def gh.b(QA:gh.yE)(a0:ae)(a1:an)(a2:Int):Option (au×(Int)):=
 (gH N a0 a1).bind λr1=>cond (!r1) (some ([],1)) (cond (aX a2 0) (some ([],3)) (cond (du (ℓ a0.1) a2) (some ([],3)) ((Cv N a1.2.2.2.1 0 a2).bind λr2=>cond (aN r2 0) (some ([],0)) (QA a2 a1 r2 ([]) ([]) 0))))
def gh(a0:ae)(a1:an)(a2:Int):Option (au×(Int)):=gh.b N (gh.Al N N) a0 a1 a2
abbrev oH.bK:=ae→an→an→au→Int→Option (an×(Int))
def oH.eA(bL:oH.bK)(x2:ae)(x3 x4:an)(x6:au)(x7:Int):Option (an×(Int)):=
 cond (aX x7 (ℓ x2.1)) ((gh N x2 x3 x7).bind λr3=>cond (!aN r3.2 0) (some ((cf,(cS,(bn,(bn,(dd,(dm,())))))),r3.2)) (cond (small (ℓ x6+ℓ r3.1)) (bL x2 x3 x4 (x6++r3.1) (W .i64 (x7+1))) none)) ((zt N x3 x6 ([]:List ((Int)×((Int)×(((Bool)×((List Int)×(Unit)))×(Unit)))))).bind λr6=>some (r6.1,r6.2))
def oH.l5(N:Nat):Nat→oH.bK
 |0,_,_,_,_,_=>none
 |n+1,x2,x3,x4,x6,x7=>oH.eA N (oH.l5 N n) x2 x3 x4 x6 x7
def oH.b(eW:oH.bK)(a0:ae)(a1:an):Option (an×(Int)):=
 (gH N a0 a1).bind λr1=>cond (!r1) (some ((cf,(cS,(bn,(bn,(dd,(dm,())))))),1)) (eW a0 a1 (cf,(cS,(bn,(bn,(dd,(dm,())))))) ([]) 0)
def oH(a0:ae)(a1:an):Option (an×(Int)):=oH.b N (oH.l5 N N) a0 a1
abbrev oJ.abq:=aQ→aQ→de→bJ→Int→Int→Option (aQ×de)
def oJ.adS(N:Nat)(ajs:oJ.abq)(x4 x6:aQ)(x7:de)(cY:bJ)(fx ga:Int):Option (aQ×de):=
 cond (aX ga (ℓ cY)) (cond (bc ga (ℓ cY)) (cond (aN (γ cY ga.toNat (0,(cf,bb))).2.2.2.1 2) (ajs x4 x6 x7 cY (W .i64 (fx+1)) (W .i64 (ga+1))) (ajs x4 x6 x7 cY fx (W .i64 (ga+1)))) none) (some (x4,(0,(fx,(0,())))))
def oJ.l41(N:Nat):Nat→oJ.abq
 |0,_,_,_,_,_,_=>none
 |n+1,x4,x6,x7,cY,fx,ga=>oJ.adS N (oJ.l41 N n) x4 x6 x7 cY fx ga
def oJ.b(arb:oJ.abq)(a0:ae)(a1:aQ)(a2:iw):Option (aQ×de):=
 cond (aN a2.1 14) ((W5 N a0 a1.2.2.1 a1.2.2.2.1.1 a2.2.1 a2.2.2.1).bind λr1=>(fZ N r1.2).bind λr2=>some ((a1.1,(a1.2.1,(r1.1,a1.2.2.2))),r2)) (cond (aN a2.1 15) ((rM N a0 a1.2.2.1 a1.2.2.2.1.1).bind λr3=>(fZ N r3.2).bind λr4=>some ((a1.1,(a1.2.1,(r3.1,((a1.2.2.2.1.1,(2,(0,a1.2.2.2.1.2.2.2))),a1.2.2.2.2)))),r4)) (cond (aN a2.1 16) ((jH N a0 a1.2.2.1 a1.2.1).bind λr5=>some ((a1.1,((W .i64 (a1.2.1+(ℓ r5.1:Int))),(a1.2.2.1,((a1.2.2.2.1.1,(a1.2.2.2.1.2.1,(a1.2.2.2.1.2.2.1,(a1.2.2.2.1.2.2.2.1,(r5.1,a1.2.2.2.1.2.2.2.2.2))))),a1.2.2.2.2)))),(r5.2,((ℓ r5.1:Int),(0,()))))) (cond (aN a2.1 17) ((oI N a0 a1 a2).bind λr7=>some (r7.1,r7.2)) (cond (aN a2.1 18) (cond (aN a1.2.2.2.1.2.2.2.1 3) ((fZ N 5).bind λr8=>some (a1,r8)) ((cq N a0 a1.2.2.1 a1.2.1).bind λr9=>cond (!aN r9.2 0) ((fZ N r9.2).bind λke=>some (a1,ke)) ((Xg N a1 a0.2.2.2.2.1).bind λnF=>cond (!nF.2) ((fZ N 2).bind λoR=>some (a1,oR)) ((sR N a0 a1.2.2.1).bind λtj=>some ((a1.1,((W .i64 (a1.2.1+(ℓ r9.1:Int))),(a1.2.2.1,((a1.2.2.2.1.1,(3,(nF.1,((W .i64 (a1.2.2.2.1.2.2.2.1+1)),(cS,(r9.1,(cS,(tj.1,a1.2.2.2.1.2.2.2.2.2.2.2.2)))))))),a1.2.2.2.2)))),(0,((ℓ r9.1:Int),(0,())))))))) (cond (aN a2.1 19) ((adJ N a0 a1.2.2.1 a1.2.2.2.1.2.2.2.2.2.1 a1.2.2.2.1.2.2.2.2.2.2.1 (a1.2.1,(a2.2.2.2.2.2.1,(a2.2.1,(a2.2.2.2.2.2.2.2.1,()))))).bind λwu=>let v17:Int:=W .i64 (a1.2.1+1);some ((a1.1,(v17,(a1.2.2.1,((a1.2.2.2.1.1,(a1.2.2.2.1.2.1,(a1.2.2.2.1.2.2.1,(a1.2.2.2.1.2.2.2.1,(a1.2.2.2.1.2.2.2.2.1,(a1.2.2.2.1.2.2.2.2.2.1,(wu.1,a1.2.2.2.1.2.2.2.2.2.2.2))))))),a1.2.2.2.2)))),(wu.2,((W .i64 (v17-1)),(0,()))))) (cond (aN a2.1 20) ((gq N a0 a1.2.2.1 a1.2.2.2.1.2.2.2.2.2.1 a1.2.2.2.1.2.2.2.2.2.2.1).bind λJS=>cond (!aN JS.2.2 0) ((fZ N JS.2.2).bind λQw=>some (a1,Qw)) ((dT N a0 a1.2.2.2.1.2.2.2.2.2.2.2.2.1 a1.2.2.2.1.2.2.2.2.2.2.2.1 JS.2.1 a1.2.2.2.1.2.2.2.2.2.2.1).bind λFR=>arb (a1.1,(a1.2.1,(JS.1,((a1.2.2.2.1.1,(2,(0,(a1.2.2.2.1.2.2.2.1,(a1.2.2.2.1.2.2.2.2.1,(JS.2.1,(a1.2.2.2.1.2.2.2.2.2.2.1,(a1.2.2.2.1.2.2.2.2.2.2.2.1,(FR.1,a1.2.2.2.1.2.2.2.2.2.2.2.2.2))))))))),a1.2.2.2.2)))) (0,(0,((cf,(cS,(bn,(bn,(dd,(dm,())))))),((0,(0,(0,(0,(cS,(([]:List ((Int)×((List ((Int)×((Int)×(Unit))))×((Int)×((Int)×((Int)×((Int)×(Unit)))))))),(cS,(dd,(cf,(cf,())))))))))),((0,(0,(EL,(0,())))),()))))) ba JS.2.1 0 0)) (cond (aN a2.1 21) ((jb N a0 a1.2.2.1 a1.2.2.2.1.1 a1.2.2.2.1.2.2.2.2.2.2.2.2.1 a1.2.2.2.1.2.2.2.2.2.2.2.2.2.1).bind λEH=>cond (!aN EH.2.2 0) ((fZ N EH.2.2).bind λQv=>some (a1,Qv)) ((oH N a0 EH.1).bind λr28=>cond (!aN r28.2 0) ((fZ N r28.2).bind λFU=>some (a1,FU)) ((mN N r28.1.1 a1.2.2.2.1.1 a2.1).bind λTB=>some ((a1.1,(a1.2.1,((TB.1,r28.1.2),((0,(0,(0,(0,(cS,(([]:List ((Int)×((List ((Int)×((Int)×(Unit))))×((Int)×((Int)×((Int)×((Int)×(Unit)))))))),(cS,(dd,(cf,(cf,())))))))))),(EH.2.1,a1.2.2.2.2.2))))),(TB.2,(0,(EH.2.1.2.1,()))))))) ((fZ N 0).bind λI9=>some (a1,I9)))))))))
def oJ(a0:ae)(a1:aQ)(a2:iw):Option (aQ×de):=oJ.b N (oJ.l41 N N) a0 a1 a2
abbrev qL.abn:=ae→aQ→iw→aQ→de→Option (aQ×de)
def qL.P0(x3:ae)(x4:aQ)(x5:iw)(x6:aQ)(x7:de):Option (aQ×de):=
 (adT N x4 x5.1).bind λQv=>cond (!Qv) ((fZ N 6).bind λr28=>some (x4,r28)) ((oJ N x3 x4 x5).bind λFU=>some (FU.1,FU.2))
def qL.W9(x3:ae)(x4:aQ)(x5:iw)(x6:aQ)(x7:de):Option (aQ×de):=qL.P0 N x3 x4 x5 x6 x7
def qL.b(QC:qL.abn)(a0:ae)(a1:aQ)(a2:iw):Option (aQ×de):=
 cond (aN a2.1 11) ((mN N a1.2.2.1.1 a2.2.1 a2.1).bind λr1=>cond (aN r1.2 0) (cond (aN a2.1 11) ((ME N a0 (r1.1,a1.2.2.1.2) a2.2.1).bind λr2=>cond (aN a1.2.2.2.1.2.1 3) ((qm N a1.2.2.2.1.2.2.2.2.2.2.1 a2.2.1).bind λr3=>(fZ N r1.2).bind λr4=>some ((a1.1,(a1.2.1,(r2.1,((a1.2.2.2.1.1,(a1.2.2.2.1.2.1,(a1.2.2.2.1.2.2.1,(a1.2.2.2.1.2.2.2.1,(a1.2.2.2.1.2.2.2.2.1,(a1.2.2.2.1.2.2.2.2.2.1,(r3,a1.2.2.2.1.2.2.2.2.2.2.2))))))),a1.2.2.2.2)))),r4)) ((fZ N r1.2).bind λr5=>some ((a1.1,(a1.2.1,(r2.1,a1.2.2.2))),r5))) ((fZ N r1.2).bind λr6=>some ((a1.1,(a1.2.1,((r1.1,a1.2.2.1.2),a1.2.2.2))),r6))) ((fZ N r1.2).bind λr7=>some ((a1.1,(a1.2.1,((r1.1,a1.2.2.1.2),a1.2.2.2))),r7))) (cond (aN a2.1 12) ((mN N a1.2.2.1.1 a2.2.1 a2.1).bind λr8=>cond (aN r8.2 0) (cond (aN a2.1 11) ((ME N a0 (r8.1,a1.2.2.1.2) a2.2.1).bind λr9=>cond (aN a1.2.2.2.1.2.1 3) ((qm N a1.2.2.2.1.2.2.2.2.2.2.1 a2.2.1).bind λke=>(fZ N r8.2).bind λnF=>some ((a1.1,(a1.2.1,(r9.1,((a1.2.2.2.1.1,(a1.2.2.2.1.2.1,(a1.2.2.2.1.2.2.1,(a1.2.2.2.1.2.2.2.1,(a1.2.2.2.1.2.2.2.2.1,(a1.2.2.2.1.2.2.2.2.2.1,(ke,a1.2.2.2.1.2.2.2.2.2.2.2))))))),a1.2.2.2.2)))),nF)) ((fZ N r8.2).bind λoR=>some ((a1.1,(a1.2.1,(r9.1,a1.2.2.2))),oR))) ((fZ N r8.2).bind λpq=>some ((a1.1,(a1.2.1,((r8.1,a1.2.2.1.2),a1.2.2.2))),pq))) ((fZ N r8.2).bind λtj=>some ((a1.1,(a1.2.1,((r8.1,a1.2.2.1.2),a1.2.2.2))),tj))) (cond (aN a2.1 13) ((Ie N a1 a2.2.1).bind λvn=>cond (aN vn 0) ((fZ N 3).bind λwu=>some (a1,wu)) (cond (!aN a1.2.2.2.1.2.1 0) ((fZ N 6).bind λwY=>some (a1,wY)) ((mN N a1.2.2.1.1 a2.2.1 a2.1).bind λw3=>cond (!aN w3.2 0) ((fZ N w3.2).bind λJS=>some ((a1.1,(a1.2.1,((w3.1,a1.2.2.1.2),a1.2.2.2))),JS)) ((Xg N (a1.1,(a1.2.1,((w3.1,a1.2.2.1.2),a1.2.2.2))) a0.2.2.2.1).bind λQw=>cond (!Qw.2) ((fZ N 2).bind λFR=>some ((a1.1,(a1.2.1,((w3.1,a1.2.2.1.2),a1.2.2.2))),FR)) (some ((a1.1,(a1.2.1,((w3.1,a1.2.2.1.2),((a2.2.1,(1,(Qw.1,(0,(cS,(([]:List ((Int)×((List ((Int)×((Int)×(Unit))))×((Int)×((Int)×((Int)×((Int)×(Unit)))))))),(cS,(dd,(cf,(cf,())))))))))),a1.2.2.2.2)))),ba)))))) (cond (aN a2.1 19) ((Ie N a1 a2.2.1).bind λMY=>cond (aN MY 0) ((fZ N 3).bind λEF=>some (a1,EF)) ((Ie N a1 a2.2.1).bind λNo=>cond (!aN No 1) ((fZ N 7).bind λI8=>some (a1,I8)) (QC a0 a1 a2 (0,(0,((cf,(cS,(bn,(bn,(dd,(dm,())))))),((0,(0,(0,(0,(cS,(([]:List ((Int)×((List ((Int)×((Int)×(Unit))))×((Int)×((Int)×((Int)×((Int)×(Unit)))))))),(cS,(dd,(cf,(cf,())))))))))),((0,(0,(EL,(0,())))),()))))) ba))) (QC a0 a1 a2 (0,(0,((cf,(cS,(bn,(bn,(dd,(dm,())))))),((0,(0,(0,(0,(cS,(([]:List ((Int)×((List ((Int)×((Int)×(Unit))))×((Int)×((Int)×((Int)×((Int)×(Unit)))))))),(cS,(dd,(cf,(cf,())))))))))),((0,(0,(EL,(0,())))),()))))) ba))))
def qL(a0:ae)(a1:aQ)(a2:iw):Option (aQ×de):=qL.b N (qL.W9 N) a0 a1 a2
def Xh(a0:ae)(a1:aQ)(a2:iw):Option (aQ×de):=
 cond (aN a2.1 1) ((iZ N a1.2.2.1.1 a2.2.1).bind λr1=>(fZ N r1.2).bind λr2=>some ((a1.1,(a1.2.1,((r1.1,a1.2.2.1.2),a1.2.2.2))),r2)) (cond (aN a2.1 2) ((fO N a1.2.2.1.1 a1.2.2.1.2.1 (a2.2.2.1,(a2.2.1,(a2.2.2.2.2.1,(0,()))))).bind λr3=>(fZ N r3.2).bind λr4=>some ((a1.1,(a1.2.1,((a1.2.2.1.1,(r3.1,a1.2.2.1.2.2)),a1.2.2.2))),r4)) (cond (aN a2.1 3) ((Ti N a1 a2.2.2.1).bind λr5=>cond (!r5) ((fZ N 3).bind λr6=>some (a1,r6)) ((P6 N a1 1 0 5 a2.2.2.1 a2.2.2.2.2.2.2.1).bind λr7=>some (r7.1,r7.2))) (cond (aN a2.1 4) ((W4 N a0 a1.2.2.1 a2.2.2.1 a2.2.2.2.2.2.2.1).bind λr8=>(fZ N r8.2).bind λr9=>some ((a1.1,(a1.2.1,(r8.1,a1.2.2.2))),r9)) (cond (aN a2.1 5) ((Ie N a1 a2.2.1).bind λke=>cond (aN ke 0) ((fZ N 3).bind λnF=>some (a1,nF)) ((Ie N a1 a2.2.1).bind λoR=>cond (!aN oR 1) ((fZ N 7).bind λpq=>some (a1,pq)) ((P6 N a1 1 0 6 a2.2.1 a2.2.2.2.2.2.2.1).bind λtj=>some (tj.1,tj.2)))) (cond (aN a2.1 22) ((Ie N a1 a2.2.1).bind λvn=>cond (aN vn 0) ((fZ N 3).bind λwu=>some (a1,wu)) ((vm N a1.2.2.1.2.2.1 7 a2.2.1).bind λwY=>(lh N wY).bind λw3=>(XU N w3).bind λJS=>(lh N a2.2.2.2.2.2.2.1).bind λQw=>(R3 N Qw JS).bind λFR=>cond (aX 0 FR) ((fZ N 9).bind λMY=>some (a1,MY)) ((P6 N a1 1 0 7 a2.2.1 a2.2.2.2.2.2.2.1).bind λEF=>some (EF.1,EF.2)))) (cond (aN a2.1 6) ((oE N a1.2.2.1.2.1 a2.2.2.1 a2.2.2.2.2.2.2.1).bind λNo=>(fZ N No.2).bind λI8=>some ((a1.1,(a1.2.1,((a1.2.2.1.1,(No.1,a1.2.2.1.2.2)),a1.2.2.2))),I8)) (cond (aN a2.1 7) ((jT N a0 a1.2.2.1 (a1.2.1,(a2.2.2.1,(a2.2.2.2.1,(a2.2.2.2.2.1,(a2.2.2.2.2.2.2.1,(a2.2.2.2.2.2.2.2.1,()))))))).bind λEH=>let v27:Int:=W .i64 (a1.2.1+1);some ((a1.1,(v27,(EH.1,a1.2.2.2))),(EH.2.2.2,((W .i64 (v27-1)),((W .i64 (a2.2.2.2.2.2.2.1-EH.2.2.1)),()))))) (cond (aN a2.1 8) ((Ti N a1 a2.2.2.1).bind λTB=>cond (!TB) ((fZ N 3).bind λI9=>some (a1,I9)) ((oG N a1.2.2.1.2.2.2.2.2.1 a2.2.2.1 a2.2.2.2.2.2.1).bind λr32=>(fZ N r32.2).bind λr33=>some ((a1.1,(a1.2.1,((a1.2.2.1.1,(a1.2.2.1.2.1,(a1.2.2.1.2.2.1,(a1.2.2.1.2.2.2.1,(a1.2.2.1.2.2.2.2.1,(r32.1,a1.2.2.1.2.2.2.2.2.2)))))),a1.2.2.2))),r33))) (cond (aN a2.1 9) ((PV N a0 a1.2.2.1 a2.2.2.2.1 a2.2.2.2.2.2.2.2.1).bind λr34=>cond (aN r34.2.2 0) (cond (!aN a1.2.2.2.1.2.1 0) ((fp N a1.2.2.2.1.2.2.2.2.2.2.2.2.2.1 r34.2.1).bind λr35=>(fZ N r35.2).bind λr36=>some ((a1.1,(a1.2.1,(r34.1,((a1.2.2.2.1.1,(a1.2.2.2.1.2.1,(a1.2.2.2.1.2.2.1,(a1.2.2.2.1.2.2.2.1,(a1.2.2.2.1.2.2.2.2.1,(a1.2.2.2.1.2.2.2.2.2.1,(a1.2.2.2.1.2.2.2.2.2.2.1,(a1.2.2.2.1.2.2.2.2.2.2.2.1,(a1.2.2.2.1.2.2.2.2.2.2.2.2.1,(r35.1,a1.2.2.2.1.2.2.2.2.2.2.2.2.2.2)))))))))),a1.2.2.2.2)))),r36)) ((fZ N r34.2.2).bind λr37=>some ((a1.1,(a1.2.1,(r34.1,a1.2.2.2))),r37))) ((fZ N r34.2.2).bind λr38=>some ((a1.1,(a1.2.1,(r34.1,a1.2.2.2))),r38))) (cond (aN a2.1 10) ((Xg N a1 a2.2.2.2.2.2.2.1).bind λr39=>cond (!r39.2) ((fZ N 2).bind λr40=>some (a1,r40)) (some ((r39.1,a1.2),ba))) ((qL N a0 a1 a2).bind λr41=>some (r41.1,r41.2))))))))))))
def Tj(a0:ae)(a1:aQ)(a2:iw):Option (aQ×de):=
 (m7 N a0).bind λr1=>cond (!r1) (some (a1,(1,da))) ((sO N a2).bind λr2=>cond (!r2) (some (a1,(1,da))) ((Xh N a0 a1 a2).bind λr3=>cond (!aN r3.2.1 0) (some (a1,(r3.2.1,da))) (some (r3.1,r3.2))))
abbrev ry.alF:=cW→di→aQ→Option (aQ×cW×di)
def ry.l1b(awR:ry.alF)(x0:cW)(x1:di)(x4:aQ):Option (aQ×cW×di):=
 cond (aX x0.2.2.1 (ℓ x1)) (cond (bc x0.2.2.1 (ℓ x1)) ((Tj N x0.1 x0.2.1 (γ x1 x0.2.2.1.toNat zz8)).bind λr2=>awR (x0.1,(r2.1,((W .i64 (x0.2.2.1+1)),x0.2.2.2))) x1 x4) none) (some (x0.2.1,x0,x1))
def ry.l1(N:Nat):Nat→ry.alF
 |0,_,_,_=>none
 |n+1,x0,x1,x4=>ry.l1b N (ry.l1 N n) x0 x1 x4
def ry.b(N:Nat)(awS:ry.alF)(a0:cW)(a1:di):Option (aQ×cW×di):=
 awS a0 a1 (0,(0,((cf,(cS,(bn,(bn,(dd,(dm,())))))),((0,(0,(0,(0,(cS,(([]:List ((Int)×((List ((Int)×((Int)×(Unit))))×((Int)×((Int)×((Int)×((Int)×(Unit)))))))),(cS,(dd,(cf,(cf,())))))))))),((0,(0,(EL,(0,())))),())))))
def ry(a0:cW)(a1:di):Option (aQ×cW×di):=ry.b N (ry.l1 N N) a0 a1
abbrev eL.yA:=aG→cW→di→aQ→Int→jd→Int→Option (di×aG×cW)
abbrev eL.fN:=aG→cW→di→aQ→Int→Option (di×aG×cW)
abbrev eL.Ll:=aG→cW→di→Option (di×aG×cW)
abbrev eL.bK:=aG→cW→di→aQ→Int→Option (di×aG×cW)
def eL.E3(gK:eL.fN)(Lk:eL.yA)(x0:aG)(x1:cW)(x2:di)(bm:aQ)(a7:Int)(bp:jd)(ch:Int):Option (di×aG×cW):=
 cond (du ch 4) ((PN N x0 3).bind λFR=>cond (!FR.1) ((oS N FR.2 41).bind λMY=>let v26:Int:=mx (mn (W .i64 ((W .i64 (bp.2.2.1+MY.1))-20)) 1152921504606846976) (-1152921504606846976);cond (small (ℓ x2+ℓ ([(19,(ch,(0,(0,(0,(bp.1,(0,(v26,()))))))))]))) (Lk MY.2 x1 (x2++([(19,(ch,(0,(0,(0,(bp.1,(0,(v26,()))))))))])) bm a7 bp (W .i64 (ch+1))) none) (Lk FR.2 x1 x2 bm a7 bp (W .i64 (ch+1)))) (gK x0 x1 x2 bm (W .i64 (a7+1)))
def eL.FG(N:Nat)(gK:eL.fN):Nat→eL.yA
 |0,_,_,_,_,_,_,_=>none
 |n+1,x0,x1,x2,bm,a7,bp,ch=>eL.E3 N gK (eL.FG N gK n) x0 x1 x2 bm a7 bp ch
def eL.lq(Qx:eL.yA)(gK:eL.fN)(x0:aG)(x1:cW)(x2:di)(bm:aQ)(a7:Int):Option (di×aG×cW):=
 cond (aX a7 (ℓ bm.2.2.2.1.2.2.2.2.2.1)) (cond (bc a7 (ℓ bm.2.2.2.1.2.2.2.2.2.1)) (Qx x0 x1 x2 bm a7 (γ bm.2.2.2.1.2.2.2.2.2.1 a7.toNat (0,(cf,bb))) 1) none) ((oD N x0 x1.1).bind λI9=>cond (small (ℓ x2+ℓ I9.1)) (let v32:List ((Int)×((Int)×((Int)×((Int)×((Int)×((Int)×((Int)×((Int)×(Unit))))))))):=x2++I9.1;cond (small (ℓ v32+ℓ ([(10,(0,(0,(0,(0,(0,(2,(0,())))))))),(20,Ng)]))) (some ((v32++([(10,(0,(0,(0,(0,(0,(2,(0,())))))))),(20,Ng)])),I9.2,x1)) none) none)
def eL.mq(N:Nat):Nat→eL.fN
 |0,_,_,_,_,_=>none
 |n+1,x0,x1,x2,bm,a7=>eL.lq N (eL.FG N (eL.mq N n) N) (eL.mq N n) x0 x1 x2 bm a7
def eL.Dh(ta:eL.fN)(x0:aG)(x1:cW)(x2:di):Option (di×aG×cW):=
 cond (small (ℓ x2+ℓ ([(18,Ng)]))) ((ry N x1 (x2++([(18,Ng)]))).bind λw3=>ta x0 w3.2.1 w3.2.2 w3.1 0) none
def eL.JJ(x0:aG)(x1:cW)(x2:di):Option (di×aG×cW):=eL.Dh N (eL.mq N N) x0 x1 x2
def eL.eA(yD:eL.Ll)(bL:eL.bK)(x0:aG)(x1:cW)(x2:di)(x7:aQ)(x8:Int):Option (di×aG×cW):=
 cond (aX x8 (ℓ x7.2.2.2.1.2.2.2.2.1)) (cond (bc x8 (ℓ x7.2.2.2.1.2.2.2.2.1)) ((PN N x0 2).bind λr5=>cond (r5.1) ((oS N r5.2 7).bind λr6=>let v7:Int:=W .i64 (1+r6.1);(F62 N r6.2).bind λr8=>let v9:Int:=W .u64 (γ x7.2.2.2.1.2.2.2.2.1 x8.toNat bb).2.2.2.1;cond (aN v9 0) none (let Vi:Int:=W .i64 (1+(W .i64 (rem r8.1 v9)));cond (bc (γ x7.2.2.2.1.2.2.2.2.1 x8.toNat bb).2.1 (ℓ x7.2.2.1.2.2.2.2.1)) (cond (small (ℓ x2+ℓ ([(17,(0,(v7,(0,(0,((γ x7.2.2.2.1.2.2.2.2.1 x8.toNat bb).1,(Vi,(γ x7.2.2.1.2.2.2.2.1 (γ x7.2.2.2.1.2.2.2.2.1 x8.toNat bb).2.1.toNat 0,()))))))))]))) (bL r8.2 x1 (x2++([(17,(0,(v7,(0,(0,((γ x7.2.2.2.1.2.2.2.2.1 x8.toNat bb).1,(Vi,(γ x7.2.2.1.2.2.2.2.1 (γ x7.2.2.2.1.2.2.2.2.1 x8.toNat bb).2.1.toNat 0,()))))))))])) x7 (W .i64 (x8+1))) none) none)) (bL r5.2 x1 x2 x7 (W .i64 (x8+1)))) none) (yD x0 x1 x2)
def eL.l5(N:Nat):Nat→eL.bK
 |0,_,_,_,_,_=>none
 |n+1,x0,x1,x2,x7,x8=>eL.eA N (eL.JJ N) (eL.l5 N n) x0 x1 x2 x7 x8
def eL.b(eW:eL.bK)(yD:eL.Ll)(a0:aG)(a1:cW)(a2:di):Option (di×aG×cW):=
 (PN N a0 2).bind λr1=>cond (r1.1) (cond (small (ℓ a2+ℓ ([(16,Ng)]))) ((ry N a1 (a2++([(16,Ng)]))).bind λr3=>eW r1.2 r3.2.1 r3.2.2 r3.1 0) none) (yD r1.2 a1 a2)
def eL(a0:aG)(a1:cW)(a2:di):Option (di×aG×cW):=eL.b N (eL.l5 N N) (eL.JJ N) a0 a1 a2
abbrev jW.yA:=aG→ae→cW→di→Int→Option (di×aG)
abbrev jW.lC:=aG→ae→cW→di→Int→Option (di×aG)
def jW.E3(Lk:jW.yA)(x0:aG)(x4:ae)(x9:cW)(bm:di)(ch:Int):Option (di×aG):=
 cond (aX 0 ch) ((eL N x0 x9 bm).bind λI8=>Lk I8.2.1 x4 I8.2.2 I8.1 (W .i64 (ch-1))) ((PN N x0 4).bind λQv=>cond (!Qv.1) (cond (small (ℓ bm+ℓ ([(21,Ng)]))) (let v28:List ((Int)×((Int)×((Int)×((Int)×((Int)×((Int)×((Int)×((Int)×(Unit))))))))):=bm++([(21,Ng)]);(oD N Qv.2 x4).bind λFU=>cond (small (ℓ v28+ℓ FU.1)) (some ((v28++FU.1),FU.2)) none) none) ((oD N Qv.2 x4).bind λI9=>cond (small (ℓ bm+ℓ I9.1)) (some ((bm++I9.1),I9.2)) none))
def jW.FG(N:Nat):Nat→jW.yA
 |0,_,_,_,_,_=>none
 |n+1,x0,x4,x9,bm,ch=>jW.E3 N (jW.FG N n) x0 x4 x9 bm ch
def jW.vN(Qx:jW.yA)(oU:jW.lC)(x0:aG)(x4:ae)(x9:cW)(bm:di)(bp:Int):Option (di×aG):=
 cond (du bp 7) ((PN N x0 3).bind λke=>cond (ke.1) ((oS N ke.2 2).bind λnF=>let Vi:Int:=W .i64 (3+nF.1);cond (small (ℓ bm+ℓ ([(14,(Vi,(bp,gl)))]))) (oU nF.2 x4 x9 (bm++([(14,(Vi,(bp,gl)))])) (W .i64 (bp+1))) none) (oU ke.2 x4 x9 bm (W .i64 (bp+1)))) ((oD N x0 x4).bind λwu=>cond (small (ℓ bm+ℓ wu.1)) (let v17:List ((Int)×((Int)×((Int)×((Int)×((Int)×((Int)×((Int)×((Int)×(Unit))))))))):=bm++wu.1;(oS N wu.2 2).bind λw3=>let v19:Int:=W .i64 (2+w3.1);cond (small (ℓ v17+ℓ ([(10,(0,(0,(0,(0,(0,(v19,(0,())))))))),(15,Ng)]))) (let v20:List ((Int)×((Int)×((Int)×((Int)×((Int)×((Int)×((Int)×((Int)×(Unit))))))))):=v17++([(10,(0,(0,(0,(0,(0,(v19,(0,())))))))),(15,Ng)]);(oD N w3.2 x4).bind λFR=>cond (small (ℓ v20+ℓ FR.1)) ((oS N FR.2 3).bind λEF=>Qx EF.2 x4 x9 (v20++FR.1) EF.1) none) none) none)
def jW.l9(N:Nat):Nat→jW.lC
 |0,_,_,_,_,_=>none
 |n+1,x0,x4,x9,bm,bp=>jW.vN N (jW.FG N N) (jW.l9 N n) x0 x4 x9 bm bp
def jW.b(yx:jW.lC)(a0:aG)(a1:ae)(a2:Int):Option (di×aG):=
 (aa8 N a1).bind λr1=>(qJ N a0 a1 a2).bind λr2=>(oS N r2.2 2).bind λr3=>let v4:Int:=W .i64 (1+r3.1);cond (small (ℓ r2.1+ℓ ([(11,(v4,eF))]))) (let v5:List ((Int)×((Int)×((Int)×((Int)×((Int)×((Int)×((Int)×((Int)×(Unit))))))))):=r2.1++([(11,(v4,eF))]);(oD N r3.2 a1).bind λr6=>cond (small (ℓ v5+ℓ r6.1)) (let v7:List ((Int)×((Int)×((Int)×((Int)×((Int)×((Int)×((Int)×((Int)×(Unit))))))))):=v5++r6.1;cond (small (ℓ v7+ℓ ([(13,(v4,eF))]))) (yx r6.2 a1 (a1,(r1.1,(0,()))) (v7++([(13,(v4,eF))])) 5) none) none) none
def jW(a0:aG)(a1:ae)(a2:Int):Option (di×aG):=jW.b N (jW.l9 N N) a0 a1 a2
abbrev IC.bK:=aG→ae→di→Int→Option (di×aG)
def IC.eA(bL:IC.bK)(x0:aG)(x4:ae)(x7:di)(x8:Int):Option (di×aG):=
 cond (aX 0 x8) ((WY N x0 x4).bind λr5=>cond (small (ℓ x7+ℓ ([r5.1]))) (bL r5.2 x4 (x7++([r5.1])) (W .i64 (x8-1))) none) (some (x7,x0))
def IC.l5(N:Nat):Nat→IC.bK
 |0,_,_,_,_=>none
 |n+1,x0,x4,x7,x8=>IC.eA N (IC.l5 N n) x0 x4 x7 x8
def IC.b(eW:IC.bK)(a0:aG)(a1:ae)(a2:Int):Option (di×aG):=
 (oS N a0 5).bind λr1=>cond (aN r1.1 0) ((oS N r1.2 (W .i64 (a2+1))).bind λr3=>eW r3.2 a1 ([]) r3.1) (cond (aN r1.1 1) ((qJ N r1.2 a1 a2).bind λr8=>some (r8.1,r8.2)) ((jW N r1.2 a1 a2).bind λr9=>some (r9.1,r9.2)))
def IC(a0:aG)(a1:ae)(a2:Int):Option (di×aG):=IC.b N (IC.l5 N N) a0 a1 a2
abbrev IB.kv:=di→ae→aQ→aQ→au→Int→Option (aQ×au)
def IB.uU(lA:IB.kv)(x1:di)(x2:ae)(x4 x6:aQ)(x8:au)(x9:Int):Option (aQ×au):=
 cond (aX x9 (ℓ x1)) (cond (bc x9 (ℓ x1)) ((Tj N x2 x6 (γ x1 x9.toNat zz8)).bind λr3=>cond (small (ℓ x8+ℓ ([r3.2]))) (lA x1 x2 x4 r3.1 (x8++([r3.2])) (W .i64 (x9+1))) none) none) (some (x6,x8))
def IB.l6(N:Nat):Nat→IB.kv
 |0,_,_,_,_,_,_=>none
 |n+1,x1,x2,x4,x6,x8,x9=>IB.uU N (IB.l6 N n) x1 x2 x4 x6 x8 x9
def IB.b(yw:IB.kv)(a0:ae)(a1:di):Option (aQ×au):=
 (aa8 N a0).bind λr1=>cond (!aN r1.2 0) (some ((0,(0,((cf,(cS,(bn,(bn,(dd,(dm,())))))),((0,(0,(0,(0,(cS,(([]:List ((Int)×((List ((Int)×((Int)×(Unit))))×((Int)×((Int)×((Int)×((Int)×(Unit)))))))),(cS,(dd,(cf,(cf,())))))))))),((0,(0,(EL,(0,())))),()))))),[])) (yw a1 a0 (0,(0,((cf,(cS,(bn,(bn,(dd,(dm,())))))),((0,(0,(0,(0,(cS,(([]:List ((Int)×((List ((Int)×((Int)×(Unit))))×((Int)×((Int)×((Int)×((Int)×(Unit)))))))),(cS,(dd,(cf,(cf,())))))))))),((0,(0,(EL,(0,())))),()))))) r1.1 ([]) 0)
def IB(a0:ae)(a1:di):Option (aQ×au):=IB.b N (IB.l6 N N) a0 a1
def F18(a0:aG)(a1:ae)(a2:Int):Option (aQ×aG):=
 (IC N a0 a1 a2).bind λr1=>(IB N a1 r1.1).bind λr2=>some (r2.1,r1.2)
abbrev pN.IL:=aG→ae→an→bf→Int→iu→Option (bf×aG)
abbrev pN.MZ:=aG→ae→an→bf→Int→iu→Option (bf×aG)
abbrev pN.dR:=aG→ae→an→bf→Int→Option (bf×aG)
def pN.yr(dt:pN.dR)(x0:aG)(x4:ae)(x5:an)(x7:bf)(x8:Int)(bm:iu):Option (bf×aG):=
 cond (aN bm.1 bm.2.1) ((PN N x0 9).bind λJS=>cond (!JS.1) (cond (aN 8 0) none (let v21:Int:=rem (W .i64 (bm.1+1)) 8;cond (small (ℓ x7+ℓ ([(bm.1,(v21,bm.2.2))]))) (dt JS.2 x4 x5 (x7++([(bm.1,(v21,bm.2.2))])) (W .i64 (x8-1))) none)) (cond (small (ℓ x7+ℓ ([bm]))) (dt JS.2 x4 x5 (x7++([bm])) (W .i64 (x8-1))) none)) (cond (small (ℓ x7+ℓ ([bm]))) (dt x0 x4 x5 (x7++([bm])) (W .i64 (x8-1))) none)
def pN.E9(dt:pN.dR)(x0:aG)(x4:ae)(x5:an)(x7:bf)(x8:Int)(bm:iu):Option (bf×aG):=pN.yr N dt x0 x4 x5 x7 x8 bm
def pN.Js(N:Nat)(yz:pN.IL)(dt:pN.dR)(x0:aG)(x4:ae)(x5:an)(x7:bf)(x8:Int)(bm:iu):Option (bf×aG):=
 cond (aX 1000000000000 bm.2.2.2.2.1) (yz x0 x4 x5 x7 x8 (bm.1,(bm.2.1,(bm.2.2.1,(bm.2.2.2.1,(1,bm.2.2.2.2.2)))))) (yz x0 x4 x5 x7 x8 bm)
def pN.j9(dt:pN.dR)(x0:aG)(x4:ae)(x5:an)(x7:bf)(x8:Int)(bm:iu):Option (bf×aG):=pN.Js N (pN.E9 N dt) dt x0 x4 x5 x7 x8 bm
def pN.nw(Cm:pN.MZ)(dt:pN.dR)(x0:aG)(x4:ae)(x5:an)(x7:bf)(x8:Int):Option (bf×aG):=
 cond (aX 0 x8) ((oS N x0 (ℓ x4.1)).bind λr3=>(oS N r3.2 8).bind λr4=>(oS N r4.2 8).bind λr5=>(oS N r5.2 50).bind λr6=>cond (bc r3.1 (ℓ x5.2.2.2.2.1)) ((oS N r6.2 9).bind λr8=>(PN N r8.2 9).bind λke=>cond (ke.1) ((KX N ke.2).bind λnF=>cond (aN 1000000000 0) none ((KX N nF.2).bind λtj=>cond (aN 1000000000000 0) none (Cm tj.2 x4 x5 x7 x8 (r4.1,(r5.1,(r3.1,((W .i64 (1+(rem nF.1 1000000000))),((W .i64 (1+(rem tj.1 1000000000000))),())))))))) (Cm ke.2 x4 x5 x7 x8 (r4.1,(r5.1,(r3.1,((W .i64 (1+r6.1)),((W .i64 ((γ x5.2.2.2.2.1 r3.1.toNat 0)+r8.1)),()))))))) none) (some (x7,x0))
def pN.l3(N:Nat):Nat→pN.dR
 |0,_,_,_,_,_=>none
 |n+1,x0,x4,x5,x7,x8=>pN.nw N (pN.j9 N (pN.l3 N n)) (pN.l3 N n) x0 x4 x5 x7 x8
def pN.b(oK:pN.dR)(a0:aG)(a1:ae)(a2:an):Option (bf×aG):=
 (oS N a0 6).bind λr1=>oK r1.2 a1 a2 ([]) r1.1
def pN(a0:aG)(a1:ae)(a2:an):Option (bf×aG):=pN.b N (pN.l3 N N) a0 a1 a2
abbrev E5.bO:=aE→aE→Int→Option Bool
def E5.dU(N:Nat)(cH:E5.bO)(x0 x1:aE)(x5:Int):Option Bool:=
 cond (aX x5 (ℓ x0)) (cond (bc x5 (ℓ x0)) (cond (bc x5 (ℓ x1)) (cond (!(pC (.pair (.int .i64) (.pair (.int .i64) .unit)) (γ x0 x5.toNat da) (γ x1 x5.toNat da))) (some false) (cH x0 x1 (W .i64 (x5+1)))) none) none) (some true)
def E5.l4(N:Nat):Nat→E5.bO
 |0,_,_,_=>none
 |n+1,x0,x1,x5=>E5.dU N (E5.l4 N n) x0 x1 x5
def E5.b(N:Nat)(fa:E5.bO)(a0 a1:aE):Option Bool:=
 cond (!aN (ℓ a0) (ℓ a1)) (some false) (fa a0 a1 0)
def E5(a0 a1:aE):Option Bool:=E5.b N (E5.l4 N N) a0 a1
abbrev E6.bO:=aO→aO→Int→Option Bool
def E6.dU(N:Nat)(cH:E6.bO)(x0 x1:aO)(x5:Int):Option Bool:=
 cond (aX x5 (ℓ x0)) (cond (bc x5 (ℓ x0)) (cond (bc x5 (ℓ x1)) (cond (!(pC (.pair (.int .i64) (.pair (.int .i64) (.pair (.int .i64) (.pair (.int .i64) .unit)))) (γ x0 x5.toNat bb) (γ x1 x5.toNat bb))) (some false) (cH x0 x1 (W .i64 (x5+1)))) none) none) (some true)
def E6.l4(N:Nat):Nat→E6.bO
 |0,_,_,_=>none
 |n+1,x0,x1,x5=>E6.dU N (E6.l4 N n) x0 x1 x5
def E6.b(N:Nat)(fa:E6.bO)(a0 a1:aO):Option Bool:=
 cond (!aN (ℓ a0) (ℓ a1)) (some false) (fa a0 a1 0)
def E6(a0 a1:aO):Option Bool:=E6.b N (E6.l4 N N) a0 a1
abbrev E7.bO:=au→au→Int→Option Bool
def E7.dU(N:Nat)(cH:E7.bO)(x0 x1:au)(x5:Int):Option Bool:=
 cond (aX x5 (ℓ x0)) (cond (bc x5 (ℓ x0)) (cond (bc x5 (ℓ x1)) (cond (!(pC (.pair (.int .i64) (.pair (.int .i64) (.pair (.int .i64) .unit))) (γ x0 x5.toNat ba) (γ x1 x5.toNat ba))) (some false) (cH x0 x1 (W .i64 (x5+1)))) none) none) (some true)
def E7.l4(N:Nat):Nat→E7.bO
 |0,_,_,_=>none
 |n+1,x0,x1,x5=>E7.dU N (E7.l4 N n) x0 x1 x5
def E7.b(N:Nat)(fa:E7.bO)(a0 a1:au):Option Bool:=
 cond (!aN (ℓ a0) (ℓ a1)) (some false) (fa a0 a1 0)
def E7(a0 a1:au):Option Bool:=E7.b N (E7.l4 N N) a0 a1
abbrev E8.bO:=aY→aY→Int→Option Bool
def E8.dU(N:Nat)(cH:E8.bO)(x0 x1:aY)(x5:Int):Option Bool:=
 cond (aX x5 (ℓ x0)) (cond (bc x5 (ℓ x0)) (cond (bc x5 (ℓ x1)) (cond (!(pC (.pair (.int .i64) (.pair (.int .i64) (.pair (.int .i64) (.pair (.int .i64) (.pair (.int .i64) (.pair (.int .i64) .unit)))))) (γ x0 x5.toNat eF) (γ x1 x5.toNat eF))) (some false) (cH x0 x1 (W .i64 (x5+1)))) none) none) (some true)
def E8.l4(N:Nat):Nat→E8.bO
 |0,_,_,_=>none
 |n+1,x0,x1,x5=>E8.dU N (E8.l4 N n) x0 x1 x5
def E8.b(N:Nat)(fa:E8.bO)(a0 a1:aY):Option Bool:=
 cond (!aN (ℓ a0) (ℓ a1)) (some false) (fa a0 a1 0)
def E8(a0 a1:aY):Option Bool:=E8.b N (E8.l4 N N) a0 a1
def F35(a0 a1:an):Option Bool:=
 (E5 N a0.1 a1.1).bind λr1=>cond (r1) ((E6 N a0.2.1 a1.2.1).bind λr2=>cond (r2) ((C6 N a0.2.2.1 a1.2.2.1).bind λr3=>cond (r3) ((E7 N a0.2.2.2.1 a1.2.2.2.1).bind λr4=>cond (r4) ((C8 N a0.2.2.2.2.1 a1.2.2.2.2.1).bind λr5=>cond (r5) ((E8 N a0.2.2.2.2.2.1 a1.2.2.2.2.2.1).bind λr6=>some r6) (some false)) (some false)) (some false)) (some false)) (some false)
def F10(a0:List Int)(a1:Int):Option Bool:=
 (F36 N).bind λr1=>cond (!r1) (some false) ((F16 N a0).bind λr2=>(wA N r2).bind λr3=>(F18 N r3.2 r3.1 20).bind λr4=>(oS N r4.2 (ℓ r3.1.1)).bind λr5=>(pN N r5.2 r3.1 r4.1.2.2.1).bind λr6=>(uu N r3.1 r4.1.2.2.1 r6.1).bind λr7=>cond (!aN r7.2 0) (cond (aN (ℓ r7.1.2.2.1) 0) (some (aN (ℓ r7.1.2.2.2.2.1) 0)) (some false)) ((F42 N r3.1 r7.1 r5.1 (W .i64 (1+(W .i64 a1)))).bind λke=>cond (!aN ke.2.2 0) (cond (aN ke.2.2 2) ((kQ N r3.1 r7.1).bind λnF=>some nF) (some false)) (cond (bc r5.1 (ℓ r7.1.2.2.2.2.1)) ((F42 N r3.1 ke.1 r5.1 (γ r7.1.2.2.2.2.1 r5.1.toNat 0)).bind λoR=>(kQ N r3.1 r7.1).bind λpq=>cond (pq) ((kQ N r3.1 ke.1).bind λtj=>cond (tj) ((Ee N ke.1.2.2.2.1).bind λvn=>cond (vn) ((CY N ke.1.2.2.1).bind λwu=>(Sq N wu).bind λwY=>cond (aN wY 0) (cond (aN oR.2.2 0) ((F35 N oR.1 r7.1).bind λw3=>some w3) (some false)) (some false)) (some false)) (some false)) (some false)) none)))
end
end VM.F
