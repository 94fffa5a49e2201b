/- A part of the proof of BookTurned of layer 18: the functions as equations between values, printed by a program. -/
import Derived.Test.YthkjjlcblhbifaaGreatVm0
set_option linter.all false
open List renaming length→ℓ, getD→γ
namespace VM.F
open Go VM
set_option maxRecDepth 100000
noncomputable section
variable (N:Nat)
abbrev mu:Ty:=(.pair .str (.pair (.int .u64) .unit))
abbrev kM:Ty:=(.pair (.int .i64) (.pair (.int .i64) .unit))
abbrev eI:Ty:=(.pair (.int .i64) (.pair (.int .u64) .unit))
abbrev dm:Ty:=(.pair .bool (.pair (.slice (.int .u64)) .unit))
abbrev eB:Ty:=(.pair (.slice (.int .u64)) (.pair (.int .i64) .unit))
abbrev kd:Ty:=(.pair (.int .i64) kM)
abbrev wD:Ty:=(.pair (.int .i64) (.pair (.int .i64) (.pair .bool (.pair (.int .u8) .unit))))
abbrev ff:Ty:=(.pair (.int .i64) kd)
abbrev s4:Ty:=(.pair (.int .i64) (.pair (.int .i64) (.pair eI .unit)))
abbrev sT:Ty:=(.pair (.int .i64) ff)
abbrev s6:Ty:=(.pair (.int .i64) (.pair (.int .i64) (.pair dm .unit)))
abbrev nw:Ty:=(.pair (.int .i64) sT)
abbrev mc:Ty:=(.pair (.int .i64) (.pair (.int .i64) nw))
abbrev jT:Ty:=(.pair (.int .i64) (.pair (.slice kM) ff))
abbrev iz:Ty:=(.pair (.int .i64) (.pair (.int .i64) (.pair (.slice sT) (.pair (.int .i64) .unit))))
abbrev aA:Ty:=(.pair (.slice ff) nw)
abbrev aK:Ty:=(.pair (.slice kM) (.pair (.slice ff) (.pair (.slice kd) (.pair (.slice kd) (.pair (.slice (.int .i64)) (.pair (.slice nw) .unit))))))
abbrev sW:Ty:=(.pair (.int .i64) (.pair (.int .i64) (.pair (.int .i64) (.pair (.int .i64) (.pair (.slice ff) (.pair (.slice jT) (.pair (.slice ff) (.pair (.slice (.int .i64)) (.pair (.slice kM) (.pair (.slice kM) .unit))))))))))
abbrev dP:Ty:=(.pair (.int .i64) (.pair (.int .i64) (.pair aK (.pair sW (.pair iz .unit)))))
abbrev nA:Ty:=(.pair aA (.pair dP (.pair (.int .i64) .unit)))
abbrev QI:=Ty.den mu
abbrev QJ:=List (Ty.den mu)
abbrev BT:=Ty.den kM
abbrev aE:=List (Ty.den kM)
abbrev bY:=Ty.den eI
abbrev ky:=List (Ty.den eI)
abbrev aL:=Ty.den dm
abbrev qm:=List (Ty.den dm)
abbrev aP:=Ty.den eB
abbrev awL:=List (Ty.den eB)
abbrev dg:=Ty.den kd
abbrev au:=List (Ty.den kd)
abbrev abT:=Ty.den wD
abbrev abU:=List (Ty.den wD)
abbrev cO:=Ty.den ff
abbrev aN:=List (Ty.den ff)
abbrev tN:=Ty.den s4
abbrev cT:=List (Ty.den s4)
abbrev kQ:=Ty.den sT
abbrev bE:=List (Ty.den sT)
abbrev alh:=Ty.den s6
abbrev bO:=List (Ty.den s6)
abbrev gb:=Ty.den nw
abbrev aY:=List (Ty.den nw)
abbrev iE:=Ty.den mc
abbrev dq:=List (Ty.den mc)
abbrev je:=Ty.den jT
abbrev bL:=List (Ty.den jT)
abbrev ew:=Ty.den iz
abbrev aqO:=List (Ty.den iz)
abbrev ae:=Ty.den aA
abbrev aqP:=List (Ty.den aA)
abbrev an:=Ty.den aK
abbrev awM:=List (Ty.den aK)
abbrev aoF:=Ty.den sW
abbrev aoG:=List (Ty.den sW)
abbrev aR:=Ty.den dP
abbrev auZ:=List (Ty.den dP)
abbrev cZ:=Ty.den nA
abbrev au0:=List (Ty.den nA)
def F15(N:Nat):Option (ae×an):=
 some (([(0,(100,(2,(0,()))))],(5,(0,(0,(0,(1,(0,()))))))),([(1,(1,()))],([(1,(1,(1,(0,())))),(2,(1,(2,(0,()))))],([(1,(0,((-5),()))),(3,(0,(5,())))],(bo,([100],([(1,(2,(0,(1,(4,(1,()))))))],())))))))
def XY(N:Nat)(a0 a1 a2:Int):Option Bool:=
 cond (dy a1 a0) (some (dy a0 a2)) (some false)
abbrev CA.bP:=ae→aN→Int→Int→Option Bool
def CA.dM(cJ:CA.bP)(x1:ae)(bf:aN)(bq cq:Int):Option Bool:=
 cond (aX cq bq) (cond (bg cq (ℓ bf)) ((XY N (γ bf cq.toNat bb).1 0 3).bind λr3=>cond (!r3) (some false) ((XY N (γ bf cq.toNat bb).2.1 1 1000000000000).bind λr4=>cond (!r4) (some false) ((XY N (γ bf cq.toNat bb).2.2.1 0 1000000000).bind λr5=>cond (!r5) (some false) ((XY N (γ bf cq.toNat bb).2.2.2.1 0 1000000000).bind λr6=>cond (!r6) (some false) (cJ x1 bf bq (W .i64 (cq+1))))))) none) (cond (dy 0 x1.2.1) ((XY N x1.2.2.1 0 4).bind λr8=>cond (r8) ((XY N x1.2.2.2.1 0 1000000).bind λr9=>cond (r9) ((XY N x1.2.2.2.2.1 0 1000000).bind λme=>cond (me) ((XY N x1.2.2.2.2.2.1 1 4611686018427387904).bind λoI=>cond (oI) (some (dy 0 x1.2.2.2.2.2.2.1)) (some false)) (some false)) (some false)) (some false)) (some false))
def CA.l4(N:Nat):Nat→CA.bP
 |0,_,_,_,_=>none
 |n+1,x1,bf,bq,cq=>CA.dM N (CA.l4 N n) x1 bf bq cq
def CA.b(e8:CA.bP)(a0:ae):Option Bool:=
 (XY N (ℓ a0.1) 1 6).bind λr1=>cond (!r1) (some false) (e8 a0 a0.1 (ℓ a0.1) 0)
def CA(a0:ae):Option Bool:=CA.b N (CA.l4 N N) a0
abbrev w5.fg:=an→an→(List Int)→aN→Int→Int→Option (an×(Int))
abbrev w5.TE:=ae→an→an→(List Int)→Option (an×(Int))
def w5.nR(N:Nat)(e7:w5.fg)(x2 x4:an)(Nm:List Int)(x24:aN)(x25 QK:Int):Option (an×(Int)):=
 cond (aX QK x25) (cond (bg QK (ℓ x24)) (cond (small (ℓ Nm+ℓ ([(γ x24 QK.toNat bb).2.1]))) (e7 x2 (x4.1,(x4.2.1,(x4.2.2.1,(x4.2.2.2.1,(di,x4.2.2.2.2.2))))) (Nm++([(γ x24 QK.toNat bb).2.1])) x24 x25 (W .i64 (QK+1))) none) none) (some ((x4.1,(x4.2.1,(x4.2.2.1,(x4.2.2.2.1,(Nm,x4.2.2.2.2.2))))),0))
def w5.l7(N:Nat):Nat→w5.fg
 |0,_,_,_,_,_,_=>none
 |n+1,x2,x4,Nm,x24,x25,QK=>w5.nR N (w5.l7 N n) x2 x4 Nm x24 x25 QK
def w5.O6(N:Nat)(s7:w5.fg)(x1:ae)(x2 x4:an)(Nm:List Int):Option (an×(Int)):=
 s7 x2 x4 Nm x1.1 (ℓ x1.1) 0
def w5.j6(x1:ae)(x2 x4:an)(Nm:List Int):Option (an×(Int)):=w5.O6 N (w5.l7 N N) x1 x2 x4 Nm
def w5.b(Fs:w5.TE)(a0:ae):Option (an×(Int)):=
 (CA N a0).bind λr1=>cond (!r1) (some ((cn,(cW,(bo,(bo,(di,(du,())))))),1)) (cond (!aM a0.2.1 0) (Fs a0 (cn,(cW,(bo,(bo,(di,(du,())))))) (cn,(cW,([(1,(0,((W .i64 (0-a0.2.1)),()))),(3,(0,(a0.2.1,())))],(bo,(di,(du,())))))) di) (Fs a0 (cn,(cW,(bo,(bo,(di,(du,())))))) (cn,(cW,(bo,(bo,(di,(du,())))))) di))
def w5(a0:ae):Option (an×(Int)):=w5.b N (w5.j6 N) a0
abbrev Eh.c0:=aE→aE→Int→Int→Option Bool
def Eh.fN(N:Nat)(dW:Eh.c0)(x0 x5:aE)(x6 x7:Int):Option Bool:=
 cond (aX x7 x6) (cond (bg x7 (ℓ x5)) (cond (aX (γ x5 x7.toNat c7).1 1) (some false) (cond (aX 12 (γ x5 x7.toNat c7).1) (some false) (cond (aX (γ x5 x7.toNat c7).2.1 1) (some false) (cond (aX 4 (γ x5 x7.toNat c7).2.1) (some false) (cond (aX 0 x7) (let v2:Int:=W .i64 (x7-1);cond (bg v2 (ℓ x0)) (cond (dy (γ x5 x7.toNat c7).1 (γ x0 v2.toNat c7).1) (some false) (dW x0 x5 x6 (W .i64 (x7+1)))) none) (dW x0 x5 x6 (W .i64 (x7+1)))))))) none) (some true)
def Eh.l2(N:Nat):Nat→Eh.c0
 |0,_,_,_,_=>none
 |n+1,x0,x5,x6,x7=>Eh.fN N (Eh.l2 N n) x0 x5 x6 x7
def Eh.b(N:Nat)(gX:Eh.c0)(a0:aE):Option Bool:=
 gX a0 a0 (ℓ a0) 0
def Eh(a0:aE):Option Bool:=Eh.b N (Eh.l2 N N) a0
abbrev Aj.eO:=aN→(List Bool)→aN→Int→Int→Option Bool
def Aj.nY(N:Nat)(dL:Aj.eO)(x0:aN)(x3:List Bool)(x6:aN)(x7 x8:Int):Option Bool:=
 cond (aX x8 x7) (cond (bg x8 (ℓ x6)) (cond (aX (γ x6 x8.toNat bb).1 1) (some false) (cond (aX 24 (γ x6 x8.toNat bb).1) (some false) (cond (aX (γ x6 x8.toNat bb).2.1 1) (some false) (cond (aX 12 (γ x6 x8.toNat bb).2.1) (some false) (cond (!aM (γ x6 x8.toNat bb).2.2.1 1) (cond (!aM (γ x6 x8.toNat bb).2.2.1 2) (some false) (cond (aX (γ x6 x8.toNat bb).2.2.2.1 0) (some false) (cond (aX 1000000000000 (γ x6 x8.toNat bb).2.2.2.1) (some false) (cond (aX 0 x8) (let v2:Int:=W .i64 (x8-1);cond (bg v2 (ℓ x0)) (cond (dy (γ x6 x8.toNat bb).1 (γ x0 v2.toNat bb).1) (some false) (cond (aM (γ x6 x8.toNat bb).2.2.1 1) (cond (bg (γ x6 x8.toNat bb).2.1 13) (cond (γ x3 (γ x6 x8.toNat bb).2.1.toNat false) (some false) (cond (bg (γ x6 x8.toNat bb).2.1 13) (dL x0 (List.set x3 (γ x6 x8.toNat bb).2.1.toNat true) x6 x7 (W .i64 (x8+1))) none)) none) (dL x0 x3 x6 x7 (W .i64 (x8+1))))) none) (cond (aM (γ x6 x8.toNat bb).2.2.1 1) (cond (bg (γ x6 x8.toNat bb).2.1 13) (cond (γ x3 (γ x6 x8.toNat bb).2.1.toNat false) (some false) (cond (bg (γ x6 x8.toNat bb).2.1 13) (dL x0 (List.set x3 (γ x6 x8.toNat bb).2.1.toNat true) x6 x7 (W .i64 (x8+1))) none)) none) (dL x0 x3 x6 x7 (W .i64 (x8+1)))))))) (cond (aX (γ x6 x8.toNat bb).2.2.2.1 0) (some false) (cond (aX 1000000000000 (γ x6 x8.toNat bb).2.2.2.1) (some false) (cond (aX 0 x8) (let v7:Int:=W .i64 (x8-1);cond (bg v7 (ℓ x0)) (cond (dy (γ x6 x8.toNat bb).1 (γ x0 v7.toNat bb).1) (some false) (cond (aM (γ x6 x8.toNat bb).2.2.1 1) (cond (bg (γ x6 x8.toNat bb).2.1 13) (cond (γ x3 (γ x6 x8.toNat bb).2.1.toNat false) (some false) (cond (bg (γ x6 x8.toNat bb).2.1 13) (dL x0 (List.set x3 (γ x6 x8.toNat bb).2.1.toNat true) x6 x7 (W .i64 (x8+1))) none)) none) (dL x0 x3 x6 x7 (W .i64 (x8+1))))) none) (cond (aM (γ x6 x8.toNat bb).2.2.1 1) (cond (bg (γ x6 x8.toNat bb).2.1 13) (cond (γ x3 (γ x6 x8.toNat bb).2.1.toNat false) (some false) (cond (bg (γ x6 x8.toNat bb).2.1 13) (dL x0 (List.set x3 (γ x6 x8.toNat bb).2.1.toNat true) x6 x7 (W .i64 (x8+1))) none)) none) (dL x0 x3 x6 x7 (W .i64 (x8+1)))))))))))) none) (some true)
def Aj.l3(N:Nat):Nat→Aj.eO
 |0,_,_,_,_,_=>none
 |n+1,x0,x3,x6,x7,x8=>Aj.nY N (Aj.l3 N n) x0 x3 x6 x7 x8
def Aj.b(N:Nat)(pB:Aj.eO)(a0:aN):Option Bool:=
 pB a0 (List.replicate 13 false) a0 (ℓ a0) 0
def Aj(a0:aN):Option Bool:=Aj.b N (Aj.l3 N N) a0
abbrev BU.bP:=Int→aE→Int→Int→Option Int
def BU.dM(N:Nat)(cJ:BU.bP)(x1:Int)(bx:aE)(bf bq:Int):Option Int:=
 cond (aX bq bf) (cond (bg bq (ℓ bx)) (cond (aM (γ bx bq.toNat c7).1 x1) (some (γ bx bq.toNat c7).2.1) (cJ x1 bx bf (W .i64 (bq+1)))) none) (some 0)
def BU.l4(N:Nat):Nat→BU.bP
 |0,_,_,_,_=>none
 |n+1,x1,bx,bf,bq=>BU.dM N (BU.l4 N n) x1 bx bf bq
def BU.b(e8:BU.bP)(a0:aE)(a1:Int):Option Int:=
 (Eh N a0).bind λr1=>cond (!r1) (some 0) (e8 a1 a0 (ℓ a0) 0)
def BU(a0:aE)(a1:Int):Option Int:=BU.b N (BU.l4 N N) a0 a1
abbrev E9.bP:=aE→aN→Int→Int→Option Bool
def E9.dM(cJ:E9.bP)(x0:aE)(eD:aN)(fE gl:Int):Option Bool:=
 cond (aX gl fE) (cond (bg gl (ℓ eD)) ((BU N x0 (γ eD gl.toNat bb).2.1).bind λr4=>cond (aM r4 0) (some false) (cJ x0 eD fE (W .i64 (gl+1)))) none) (some true)
def E9.l4(N:Nat):Nat→E9.bP
 |0,_,_,_,_=>none
 |n+1,x0,eD,fE,gl=>E9.dM N (E9.l4 N n) x0 eD fE gl
def E9.b(e8:E9.bP)(a0:aE)(a1:aN):Option Bool:=
 (Eh N a0).bind λr1=>cond (!r1) (some false) ((Aj N a1).bind λr2=>cond (!r2) (some false) (e8 a0 a1 (ℓ a1) 0))
def E9(a0:aE)(a1:aN):Option Bool:=E9.b N (E9.l4 N N) a0 a1
def F83(N:Nat)(a0 a1:Int):Option Bool:=
 cond (aM a0 1) (some (aM a1 0)) (cond (aM a0 2) (some (aM a1 0)) (cond (aM a0 3) (some (aM a1 0)) (cond (aM a0 4) (some (aM a1 0)) (cond (aM a0 5) (cond (dy 1 a1) (some (dy a1 24)) (some false)) (cond (aM a0 6) (cond (dy 1 a1) (some (dy a1 12)) (some false)) (cond (aM a0 7) (cond (dy 1 a1) (some (dy a1 12)) (some false)) (some false)))))))
def F84(N:Nat)(a0 a1:Int)(a2:dg):Option Int:=
 cond (!aM a0 a2.1) (some (W .i64 (a0-a2.1))) (some (W .i64 (a1-a2.2.1)))
abbrev C2.c0:=au→au→Int→Int→Option Bool
def C2.fN(dW:C2.c0)(x0 x5:au)(x6 x7:Int):Option Bool:=
 cond (aX x7 x6) (cond (bg x7 (ℓ x5)) ((F83 N (γ x5 x7.toNat aZ).1 (γ x5 x7.toNat aZ).2.1).bind λr2=>cond (!r2) (some false) (cond (aM (γ x5 x7.toNat aZ).2.2.1 0) (some false) (cond (aX 0 x7) (let v3:Int:=W .i64 (x7-1);cond (bg v3 (ℓ x0)) ((F84 N (γ x5 x7.toNat aZ).1 (γ x5 x7.toNat aZ).2.1 (γ x0 v3.toNat aZ)).bind λr4=>cond (dy r4 0) (some false) (dW x0 x5 x6 (W .i64 (x7+1)))) none) (dW x0 x5 x6 (W .i64 (x7+1)))))) none) (some true)
def C2.l2(N:Nat):Nat→C2.c0
 |0,_,_,_,_=>none
 |n+1,x0,x5,x6,x7=>C2.fN N (C2.l2 N n) x0 x5 x6 x7
def C2.b(N:Nat)(gX:C2.c0)(a0:au):Option Bool:=
 gX a0 a0 (ℓ a0) 0
def C2(a0:au):Option Bool:=C2.b N (C2.l2 N N) a0
def Pf(N:Nat)(a0:Int):Option bY:=
 cond (aX 63 0) none (some ((shr .i64 a0 63),((W .u64 a0),())))
abbrev AB.eO:=bY→Int→Int→Int→ky→Int→Int→Option (bY×(Bool))
def AB.nY(dL:AB.eO)(x2:bY)(x4 x5 x6:Int)(bx:ky)(bf bq:Int):Option (bY×(Bool)):=
 cond (aX bq bf) (cond (bg bq (ℓ bx)) ((uO N x6 (γ bx bq.toNat c7).2.1 0).bind λr2=>(uO N x5 (W .u64 (γ bx bq.toNat c7).1) r2.2).bind λr4=>cond (aX 63 0) none (dL x2 (W .i64 ((W .i64 (x4+(shr .i64 (γ bx bq.toNat c7).1 63)))+(W .i64 r4.2))) r4.1 r2.1 bx bf (W .i64 (bq+1)))) none) (cond (aX 63 0) none (cond (!aM x4 (shr .i64 (W .i64 x5) 63)) (some (c7,false)) (some (((W .i64 x5),(x6,())),true))))
def AB.l3(N:Nat):Nat→AB.eO
 |0,_,_,_,_,_,_,_=>none
 |n+1,x2,x4,x5,x6,bx,bf,bq=>AB.nY N (AB.l3 N n) x2 x4 x5 x6 bx bf bq
def AB.b(N:Nat)(pB:AB.eO)(a0:ky):Option (bY×(Bool)):=
 pB c7 0 0 0 a0 (ℓ a0) 0
def AB(a0:ky):Option (bY×(Bool)):=AB.b N (AB.l3 N N) a0
abbrev Ek.bN:=bY→ky→au→Int→Int→Option bY
def Ek.dV(bS:Ek.bN)(x2:bY)(x3:ky)(bq:au)(cq c4:Int):Option bY:=
 cond (aX c4 cq) (cond (bg c4 (ℓ bq)) ((Pf N (γ bq c4.toNat aZ).2.2.1).bind λr3=>cond (small (ℓ x3+ℓ ([r3]))) (bS x2 (x3++([r3])) bq cq (W .i64 (c4+1))) none) none) ((AB N x3).bind λr6=>some r6.1)
def Ek.l5(N:Nat):Nat→Ek.bN
 |0,_,_,_,_,_=>none
 |n+1,x2,x3,bq,cq,c4=>Ek.dV N (Ek.l5 N n) x2 x3 bq cq c4
def Ek.b(fa:Ek.bN)(a0:au):Option bY:=
 (C2 N a0).bind λr1=>cond (!r1) (some c7) (fa c7 ([]) a0 (ℓ a0) 0)
def Ek(a0:au):Option bY:=Ek.b N (Ek.l5 N N) a0
def F85(N:Nat)(a0 a1:bY):Option Int:=
 cond (aX a0.1 a1.1) (some (-1)) (cond (aM a0.1 a1.1) (cond (aX a0.2.1 a1.2.1) (some (-1)) (cond (oX (.pair (.int .i64) (.pair (.int .u64) .unit)) a0 a1) (some 0) (some 1))) (cond (oX (.pair (.int .i64) (.pair (.int .u64) .unit)) a0 a1) (some 0) (some 1)))
def F32(a0:bY):Option Int:=
 (F85 N a0 c7).bind λr1=>some r1
def Zq(N:Nat)(a0 a1:Int):Option Bool:=
 cond (dy 0 a0) (cond (dy a0 24) (cond (dy 0 a1) (some (aX a1 6)) (some false)) (some false)) (some false)
def SE(N:Nat)(a0:Int):Option Bool:=
 some (!aM a0 (-9223372036854775808))
def Wm(N:Nat)(a0 a1:Int)(a2:dg):Option Int:=
 cond (!aM a0 a2.1) (some (W .i64 (a0-a2.1))) (some (W .i64 (a1-a2.2.1)))
abbrev BR.c0:=au→au→Int→Int→Option Bool
def BR.fN(dW:BR.c0)(x0 x5:au)(x6 x7:Int):Option Bool:=
 cond (aX x7 x6) (cond (bg x7 (ℓ x5)) ((Zq N (γ x5 x7.toNat aZ).1 (γ x5 x7.toNat aZ).2.1).bind λr2=>cond (!r2) (some false) (cond (aM (γ x5 x7.toNat aZ).2.2.1 0) (some false) ((SE N (γ x5 x7.toNat aZ).2.2.1).bind λr3=>cond (!r3) (some false) (cond (aX 0 x7) (let v4:Int:=W .i64 (x7-1);cond (bg v4 (ℓ x0)) ((Wm N (γ x5 x7.toNat aZ).1 (γ x5 x7.toNat aZ).2.1 (γ x0 v4.toNat aZ)).bind λr5=>cond (dy r5 0) (some false) (dW x0 x5 x6 (W .i64 (x7+1)))) none) (dW x0 x5 x6 (W .i64 (x7+1))))))) none) (some true)
def BR.l2(N:Nat):Nat→BR.c0
 |0,_,_,_,_=>none
 |n+1,x0,x5,x6,x7=>BR.fN N (BR.l2 N n) x0 x5 x6 x7
def BR.b(N:Nat)(gX:BR.c0)(a0:au):Option Bool:=
 gX a0 a0 (ℓ a0) 0
def BR(a0:au):Option Bool:=BR.b N (BR.l2 N N) a0
abbrev Em.bN:=Int→bY→ky→au→Int→Int→Option bY
def Em.dV(bS:Em.bN)(x1:Int)(x4:bY)(x5:ky)(c4:au)(eD fE:Int):Option bY:=
 cond (aX fE eD) (cond (bg fE (ℓ c4)) (cond (aM (γ c4 fE.toNat aZ).2.1 x1) ((Pf N (γ c4 fE.toNat aZ).2.2.1).bind λr3=>cond (small (ℓ x5+ℓ ([r3]))) (bS x1 x4 (x5++([r3])) c4 eD (W .i64 (fE+1))) none) (bS x1 x4 x5 c4 eD (W .i64 (fE+1)))) none) ((AB N x5).bind λr7=>some r7.1)
def Em.l5(N:Nat):Nat→Em.bN
 |0,_,_,_,_,_,_=>none
 |n+1,x1,x4,x5,c4,eD,fE=>Em.dV N (Em.l5 N n) x1 x4 x5 c4 eD fE
def Em.b(fa:Em.bN)(a0:au)(a1:Int):Option bY:=
 (BR N a0).bind λr1=>cond (!r1) (some c7) (fa a1 c7 ([]) a0 (ℓ a0) 0)
def Em(a0:au)(a1:Int):Option bY:=Em.b N (Em.l5 N N) a0 a1
abbrev Fa.c0:=au→Int→Option Bool
def Fa.fN(dW:Fa.c0)(x0:au)(x4:Int):Option Bool:=
 cond (aX x4 6) ((Em N x0 x4).bind λr2=>(F32 N r2).bind λr3=>cond (!aM r3 0) (some false) (dW x0 (W .i64 (x4+1)))) ((BR N x0).bind λr5=>some r5)
def Fa.l2(N:Nat):Nat→Fa.c0
 |0,_,_=>none
 |n+1,x0,x4=>Fa.fN N (Fa.l2 N n) x0 x4
def Fa.b(N:Nat)(gX:Fa.c0)(a0:au):Option Bool:=
 gX a0 0
def Fa(a0:au):Option Bool:=Fa.b N (Fa.l2 N N) a0
def F90(N:Nat)(a0:gb):Option Bool:=
 cond (dy 1 a0.1) (cond (dy a0.1 1099511627776) (cond (dy 1 a0.2.1) (cond (dy a0.2.1 24) (cond (dy 0 a0.2.2.1) (cond (aX a0.2.2.1 6) (cond (aM a0.2.2.2.1 1) (cond (dy 1 a0.2.2.2.2.1) (cond (dy a0.2.2.2.2.1 1000000000) (cond (dy 1 a0.2.2.2.2.2.1) (some (dy a0.2.2.2.2.2.1 1000000000000)) (some false)) (some false)) (some false)) (cond (aM a0.2.2.2.1 2) (cond (dy 1 a0.2.2.2.2.1) (cond (dy a0.2.2.2.2.1 1000000000) (cond (dy 1 a0.2.2.2.2.2.1) (some (dy a0.2.2.2.2.2.1 1000000000000)) (some false)) (some false)) (some false)) (some false))) (some false)) (some false)) (some false)) (some false)) (some false)) (some false)
abbrev C9.c0:=aY→aY→Int→Int→Option Bool
def C9.fN(dW:C9.c0)(x0 x5:aY)(x6 x7:Int):Option Bool:=
 cond (aX x7 x6) (cond (bg x7 (ℓ x5)) ((F90 N (γ x5 x7.toNat dT)).bind λr2=>cond (!r2) (some false) (cond (aX 0 x7) (let v3:Int:=W .i64 (x7-1);cond (bg v3 (ℓ x0)) (cond (dy (γ x5 x7.toNat dT).1 (γ x0 v3.toNat dT).1) (some false) (dW x0 x5 x6 (W .i64 (x7+1)))) none) (dW x0 x5 x6 (W .i64 (x7+1))))) none) (some (dy (ℓ x0) 32))
def C9.l2(N:Nat):Nat→C9.c0
 |0,_,_,_,_=>none
 |n+1,x0,x5,x6,x7=>C9.fN N (C9.l2 N n) x0 x5 x6 x7
def C9.b(N:Nat)(gX:C9.c0)(a0:aY):Option Bool:=
 gX a0 a0 (ℓ a0) 0
def C9(a0:aY):Option Bool:=C9.b N (C9.l2 N N) a0
abbrev Ei.bP:=Int→cO→aN→Int→Int→Option (cO×(Bool))
def Ei.dM(N:Nat)(cJ:Ei.bP)(x1:Int)(x4:cO)(bq:aN)(cq c4:Int):Option (cO×(Bool)):=
 cond (aX c4 cq) (cond (bg c4 (ℓ bq)) (cond (aM (γ bq c4.toNat bb).1 x1) (some (γ bq c4.toNat bb,true)) (cJ x1 x4 bq cq (W .i64 (c4+1)))) none) (some (bb,false))
def Ei.l4(N:Nat):Nat→Ei.bP
 |0,_,_,_,_,_=>none
 |n+1,x1,x4,bq,cq,c4=>Ei.dM N (Ei.l4 N n) x1 x4 bq cq c4
def Ei.b(e8:Ei.bP)(a0:aN)(a1:Int):Option (cO×(Bool)):=
 (Aj N a0).bind λr1=>cond (!r1) (some (bb,false)) (e8 a1 bb a0 (ℓ a0) 0)
def Ei(a0:aN)(a1:Int):Option (cO×(Bool)):=Ei.b N (Ei.l4 N N) a0 a1
def F36(a0:an)(a1:Int):Option Bool:=
 (Ei N a0.2.1 a1).bind λr1=>some r1.2
def F40(N:Nat)(a0:Int):Option Bool:=
 cond (dy 1 a0) (some (dy a0 1000000000000)) (some false)
def F39(a0:Int):Option Bool:=
 (F40 N a0).bind λr1=>some (!r1)
abbrev Jq.c0:=(List Int)→Unit→Int→Int→Option Int
def Jq.fN(dW:Jq.c0)(x0:List Int)(x1:Unit)(x7 x8:Int):Option Int:=
 cond (aX x8 x7) (cond (bg x8 (ℓ x0)) ((F39 N (γ x0 x8.toNat 0)).bind λr2=>cond (r2) (some x8) (dW x0 () x7 (W .i64 (x8+1)))) none) (some (-1))
def Jq.l2(N:Nat):Nat→Jq.c0
 |0,_,_,_,_=>none
 |n+1,x0,x1,x7,x8=>Jq.fN N (Jq.l2 N n) x0 x1 x7 x8
def Jq.b(N:Nat)(gX:Jq.c0)(a0:List Int)(a1:Unit):Option Int:=
 gX a0 () (ℓ a0) 0
def Jq(a0:List Int)(a1:Unit):Option Int:=Jq.b N (Jq.l2 N N) a0 a1
def F38(a0:List Int)(a1:Unit):Option Bool:=
 (Jq N a0 ()).bind λr1=>some (dy 0 r1)
abbrev F9.s8:=ae→an→aY→Int→Int→Option Bool
abbrev F9.nM:=ae→an→au→Int→Int→Option Bool
abbrev F9.bP:=ae→an→au→Int→Int→Option Bool
def F9.wY(IY:F9.s8)(x2:ae)(x3:an)(tk:aY)(aeh TF:Int):Option Bool:=
 cond (aX TF aeh) (cond (bg TF (ℓ tk)) ((F36 N x3 (γ tk TF.toNat dT).2.1).bind λGe=>cond (!Ge) (some false) (cond (dy (ℓ x2.1) (γ tk TF.toNat dT).2.2.1) (some false) (IY x2 x3 tk aeh (W .i64 (TF+1))))) none) ((F38 N x3.2.2.2.2.1 ()).bind λET=>some (!ET))
def F9.yd(N:Nat):Nat→F9.s8
 |0,_,_,_,_,_=>none
 |n+1,x2,x3,tk,aeh,TF=>F9.wY N (F9.yd N n) x2 x3 tk aeh TF
def F9.wX(IZ:F9.s8)(o6:F9.nM)(x2:ae)(x3:an)(x83:au)(x84 x85:Int):Option Bool:=
 cond (aX x85 x84) (cond (bg x85 (ℓ x83)) (cond (!aM (γ x83 x85.toNat aZ).1 0) ((F36 N x3 (γ x83 x85.toNat aZ).1).bind λw1=>cond (!w1) (some false) (cond (dy (ℓ x2.1) (γ x83 x85.toNat aZ).2.1) (some false) (o6 x2 x3 x83 x84 (W .i64 (x85+1))))) (cond (dy (ℓ x2.1) (γ x83 x85.toNat aZ).2.1) (some false) (o6 x2 x3 x83 x84 (W .i64 (x85+1))))) none) (IZ x2 x3 x3.2.2.2.2.2.1 (ℓ x3.2.2.2.2.2.1) 0)
def F9.yc(N:Nat):Nat→F9.nM
 |0,_,_,_,_,_=>none
 |n+1,x2,x3,x83,x84,x85=>F9.wX N (F9.yd N N) (F9.yc N n) x2 x3 x83 x84 x85
def F9.dM(I0:F9.nM)(cJ:F9.bP)(x2:ae)(x3:an)(Jt:au)(XH Gf:Int):Option Bool:=
 cond (aX Gf XH) (cond (bg Gf (ℓ Jt)) (cond (aM (γ Jt Gf.toNat aZ).1 5) ((F36 N x3 (γ Jt Gf.toNat aZ).2.1).bind λr9=>cond (!r9) (some false) (cJ x2 x3 Jt XH (W .i64 (Gf+1)))) (cond (aM (γ Jt Gf.toNat aZ).1 6) ((BU N x3.1 (γ Jt Gf.toNat aZ).2.1).bind λoI=>cond (aM oI 0) (some false) (cJ x2 x3 Jt XH (W .i64 (Gf+1)))) (cond (aM (γ Jt Gf.toNat aZ).1 7) ((BU N x3.1 (γ Jt Gf.toNat aZ).2.1).bind λn0=>cond (aM n0 0) (some false) (cJ x2 x3 Jt XH (W .i64 (Gf+1)))) (cJ x2 x3 Jt XH (W .i64 (Gf+1)))))) none) (I0 x2 x3 x3.2.2.2.1 (ℓ x3.2.2.2.1) 0)
def F9.l4(N:Nat):Nat→F9.bP
 |0,_,_,_,_,_=>none
 |n+1,x2,x3,Jt,XH,Gf=>F9.dM N (F9.yc N N) (F9.l4 N n) x2 x3 Jt XH Gf
def F9.b(e8:F9.bP)(a0:ae)(a1:an):Option Bool:=
 (CA N a0).bind λr1=>cond (!r1) (some false) ((E9 N a1.1 a1.2.1).bind λr2=>cond (!r2) (some false) ((C2 N a1.2.2.1).bind λr3=>cond (!r3) (some false) ((Ek N a1.2.2.1).bind λr4=>(F32 N r4).bind λr5=>cond (!aM r5 0) (some false) ((Fa N a1.2.2.2.1).bind λr6=>cond (!r6) (some false) ((C9 N a1.2.2.2.2.2.1).bind λr7=>cond (!r7) (some false) (cond (!aM (ℓ a1.2.2.2.2.1) (ℓ a0.1)) (some false) (e8 a0 a1 a1.2.2.1 (ℓ a1.2.2.1) 0)))))))
def F9(a0:ae)(a1:an):Option Bool:=F9.b N (F9.l4 N N) a0 a1
abbrev Dn.c0:=kQ→(List Int)→Int→Option Bool
def Dn.fN(dW:Dn.c0)(x1:kQ)(x9:List Int)(bx:Int):Option Bool:=
 cond (aX bx 2) (cond (bg bx 2) (cond (aX (γ x9 bx.toNat 0) 0) (some false) (cond (aX 24 (γ x9 bx.toNat 0)) (some false) (dW x1 x9 (W .i64 (bx+1))))) none) (cond (!aM x1.1 x1.2.1) (cond (dy 0 x1.2.2.1) (cond (aX x1.2.2.1 6) (cond (dy 1 x1.2.2.2.1) (cond (dy x1.2.2.2.1 1000000000) ((F40 N x1.2.2.2.2.1).bind λr4=>some r4) (some false)) (some false)) (some false)) (some false)) (some false))
def Dn.l2(N:Nat):Nat→Dn.c0
 |0,_,_,_=>none
 |n+1,x1,x9,bx=>Dn.fN N (Dn.l2 N n) x1 x9 bx
def Dn.b(N:Nat)(gX:Dn.c0)(a0:kQ):Option Bool:=
 gX a0 (List.set (List.set (List.replicate 2 0) 0 a0.1) 1 a0.2.1) 0
def Dn(a0:kQ):Option Bool:=Dn.b N (Dn.l2 N N) a0
def F58(a0:kQ):Option Bool:=
 (Dn N a0).bind λr1=>some (!r1)
abbrev th.c0:=bE→Unit→Int→Int→Option Int
def th.fN(dW:th.c0)(x0:bE)(x1:Unit)(x7 x8:Int):Option Int:=
 cond (aX x8 x7) (cond (bg x8 (ℓ x0)) ((F58 N (γ x0 x8.toNat gv)).bind λr2=>cond (r2) (some x8) (dW x0 () x7 (W .i64 (x8+1)))) none) (some (-1))
def th.l2(N:Nat):Nat→th.c0
 |0,_,_,_,_=>none
 |n+1,x0,x1,x7,x8=>th.fN N (th.l2 N n) x0 x1 x7 x8
def th.b(N:Nat)(gX:th.c0)(a0:bE)(a1:Unit):Option Int:=
 gX a0 () (ℓ a0) 0
def th(a0:bE)(a1:Unit):Option Int:=th.b N (th.l2 N N) a0 a1
def F57(a0:bE)(a1:Unit):Option Bool:=
 (th N a0 ()).bind λr1=>some (dy 0 r1)
def Wh(N:Nat)(a0:Int):Option Int:=
 cond (aX a0 0) (some (W .u64 (0-(W .u64 a0)))) (some (W .u64 a0))
def Wg(N:Nat)(a0 a1:Int):Option ((Int)×(Int)):=
 let v1:Int:=sb .and .u64 a0 4294967295;cond (aX 32 0) none (let v2:Int:=shr .u64 a0 32;let v3:Int:=sb .and .u64 a1 4294967295;cond (aX 32 0) none (let v4:Int:=shr .u64 a1 32;cond (aX 32 0) none (let v8:Int:=W .u64 ((W .u64 (v2*v3))+(shr .u64 (W .u64 (v1*v3)) 32));cond (aX 32 0) none (cond (aX 32 0) none (some ((W .u64 ((W .u64 ((W .u64 (v2*v4))+(shr .u64 v8 32)))+(shr .u64 (W .u64 ((sb .and .u64 v8 4294967295)+(W .u64 (v1*v4)))) 32))),(W .u64 (a0*a1))))))))
abbrev rf.abc:=Int→Int→bY→Option (bY×(Bool))
def rf.XX(x1 x2:Int)(x6:bY):Option (bY×(Bool)):=
 (tA N 0 x2 0).bind λr3=>(tA N 0 x1 r3.2).bind λr4=>some (((W .i64 r4.1),(r3.1,())),true)
def rf.j7(x1 x2:Int)(x6:bY):Option (bY×(Bool)):=rf.XX N x1 x2 x6
def rf.b(N:Nat)(J8:rf.abc)(a0:Bool)(a1 a2:Int):Option (bY×(Bool)):=
 cond (!a0) (cond (dy 9223372036854775808 a1) (some (c7,false)) (some (((W .i64 a1),(a2,())),true))) (cond (aX 9223372036854775808 a1) (some (c7,false)) (cond (aM a1 9223372036854775808) (cond (aX 0 a2) (some (c7,false)) (J8 a1 a2 c7)) (J8 a1 a2 c7)))
def rf(a0:Bool)(a1 a2:Int):Option (bY×(Bool)):=rf.b N (rf.j7 N) a0 a1 a2
def Wl(a0 a1:Int):Option bY:=
 (Wh N a0).bind λr1=>(Wh N a1).bind λr2=>(Wg N r1 r2).bind λr3=>(rf N (!(oX .bool (aX a0 0) (aX a1 0))) r3.1 r3.2).bind λr4=>some r4.1
def WQ(N:Nat)(a0:Int)(a1:bY):Option tN:=
 cond (aM a0 0) (some (2,(0,(a1,())))) (some (5,(a0,(a1,()))))
def F60(a0:kQ)(a1:Int):Option (cT×(Int)):=
 (Dn N a0).bind λr1=>cond (!r1) (some ([],1)) ((F40 N a1).bind λr2=>cond (!r2) (some ([],1)) (cond (aM a1 a0.2.2.2.2.1) (some ([],0)) ((Wl N a0.2.2.2.1 (W .i64 (a1-a0.2.2.2.2.1))).bind λr4=>(WQ N a0.1 r4).bind λr5=>(Wl N a0.2.2.2.1 (W .i64 (a0.2.2.2.2.1-a1))).bind λr7=>(WQ N a0.2.1 r7).bind λr8=>some ([r5,r8],0))))
def F70(a0:an):Option an:=
 (jv N a0.1).bind λr1=>(jv N a0.2.1).bind λr2=>(jv N a0.2.2.1).bind λr3=>(jv N a0.2.2.2.1).bind λr4=>(jv N a0.2.2.2.2.1).bind λr5=>(jv N a0.2.2.2.2.2.1).bind λr6=>some (r1,(r2,(r3,(r4,(r5,(r6,()))))))
abbrev g9.kz:=au→Int→ky→Int→au→Int→Int→Option Bool
abbrev g9.c0:=au→Int→Option Bool
def g9.uU(dW:g9.c0)(lB:g9.kz)(x0:au)(x3:Int)(x4:ky)(x9:Int)(bq:au)(cq c4:Int):Option Bool:=
 cond (aX c4 cq) (cond (bg c4 (ℓ bq)) (cond (aM (γ bq c4.toNat aZ).2.1 x3) ((Pf N (γ bq c4.toNat aZ).2.2.1).bind λr3=>cond (small (ℓ x4+ℓ ([r3]))) (lB x0 x3 (x4++([r3])) x9 bq cq (W .i64 (c4+1))) none) (lB x0 x3 x4 x9 bq cq (W .i64 (c4+1)))) none) ((AB N x4).bind λr7=>cond (!r7.2) (some false) ((F32 N r7.1).bind λr8=>cond (!aM r8 0) (some false) (dW x0 (W .i64 (x9+1)))))
def g9.l6(N:Nat)(dW:g9.c0):Nat→g9.kz
 |0,_,_,_,_,_,_,_=>none
 |n+1,x0,x3,x4,x9,bq,cq,c4=>g9.uU N dW (g9.l6 N dW n) x0 x3 x4 x9 bq cq c4
def g9.fN(N:Nat)(yw:g9.kz)(dW:g9.c0)(x0:au)(x9:Int):Option Bool:=
 cond (aX x9 6) (yw x0 x9 ([]) x9 x0 (ℓ x0) 0) (some true)
def g9.l2(N:Nat):Nat→g9.c0
 |0,_,_=>none
 |n+1,x0,x9=>g9.fN N (g9.l6 N (g9.l2 N n) N) (g9.l2 N n) x0 x9
def g9.b(N:Nat)(gX:g9.c0)(a0:au):Option Bool:=
 gX a0 0
def g9(a0:au):Option Bool:=g9.b N (g9.l2 N N) a0
def Sz(N:Nat)(a0:bY):Option ((Int)×(Bool)):=
 cond (aX 63 0) none (cond (!aM a0.1 (shr .i64 (W .i64 a0.2.1) 63)) (some (0,false)) (some ((W .i64 a0.2.1),true)))
def ac5(N:Nat)(a0:au):Option au:=
 cond (jc 0 (ℓ a0) (ℓ a0) (ℓ a0)) (some (List.drop (0:Int).toNat (List.take (ℓ a0:Int).toNat a0))) none
abbrev cP.aqR:=au→au→dg→Int→au→Int→Int→Option (au×(Int))
abbrev cP.nM:=au→au→dg→Int→au→Int→Int→Option (au×(Int))
abbrev cP.abd:=au→au→dg→ky→au→Int→Int→au→Int→Int→Option (au×(Int))
abbrev cP.KG:=au→au→au→Int→Int→Option (au×(Int))
abbrev cP.fT:=au→au→au→Int→Int→Option (au×(Int))
abbrev cP.bP:=au→au→au→Int→Int→Option (au×(Int))
def cP.ald(gR:cP.fT)(x1 x8:au)(bx:dg)(bf:Int)(QL:au)(Sa NJ:Int):Option (au×(Int)):=
 cond (aM bf (ℓ x8)) ((qY N x8 bf ([(bx.1,(bx.2.1,(0,())))])).bind λn0=>gR x1 n0 QL Sa (W .i64 (NJ+1))) (cond (bg bf (ℓ x8)) ((Wm N bx.1 bx.2.1 (γ x8 bf.toNat aZ)).bind λuu=>cond (!aM uu 0) ((qY N x8 bf ([(bx.1,(bx.2.1,(0,())))])).bind λwz=>gR x1 wz QL Sa (W .i64 (NJ+1))) (gR x1 x8 QL Sa (W .i64 (NJ+1)))) none)
def cP.j18(gR:cP.fT)(x1 x8:au)(bx:dg)(bf:Int)(QL:au)(Sa NJ:Int):Option (au×(Int)):=cP.ald N gR x1 x8 bx bf QL Sa NJ
def cP.wX(ajd:cP.aqR)(gR:cP.fT)(o6:cP.nM)(x1 x8:au)(bx:dg)(bf:Int)(QL:au)(Sa NJ:Int):Option (au×(Int)):=
 cond (aX bf (ℓ x8)) (cond (bg bf (ℓ x8)) ((Wm N bx.1 bx.2.1 (γ x8 bf.toNat aZ)).bind λme=>cond (aX 0 me) (o6 x1 x8 bx (W .i64 (bf+1)) QL Sa NJ) (ajd x1 x8 bx bf QL Sa NJ)) none) (ajd x1 x8 bx bf QL Sa NJ)
def cP.yc(N:Nat)(gR:cP.fT):Nat→cP.nM
 |0,_,_,_,_,_,_,_=>none
 |n+1,x1,x8,bx,bf,QL,Sa,NJ=>cP.wX N (cP.j18 N gR) gR (cP.yc N gR n) x1 x8 bx bf QL Sa NJ
def cP.ac6(Ly:cP.KG)(abe:cP.abd)(x1 bq:au)(c4:dg)(eD:ky)(Cs:au)(Ft tk:Int)(Nn:au)(XI J9:Int):Option (au×(Int)):=
 cond (aX J9 XI) (cond (bg J9 (ℓ Nn)) (cond (aM (γ Nn J9.toNat aZ).1 c4.1) (cond (aM (γ Nn J9.toNat aZ).2.1 c4.2.1) ((Pf N (γ Nn J9.toNat aZ).2.2.1).bind λET=>cond (small (ℓ eD+ℓ ([ET]))) (abe x1 bq c4 (eD++([ET])) Cs Ft tk Nn XI (W .i64 (J9+1))) none) (abe x1 bq c4 eD Cs Ft tk Nn XI (W .i64 (J9+1)))) (abe x1 bq c4 eD Cs Ft tk Nn XI (W .i64 (J9+1)))) none) ((AB N eD).bind λr28=>(Sz N r28.1).bind λGg=>cond (!Gg.2) (some (bo,2)) ((SE N Gg.1).bind λTG=>cond (!TG) (some (bo,2)) (cond (!aM Gg.1 0) (cond (small (ℓ bq+ℓ ([(c4.1,(c4.2.1,(Gg.1,())))]))) (Ly x1 (bq++([(c4.1,(c4.2.1,(Gg.1,())))])) Cs Ft (W .i64 (tk+1))) none) (Ly x1 bq Cs Ft (W .i64 (tk+1))))))
def cP.l27(N:Nat)(Ly:cP.KG):Nat→cP.abd
 |0,_,_,_,_,_,_,_,_,_,_=>none
 |n+1,x1,bq,c4,eD,Cs,Ft,tk,Nn,XI,J9=>cP.ac6 N Ly (cP.l27 N Ly n) x1 bq c4 eD Cs Ft tk Nn XI J9
def cP.ac8(aqS:cP.abd)(Ly:cP.KG)(x1 bq Cs:au)(Ft tk:Int):Option (au×(Int)):=
 cond (aX tk Ft) (cond (bg tk (ℓ Cs)) ((Pf N (γ Cs tk.toNat aZ).2.2.1).bind λGe=>aqS x1 bq (γ Cs tk.toNat aZ) ([Ge]) Cs Ft tk x1 (ℓ x1) 0) none) ((ac5 N bq).bind λr34=>some (r34,0))
def cP.l23(N:Nat):Nat→cP.KG
 |0,_,_,_,_,_=>none
 |n+1,x1,bq,Cs,Ft,tk=>cP.ac8 N (cP.l27 N (cP.l23 N n) N) (cP.l23 N n) x1 bq Cs Ft tk
def cP.lq(N:Nat)(I0:cP.nM)(aqT:cP.KG)(gR:cP.fT)(x1 x8 QL:au)(Sa NJ:Int):Option (au×(Int)):=
 cond (aX NJ Sa) (cond (bg NJ (ℓ QL)) (I0 x1 x8 (γ QL NJ.toNat aZ) 0 QL Sa NJ) none) (cond (kU 0 (ℓ x8)) (aqT x1 (List.replicate (0:Int).toNat aZ) x8 (ℓ x8) 0) none)
def cP.mw(N:Nat):Nat→cP.fT
 |0,_,_,_,_,_=>none
 |n+1,x1,x8,QL,Sa,NJ=>cP.lq N (cP.yc N (cP.mw N n) N) (cP.l23 N N) (cP.mw N n) x1 x8 QL Sa NJ
def cP.dM(s9:cP.fT)(cJ:cP.bP)(x0 x1 AG:au)(LA DG:Int):Option (au×(Int)):=
 cond (aX DG LA) (cond (bg DG (ℓ AG)) ((Zq N (γ AG DG.toNat aZ).1 (γ AG DG.toNat aZ).2.1).bind λr3=>cond (!r3) (some (bo,1)) ((SE N (γ AG DG.toNat aZ).2.2.1).bind λr4=>cond (!r4) (some (bo,1)) (cJ x0 x1 AG LA (W .i64 (DG+1))))) none) ((g9 N x1).bind λr6=>cond (!r6) (some (bo,1)) ((jv N x0).bind λr7=>s9 x1 r7 x1 (ℓ x1) 0))
def cP.l4(N:Nat):Nat→cP.bP
 |0,_,_,_,_,_=>none
 |n+1,x0,x1,AG,LA,DG=>cP.dM N (cP.mw N N) (cP.l4 N n) x0 x1 AG LA DG
def cP.b(e8:cP.bP)(a0 a1:au):Option (au×(Int)):=
 (BR N a0).bind λr1=>cond (!r1) (some (bo,1)) (cond (aX 400 (ℓ a1)) (some (bo,1)) (e8 a0 a1 a1 (ℓ a1) 0))
def cP(a0 a1:au):Option (au×(Int)):=cP.b N (cP.l4 N N) a0 a1
def alf(N:Nat)(a0:au):Option au:=
 cond (jc 0 (ℓ a0) (ℓ a0) (ℓ a0)) (some (List.drop (0:Int).toNat (List.take (ℓ a0:Int).toNat a0))) none
abbrev cQ.aqU:=cT→au→tN→Int→cT→Int→Int→Option (au×(Int))
abbrev cQ.I1:=cT→au→tN→Int→cT→Int→Int→Option (au×(Int))
abbrev cQ.I2:=cT→au→dg→ky→au→Int→Int→cT→Int→Int→Option (au×(Int))
abbrev cQ.KO:=cT→au→au→Int→Int→Option (au×(Int))
abbrev cQ.nM:=cT→au→cT→Int→Int→Option (au×(Int))
abbrev cQ.bN:=au→cT→ky→cT→Int→Int→Option (au×(Int))
def cQ.alg(o6:cQ.nM)(x1:cT)(bf:au)(cq:tN)(c4:Int)(xb:cT)(Ka wM:Int):Option (au×(Int)):=
 cond (aM c4 (ℓ bf)) ((qY N bf c4 ([(cq.1,(cq.2.1,(0,())))])).bind λuu=>o6 x1 uu xb Ka (W .i64 (wM+1))) (cond (bg c4 (ℓ bf)) ((F84 N cq.1 cq.2.1 (γ bf c4.toNat aZ)).bind λw1=>cond (!aM w1 0) ((qY N bf c4 ([(cq.1,(cq.2.1,(0,())))])).bind λyx=>o6 x1 yx xb Ka (W .i64 (wM+1))) (o6 x1 bf xb Ka (W .i64 (wM+1)))) none)
def cQ.j21(o6:cQ.nM)(x1:cT)(bf:au)(cq:tN)(c4:Int)(xb:cT)(Ka wM:Int):Option (au×(Int)):=cQ.alg N o6 x1 bf cq c4 xb Ka wM
def cQ.SP(ajf:cQ.aqU)(o6:cQ.nM)(abg:cQ.I1)(x1:cT)(bf:au)(cq:tN)(c4:Int)(xb:cT)(Ka wM:Int):Option (au×(Int)):=
 cond (aX c4 (ℓ bf)) (cond (bg c4 (ℓ bf)) ((F84 N cq.1 cq.2.1 (γ bf c4.toNat aZ)).bind λnZ=>cond (aX 0 nZ) (abg x1 bf cq (W .i64 (c4+1)) xb Ka wM) (ajf x1 bf cq c4 xb Ka wM)) none) (ajf x1 bf cq c4 xb Ka wM)
def cQ.WH(N:Nat)(o6:cQ.nM):Nat→cQ.I1
 |0,_,_,_,_,_,_,_=>none
 |n+1,x1,bf,cq,c4,xb,Ka,wM=>cQ.SP N (cQ.j21 N o6) o6 (cQ.WH N o6 n) x1 bf cq c4 xb Ka wM
def cQ.MA(LB:cQ.KO)(EU:cQ.I2)(x1:cT)(eD:au)(gl:dg)(my:ky)(Ct:au)(Fu Ay:Int)(Kb:cT)(XJ I3:Int):Option (au×(Int)):=
 cond (aX I3 XJ) (cond (bg I3 (ℓ Kb)) (cond (aM (γ Kb I3.toNat (0,(0,(c7,())))).1 gl.1) (cond (aM (γ Kb I3.toNat (0,(0,(c7,())))).2.1 gl.2.1) (cond (small (ℓ my+ℓ ([(γ Kb I3.toNat (0,(0,(c7,())))).2.2.1]))) (EU x1 eD gl (my++([(γ Kb I3.toNat (0,(0,(c7,())))).2.2.1])) Ct Fu Ay Kb XJ (W .i64 (I3+1))) none) (EU x1 eD gl my Ct Fu Ay Kb XJ (W .i64 (I3+1)))) (EU x1 eD gl my Ct Fu Ay Kb XJ (W .i64 (I3+1)))) none) ((AB N my).bind λGg=>(Sz N Gg.1).bind λTG=>cond (!Gg.2) (some (bo,2)) (cond (!TG.2) (some (bo,2)) (cond (!aM TG.1 0) (cond (small (ℓ eD+ℓ ([(gl.1,(gl.2.1,(TG.1,())))]))) (LB x1 (eD++([(gl.1,(gl.2.1,(TG.1,())))])) Ct Fu (W .i64 (Ay+1))) none) (LB x1 eD Ct Fu (W .i64 (Ay+1))))))
def cQ.Pv(N:Nat)(LB:cQ.KO):Nat→cQ.I2
 |0,_,_,_,_,_,_,_,_,_,_=>none
 |n+1,x1,eD,gl,my,Ct,Fu,Ay,Kb,XJ,I3=>cQ.MA N LB (cQ.Pv N LB n) x1 eD gl my Ct Fu Ay Kb XJ I3
def cQ.ade(abh:cQ.I2)(LB:cQ.KO)(x1:cT)(eD Ct:au)(Fu Ay:Int):Option (au×(Int)):=
 cond (aX Ay Fu) (cond (bg Ay (ℓ Ct)) ((Pf N (γ Ct Ay.toNat aZ).2.2.1).bind λET=>abh x1 eD (γ Ct Ay.toNat aZ) ([ET]) Ct Fu Ay x1 (ℓ x1) 0) none) ((alf N eD).bind λr34=>some (r34,0))
def cQ.l26(N:Nat):Nat→cQ.KO
 |0,_,_,_,_,_=>none
 |n+1,x1,eD,Ct,Fu,Ay=>cQ.ade N (cQ.Pv N (cQ.l26 N n) N) (cQ.l26 N n) x1 eD Ct Fu Ay
def cQ.wX(N:Nat)(abi:cQ.I1)(aqV:cQ.KO)(o6:cQ.nM)(x1:cT)(bf:au)(xb:cT)(Ka wM:Int):Option (au×(Int)):=
 cond (aX wM Ka) (cond (bg wM (ℓ xb)) (abi x1 bf (γ xb wM.toNat (0,(0,(c7,())))) 0 xb Ka wM) none) (cond (kU 0 (ℓ bf)) (aqV x1 (List.replicate (0:Int).toNat aZ) bf (ℓ bf) 0) none)
def cQ.yc(N:Nat):Nat→cQ.nM
 |0,_,_,_,_,_=>none
 |n+1,x1,bf,xb,Ka,wM=>cQ.wX N (cQ.WH N (cQ.yc N n) N) (cQ.l26 N N) (cQ.yc N n) x1 bf xb Ka wM
def cQ.dV(I0:cQ.nM)(bS:cQ.bN)(x0:au)(x1:cT)(x6:ky)(x36:cT)(x37 x38:Int):Option (au×(Int)):=
 cond (aX x38 x37) (cond (bg x38 (ℓ x36)) ((F83 N (γ x36 x38.toNat (0,(0,(c7,())))).1 (γ x36 x38.toNat (0,(0,(c7,())))).2.1).bind λr4=>cond (!r4) (some (bo,1)) (cond (small (ℓ x6+ℓ ([(γ x36 x38.toNat (0,(0,(c7,())))).2.2.1]))) (bS x0 x1 (x6++([(γ x36 x38.toNat (0,(0,(c7,())))).2.2.1])) x36 x37 (W .i64 (x38+1))) none)) none) ((AB N x6).bind λr7=>cond (!r7.2) (some (bo,1)) ((F32 N r7.1).bind λr8=>cond (!aM r8 0) (some (bo,1)) ((jv N x0).bind λr9=>I0 x1 r9 x1 (ℓ x1) 0)))
def cQ.l5(N:Nat):Nat→cQ.bN
 |0,_,_,_,_,_,_=>none
 |n+1,x0,x1,x6,x36,x37,x38=>cQ.dV N (cQ.yc N N) (cQ.l5 N n) x0 x1 x6 x36 x37 x38
def cQ.b(fa:cQ.bN)(a0:au)(a1:cT):Option (au×(Int)):=
 (C2 N a0).bind λr1=>cond (!r1) (some (bo,1)) (cond (aX 400 (ℓ a1)) (some (bo,1)) (cond (kU 0 (ℓ a1)) (fa a0 a1 (List.replicate (0:Int).toNat c7) a1 (ℓ a1) 0) none))
def cQ(a0:au)(a1:cT):Option (au×(Int)):=cQ.b N (cQ.l5 N N) a0 a1
def F61(a0:an)(a1:au)(a2:cT):Option (an×(Int)):=
 (F70 N a0).bind λr1=>(cP N a0.2.2.2.1 a1).bind λr2=>cond (!aM r2.2 0) (some ((cn,(cW,(bo,(bo,(di,(du,())))))),r2.2)) ((cQ N a0.2.2.1 a2).bind λr3=>cond (!aM r3.2 0) (some ((cn,(cW,(bo,(bo,(di,(du,())))))),r3.2)) (some ((r1.1,(r1.2.1,(r3.1,(r2.1,r1.2.2.2.2)))),0)))
abbrev ur.iQ:=an→an→au→cT→bE→Int→Int→Option (an×(Int))
abbrev ur.bP:=bE→ae→an→an→bE→Int→Int→Option (an×(Int))
def ur.mN(lC:ur.iQ)(x4 x6:an)(bx:au)(bf:cT)(xb:bE)(Ka wM:Int):Option (an×(Int)):=
 cond (aX wM Ka) (cond (bg wM (ℓ xb)) (let Vo:Int:=W .i64 (0-((γ xb wM.toNat gv).2.2.2.1));cond (small (ℓ bx+ℓ ([((γ xb wM.toNat gv).1,((γ xb wM.toNat gv).2.2.1,((γ xb wM.toNat gv).2.2.2.1,()))),((γ xb wM.toNat gv).2.1,((γ xb wM.toNat gv).2.2.1,(Vo,())))]))) (cond (bg (γ xb wM.toNat gv).2.2.1 (ℓ x4.2.2.2.2.1)) ((F60 N (γ xb wM.toNat gv) (γ x4.2.2.2.2.1 (γ xb wM.toNat gv).2.2.1.toNat 0)).bind λtV=>cond (small (ℓ bf+ℓ tV.1)) (lC x4 x6 (bx++([((γ xb wM.toNat gv).1,((γ xb wM.toNat gv).2.2.1,((γ xb wM.toNat gv).2.2.2.1,()))),((γ xb wM.toNat gv).2.1,((γ xb wM.toNat gv).2.2.1,(Vo,())))])) (bf++tV.1) xb Ka (W .i64 (wM+1))) none) none) none) none) ((F61 N x4 bx bf).bind λw1=>some (w1.1,w1.2))
def ur.nJ(N:Nat):Nat→ur.iQ
 |0,_,_,_,_,_,_,_=>none
 |n+1,x4,x6,bx,bf,xb,Ka,wM=>ur.mN N (ur.nJ N n) x4 x6 bx bf xb Ka wM
def ur.dM(vk:ur.iQ)(cJ:ur.bP)(x2:bE)(x3:ae)(x4 x6:an)(AG:bE)(LA DG:Int):Option (an×(Int)):=
 cond (aX DG LA) (cond (bg DG (ℓ AG)) (cond (!aM (γ AG DG.toNat gv).1 0) ((F36 N x4 (γ AG DG.toNat gv).1).bind λr4=>cond (!r4) (some ((cn,(cW,(bo,(bo,(di,(du,())))))),3)) (cond (!aM (γ AG DG.toNat gv).2.1 0) ((F36 N x4 (γ AG DG.toNat gv).2.1).bind λr5=>cond (!r5) (some ((cn,(cW,(bo,(bo,(di,(du,())))))),3)) (cond (dy (ℓ x3.1) (γ AG DG.toNat gv).2.2.1) (some ((cn,(cW,(bo,(bo,(di,(du,())))))),3)) (cJ x2 x3 x4 x6 AG LA (W .i64 (DG+1))))) (cond (dy (ℓ x3.1) (γ AG DG.toNat gv).2.2.1) (some ((cn,(cW,(bo,(bo,(di,(du,())))))),3)) (cJ x2 x3 x4 x6 AG LA (W .i64 (DG+1)))))) (cond (!aM (γ AG DG.toNat gv).2.1 0) ((F36 N x4 (γ AG DG.toNat gv).2.1).bind λr8=>cond (!r8) (some ((cn,(cW,(bo,(bo,(di,(du,())))))),3)) (cond (dy (ℓ x3.1) (γ AG DG.toNat gv).2.2.1) (some ((cn,(cW,(bo,(bo,(di,(du,())))))),3)) (cJ x2 x3 x4 x6 AG LA (W .i64 (DG+1))))) (cond (dy (ℓ x3.1) (γ AG DG.toNat gv).2.2.1) (some ((cn,(cW,(bo,(bo,(di,(du,())))))),3)) (cJ x2 x3 x4 x6 AG LA (W .i64 (DG+1)))))) none) (vk x4 x6 ([]) ([]) x2 (ℓ x2) 0)
def ur.l4(N:Nat):Nat→ur.bP
 |0,_,_,_,_,_,_,_=>none
 |n+1,x2,x3,x4,x6,AG,LA,DG=>ur.dM N (ur.nJ N N) (ur.l4 N n) x2 x3 x4 x6 AG LA DG
def ur.b(e8:ur.bP)(a0:ae)(a1:an)(a2:bE):Option (an×(Int)):=
 (F9 N a0 a1).bind λr1=>cond (!r1) (some ((cn,(cW,(bo,(bo,(di,(du,())))))),1)) (cond (aX 200 (ℓ a2)) (some ((cn,(cW,(bo,(bo,(di,(du,())))))),1)) ((F57 N a2 ()).bind λr2=>cond (r2) (some ((cn,(cW,(bo,(bo,(di,(du,())))))),1)) (e8 a2 a0 a1 (cn,(cW,(bo,(bo,(di,(du,())))))) a2 (ℓ a2) 0)))
def ur(a0:ae)(a1:an)(a2:bE):Option (an×(Int)):=ur.b N (ur.l4 N N) a0 a1 a2
abbrev EL.bN:=Int→Int→Int→cT→au→Int→Int→Option (cT×(Int))
def EL.dV(bS:EL.bN)(x1 x2 x3:Int)(bx:cT)(QK:au)(x27 x28:Int):Option (cT×(Int)):=
 cond (aX x28 x27) (cond (bg x28 (ℓ QK)) (cond (aM (γ QK x28.toNat aZ).2.1 x1) (cond (!aM x3 x2) ((Wl N (γ QK x28.toNat aZ).2.2.1 (W .i64 (x3-x2))).bind λr6=>(WQ N (γ QK x28.toNat aZ).1 r6).bind λr7=>cond (small (ℓ bx+ℓ ([r7]))) (bS x1 x2 x3 (bx++([r7])) QK x27 (W .i64 (x28+1))) none) (bS x1 x2 x3 bx QK x27 (W .i64 (x28+1)))) (bS x1 x2 x3 bx QK x27 (W .i64 (x28+1)))) none) (some (bx,0))
def EL.l5(N:Nat):Nat→EL.bN
 |0,_,_,_,_,_,_,_=>none
 |n+1,x1,x2,x3,bx,QK,x27,x28=>EL.dV N (EL.l5 N n) x1 x2 x3 bx QK x27 x28
def EL.b(fa:EL.bN)(a0:au)(a1 a2 a3:Int):Option (cT×(Int)):=
 (BR N a0).bind λr1=>cond (!r1) (some ([],1)) ((F40 N a2).bind λr2=>cond (!r2) (some ([],1)) ((F40 N a3).bind λr3=>cond (!r3) (some ([],1)) (fa a1 a2 a3 ([]) a0 (ℓ a0) 0)))
def EL(a0:au)(a1 a2 a3:Int):Option (cT×(Int)):=EL.b N (EL.l5 N N) a0 a1 a2 a3
def aqW(a0:an):Option an:=
 (jv N a0.1).bind λr1=>(jv N a0.2.1).bind λr2=>(jv N a0.2.2.1).bind λr3=>(jv N a0.2.2.2.1).bind λr4=>(jv N a0.2.2.2.2.1).bind λr5=>(jv N a0.2.2.2.2.2.1).bind λr6=>some (r1,(r2,(r3,(r4,(r5,(r6,()))))))
def alG(a0:an)(a1:au)(a2:cT):Option (an×(Int)):=
 (aqW N a0).bind λr1=>(cP N a0.2.2.2.1 a1).bind λr2=>cond (!aM r2.2 0) (some ((cn,(cW,(bo,(bo,(di,(du,())))))),r2.2)) ((cQ N a0.2.2.1 a2).bind λr3=>cond (!aM r3.2 0) (some ((cn,(cW,(bo,(bo,(di,(du,())))))),r3.2)) (some ((r1.1,(r1.2.1,(r3.1,(r2.1,(r1.2.2.2.2.1,r1.2.2.2.2.2))))),0)))
def F17(a0:ae)(a1:an)(a2 a3:Int):Option (an×cT×(Int)):=
 (F9 N a0 a1).bind λr1=>cond (!r1) (some ((cn,(cW,(bo,(bo,(di,(du,())))))),([]:List ((Int)×((Int)×(((Int)×((Int)×(Unit)))×(Unit))))),1)) ((F40 N a3).bind λr2=>cond (!r2) (some ((cn,(cW,(bo,(bo,(di,(du,())))))),([]:List ((Int)×((Int)×(((Int)×((Int)×(Unit)))×(Unit))))),1)) (cond (aX a2 0) (some ((cn,(cW,(bo,(bo,(di,(du,())))))),([]:List ((Int)×((Int)×(((Int)×((Int)×(Unit)))×(Unit))))),3)) (cond (dy (ℓ a0.1) a2) (some ((cn,(cW,(bo,(bo,(di,(du,())))))),([]:List ((Int)×((Int)×(((Int)×((Int)×(Unit)))×(Unit))))),3)) (cond (bg a2 (ℓ a1.2.2.2.2.1)) ((EL N a1.2.2.2.1 a2 (γ a1.2.2.2.2.1 a2.toNat 0) a3).bind λr3=>(alG N a1 bo r3.1).bind λr4=>cond (!aM r4.2 0) (some ((cn,(cW,(bo,(bo,(di,(du,())))))),([]:List ((Int)×((Int)×(((Int)×((Int)×(Unit)))×(Unit))))),r4.2)) (cond (bg a2 (ℓ r4.1.2.2.2.2.1)) (some ((r4.1.1,(r4.1.2.1,(r4.1.2.2.1,(r4.1.2.2.2.1,((List.set r4.1.2.2.2.2.1 a2.toNat a3),r4.1.2.2.2.2.2))))),r3.1,0)) none)) none))))
abbrev Es.bN:=Int→aE→au→Int→Int→Option aE
def Es.dV(N:Nat)(bS:Es.bN)(x1:Int)(x5:aE)(bf:au)(bq cq:Int):Option aE:=
 cond (aX cq bq) (cond (bg cq (ℓ bf)) (cond (aM (γ bf cq.toNat aZ).1 x1) (cond (small (ℓ x5+ℓ ([((γ bf cq.toNat aZ).2.1,((γ bf cq.toNat aZ).2.2.1,()))]))) (bS x1 (x5++([((γ bf cq.toNat aZ).2.1,((γ bf cq.toNat aZ).2.2.1,()))])) bf bq (W .i64 (cq+1))) none) (bS x1 x5 bf bq (W .i64 (cq+1)))) none) (some x5)
def Es.l5(N:Nat):Nat→Es.bN
 |0,_,_,_,_,_=>none
 |n+1,x1,x5,bf,bq,cq=>Es.dV N (Es.l5 N n) x1 x5 bf bq cq
def Es.b(fa:Es.bN)(a0:au)(a1:Int):Option aE:=
 (BR N a0).bind λr1=>cond (!r1) (some ([])) (fa a1 ([]) a0 (ℓ a0) 0)
def Es(a0:au)(a1:Int):Option aE:=Es.b N (Es.l5 N N) a0 a1
abbrev rK.lD:=aY→Int→au→Int→dg→Int→aY→Int→Int→Option au
abbrev rK.bN:=aY→Int→au→Int→Option au
def rK.uX(N:Nat)(bS:rK.bN)(oW:rK.lD)(x0:aY)(x1:Int)(x5:au)(x6:Int)(x7:dg)(cq:Int)(my:aY)(nV AH:Int):Option au:=
 cond (aX AH nV) (cond (bg AH (ℓ my)) (cond (!aM (γ my AH.toNat dT).2.1 x1) (oW x0 x1 x5 x6 x7 cq my nV (W .i64 (AH+1))) (cond (!aM (γ my AH.toNat dT).2.2.1 x6) (oW x0 x1 x5 x6 x7 cq my nV (W .i64 (AH+1))) (cond (aM (γ my AH.toNat dT).2.2.2.1 1) (oW x0 x1 x5 x6 (x7.1,((W .i64 (x7.2.1+((γ my AH.toNat dT).2.2.2.2.1))),x7.2.2)) cq my nV (W .i64 (AH+1))) (oW x0 x1 x5 x6 (x7.1,(x7.2.1,((W .i64 (x7.2.2.1+((γ my AH.toNat dT).2.2.2.2.1))),x7.2.2.2))) cq my nV (W .i64 (AH+1)))))) none) (cond (aX 0 (W .i64 (x7.2.1+x7.2.2.1))) (cond (small (ℓ x5+ℓ ([x7]))) (bS x0 x1 (x5++([x7])) (W .i64 (cq+1))) none) (bS x0 x1 x5 (W .i64 (cq+1))))
def rK.l9(N:Nat)(bS:rK.bN):Nat→rK.lD
 |0,_,_,_,_,_,_,_,_,_=>none
 |n+1,x0,x1,x5,x6,x7,cq,my,nV,AH=>rK.uX N bS (rK.l9 N bS n) x0 x1 x5 x6 x7 cq my nV AH
def rK.dV(N:Nat)(yz:rK.lD)(bS:rK.bN)(x0:aY)(x1:Int)(x5:au)(cq:Int):Option au:=
 cond (aX cq 6) (yz x0 x1 x5 cq (cq,c7) cq x0 (ℓ x0) 0) (some x5)
def rK.l5(N:Nat):Nat→rK.bN
 |0,_,_,_,_=>none
 |n+1,x0,x1,x5,cq=>rK.dV N (rK.l9 N (rK.l5 N n) N) (rK.l5 N n) x0 x1 x5 cq
def rK.b(fa:rK.bN)(a0:aY)(a1:Int):Option au:=
 (C9 N a0).bind λr1=>cond (!r1) (some ([])) (fa a0 a1 ([]) 0)
def rK(a0:aY)(a1:Int):Option au:=rK.b N (rK.l5 N N) a0 a1
abbrev qb.c0:=aE→ae→aE→Int→Int→Option Bool
def qb.fN(dW:qb.c0)(x1:aE)(x2:ae)(x7:aE)(x8 x9:Int):Option Bool:=
 cond (aX x9 x8) (cond (bg x9 (ℓ x7)) (cond (aX (γ x7 x9.toNat c7).1 0) (some false) (cond (dy (ℓ x2.1) (γ x7 x9.toNat c7).1) (some false) (cond (aM (γ x7 x9.toNat c7).2.1 0) (some false) ((SE N (γ x7 x9.toNat c7).2.1).bind λr2=>cond (!r2) (some false) (cond (aX 0 x9) (let v3:Int:=W .i64 (x9-1);cond (bg v3 (ℓ x1)) (cond (dy (γ x7 x9.toNat c7).1 (γ x1 v3.toNat c7).1) (some false) (dW x1 x2 x7 x8 (W .i64 (x9+1)))) none) (dW x1 x2 x7 x8 (W .i64 (x9+1)))))))) none) ((CA N x2).bind λr6=>some r6)
def qb.l2(N:Nat):Nat→qb.c0
 |0,_,_,_,_,_=>none
 |n+1,x1,x2,x7,x8,x9=>qb.fN N (qb.l2 N n) x1 x2 x7 x8 x9
def qb.b(N:Nat)(gX:qb.c0)(a0:ae)(a1:aE):Option Bool:=
 gX a1 a0 a1 (ℓ a1) 0
def qb(a0:ae)(a1:aE):Option Bool:=qb.b N (qb.l2 N N) a0 a1
abbrev ql.c0:=au→ae→au→Int→Int→Option Bool
def ql.fN(dW:ql.c0)(x1:au)(x2:ae)(x7:au)(x8 x9:Int):Option Bool:=
 cond (aX x9 x8) (cond (bg x9 (ℓ x7)) (cond (aX (γ x7 x9.toNat aZ).1 0) (some false) (cond (dy (ℓ x2.1) (γ x7 x9.toNat aZ).1) (some false) (cond (aX (γ x7 x9.toNat aZ).2.1 0) (some false) (cond (aX 33000000000 (γ x7 x9.toNat aZ).2.1) (some false) (cond (aX (γ x7 x9.toNat aZ).2.2.1 0) (some false) (cond (aX 33000000000 (γ x7 x9.toNat aZ).2.2.1) (some false) (cond (aM (γ x7 x9.toNat aZ).2.1 0) (cond (aM (γ x7 x9.toNat aZ).2.2.1 0) (some false) (cond (aX 0 x9) (let v2:Int:=W .i64 (x9-1);cond (bg v2 (ℓ x1)) (cond (dy (γ x7 x9.toNat aZ).1 (γ x1 v2.toNat aZ).1) (some false) (dW x1 x2 x7 x8 (W .i64 (x9+1)))) none) (dW x1 x2 x7 x8 (W .i64 (x9+1))))) (cond (aX 0 x9) (let v5:Int:=W .i64 (x9-1);cond (bg v5 (ℓ x1)) (cond (dy (γ x7 x9.toNat aZ).1 (γ x1 v5.toNat aZ).1) (some false) (dW x1 x2 x7 x8 (W .i64 (x9+1)))) none) (dW x1 x2 x7 x8 (W .i64 (x9+1))))))))))) none) ((CA N x2).bind λr8=>some r8)
def ql.l2(N:Nat):Nat→ql.c0
 |0,_,_,_,_,_=>none
 |n+1,x1,x2,x7,x8,x9=>ql.fN N (ql.l2 N n) x1 x2 x7 x8 x9
def ql.b(N:Nat)(gX:ql.c0)(a0:ae)(a1:au):Option Bool:=
 gX a1 a0 a1 (ℓ a1) 0
def ql(a0:ae)(a1:au):Option Bool:=ql.b N (ql.l2 N N) a0 a1
def ZV(a0 a1:bY):Option (bY×(Bool)):=
 (uO N a0.2.1 a1.2.1 0).bind λr1=>(uO N (W .u64 a0.1) (W .u64 a1.1) r1.2).bind λr4=>let v5:Int:=W .i64 r4.1;cond (oX .bool (aX a0.1 0) (aX a1.1 0)) (cond (!(oX .bool (aX v5 0) (aX a0.1 0))) (some (c7,false)) (some ((v5,(r1.1,())),true))) (some ((v5,(r1.1,())),true))
def Ta(a0 a1:bY):Option (bY×(Bool)):=
 (tA N a0.2.1 a1.2.1 0).bind λr1=>(tA N (W .u64 a0.1) (W .u64 a1.1) r1.2).bind λr4=>let v5:Int:=W .i64 r4.1;cond (!(oX .bool (aX a0.1 0) (aX a1.1 0))) (cond (!(oX .bool (aX v5 0) (aX a0.1 0))) (some (c7,false)) (some ((v5,(r1.1,())),true))) (some ((v5,(r1.1,())),true))
def ado(a0:bY):Option (bY×(Bool)):=
 (Ta N c7 a0).bind λr1=>some (r1.1,r1.2)
def Tb(a0:bY):Option (bY×(Bool)):=
 cond (aX a0.1 0) ((ado N a0).bind λr1=>some (r1.1,r1.2)) (some (a0,true))
abbrev iY.fT:=Int→bY→Int→Int→Int→au→Int→Int→Option (bY×(Int))
abbrev iY.fg:=au→Int→bY→Int→Int→Int→aE→Int→Int→Option (bY×(Int))
def iY.lq(gR:iY.fT)(x3:Int)(x8:bY)(bx bf bq:Int)(Jt:au)(XH Gf:Int):Option (bY×(Int)):=
 cond (aX Gf XH) (cond (bg Gf (ℓ Jt)) (cond (aM (γ Jt Gf.toNat aZ).1 x3) (gR x3 x8 bx (γ Jt Gf.toNat aZ).2.1 (γ Jt Gf.toNat aZ).2.2.1 Jt XH (W .i64 (Gf+1))) (gR x3 x8 bx bf bq Jt XH (W .i64 (Gf+1)))) none) ((Pf N bx).bind λr9=>(Pf N bf).bind λme=>(ZV N r9 me).bind λoI=>(Pf N bx).bind λnZ=>(Pf N bq).bind λn0=>(Ta N nZ n0).bind λtV=>(Tb N oI.1).bind λuu=>(Tb N tV.1).bind λwz=>(F85 N uu.1 wz.1).bind λw1=>cond (aX w1 0) (some (wz.1,0)) (some (uu.1,0)))
def iY.mw(N:Nat):Nat→iY.fT
 |0,_,_,_,_,_,_,_,_=>none
 |n+1,x3,x8,bx,bf,bq,Jt,XH,Gf=>iY.lq N (iY.mw N n) x3 x8 bx bf bq Jt XH Gf
def iY.nR(N:Nat)(s9:iY.fT)(e7:iY.fg)(x2:au)(x3:Int)(x8:bY)(bx bf bq:Int)(x44:aE)(x45 x46:Int):Option (bY×(Int)):=
 cond (aX x46 x45) (cond (bg x46 (ℓ x44)) (cond (aM (γ x44 x46.toNat c7).1 x3) (e7 x2 x3 x8 (γ x44 x46.toNat c7).2.1 bf bq x44 x45 (W .i64 (x46+1))) (e7 x2 x3 x8 bx bf bq x44 x45 (W .i64 (x46+1)))) none) (s9 x3 x8 bx bf bq x2 (ℓ x2) 0)
def iY.l7(N:Nat):Nat→iY.fg
 |0,_,_,_,_,_,_,_,_,_=>none
 |n+1,x2,x3,x8,bx,bf,bq,x44,x45,x46=>iY.nR N (iY.mw N N) (iY.l7 N n) x2 x3 x8 bx bf bq x44 x45 x46
def iY.b(s7:iY.fg)(a0:ae)(a1:aE)(a2:au)(a3:Int):Option (bY×(Int)):=
 (qb N a0 a1).bind λr1=>cond (!r1) (some (c7,1)) ((ql N a0 a2).bind λr2=>cond (!r2) (some (c7,1)) (cond (aX a3 0) (some (c7,3)) (cond (dy (ℓ a0.1) a3) (some (c7,3)) (s7 a2 a3 c7 0 0 0 a1 (ℓ a1) 0))))
def iY(a0:ae)(a1:aE)(a2:au)(a3:Int):Option (bY×(Int)):=iY.b N (iY.l7 N N) a0 a1 a2 a3
def acS(a0:bY):Option ((Int)×(Int)):=
 cond (dy 0 a0.1) (some ((W .u64 a0.1),a0.2.1)) ((tA N 0 a0.2.1 0).bind λr2=>(tA N 0 (W .u64 a0.1) r2.2).bind λr4=>some (r4.1,r2.1))
def adq(a0:bY)(a1:Int):Option (bY×(Bool)):=
 (acS N a0).bind λr1=>(Wh N a1).bind λr2=>(Wg N r1.2 r2).bind λr3=>(Wg N r1.1 r2).bind λr4=>(uO N r4.2 r3.1 0).bind λr5=>cond (!aM (W .u64 (r4.1+r5.2)) 0) (some (c7,false)) ((rf N (!(oX .bool (aX a0.1 0) (aX a1 0))) r5.1 r3.2).bind λr7=>some (r7.1,r7.2))
abbrev It.bN:=aE→au→ae→bY→ky→aN→Int→Int→Option (bY×(Int))
def It.dV(bS:It.bN)(x1:aE)(x2:au)(x3:ae)(x6:bY)(x8:ky)(x29:aN)(AG LA:Int):Option (bY×(Int)):=
 cond (aX LA AG) (cond (bg LA (ℓ x29)) ((iY N x3 x1 x2 LA).bind λr4=>(adq N r4.1 (γ x29 LA.toNat bb).2.2.1).bind λr5=>cond (small (ℓ x8+ℓ ([r5.1]))) (bS x1 x2 x3 x6 (x8++([r5.1])) x29 AG (W .i64 (LA+1))) none) none) ((AB N x8).bind λr8=>some (r8.1,0))
def It.l5(N:Nat):Nat→It.bN
 |0,_,_,_,_,_,_,_,_=>none
 |n+1,x1,x2,x3,x6,x8,x29,AG,LA=>It.dV N (It.l5 N n) x1 x2 x3 x6 x8 x29 AG LA
def It.b(fa:It.bN)(a0:ae)(a1:aE)(a2:au):Option (bY×(Int)):=
 (qb N a0 a1).bind λr1=>cond (!r1) (some (c7,1)) ((ql N a0 a2).bind λr2=>cond (!r2) (some (c7,1)) (fa a1 a2 a0 c7 ([]) a0.1 (ℓ a0.1) 0))
def It(a0:ae)(a1:aE)(a2:au):Option (bY×(Int)):=It.b N (It.l5 N N) a0 a1 a2
def F18(a0:ae)(a1:an)(a2:Int):Option (bY×(Int)):=
 (F9 N a0 a1).bind λr1=>cond (!r1) (some (c7,1)) ((F36 N a1 a2).bind λr2=>cond (!r2) (some (c7,3)) ((Es N a1.2.2.2.1 a2).bind λr3=>(rK N a1.2.2.2.2.2.1 a2).bind λr4=>(It N a0 r3 r4).bind λr5=>some (r5.1,r5.2)))
abbrev EN.bN:=Int→(List Int)→aN→Int→Int→Option (List Int)
def EN.dV(N:Nat)(bS:EN.bN)(x1:Int)(x5:List Int)(bf:aN)(bq cq:Int):Option (List Int):=
 cond (aX cq bq) (cond (bg cq (ℓ bf)) (cond (aM (γ bf cq.toNat bb).2.1 x1) (cond (small (ℓ x5+ℓ ([(γ bf cq.toNat bb).1]))) (bS x1 (x5++([(γ bf cq.toNat bb).1])) bf bq (W .i64 (cq+1))) none) (bS x1 x5 bf bq (W .i64 (cq+1)))) none) (some x5)
def EN.l5(N:Nat):Nat→EN.bN
 |0,_,_,_,_,_=>none
 |n+1,x1,x5,bf,bq,cq=>EN.dV N (EN.l5 N n) x1 x5 bf bq cq
def EN.b(fa:EN.bN)(a0:aN)(a1:Int):Option (List Int):=
 (Aj N a0).bind λr1=>cond (!r1) (some ([])) (fa a1 ([]) a0 (ℓ a0) 0)
def EN(a0:aN)(a1:Int):Option (List Int):=EN.b N (EN.l5 N N) a0 a1
abbrev sY.c0:=(List Int)→Int→Int→Int→Option Int
def sY.fN(N:Nat)(dW:sY.c0)(x0:List Int)(x1 x7 x8:Int):Option Int:=
 cond (aX x8 x7) (cond (bg x8 (ℓ x0)) (cond (aM x1 (γ x0 x8.toNat 0)) (some x8) (dW x0 x1 x7 (W .i64 (x8+1)))) none) (some (-1))
def sY.l2(N:Nat):Nat→sY.c0
 |0,_,_,_,_=>none
 |n+1,x0,x1,x7,x8=>sY.fN N (sY.l2 N n) x0 x1 x7 x8
def sY.b(N:Nat)(gX:sY.c0)(a0:List Int)(a1:Int):Option Int:=
 gX a0 a1 (ℓ a0) 0
def sY(a0:List Int)(a1:Int):Option Int:=sY.b N (sY.l2 N N) a0 a1
def ad3(a0:List Int)(a1:Int):Option Bool:=
 (sY N a0 a1).bind λr1=>some (dy 0 r1)
def aaT(a0:gb)(a1:List Int):Option Bool:=
 (ad3 N a1 a0.2.1).bind λr1=>some r1
abbrev qO.c0:=aY→(((List Int)×(Unit))×(Unit))→Int→Int→Option Int
def qO.fN(dW:qO.c0)(x0:aY)(x1:((List Int)×(Unit))×(Unit))(x7 x8:Int):Option Int:=
 cond (aX x8 x7) (cond (bg x8 (ℓ x0)) ((aaT N (γ x0 x8.toNat dT) x1.1.1).bind λr2=>cond (r2) (some x8) (dW x0 ((x1.1.1,()),()) x7 (W .i64 (x8+1)))) none) (some (-1))
def qO.l2(N:Nat):Nat→qO.c0
 |0,_,_,_,_=>none
 |n+1,x0,x1,x7,x8=>qO.fN N (qO.l2 N n) x0 x1 x7 x8
def qO.b(N:Nat)(gX:qO.c0)(a0:aY)(a1:((List Int)×(Unit))×(Unit)):Option Int:=
 gX a0 ((a1.1.1,()),()) (ℓ a0) 0
def qO(a0:aY)(a1:((List Int)×(Unit))×(Unit)):Option Int:=qO.b N (qO.l2 N N) a0 a1
abbrev s0.bN:=aY→(((List Int)×(Unit))×(Unit))→Int→Int→Option aY
def s0.dV(bS:s0.bN)(x0:aY)(x1:((List Int)×(Unit))×(Unit))(x5 x6:Int):Option aY:=
 cond (aX x6 (ℓ x0)) (cond (bg x6 (ℓ x0)) ((aaT N (γ x0 x6.toNat dT) x1.1.1).bind λr4=>cond (!r4) (cond (bg x5 (ℓ x0)) (bS (List.set x0 x5.toNat (γ x0 x6.toNat dT)) ((x1.1.1,()),()) (W .i64 (x5+1)) (W .i64 (x6+1))) none) (bS x0 ((x1.1.1,()),()) x5 (W .i64 (x6+1)))) none) (cond (jc x5 (ℓ x0) (ℓ x0) (ℓ x0)) (let v9:List ((Int)×((Int)×((Int)×((Int)×((Int)×((Int)×(Unit))))))):=List.take x5.toNat x0++List.replicate (ℓ x0-x5.toNat) dT;cond (jc 0 x5 (ℓ v9) (ℓ v9)) (some (List.drop (0:Int).toNat (List.take x5.toNat v9))) none) none)
def s0.l5(N:Nat):Nat→s0.bN
 |0,_,_,_,_=>none
 |n+1,x0,x1,x5,x6=>s0.dV N (s0.l5 N n) x0 x1 x5 x6
def s0.b(fa:s0.bN)(a0:aY)(a1:((List Int)×(Unit))×(Unit)):Option aY:=
 (qO N a0 ((a1.1.1,()),())).bind λr1=>cond (aM r1 (-1)) (some a0) (fa a0 ((a1.1.1,()),()) r1 (W .i64 (r1+1)))
def s0(a0:aY)(a1:((List Int)×(Unit))×(Unit)):Option aY:=s0.b N (s0.l5 N N) a0 a1
def F71(a0:aY)(a1:List Int):Option aY:=
 (C9 N a0).bind λr1=>cond (!r1) (some du) ((jv N a0).bind λr2=>(s0 N r2 ((a1,()),())).bind λr3=>some r3)
def F19(a0:ae)(a1:an)(a2:Int):Option (an×(Int)):=
 (F9 N a0 a1).bind λr1=>cond (!r1) (some ((cn,(cW,(bo,(bo,(di,(du,())))))),1)) ((BU N a1.1 a2).bind λr2=>cond (aM r2 0) (some ((cn,(cW,(bo,(bo,(di,(du,())))))),3)) ((F70 N a1).bind λr3=>(EN N a1.2.1 a2).bind λr4=>(F71 N a1.2.2.2.2.2.1 r4).bind λr5=>some ((r3.1,(r3.2.1,(r3.2.2.1,(r3.2.2.2.1,(r3.2.2.2.2.1,(r5,r3.2.2.2.2.2.2)))))),0)))
abbrev Di.bP:=au→au→Int→Option Bool
def Di.dM(N:Nat)(cJ:Di.bP)(x0 x1:au)(x5:Int):Option Bool:=
 cond (aX x5 (ℓ x0)) (cond (bg x5 (ℓ x0)) (cond (bg x5 (ℓ x1)) (cond (!(oX (.pair (.int .i64) (.pair (.int .i64) (.pair (.int .i64) .unit))) (γ x0 x5.toNat aZ) (γ x1 x5.toNat aZ))) (some false) (cJ x0 x1 (W .i64 (x5+1)))) none) none) (some true)
def Di.l4(N:Nat):Nat→Di.bP
 |0,_,_,_=>none
 |n+1,x0,x1,x5=>Di.dM N (Di.l4 N n) x0 x1 x5
def Di.b(N:Nat)(e8:Di.bP)(a0 a1:au):Option Bool:=
 cond (!aM (ℓ a0) (ℓ a1)) (some false) (e8 a0 a1 0)
def Di(a0 a1:au):Option Bool:=Di.b N (Di.l4 N N) a0 a1
abbrev Dj.bP:=(List Int)→(List Int)→Int→Option Bool
def Dj.dM(N:Nat)(cJ:Dj.bP)(x0 x1:List Int)(x5:Int):Option Bool:=
 cond (aX x5 (ℓ x0)) (cond (bg x5 (ℓ x0)) (cond (bg x5 (ℓ x1)) (cond (!aM (γ x0 x5.toNat 0) (γ x1 x5.toNat 0)) (some false) (cJ x0 x1 (W .i64 (x5+1)))) none) none) (some true)
def Dj.l4(N:Nat):Nat→Dj.bP
 |0,_,_,_=>none
 |n+1,x0,x1,x5=>Dj.dM N (Dj.l4 N n) x0 x1 x5
def Dj.b(N:Nat)(e8:Dj.bP)(a0 a1:List Int):Option Bool:=
 cond (!aM (ℓ a0) (ℓ a1)) (some false) (e8 a0 a1 0)
def Dj(a0 a1:List Int):Option Bool:=Dj.b N (Dj.l4 N N) a0 a1
abbrev AD.c0:=au→Int→Option Bool
def AD.fN(N:Nat)(dW:AD.c0)(x0:au)(x3:Int):Option Bool:=
 cond (aX x3 (ℓ x0)) (cond (bg x3 (ℓ x0)) (cond (aX (γ x0 x3.toNat aZ).1 0) (some false) (cond (aX 24 (γ x0 x3.toNat aZ).1) (some false) (cond (aX (γ x0 x3.toNat aZ).2.1 0) (some false) (cond (dy 6 (γ x0 x3.toNat aZ).2.1) (some false) (cond (aM (γ x0 x3.toNat aZ).2.2.1 0) (some false) (cond (aM (γ x0 x3.toNat aZ).2.2.1 (-9223372036854775808)) (some false) (cond (aX 0 x3) (let v2:Int:=W .i64 (x3-1);cond (bg v2 (ℓ x0)) (cond (aX (γ x0 x3.toNat aZ).1 (γ x0 v2.toNat aZ).1) (some false) (let v3:Int:=W .i64 (x3-1);cond (bg v3 (ℓ x0)) (cond (aM (γ x0 x3.toNat aZ).1 (γ x0 v3.toNat aZ).1) (let v4:Int:=W .i64 (x3-1);cond (bg v4 (ℓ x0)) (cond (dy (γ x0 x3.toNat aZ).2.1 (γ x0 v4.toNat aZ).2.1) (some false) (dW x0 (W .i64 (x3+1)))) none) (dW x0 (W .i64 (x3+1)))) none)) none) (dW x0 (W .i64 (x3+1)))))))))) none) (some true)
def AD.l2(N:Nat):Nat→AD.c0
 |0,_,_=>none
 |n+1,x0,x3=>AD.fN N (AD.l2 N n) x0 x3
def AD.b(N:Nat)(gX:AD.c0)(a0:au):Option Bool:=
 gX a0 0
def AD(a0:au):Option Bool:=AD.b N (AD.l2 N N) a0
abbrev CC.bP:=au→Int→Int→Int→Option Int
def CC.dM(N:Nat)(cJ:CC.bP)(x0:au)(x1 x2 x7:Int):Option Int:=
 cond (aX x7 (ℓ x0)) (cond (bg x7 (ℓ x0)) (cond (aM (γ x0 x7.toNat aZ).1 x1) (cond (bg x7 (ℓ x0)) (cond (aM (γ x0 x7.toNat aZ).2.1 x2) (cond (bg x7 (ℓ x0)) (some (γ x0 x7.toNat aZ).2.2.1) none) (cJ x0 x1 x2 (W .i64 (x7+1)))) none) (cJ x0 x1 x2 (W .i64 (x7+1)))) none) (some 0)
def CC.l4(N:Nat):Nat→CC.bP
 |0,_,_,_,_=>none
 |n+1,x0,x1,x2,x7=>CC.dM N (CC.l4 N n) x0 x1 x2 x7
def CC.b(e8:CC.bP)(a0:au)(a1 a2:Int):Option Int:=
 (AD N a0).bind λr1=>cond (!r1) (some 0) (e8 a0 a1 a2 0)
def CC(a0:au)(a1 a2:Int):Option Int:=CC.b N (CC.l4 N N) a0 a1 a2
def F97(N:Nat)(a0 a1:Int):Option Bool:=
 cond (aM a0 1) (some (aM a1 0)) (cond (aM a0 2) (some (aM a1 0)) (cond (aM a0 3) (some (aM a1 0)) (cond (aM a0 4) (some (aM a1 0)) (cond (aM a0 5) (cond (dy 1 a1) (some (dy a1 24)) (some false)) (cond (aM a0 6) (cond (dy 1 a1) (some (dy a1 12)) (some false)) (cond (aM a0 7) (cond (dy 1 a1) (some (dy a1 12)) (some false)) (some false)))))))
abbrev C3.c0:=au→Int→Option Bool
def C3.fN(dW:C3.c0)(x0:au)(x3:Int):Option Bool:=
 cond (aX x3 (ℓ x0)) (cond (bg x3 (ℓ x0)) (cond (bg x3 (ℓ x0)) ((F97 N (γ x0 x3.toNat aZ).1 (γ x0 x3.toNat aZ).2.1).bind λr2=>cond (!r2) (some false) (cond (bg x3 (ℓ x0)) (cond (aM (γ x0 x3.toNat aZ).2.2.1 0) (some false) (cond (aX 0 x3) (cond (bg x3 (ℓ x0)) (let v3:Int:=W .i64 (x3-1);cond (bg v3 (ℓ x0)) (cond (aX (γ x0 x3.toNat aZ).1 (γ x0 v3.toNat aZ).1) (some false) (cond (bg x3 (ℓ x0)) (let v4:Int:=W .i64 (x3-1);cond (bg v4 (ℓ x0)) (cond (aM (γ x0 x3.toNat aZ).1 (γ x0 v4.toNat aZ).1) (cond (bg x3 (ℓ x0)) (let v5:Int:=W .i64 (x3-1);cond (bg v5 (ℓ x0)) (cond (dy (γ x0 x3.toNat aZ).2.1 (γ x0 v5.toNat aZ).2.1) (some false) (dW x0 (W .i64 (x3+1)))) none) none) (dW x0 (W .i64 (x3+1)))) none) none)) none) none) (dW x0 (W .i64 (x3+1))))) none)) none) none) (some true)
def C3.l2(N:Nat):Nat→C3.c0
 |0,_,_=>none
 |n+1,x0,x3=>C3.fN N (C3.l2 N n) x0 x3
def C3.b(N:Nat)(gX:C3.c0)(a0:au):Option Bool:=
 gX a0 0
def C3(a0:au):Option Bool:=C3.b N (C3.l2 N N) a0
abbrev vn.bP:=au→Int→Int→Int→Option Int
def vn.dM(N:Nat)(cJ:vn.bP)(x0:au)(x1 x2 x7:Int):Option Int:=
 cond (aX x7 (ℓ x0)) (cond (bg x7 (ℓ x0)) (cond (aM (γ x0 x7.toNat aZ).1 x1) (cond (bg x7 (ℓ x0)) (cond (aM (γ x0 x7.toNat aZ).2.1 x2) (cond (bg x7 (ℓ x0)) (some (γ x0 x7.toNat aZ).2.2.1) none) (cJ x0 x1 x2 (W .i64 (x7+1)))) none) (cJ x0 x1 x2 (W .i64 (x7+1)))) none) (some 0)
def vn.l4(N:Nat):Nat→vn.bP
 |0,_,_,_,_=>none
 |n+1,x0,x1,x2,x7=>vn.dM N (vn.l4 N n) x0 x1 x2 x7
def vn.b(e8:vn.bP)(a0:au)(a1 a2:Int):Option Int:=
 (C3 N a0).bind λr1=>cond (!r1) (some 0) (e8 a0 a1 a2 0)
def vn(a0:au)(a1 a2:Int):Option Int:=vn.b N (vn.l4 N N) a0 a1 a2
def F5:Option Bool:=
 (F15 N).bind λr1=>(w5 N r1.1).bind λr2=>(ur N r1.1 r1.2 ([(1,(2,(0,(5,(90,())))))])).bind λr3=>(F17 N r1.1 r3.1 0 110).bind λr4=>(F18 N r1.1 r3.1 2).bind λr5=>(F19 N r1.1 r1.2 1).bind λr6=>(F18 N r1.1 r1.2 9).bind λr7=>cond (aM r2.2 0) ((Di N r2.1.2.2.1 r1.2.2.2.1).bind λr8=>cond (r8) ((Dj N r2.1.2.2.2.2.1 ([100])).bind λr9=>cond (r9) (cond (aM r3.2 0) ((CC N r3.1.2.2.2.1 1 0).bind λme=>cond (aM me 5) ((vn N r3.1.2.2.1 5 1).bind λoI=>cond (aM oI 50) (cond (aM r4.2.2 0) (cond (aM (ℓ r4.2.1) 2) ((vn N r4.1.2.2.1 5 1).bind λnZ=>cond (aM nZ 100) (cond (aM (ℓ r4.1.2.2.2.2.1) 1) (cond (bg 0 (ℓ r4.1.2.2.2.2.1)) (cond (aM (γ r4.1.2.2.2.2.1 (0:Int).toNat 0) 110) (cond (aM r5.2 0) (cond (aM r5.1.2.1 10) (cond (aM r6.2 0) (cond (aM (ℓ r6.1.2.2.2.2.2.1) 0) (cond (aM r7.2 3) ((F9 N r1.1 r1.2).bind λn0=>some n0) (some false)) (some false)) (some false)) (some false)) (some false)) (some false)) none) (some false)) (some false)) (some false)) (some false)) (some false)) (some false)) (some false)) (some false)) (some false)) (some false)
def F6(N:Nat)(a0:List Int):Option aP:=
 some (a0,(0,()))
def F74(N:Nat)(a0:aP):Option ((Int)×aP):=
 cond (aX a0.2.1 (ℓ a0.1)) (cond (bg a0.2.1 (ℓ a0.1)) (some (γ a0.1 a0.2.1.toNat 0,(a0.1,((W .i64 (a0.2.1+1)),a0.2.2)))) none) (some (0,(a0.1,((W .i64 (a0.2.1+1)),a0.2.2))))
def qV(a0:aP)(a1:Int):Option ((Int)×aP):=
 (F74 N a0).bind λr1=>let v2:Int:=W .u64 a1;cond (aM v2 0) none (some ((W .i64 (rem r1.1 v2)),r1.2))
def Te(a0:aP)(a1:Int):Option ((Bool)×aP):=
 (qV N a0 a1).bind λr1=>some (aM r1.1 (W .i64 (a1-1)),r1.2)
def NH(a0:aP):Option ((Int)×aP):=
 (F74 N a0).bind λr1=>cond (aM 8 0) none (let v2:Int:=rem r1.1 8;cond (aM v2 0) (cond (aX 1 0) none (some ((W .i64 (shr .u64 r1.1 1)),r1.2))) (cond (aM v2 1) (cond (aX 3 0) none (cond (aM 1000000000000 0) none (some ((W .i64 (rem (shr .u64 r1.1 3) 1000000000000)),r1.2)))) (cond (aM v2 2) (cond (aX 3 0) none (cond (aM 2 0) none (some ((W .i64 (rem (shr .u64 r1.1 3) 2)),r1.2)))) (cond (aX 3 0) none (cond (aM 5000 0) none (some ((W .i64 (rem (shr .u64 r1.1 3) 5000)),r1.2)))))))
abbrev F7.abj:=aP→ae→ae→aN→Int→cO→Option (ae×aP)
abbrev F7.eO:=aP→ae→ae→aN→Int→Option (ae×aP)
def F7.ZL(dL:F7.eO)(x0:aP)(x2 x3:ae)(XK:aN)(x4:Int)(x5:cO):Option (ae×aP):=
 (Te N x0 12).bind λtV=>cond (tV.1) ((NH N tV.2).bind λuu=>cond (aM 1000000001 0) none (let v16:Int:=rem uu.1 1000000001;(NH N uu.2).bind λw1=>cond (aM 1000000001 0) none (let v18:Int:=rem w1.1 1000000001;cond (small (ℓ XK+ℓ ([(x5.1,(x5.2.1,(v16,(v18,x5.2.2.2.2))))]))) (dL w1.2 x2 (cW,x3.2) (XK++([(x5.1,(x5.2.1,(v16,(v18,x5.2.2.2.2))))])) (W .i64 (x4-1))) none))) (cond (small (ℓ XK+ℓ ([x5]))) (dL tV.2 x2 (cW,x3.2) (XK++([x5])) (W .i64 (x4-1))) none)
def F7.j8(dL:F7.eO)(x0:aP)(x2 x3:ae)(XK:aN)(x4:Int)(x5:cO):Option (ae×aP):=F7.ZL N dL x0 x2 x3 XK x4 x5
def F7.nY(QM:F7.abj)(dL:F7.eO)(x0:aP)(x2 x3:ae)(XK:aN)(x4:Int):Option (ae×aP):=
 cond (aX 0 x4) ((qV N x0 3).bind λr4=>(qV N r4.2 300).bind λr5=>(qV N r5.2 12).bind λr7=>(qV N r7.2 6).bind λr8=>(Te N r8.2 12).bind λr9=>cond (r9.1) ((NH N r9.2).bind λme=>cond (aM 1000000000000 0) none (QM me.2 x2 x3 XK x4 (r4.1,((W .i64 (1+(rem me.1 1000000000000))),(r7.1,(r8.1,())))))) (QM r9.2 x2 x3 XK x4 (r4.1,((W .i64 (1+r5.1)),(r7.1,(r8.1,())))))) ((qV N x0 300).bind λET=>(qV N ET.2 5).bind λNK=>(qV N NK.2 3).bind λJu=>(qV N Ju.2 3).bind λEV=>(qV N EV.2 20).bind λQN=>let v28:Int:=W .i64 (1+QN.1);(qV N QN.2 100).bind λGg=>(Te N Gg.2 15).bind λTG=>cond (TG.1) ((NH N TG.2).bind λJv=>some ((XK,(Jv.1,(NK.1,(Ju.1,(EV.1,(v28,(Gg.1,x3.2.2.2.2.2.2.2))))))),Jv.2)) (some ((XK,(ET.1,(NK.1,(Ju.1,(EV.1,(v28,(Gg.1,x3.2.2.2.2.2.2.2))))))),TG.2)))
def F7.l3(N:Nat):Nat→F7.eO
 |0,_,_,_,_,_=>none
 |n+1,x0,x2,x3,XK,x4=>F7.nY N (F7.j8 N (F7.l3 N n)) (F7.l3 N n) x0 x2 x3 XK x4
def F7.b(pB:F7.eO)(a0:aP):Option (ae×aP):=
 (qV N a0 4).bind λr1=>pB r1.2 (cW,dT) (cW,dT) cW (W .i64 (1+r1.1))
def F7(a0:aP):Option (ae×aP):=F7.b N (F7.l3 N N) a0
def W4(a0:aP)(a1:ae)(a2:Int):Option (iE×aP):=
 cond (bg a2 (ℓ a1.1)) ((qV N a0 61).bind λr1=>(Te N r1.2 20).bind λr6=>cond (r6.1) ((NH N r6.2).bind λr7=>cond (aM 1000000000000 0) none (some ((9,(0,(0,(a2,(0,(0,(0,((W .i64 (1+(rem r7.1 1000000000000))),())))))))),r7.2))) (some ((9,(0,(0,(a2,(0,(0,(0,((mx 1 (mn 1000000000000 (W .i64 ((W .i64 ((γ a1.1 a2.toNat bb).2.1+r1.1))-30)))),())))))))),r6.2))) none
def aaj(a0:aP)(a1:ae):Option (iE×aP):=
 (qV N a0 (ℓ a1.1)).bind λr1=>(qV N r1.2 7).bind λr2=>let v3:Int:=W .i64 (1+r2.1);(qV N r2.2 2).bind λr4=>let v5:Int:=W .i64 (1+r4.1);(qV N r4.2 30).bind λr6=>cond (bg r1.1 (ℓ a1.1)) ((qV N r6.2 21).bind λr8=>(Te N r8.2 30).bind λn0=>cond (n0.1) ((NH N n0.2).bind λtV=>cond (aM 1000000000 0) none ((NH N tV.2).bind λw1=>cond (aM 1000000000000 0) none (some ((7,(0,(v3,(r1.1,(v5,(0,((W .i64 (1+(rem tV.1 1000000000))),((W .i64 (1+(rem w1.1 1000000000000))),())))))))),w1.2)))) (some ((7,(0,(v3,(r1.1,(v5,(0,((W .i64 (1+r6.1)),((mx 1 (mn 1000000000000 (W .i64 ((W .i64 ((γ a1.1 r1.1.toNat bb).2.1+r8.1))-10)))),())))))))),n0.2))) none
def F77(a0:aP)(a1:ae):Option (iE×aP):=
 (qV N a0 4).bind λr1=>let v2:Int:=W .i64 (1+r1.1);(qV N r1.2 7).bind λr3=>let v4:Int:=W .i64 (1+r3.1);(qV N r3.2 (ℓ a1.1)).bind λr5=>(qV N r5.2 36).bind λr6=>let v7:Int:=W .i64 (1+r6.1);cond (aM v7 1) (some ((v7,(v2,dT)),r6.2)) (cond (aM v7 11) (some ((v7,(v2,dT)),r6.2)) (cond (aM v7 12) (some ((v7,(v2,dT)),r6.2)) (cond (aM v7 13) (some ((v7,(v2,dT)),r6.2)) (cond (aM v7 2) ((qV N r6.2 2).bind λr8=>some ((v7,(v2,(v4,(0,((W .i64 (1+r8.1)),aZ))))),r8.2)) (cond (aM v7 3) ((NH N r6.2).bind λme=>some ((v7,(0,(v4,(0,(0,(0,((mx me.1 1),(0,())))))))),me.2)) (cond (aM v7 4) ((NH N r6.2).bind λnZ=>some ((v7,(0,(v4,(0,(0,(0,((mx nZ.1 1),(0,())))))))),nZ.2)) (cond (aM v7 5) ((NH N r6.2).bind λtV=>some ((v7,(v2,(0,(0,(0,(0,((mx tV.1 1),(0,())))))))),tV.2)) (cond (aM v7 22) ((NH N r6.2).bind λwz=>some ((v7,(v2,(0,(0,(0,(0,((mx wz.1 1),(0,())))))))),wz.2)) (cond (aM v7 6) ((NH N r6.2).bind λyx=>cond (aM 1000000000001 0) none (some ((v7,(0,(v4,(0,(0,(0,((rem yx.1 1000000000001),(0,())))))))),yx.2))) (cond (aM v7 8) ((qV N r6.2 40).bind λQO=>some ((v7,(0,(v4,(0,(0,((W .i64 (1+QO.1)),c7)))))),QO.2)) (cond (aM v7 9) ((W4 N r6.2 a1 r5.1).bind λNo=>some (No.1,No.2)) (cond (aM v7 10) ((qV N r6.2 3).bind λET=>some ((v7,(0,(0,(0,(0,(0,((W .i64 (1+ET.1)),(0,())))))))),ET.2)) (cond (aM v7 14) (some ((v7,(v2,(v4,gv))),r6.2)) (cond (aM v7 15) (some ((v7,Nz),r6.2)) (cond (aM v7 16) (some ((v7,Nz),r6.2)) (cond (aM v7 18) (some ((v7,Nz),r6.2)) (cond (aM v7 20) (some ((v7,Nz),r6.2)) (cond (aM v7 21) (some ((v7,Nz),r6.2)) (cond (aM v7 17) ((qV N r6.2 60).bind λJu=>(qV N Ju.2 20).bind λQN=>cond (bg r5.1 (ℓ a1.1)) (some ((v7,(0,(v4,(0,(0,((W .i64 (1+Ju.1)),((W .i64 (1+QN.1)),((γ a1.1 r5.1.toNat bb).2.1,())))))))),QN.2)) none) (cond (aM v7 19) ((qV N r6.2 60).bind λGg=>(qV N Gg.2 80).bind λJv=>some ((v7,(v2,(0,(0,(0,((W .i64 (1+Gg.1)),(0,((W .i64 (Jv.1-60)),())))))))),Jv.2)) ((aaj N r6.2 a1).bind λr33=>some (r33.1,r33.2))))))))))))))))))))))
abbrev gF.fT:=aP→dq→Int→Option (dq×aP)
abbrev gF.lD:=aP→dq→Int→Option (dq×aP)
abbrev gF.eO:=aP→dq→Int→Option (dq×aP)
def gF.lq(gR:gF.fT)(x0:aP)(x5:dq)(x8:Int):Option (dq×aP):=
 cond (dy x8 7) ((qV N x0 3000).bind λuu=>let v16:Int:=W .i64 (200+uu.1);(qV N uu.2 200).bind λw1=>let v18:Int:=W .i64 (20+w1.1);cond (small (ℓ x5+ℓ ([(3,(0,(x8,(0,(0,(0,(v16,(0,())))))))),(6,(0,(x8,(0,(0,(0,(v18,(0,()))))))))]))) (gR w1.2 (x5++([(3,(0,(x8,(0,(0,(0,(v16,(0,())))))))),(6,(0,(x8,(0,(0,(0,(v18,(0,()))))))))])) (W .i64 (x8+1))) none) (some (x5,x0))
def gF.mw(N:Nat):Nat→gF.fT
 |0,_,_,_=>none
 |n+1,x0,x5,x8=>gF.lq N (gF.mw N n) x0 x5 x8
def gF.uX(s9:gF.fT)(oW:gF.lD)(x0:aP)(x5:dq)(x7:Int):Option (dq×aP):=
 cond (dy x7 7) ((qV N x0 2).bind λme=>let v11:Int:=W .i64 (1+me.1);cond (small (ℓ x5+ℓ ([(2,(v11,(x7,(0,(2,aZ)))))]))) (oW me.2 (x5++([(2,(v11,(x7,(0,(2,aZ)))))])) (W .i64 (x7+1))) none) (s9 x0 x5 1)
def gF.l9(N:Nat):Nat→gF.lD
 |0,_,_,_=>none
 |n+1,x0,x5,x7=>gF.uX N (gF.mw N N) (gF.l9 N n) x0 x5 x7
def gF.nY(yz:gF.lD)(dL:gF.eO)(x0:aP)(x5:dq)(x6:Int):Option (dq×aP):=
 cond (dy x6 4) (cond (small (ℓ x5+ℓ ([(1,(x6,dT)),(2,(x6,(x6,(0,(1,aZ)))))]))) (let v2:List ((Int)×((Int)×((Int)×((Int)×((Int)×((Int)×((Int)×((Int)×(Unit))))))))):=x5++([(1,(x6,dT)),(2,(x6,(x6,(0,(1,aZ)))))]);(Te N x0 5).bind λr3=>cond (!r3.1) ((qV N r3.2 400).bind λr4=>let v5:Int:=W .i64 (1+r4.1);cond (small (ℓ v2+ℓ ([(5,(x6,(0,(0,(0,(0,(v5,(0,()))))))))]))) (dL r4.2 (v2++([(5,(x6,(0,(0,(0,(0,(v5,(0,()))))))))])) (W .i64 (x6+1))) none) (dL r3.2 v2 (W .i64 (x6+1)))) none) (yz x0 x5 5)
def gF.l3(N:Nat):Nat→gF.eO
 |0,_,_,_=>none
 |n+1,x0,x5,x6=>gF.nY N (gF.l9 N N) (gF.l3 N n) x0 x5 x6
def gF.b(N:Nat)(pB:gF.eO)(a0:aP)(a1:ae):Option (dq×aP):=
 pB a0 ([]) 1
def gF(a0:aP)(a1:ae):Option (dq×aP):=gF.b N (gF.l3 N N) a0 a1
abbrev Fl.eO:=aP→ae→dq→Int→Option (dq×aP)
def Fl.nY(dL:Fl.eO)(x0:aP)(x4:ae)(x7:dq)(x8:Int):Option (dq×aP):=
 cond (aX 0 x8) ((qV N x0 8).bind λr5=>cond (aM r5.1 0) ((F77 N r5.2 x4).bind λr6=>cond (small (ℓ x7+ℓ ([r6.1]))) (dL r6.2 x4 (x7++([r6.1])) (W .i64 (x8-1))) none) (cond (aM r5.1 1) ((qV N r5.2 (ℓ x4.1)).bind λr9=>(W4 N r9.2 x4 r9.1).bind λme=>cond (small (ℓ x7+ℓ ([me.1]))) (dL me.2 x4 (x7++([me.1])) (W .i64 (x8-1))) none) ((aaj N r5.2 x4).bind λn0=>cond (small (ℓ x7+ℓ ([n0.1]))) (dL n0.2 x4 (x7++([n0.1])) (W .i64 (x8-1))) none))) (some (x7,x0))
def Fl.l3(N:Nat):Nat→Fl.eO
 |0,_,_,_,_=>none
 |n+1,x0,x4,x7,x8=>Fl.nY N (Fl.l3 N n) x0 x4 x7 x8
def Fl.b(pB:Fl.eO)(a0:aP)(a1:ae)(a2:Int):Option (dq×aP):=
 (gF N a0 a1).bind λr1=>(qV N r1.2 (W .i64 (a2+1))).bind λr3=>pB r3.2 a1 r1.1 r3.1
def Fl(a0:aP)(a1:ae)(a2:Int):Option (dq×aP):=Fl.b N (Fl.l3 N N) a0 a1 a2
def F93(N:Nat)(a0 a1 a2:Int):Option Bool:=
 cond (dy a1 a0) (some (dy a0 a2)) (some false)
abbrev Ah.bP:=ae→Int→Option Bool
def Ah.dM(cJ:Ah.bP)(x1:ae)(x3:Int):Option Bool:=
 cond (aX x3 (ℓ x1.1)) (cond (bg x3 (ℓ x1.1)) ((F93 N (γ x1.1 x3.toNat bb).1 0 3).bind λr2=>cond (!r2) (some false) ((F93 N (γ x1.1 x3.toNat bb).2.1 1 1000000000000).bind λr3=>cond (!r3) (some false) ((F93 N (γ x1.1 x3.toNat bb).2.2.1 0 1000000000).bind λr4=>cond (!r4) (some false) ((F93 N (γ x1.1 x3.toNat bb).2.2.2.1 0 1000000000).bind λr5=>cond (!r5) (some false) (cJ x1 (W .i64 (x3+1))))))) none) (cond (dy 0 x1.2.1) ((F93 N x1.2.2.1 0 4).bind λr7=>cond (r7) ((F93 N x1.2.2.2.1 0 1000000).bind λr8=>cond (r8) ((F93 N x1.2.2.2.2.1 0 1000000).bind λr9=>cond (r9) ((F93 N x1.2.2.2.2.2.1 1 4611686018427387904).bind λme=>cond (me) (some (dy 0 x1.2.2.2.2.2.2.1)) (some false)) (some false)) (some false)) (some false)) (some false))
def Ah.l4(N:Nat):Nat→Ah.bP
 |0,_,_=>none
 |n+1,x1,x3=>Ah.dM N (Ah.l4 N n) x1 x3
def Ah.b(N:Nat)(e8:Ah.bP)(a0:ae):Option Bool:=
 cond (aX (ℓ a0.1) 1) (some false) (cond (aX 6 (ℓ a0.1)) (some false) (e8 a0 0))
def Ah(a0:ae):Option Bool:=Ah.b N (Ah.l4 N N) a0
abbrev ja.fg:=ae→an→an→(List Int)→Int→Option (an×(Int))
abbrev ja.TE:=ae→an→an→(List Int)→Option (an×(Int))
def ja.nR(N:Nat)(e7:ja.fg)(x1:ae)(x2 x4:an)(Nm:List Int)(x5:Int):Option (an×(Int)):=
 cond (aX x5 (ℓ x1.1)) (cond (bg x5 (ℓ x1.1)) (cond (small (ℓ Nm+ℓ ([(γ x1.1 x5.toNat bb).2.1]))) (e7 x1 x2 (x4.1,(x4.2.1,(x4.2.2.1,(x4.2.2.2.1,(di,x4.2.2.2.2.2))))) (Nm++([(γ x1.1 x5.toNat bb).2.1])) (W .i64 (x5+1))) none) none) (some ((x4.1,(x4.2.1,(x4.2.2.1,(x4.2.2.2.1,(Nm,x4.2.2.2.2.2))))),0))
def ja.l7(N:Nat):Nat→ja.fg
 |0,_,_,_,_,_=>none
 |n+1,x1,x2,x4,Nm,x5=>ja.nR N (ja.l7 N n) x1 x2 x4 Nm x5
def ja.O6(N:Nat)(s7:ja.fg)(x1:ae)(x2 x4:an)(Nm:List Int):Option (an×(Int)):=
 s7 x1 x2 x4 Nm 0
def ja.j6(x1:ae)(x2 x4:an)(Nm:List Int):Option (an×(Int)):=ja.O6 N (ja.l7 N N) x1 x2 x4 Nm
def ja.b(Fs:ja.TE)(a0:ae):Option (an×(Int)):=
 (Ah N a0).bind λr1=>cond (!r1) (some ((cn,(cW,(bo,(bo,(di,(du,())))))),1)) (cond (!aM a0.2.1 0) (Fs a0 (cn,(cW,(bo,(bo,(di,(du,())))))) (cn,(cW,([(1,(0,((W .i64 (0-a0.2.1)),()))),(3,(0,(a0.2.1,())))],(bo,(di,(du,())))))) di) (Fs a0 (cn,(cW,(bo,(bo,(di,(du,())))))) (cn,(cW,(bo,(bo,(di,(du,())))))) di))
def ja(a0:ae):Option (an×(Int)):=ja.b N (ja.j6 N) a0
def F75(a0:ae):Option (aR×(Int)):=
 (ja N a0).bind λr1=>cond (!aM r1.2 0) (some ((0,(0,((cn,(cW,(bo,(bo,(di,(du,())))))),((0,(0,(0,(0,(cW,(([]:List ((Int)×((List ((Int)×((Int)×(Unit))))×((Int)×((Int)×((Int)×((Int)×(Unit)))))))),(cW,(di,(cn,(cn,())))))))))),((0,(0,(DQ,(0,())))),()))))),r1.2)) (some ((0,(1,(r1.1,((0,(0,(0,(0,(cW,(([]:List ((Int)×((List ((Int)×((Int)×(Unit))))×((Int)×((Int)×((Int)×((Int)×(Unit)))))))),(cW,(di,(cn,(cn,())))))))))),((0,(0,(DQ,(0,())))),()))))),0))
abbrev oJ.eO:=aP→ae→dq→Int→Option (dq×aP)
def oJ.nY(dL:oJ.eO)(x0:aP)(x3:ae)(x5:dq)(x6:Int):Option (dq×aP):=
 cond (aX 0 x6) ((Te N x0 2).bind λr3=>cond (r3.1) ((qV N r3.2 (ℓ x3.1)).bind λr4=>(W4 N r4.2 x3 r4.1).bind λr5=>cond (small (ℓ x5+ℓ ([r5.1]))) (dL r5.2 x3 (x5++([r5.1])) (W .i64 (x6-1))) none) ((F77 N r3.2 x3).bind λr8=>cond (small (ℓ x5+ℓ ([r8.1]))) (dL r8.2 x3 (x5++([r8.1])) (W .i64 (x6-1))) none)) (some (x5,x0))
def oJ.l3(N:Nat):Nat→oJ.eO
 |0,_,_,_,_=>none
 |n+1,x0,x3,x5,x6=>oJ.nY N (oJ.l3 N n) x0 x3 x5 x6
def oJ.b(pB:oJ.eO)(a0:aP)(a1:ae):Option (dq×aP):=
 (qV N a0 3).bind λr1=>pB r1.2 a1 ([]) r1.1
def oJ(a0:aP)(a1:ae):Option (dq×aP):=oJ.b N (oJ.l3 N N) a0 a1
def alv(N:Nat)(a0:Int):Option Bool:=
 cond (dy 1 a0) (some (dy a0 22)) (some false)
def adD(N:Nat)(a0:Int):Option ByteArray:=
 cond (aM a0 1) (some (strOf [77])) (cond (aM a0 11) (some (strOf [77])) (cond (aM a0 12) (some (strOf [77])) (cond (aM a0 13) (some (strOf [77])) (cond (aM a0 2) (some (strOf [77,65,83])) (cond (aM a0 3) (some (strOf [65,81])) (cond (aM a0 4) (some (strOf [65,81])) (cond (aM a0 6) (some (strOf [65,81])) (cond (aM a0 5) (some (strOf [77,81])) (cond (aM a0 22) (some (strOf [77,81])) (cond (aM a0 7) (some (strOf [65,73,83,81,80])) (cond (aM a0 8) (some (strOf [65,68])) (cond (aM a0 9) (some (strOf [73,80])) (cond (aM a0 10) (some (strOf [81])) (cond (aM a0 14) (some (strOf [77,65])) (cond (aM a0 17) (some (strOf [65,68,81,80])) (cond (aM a0 19) (some (strOf [77,68,80])) (some (strOf []))))))))))))))))))
def als(N:Nat)(a0:Int):Option ((Int)×(Int)):=
 cond (aM a0 6) (some (0,1000000000000)) (cond (aM a0 7) (some (1,1000000000)) (cond (aM a0 17) (some (1,1000000000)) (cond (aM a0 10) (some (1,1000000)) (some (1,9223372036854775807)))))
def alu(N:Nat)(a0:Int):Option ((Int)×(Int)):=
 cond (aM a0 19) (some ((-1152921504606846976),1152921504606846976)) (some (1,1000000000000))
def adE(a0 a1:Int):Option ((Int)×(Int)):=
 cond (aM a1 77) (some (1,12)) (cond (aM a1 65) (some (1,24)) (cond (aM a1 73) (some (0,5)) (cond (aM a1 83) (some (1,2)) (cond (aM a1 68) (some (1,1099511627776)) (cond (aM a1 81) ((als N a0).bind λr1=>some (r1.1,r1.2)) ((alu N a0).bind λr2=>some (r2.1,r2.2)))))))
def adF(N:Nat)(a0:iE)(a1:Int):Option Int:=
 cond (aM a1 77) (some a0.2.1) (cond (aM a1 65) (some a0.2.2.1) (cond (aM a1 73) (some a0.2.2.2.1) (cond (aM a1 83) (some a0.2.2.2.2.1) (cond (aM a1 68) (some a0.2.2.2.2.2.1) (cond (aM a1 81) (some a0.2.2.2.2.2.2.1) (some a0.2.2.2.2.2.2.2.1))))))
def adG(N:Nat)(a0:iE)(a1 a2:Int):Option iE:=
 cond (aM a1 77) (some (a0.1,(a2,a0.2.2))) (cond (aM a1 65) (some (a0.1,(a0.2.1,(a2,a0.2.2.2)))) (cond (aM a1 73) (some (a0.1,(a0.2.1,(a0.2.2.1,(a2,a0.2.2.2.2))))) (cond (aM a1 83) (some (a0.1,(a0.2.1,(a0.2.2.1,(a0.2.2.2.1,(a2,a0.2.2.2.2.2)))))) (cond (aM a1 68) (some (a0.1,(a0.2.1,(a0.2.2.1,(a0.2.2.2.1,(a0.2.2.2.2.1,(a2,a0.2.2.2.2.2.2))))))) (cond (aM a1 81) (some (a0.1,(a0.2.1,(a0.2.2.1,(a0.2.2.2.1,(a0.2.2.2.2.1,(a0.2.2.2.2.2.1,(a2,a0.2.2.2.2.2.2.2)))))))) (some (a0.1,(a0.2.1,(a0.2.2.1,(a0.2.2.2.1,(a0.2.2.2.2.1,(a0.2.2.2.2.2.1,(a0.2.2.2.2.2.2.1,(a2,a0.2.2.2.2.2.2.2.2))))))))))))))
abbrev sN.kz:=iE→ByteArray→iE→Int→Option Bool
def sN.uU(lB:sN.kz)(x1:iE)(x3:ByteArray)(x4:iE)(x5:Int):Option Bool:=
 cond (aX x5 (ByteArray.size x3:Int)) (cond (bg x5 (ByteArray.size x3)) ((adE N x1.1 ((x3.data.getD x5.toNat 0).toNat:Int)).bind λr4=>cond (bg x5 (ByteArray.size x3)) ((adF N x1 ((x3.data.getD x5.toNat 0).toNat:Int)).bind λr5=>cond (aX r5 r4.1) (some false) (cond (aX r4.2 r5) (some false) (cond (bg x5 (ByteArray.size x3)) ((adG N x4 ((x3.data.getD x5.toNat 0).toNat:Int) r5).bind λr6=>lB x1 x3 r6 (W .i64 (x5+1))) none))) none) none) (some (oX (.pair (.int .i64) (.pair (.int .i64) (.pair (.int .i64) (.pair (.int .i64) (.pair (.int .i64) (.pair (.int .i64) (.pair (.int .i64) (.pair (.int .i64) .unit)))))))) x4 x1))
def sN.l6(N:Nat):Nat→sN.kz
 |0,_,_,_,_=>none
 |n+1,x1,x3,x4,x5=>sN.uU N (sN.l6 N n) x1 x3 x4 x5
def sN.b(yw:sN.kz)(a0:iE):Option Bool:=
 (alv N a0.1).bind λr1=>cond (!r1) (some false) ((adD N a0.1).bind λr2=>yw a0 r2 (a0.1,Nz) 0)
def sN(a0:iE):Option Bool:=sN.b N (sN.l6 N N) a0
abbrev CB.c0:=aE→Int→Option Bool
def CB.fN(N:Nat)(dW:CB.c0)(x0:aE)(x3:Int):Option Bool:=
 cond (aX x3 (ℓ x0)) (cond (bg x3 (ℓ x0)) (cond (aX (γ x0 x3.toNat c7).1 1) (some false) (cond (bg x3 (ℓ x0)) (cond (aX 12 (γ x0 x3.toNat c7).1) (some false) (cond (bg x3 (ℓ x0)) (cond (aX (γ x0 x3.toNat c7).2.1 1) (some false) (cond (bg x3 (ℓ x0)) (cond (aX 4 (γ x0 x3.toNat c7).2.1) (some false) (cond (aX 0 x3) (cond (bg x3 (ℓ x0)) (let v2:Int:=W .i64 (x3-1);cond (bg v2 (ℓ x0)) (cond (dy (γ x0 x3.toNat c7).1 (γ x0 v2.toNat c7).1) (some false) (dW x0 (W .i64 (x3+1)))) none) none) (dW x0 (W .i64 (x3+1))))) none)) none)) none)) none) (some true)
def CB.l2(N:Nat):Nat→CB.c0
 |0,_,_=>none
 |n+1,x0,x3=>CB.fN N (CB.l2 N n) x0 x3
def CB.b(N:Nat)(gX:CB.c0)(a0:aE):Option Bool:=
 gX a0 0
def CB(a0:aE):Option Bool:=CB.b N (CB.l2 N N) a0
abbrev AF.c0:=aE→Int→Int→Option Int
def AF.fN(N:Nat)(dW:AF.c0)(x0:aE)(x1 x5:Int):Option Int:=
 cond (aX x5 (ℓ x0)) (cond (bg x5 (ℓ x0)) (cond (aM (γ x0 x5.toNat c7).1 x1) (cond (bg x5 (ℓ x0)) (some (γ x0 x5.toNat c7).2.1) none) (dW x0 x1 (W .i64 (x5+1)))) none) (some 0)
def AF.l2(N:Nat):Nat→AF.c0
 |0,_,_,_=>none
 |n+1,x0,x1,x5=>AF.fN N (AF.l2 N n) x0 x1 x5
def AF.b(N:Nat)(gX:AF.c0)(a0:aE)(a1:Int):Option Int:=
 gX a0 a1 0
def AF(a0:aE)(a1:Int):Option Int:=AF.b N (AF.l2 N N) a0 a1
abbrev iZ.TH:=aE→Int→aE→Int→Option (aE×(Int))
abbrev iZ.fg:=aE→Int→aE→Int→Option (aE×(Int))
def iZ.Pe(N:Nat)(x0:aE)(x1:Int)(x6:aE)(x7:Int):Option (aE×(Int)):=
 cond (jc 0 x7 (ℓ x0) (ℓ x0)) (let v6:List ((Int)×((Int)×(Unit))):=List.drop (0:Int).toNat (List.take x7.toNat x0);cond (small (ℓ x6+ℓ v6)) (let v7:List ((Int)×((Int)×(Unit))):=x6++v6;cond (small (ℓ v7+ℓ ([(x1,(1,()))]))) (let v8:List ((Int)×((Int)×(Unit))):=v7++([(x1,(1,()))]);cond (jc x7 (ℓ x0) (ℓ x0) (ℓ x0)) (let v9:List ((Int)×((Int)×(Unit))):=List.drop x7.toNat (List.take (ℓ x0:Int).toNat x0);cond (small (ℓ v8+ℓ v9)) (some ((v8++v9),0)) none) none) none) none) none
def iZ.j9(x0:aE)(x1:Int)(x6:aE)(x7:Int):Option (aE×(Int)):=iZ.Pe N x0 x1 x6 x7
def iZ.nR(N:Nat)(I4:iZ.TH)(e7:iZ.fg)(x0:aE)(x1:Int)(x6:aE)(x7:Int):Option (aE×(Int)):=
 cond (aX x7 (ℓ x0)) (cond (bg x7 (ℓ x0)) (cond (aX (γ x0 x7.toNat c7).1 x1) (e7 x0 x1 x6 (W .i64 (x7+1))) (I4 x0 x1 x6 x7)) none) (I4 x0 x1 x6 x7)
def iZ.l7(N:Nat):Nat→iZ.fg
 |0,_,_,_,_=>none
 |n+1,x0,x1,x6,x7=>iZ.nR N (iZ.j9 N) (iZ.l7 N n) x0 x1 x6 x7
def iZ.b(s7:iZ.fg)(a0:aE)(a1:Int):Option (aE×(Int)):=
 (CB N a0).bind λr1=>cond (!r1) (some ([],1)) (cond (aX a1 1) (some ([],1)) (cond (aX 12 a1) (some ([],1)) ((AF N a0 a1).bind λr2=>cond (!aM r2 0) (some ([],4)) (s7 a0 a1 ([]) 0))))
def iZ(a0:aE)(a1:Int):Option (aE×(Int)):=iZ.b N (iZ.l7 N N) a0 a1
def gj(N:Nat)(a0:Int):Option dg:=
 some (a0,c7)
abbrev m4.kb:=aN→Int→cO→Int→Option Bool
abbrev m4.abc:=aN→Int→cO→Option Bool
abbrev m4.c0:=aN→Int→Option Bool
def m4.Ej(N:Nat)(dW:m4.c0)(gK:m4.kb)(x0:aN)(x3:Int)(x4:cO)(x5:Int):Option Bool:=
 cond (aX x5 x3) (cond (aM x4.2.2.1 1) (cond (bg x5 (ℓ x0)) (cond (aM (γ x0 x5.toNat bb).2.2.1 1) (cond (bg x5 (ℓ x0)) (cond (aM (γ x0 x5.toNat bb).2.1 x4.2.1) (some false) (gK x0 x3 x4 (W .i64 (x5+1)))) none) (gK x0 x3 x4 (W .i64 (x5+1)))) none) (gK x0 x3 x4 (W .i64 (x5+1)))) (dW x0 (W .i64 (x3+1)))
def m4.l8(N:Nat)(dW:m4.c0):Nat→m4.kb
 |0,_,_,_,_=>none
 |n+1,x0,x3,x4,x5=>m4.Ej N dW (m4.l8 N dW n) x0 x3 x4 x5
def m4.XX(N:Nat)(I5:m4.kb)(dW:m4.c0)(x0:aN)(x3:Int)(x4:cO):Option Bool:=
 I5 x0 x3 x4 0
def m4.j7(dW:m4.c0)(x0:aN)(x3:Int)(x4:cO):Option Bool:=m4.XX N (m4.l8 N dW N) dW x0 x3 x4
def m4.fN(N:Nat)(J8:m4.abc)(dW:m4.c0)(x0:aN)(x3:Int):Option Bool:=
 cond (aX x3 (ℓ x0)) (cond (bg x3 (ℓ x0)) (cond (aX (γ x0 x3.toNat bb).1 1) (some false) (cond (aX 24 (γ x0 x3.toNat bb).1) (some false) (cond (aX (γ x0 x3.toNat bb).2.1 1) (some false) (cond (aX 12 (γ x0 x3.toNat bb).2.1) (some false) (cond (!aM (γ x0 x3.toNat bb).2.2.1 1) (cond (!aM (γ x0 x3.toNat bb).2.2.1 2) (some false) (cond (aX (γ x0 x3.toNat bb).2.2.2.1 0) (some false) (cond (aX 1000000000000 (γ x0 x3.toNat bb).2.2.2.1) (some false) (cond (aX 0 x3) (let v2:Int:=W .i64 (x3-1);cond (bg v2 (ℓ x0)) (cond (dy (γ x0 x3.toNat bb).1 (γ x0 v2.toNat bb).1) (some false) (J8 x0 x3 (γ x0 x3.toNat bb))) none) (J8 x0 x3 (γ x0 x3.toNat bb)))))) (cond (aX (γ x0 x3.toNat bb).2.2.2.1 0) (some false) (cond (aX 1000000000000 (γ x0 x3.toNat bb).2.2.2.1) (some false) (cond (aX 0 x3) (let v9:Int:=W .i64 (x3-1);cond (bg v9 (ℓ x0)) (cond (dy (γ x0 x3.toNat bb).1 (γ x0 v9.toNat bb).1) (some false) (J8 x0 x3 (γ x0 x3.toNat bb))) none) (J8 x0 x3 (γ x0 x3.toNat bb)))))))))) none) (some true)
def m4.l2(N:Nat):Nat→m4.c0
 |0,_,_=>none
 |n+1,x0,x3=>m4.fN N (m4.j7 N (m4.l2 N n)) (m4.l2 N n) x0 x3
def m4.b(N:Nat)(gX:m4.c0)(a0:aN):Option Bool:=
 gX a0 0
def m4(a0:aN):Option Bool:=m4.b N (m4.l2 N N) a0
abbrev Dd.bP:=aE→aN→Int→Option Bool
def Dd.dM(cJ:Dd.bP)(x0:aE)(x1:aN)(x5:Int):Option Bool:=
 cond (aX x5 (ℓ x1)) (cond (bg x5 (ℓ x1)) ((AF N x0 (γ x1 x5.toNat bb).2.1).bind λr4=>cond (aM r4 0) (some false) (cJ x0 x1 (W .i64 (x5+1)))) none) (some true)
def Dd.l4(N:Nat):Nat→Dd.bP
 |0,_,_,_=>none
 |n+1,x0,x1,x5=>Dd.dM N (Dd.l4 N n) x0 x1 x5
def Dd.b(e8:Dd.bP)(a0:aE)(a1:aN):Option Bool:=
 (CB N a0).bind λr1=>cond (!r1) (some false) ((m4 N a1).bind λr2=>cond (!r2) (some false) (e8 a0 a1 0))
def Dd(a0:aE)(a1:aN):Option Bool:=Dd.b N (Dd.l4 N N) a0 a1
abbrev oU.c0:=aN→Int→cO→Int→Option (cO×(Bool))
def oU.fN(N:Nat)(dW:oU.c0)(x0:aN)(x1:Int)(x4:cO)(x6:Int):Option (cO×(Bool)):=
 cond (aX x6 (ℓ x0)) (cond (bg x6 (ℓ x0)) (cond (aM (γ x0 x6.toNat bb).1 x1) (cond (bg x6 (ℓ x0)) (some (γ x0 x6.toNat bb,true)) none) (dW x0 x1 x4 (W .i64 (x6+1)))) none) (some (bb,false))
def oU.l2(N:Nat):Nat→oU.c0
 |0,_,_,_,_=>none
 |n+1,x0,x1,x4,x6=>oU.fN N (oU.l2 N n) x0 x1 x4 x6
def oU.b(N:Nat)(gX:oU.c0)(a0:aN)(a1:Int):Option (cO×(Bool)):=
 gX a0 a1 bb 0
def oU(a0:aN)(a1:Int):Option (cO×(Bool)):=oU.b N (oU.l2 N N) a0 a1
abbrev nq.bP:=aN→Int→Int→Option Int
def nq.dM(N:Nat)(cJ:nq.bP)(x0:aN)(x1 x5:Int):Option Int:=
 cond (aX x5 (ℓ x0)) (cond (bg x5 (ℓ x0)) (cond (aM (γ x0 x5.toNat bb).2.1 x1) (cond (bg x5 (ℓ x0)) (cond (aM (γ x0 x5.toNat bb).2.2.1 1) (cond (bg x5 (ℓ x0)) (some (γ x0 x5.toNat bb).1) none) (cJ x0 x1 (W .i64 (x5+1)))) none) (cJ x0 x1 (W .i64 (x5+1)))) none) (some 0)
def nq.l4(N:Nat):Nat→nq.bP
 |0,_,_,_=>none
 |n+1,x0,x1,x5=>nq.dM N (nq.l4 N n) x0 x1 x5
def nq.b(e8:nq.bP)(a0:aN)(a1:Int):Option Int:=
 (m4 N a0).bind λr1=>cond (!r1) (some 0) (e8 a0 a1 0)
def nq(a0:aN)(a1:Int):Option Int:=nq.b N (nq.l4 N N) a0 a1
abbrev fU.I6:=aN→cO→aN→Int→Option (aN×(Int))
abbrev fU.fT:=aN→cO→aN→Int→Option (aN×(Int))
abbrev fU.QP:=aN→cO→Option (aN×(Int))
def fU.w3(N:Nat)(x1:aN)(x5:cO)(bf:aN)(bq:Int):Option (aN×(Int)):=
 cond (jc 0 bq (ℓ x1) (ℓ x1)) (let v10:List ((Int)×((Int)×((Int)×((Int)×(Unit))))):=List.drop (0:Int).toNat (List.take bq.toNat x1);cond (small (ℓ bf+ℓ v10)) (let v11:List ((Int)×((Int)×((Int)×((Int)×(Unit))))):=bf++v10;cond (small (ℓ v11+ℓ ([x5]))) (let Vo:List ((Int)×((Int)×((Int)×((Int)×(Unit))))):=v11++([x5]);cond (jc bq (ℓ x1) (ℓ x1) (ℓ x1)) (let v13:List ((Int)×((Int)×((Int)×((Int)×(Unit))))):=List.drop bq.toNat (List.take (ℓ x1:Int).toNat x1);cond (small (ℓ Vo+ℓ v13)) (some ((Vo++v13),0)) none) none) none) none) none
def fU.Dt(x1:aN)(x5:cO)(bf:aN)(bq:Int):Option (aN×(Int)):=fU.w3 N x1 x5 bf bq
def fU.lq(N:Nat)(wN:fU.I6)(gR:fU.fT)(x1:aN)(x5:cO)(bf:aN)(bq:Int):Option (aN×(Int)):=
 cond (aX bq (ℓ x1)) (cond (bg bq (ℓ x1)) (cond (aX (γ x1 bq.toNat bb).1 x5.1) (gR x1 x5 bf (W .i64 (bq+1))) (wN x1 x5 bf bq)) none) (wN x1 x5 bf bq)
def fU.mw(N:Nat):Nat→fU.fT
 |0,_,_,_,_=>none
 |n+1,x1,x5,bf,bq=>fU.lq N (fU.Dt N) (fU.mw N n) x1 x5 bf bq
def fU.Du(N:Nat)(s9:fU.fT)(x1:aN)(x5:cO):Option (aN×(Int)):=
 s9 x1 x5 ([]) 0
def fU.Lg(x1:aN)(x5:cO):Option (aN×(Int)):=fU.Du N (fU.mw N N) x1 x5
def fU.b(EW:fU.QP)(a0:aE)(a1:aN)(a2:cO):Option (aN×(Int)):=
 (Dd N a0 a1).bind λr1=>cond (!r1) (some ([],1)) ((m4 N ([a2])).bind λr2=>cond (!r2) (some ([],1)) ((AF N a0 a2.2.1).bind λr3=>cond (aM r3 0) (some ([],3)) (cond (!aM r3 1) (some ([],7)) ((oU N a1 a2.1).bind λr4=>cond (r4.2) (some ([],4)) (cond (aM a2.2.2.1 1) ((nq N a1 a2.2.1).bind λr5=>cond (!aM r5 0) (some ([],4)) (EW a1 a2)) (EW a1 a2))))))
def fU(a0:aE)(a1:aN)(a2:cO):Option (aN×(Int)):=fU.b N (fU.Lg N) a0 a1 a2
def Dc(a0:aN)(a1:Int):Option (cO×(Bool)):=
 (m4 N a0).bind λr1=>cond (!r1) (some (bb,false)) ((oU N a0 a1).bind λr2=>some (r2.1,r2.2))
def Tm(a0:aR)(a1:Int):Option Bool:=
 (Dc N a0.2.2.1.2.1 a1).bind λr1=>some r1.2
abbrev pd.c0:=(List Int)→Int→Option (List Int)
def pd.fN(N:Nat)(dW:pd.c0)(x0:List Int)(x3:Int):Option (List Int):=
 cond (aX 0 x3) (let v2:Int:=W .i64 (x3-1);cond (bg v2 (ℓ x0)) (cond (aM (γ x0 v2.toNat 0) 0) (dW x0 (W .i64 (x3-1))) (cond (jc 0 x3 x3 (ℓ x0)) (some (List.drop (0:Int).toNat (List.take x3.toNat x0))) none)) none) (cond (jc 0 x3 x3 (ℓ x0)) (some (List.drop (0:Int).toNat (List.take x3.toNat x0))) none)
def pd.l2(N:Nat):Nat→pd.c0
 |0,_,_=>none
 |n+1,x0,x3=>pd.fN N (pd.l2 N n) x0 x3
def pd.b(N:Nat)(gX:pd.c0)(a0:List Int):Option (List Int):=
 gX a0 (ℓ a0:Int)
def pd(a0:List Int):Option (List Int):=pd.b N (pd.l2 N N) a0
def Wi(a0:Int):Option (List Int):=
 cond (aX 32 0) none ((pd N ([(sb .and .u64 a0 4294967295),(shr .u64 a0 32)])).bind λr3=>some r3)
def CY(a0:Bool)(a1:List Int):Option aL:=
 (pd N a1).bind λr1=>cond (a0) (some (aX 0 (ℓ r1:Int),(r1,()))) (some (false,(r1,())))
def eC(a0:Int):Option aL:=
 let v1:Int:=W .u64 a0;cond (aX a0 0) ((Wi N (W .u64 (0-v1))).bind λr3=>(CY N (aX a0 0) r3).bind λr4=>some r4) ((Wi N v1).bind λr5=>(CY N (aX a0 0) r5).bind λr6=>some r6)
def E8(a0:aL):Option aL:=
 (CY N (!a0.1) a0.2.1).bind λr1=>some r1
def Dw(a0 a1:Int)(a2 a3:Int)(a4:aL):Option bO:=
 (E8 N a4).bind λr1=>some ([(a0,(a1,(r1,()))),(a2,(a3,(a4,())))])
def Mm(N:Nat)(a0:List Int)(a1:Int):Option Int:=
 cond (aX a1 (ℓ a0)) (cond (bg a1 (ℓ a0)) (some (γ a0 a1.toNat 0)) none) (some 0)
abbrev kg.TE:=(List Int)→(List Int)→(List Int)→Int→Int→Option (List Int)
abbrev kg.bP:=(List Int)→(List Int)→(List Int)→Int→Int→Option (List Int)
def kg.O6(cJ:kg.bP)(x0 x1 x5:List Int)(x6 x7:Int):Option (List Int):=
 (Mm N x0 x7).bind λr3=>(Mm N x1 x7).bind λr4=>let v6:Int:=W .u64 (x6+(W .u64 (r3+r4)));let v7:Int:=sb .and .u64 v6 4294967295;cond (small (ℓ x5+ℓ ([v7]))) (cond (aX 32 0) none (cJ x0 x1 (x5++([v7])) (shr .u64 v6 32) (W .i64 (x7+1)))) none
def kg.j6(cJ:kg.bP)(x0 x1 x5:List Int)(x6 x7:Int):Option (List Int):=kg.O6 N cJ x0 x1 x5 x6 x7
def kg.dM(N:Nat)(Fs:kg.TE)(cJ:kg.bP)(x0 x1 x5:List Int)(x6 x7:Int):Option (List Int):=
 cond (aX x7 (ℓ x0)) (Fs x0 x1 x5 x6 x7) (cond (aX x7 (ℓ x1)) (Fs x0 x1 x5 x6 x7) (cond (aX 0 x6) (Fs x0 x1 x5 x6 x7) (some x5)))
def kg.l4(N:Nat):Nat→kg.bP
 |0,_,_,_,_,_=>none
 |n+1,x0,x1,x5,x6,x7=>kg.dM N (kg.j6 N (kg.l4 N n)) (kg.l4 N n) x0 x1 x5 x6 x7
def kg.b(N:Nat)(e8:kg.bP)(a0 a1:List Int):Option (List Int):=
 e8 a0 a1 ([]) 0 0
def kg(a0 a1:List Int):Option (List Int):=kg.b N (kg.l4 N N) a0 a1
abbrev qA.kz:=(List Int)→(List Int)→Int→Option Int
def qA.uU(N:Nat)(lB:qA.kz)(x0 x1:List Int)(x5:Int):Option Int:=
 cond (dy 0 x5) (cond (bg x5 (ℓ x0)) (cond (bg x5 (ℓ x1)) (cond (aX (γ x0 x5.toNat 0) (γ x1 x5.toNat 0)) (some (-1)) (cond (bg x5 (ℓ x0)) (cond (bg x5 (ℓ x1)) (cond (aX (γ x1 x5.toNat 0) (γ x0 x5.toNat 0)) (some 1) (lB x0 x1 (W .i64 (x5-1)))) none) none)) none) none) (some 0)
def qA.l6(N:Nat):Nat→qA.kz
 |0,_,_,_=>none
 |n+1,x0,x1,x5=>qA.uU N (qA.l6 N n) x0 x1 x5
def qA.b(N:Nat)(yw:qA.kz)(a0 a1:List Int):Option Int:=
 cond (!aM (ℓ a0) (ℓ a1)) (cond (aX (ℓ a0) (ℓ a1)) (some (-1)) (some 1)) (yw a0 a1 (W .i64 ((ℓ a0:Int)-1)))
def qA(a0 a1:List Int):Option Int:=qA.b N (qA.l6 N N) a0 a1
abbrev q7.bP:=(List Int)→(List Int)→(List Int)→Int→Int→Option (List Int)
def q7.dM(cJ:q7.bP)(x0 x1 x5:List Int)(x6 x7:Int):Option (List Int):=
 cond (aX x7 (ℓ x0)) (cond (bg x7 (ℓ x0)) ((Mm N x1 x7).bind λr2=>let v3:Int:=W .u64 (r2+x6);cond (aX (γ x0 x7.toNat 0) v3) (let v5:Int:=W .u64 ((W .u64 ((γ x0 x7.toNat 0)+4294967296))-v3);cond (small (ℓ x5+ℓ ([v5]))) (cJ x0 x1 (x5++([v5])) 1 (W .i64 (x7+1))) none) (let v8:Int:=W .u64 ((γ x0 x7.toNat 0)-v3);cond (small (ℓ x5+ℓ ([v8]))) (cJ x0 x1 (x5++([v8])) 0 (W .i64 (x7+1))) none)) none) (some x5)
def q7.l4(N:Nat):Nat→q7.bP
 |0,_,_,_,_,_=>none
 |n+1,x0,x1,x5,x6,x7=>q7.dM N (q7.l4 N n) x0 x1 x5 x6 x7
def q7.b(N:Nat)(e8:q7.bP)(a0 a1:List Int):Option (List Int):=
 e8 a0 a1 ([]) 0 0
def q7(a0 a1:List Int):Option (List Int):=q7.b N (q7.l4 N N) a0 a1
def nk(a0 a1:aL):Option aL:=
 cond (oX .bool a0.1 a1.1) ((kg N a0.2.1 a1.2.1).bind λr1=>(CY N a0.1 r1).bind λr2=>some r2) ((qA N a0.2.1 a1.2.1).bind λr3=>cond (dy 0 r3) ((q7 N a0.2.1 a1.2.1).bind λr4=>(CY N a0.1 r4).bind λr5=>some r5) ((q7 N a1.2.1 a0.2.1).bind λr6=>(CY N a1.1 r6).bind λr7=>some r7))
def xW(a0:aL):Option ((Int)×(Bool)):=
 cond (aX 2 (ℓ a0.2.1)) (some (0,false)) ((Mm N a0.2.1 0).bind λr1=>(Mm N a0.2.1 1).bind λr2=>cond (aX 32 0) none (let v4:Int:=sb .or .u64 r1 (W .u64 (shl .u64 r2 32));cond (a0.1) (cond (aX 9223372036854775808 v4) (some (0,false)) (some ((W .i64 (W .u64 (0-v4))),true))) (cond (aX 9223372036854775807 v4) (some (0,false)) (some ((W .i64 v4),true)))))
def SO(a0:aL):Option ((Int)×(Bool)):=
 (xW N a0).bind λr1=>cond (!r1.2) (some (0,false)) (cond (aM r1.1 (-9223372036854775808)) (some (0,false)) (some (r1.1,true)))
abbrev cS.I7:=au→au→au→Int→Int→Int→Int→Bool→aL→Int→Option (au×(Bool))
abbrev cS.abl:=au→au→au→Int→Int→Int→Int→Bool→Option (au×(Bool))
abbrev cS.fg:=au→au→au→Int→Int→Int→Option (au×(Bool))
abbrev cS.bP:=au→au→au→Int→Int→Option (au×(Bool))
def cS.JY(cJ:cS.bP)(e7:cS.fg)(LC:cS.I7)(x0 x1 x6:au)(x7 x8:Int)(x9 bx:Int)(bf:Bool)(bq:aL)(cq:Int):Option (au×(Bool)):=
 cond (aX cq (ℓ x1)) (cond (bg cq (ℓ x1)) (cond (aM (γ x1 cq.toNat aZ).1 x8) (cond (bg cq (ℓ x1)) (cond (aM (γ x1 cq.toNat aZ).2.1 x9) (cond (bg cq (ℓ x1)) ((eC N (γ x1 cq.toNat aZ).2.2.1).bind λr6=>(nk N bq r6).bind λr7=>LC x0 x1 x6 x7 x8 x9 bx true r7 (W .i64 (cq+1))) none) (LC x0 x1 x6 x7 x8 x9 bx bf bq (W .i64 (cq+1)))) none) (LC x0 x1 x6 x7 x8 x9 bx bf bq (W .i64 (cq+1)))) none) (cond (bf) ((eC N bx).bind λoI=>(nk N bq oI).bind λnZ=>(SO N nZ).bind λn0=>cond (!n0.2) (some ([],false)) (cond (!aM n0.1 0) (cond (small (ℓ x6+ℓ ([(x8,(x9,(n0.1,())))]))) (e7 x0 x1 (x6++([(x8,(x9,(n0.1,())))])) x7 x8 (W .i64 (x9+1))) none) (e7 x0 x1 x6 x7 x8 (W .i64 (x9+1))))) (cond (!aM bx 0) (cond (small (ℓ x6+ℓ ([(x8,(x9,(bx,())))]))) (e7 x0 x1 (x6++([(x8,(x9,(bx,())))])) x7 x8 (W .i64 (x9+1))) none) (e7 x0 x1 x6 x7 x8 (W .i64 (x9+1)))))
def cS.KK(N:Nat)(cJ:cS.bP)(e7:cS.fg):Nat→cS.I7
 |0,_,_,_,_,_,_,_,_,_,_=>none
 |n+1,x0,x1,x6,x7,x8,x9,bx,bf,bq,cq=>cS.JY N cJ e7 (cS.KK N cJ e7 n) x0 x1 x6 x7 x8 x9 bx bf bq cq
def cS.Mz(N:Nat)(abm:cS.I7)(cJ:cS.bP)(e7:cS.fg)(x0 x1 x6:au)(x7 x8:Int)(x9 bx:Int)(bf:Bool):Option (au×(Bool)):=
 abm x0 x1 x6 x7 x8 x9 bx bf (false,oZ) 0
def cS.UP(cJ:cS.bP)(e7:cS.fg)(x0 x1 x6:au)(x7 x8:Int)(x9 bx:Int)(bf:Bool):Option (au×(Bool)):=cS.Mz N (cS.KK N cJ e7 N) cJ e7 x0 x1 x6 x7 x8 x9 bx bf
def cS.nR(N:Nat)(Cu:cS.abl)(cJ:cS.bP)(e7:cS.fg)(x0 x1 x6:au)(x7 x8 x9:Int):Option (au×(Bool)):=
 cond (aX x9 6) (cond (aX x7 (ℓ x0)) (cond (bg x7 (ℓ x0)) (cond (aM (γ x0 x7.toNat aZ).1 x8) (cond (bg x7 (ℓ x0)) (cond (aM (γ x0 x7.toNat aZ).2.1 x9) (cond (bg x7 (ℓ x0)) (Cu x0 x1 x6 (W .i64 (x7+1)) x8 x9 (γ x0 x7.toNat aZ).2.2.1 false) none) (Cu x0 x1 x6 x7 x8 x9 0 false)) none) (Cu x0 x1 x6 x7 x8 x9 0 false)) none) (Cu x0 x1 x6 x7 x8 x9 0 false)) (cJ x0 x1 x6 x7 (W .i64 (x8+1)))
def cS.l7(N:Nat)(cJ:cS.bP):Nat→cS.fg
 |0,_,_,_,_,_,_=>none
 |n+1,x0,x1,x6,x7,x8,x9=>cS.nR N (cS.UP N cJ (cS.l7 N cJ n)) cJ (cS.l7 N cJ n) x0 x1 x6 x7 x8 x9
def cS.dM(N:Nat)(s7:cS.fg)(cJ:cS.bP)(x0 x1 x6:au)(x7 x8:Int):Option (au×(Bool)):=
 cond (dy x8 24) (s7 x0 x1 x6 x7 x8 0) (some (x6,true))
def cS.l4(N:Nat):Nat→cS.bP
 |0,_,_,_,_,_=>none
 |n+1,x0,x1,x6,x7,x8=>cS.dM N (cS.l7 N (cS.l4 N n) N) (cS.l4 N n) x0 x1 x6 x7 x8
def cS.b(N:Nat)(e8:cS.bP)(a0 a1:au):Option (au×(Bool)):=
 e8 a0 a1 ([]) 0 0
def cS(a0 a1:au):Option (au×(Bool)):=cS.b N (cS.l4 N N) a0 a1
abbrev oE.eO:=Int→Int→Int→bO→aL→Bool→Int→Option ((Int)×(Bool))
def oE.nY(dL:oE.eO)(x0 x1 x2:Int)(x3:bO)(bx:aL)(bf:Bool)(bq:Int):Option ((Int)×(Bool)):=
 cond (aX bq (ℓ x3)) (cond (bg bq (ℓ x3)) (cond (aM (γ x3 bq.toNat (0,(0,((false,oZ),())))).1 x1) (cond (bg bq (ℓ x3)) (cond (aM (γ x3 bq.toNat (0,(0,((false,oZ),())))).2.1 x2) (cond (bg bq (ℓ x3)) ((nk N bx (γ x3 bq.toNat (0,(0,((false,oZ),())))).2.2.1).bind λr2=>dL x0 x1 x2 x3 r2 true (W .i64 (bq+1))) none) (dL x0 x1 x2 x3 bx bf (W .i64 (bq+1)))) none) (dL x0 x1 x2 x3 bx bf (W .i64 (bq+1)))) none) (cond (!bf) (some (x0,true)) ((eC N x0).bind λr6=>(nk N bx r6).bind λr7=>(xW N r7).bind λr8=>some (r8.1,r8.2)))
def oE.l3(N:Nat):Nat→oE.eO
 |0,_,_,_,_,_,_,_=>none
 |n+1,x0,x1,x2,x3,bx,bf,bq=>oE.nY N (oE.l3 N n) x0 x1 x2 x3 bx bf bq
def oE.b(N:Nat)(pB:oE.eO)(a0 a1 a2:Int)(a3:bO):Option ((Int)×(Bool)):=
 pB a0 a1 a2 a3 (false,oZ) false 0
def oE(a0 a1 a2:Int)(a3:bO):Option ((Int)×(Bool)):=oE.b N (oE.l3 N N) a0 a1 a2 a3
abbrev dR.abl:=au→bO→au→Int→Int→Int→Int→Option (au×(Bool))
abbrev dR.fg:=au→bO→au→Int→Int→Int→Option (au×(Bool))
abbrev dR.bP:=au→bO→au→Int→Int→Option (au×(Bool))
def dR.Mz(cJ:dR.bP)(e7:dR.fg)(x0:au)(x1:bO)(x6:au)(x7 x8:Int)(x9 bx:Int):Option (au×(Bool)):=
 (oE N bx x8 x9 x1).bind λr5=>cond (!r5.2) (some ([],false)) (cond (!aM r5.1 0) (cond (small (ℓ x6+ℓ ([(x8,(x9,(r5.1,())))]))) (e7 x0 x1 (x6++([(x8,(x9,(r5.1,())))])) x7 x8 (W .i64 (x9+1))) none) (e7 x0 x1 x6 x7 x8 (W .i64 (x9+1))))
def dR.UP(cJ:dR.bP)(e7:dR.fg)(x0:au)(x1:bO)(x6:au)(x7 x8:Int)(x9 bx:Int):Option (au×(Bool)):=dR.Mz N cJ e7 x0 x1 x6 x7 x8 x9 bx
def dR.nR(N:Nat)(Cu:dR.abl)(cJ:dR.bP)(e7:dR.fg)(x0:au)(x1:bO)(x6:au)(x7 x8 x9:Int):Option (au×(Bool)):=
 cond (dy x9 24) (cond (aX x7 (ℓ x0)) (cond (bg x7 (ℓ x0)) (cond (aM (γ x0 x7.toNat aZ).1 x8) (cond (bg x7 (ℓ x0)) (cond (aM (γ x0 x7.toNat aZ).2.1 x9) (cond (bg x7 (ℓ x0)) (Cu x0 x1 x6 (W .i64 (x7+1)) x8 x9 (γ x0 x7.toNat aZ).2.2.1) none) (Cu x0 x1 x6 x7 x8 x9 0)) none) (Cu x0 x1 x6 x7 x8 x9 0)) none) (Cu x0 x1 x6 x7 x8 x9 0)) (cJ x0 x1 x6 x7 (W .i64 (x8+1)))
def dR.l7(N:Nat)(cJ:dR.bP):Nat→dR.fg
 |0,_,_,_,_,_,_=>none
 |n+1,x0,x1,x6,x7,x8,x9=>dR.nR N (dR.UP N cJ (dR.l7 N cJ n)) cJ (dR.l7 N cJ n) x0 x1 x6 x7 x8 x9
def dR.dM(N:Nat)(s7:dR.fg)(cJ:dR.bP)(x0:au)(x1:bO)(x6:au)(x7 x8:Int):Option (au×(Bool)):=
 cond (dy x8 7) (s7 x0 x1 x6 x7 x8 0) (some (x6,true))
def dR.l4(N:Nat):Nat→dR.bP
 |0,_,_,_,_,_=>none
 |n+1,x0,x1,x6,x7,x8=>dR.dM N (dR.l7 N (dR.l4 N n) N) (dR.l4 N n) x0 x1 x6 x7 x8
def dR.b(N:Nat)(e8:dR.bP)(a0:au)(a1:bO):Option (au×(Bool)):=
 e8 a0 a1 ([]) 0 1
def dR(a0:au)(a1:bO):Option (au×(Bool)):=dR.b N (dR.l4 N N) a0 a1
def zt(a0:an)(a1:au)(a2:bO):Option (an×(Int)):=
 (cS N a0.2.2.2.1 a1).bind λr1=>cond (!r1.2) (some ((cn,(cW,(bo,(bo,(di,(du,())))))),2)) ((dR N a0.2.2.1 a2).bind λr2=>cond (!r2.2) (some ((cn,(cW,(bo,(bo,(di,(du,())))))),2)) (some ((a0.1,(a0.2.1,(r2.1,(r1.1,a0.2.2.2.2)))),0)))
def Qm(a0:aR)(a1 a2:Int)(a3 a4 a5:Int):Option (aR×dg):=
 (eC N a5).bind λr1=>(Dw N a1 a2 a3 a4 r1).bind λr2=>(zt N a0.2.2.1 bo r2).bind λr3=>some ((a0.1,(a0.2.1,(r3.1,a0.2.2.2))),(r3.2,c7))
abbrev En.bN:=au→Int→aL→aL→Int→Option aL
def En.dV(bS:En.bN)(x0:au)(x1:Int)(x4 x5:aL)(x6:Int):Option aL:=
 cond (aX x6 (ℓ x0)) (cond (bg x6 (ℓ x0)) (cond (aM (γ x0 x6.toNat aZ).2.1 x1) (cond (bg x6 (ℓ x0)) ((eC N (γ x0 x6.toNat aZ).2.2.1).bind λr3=>(nk N x5 r3).bind λr4=>bS x0 x1 x4 r4 (W .i64 (x6+1))) none) (bS x0 x1 x4 x5 (W .i64 (x6+1)))) none) (some x5)
def En.l5(N:Nat):Nat→En.bN
 |0,_,_,_,_,_=>none
 |n+1,x0,x1,x4,x5,x6=>En.dV N (En.l5 N n) x0 x1 x4 x5 x6
def En.b(fa:En.bN)(a0:au)(a1:Int):Option aL:=
 (AD N a0).bind λr1=>cond (!r1) (some (false,oZ)) (fa a0 a1 (false,oZ) (false,oZ) 0)
def En(a0:au)(a1:Int):Option aL:=En.b N (En.l5 N N) a0 a1
def Uw(N:Nat)(a0:aL):Option Int:=
 cond (aM (ℓ a0.2.1) 0) (some 0) (cond (a0.1) (some (-1)) (some 1))
abbrev Fb.c0:=au→Int→Option Bool
def Fb.fN(dW:Fb.c0)(x0:au)(x3:Int):Option Bool:=
 cond (aX x3 6) ((En N x0 x3).bind λr2=>(Uw N r2).bind λr3=>cond (!aM r3 0) (some false) (dW x0 (W .i64 (x3+1)))) ((AD N x0).bind λr5=>some r5)
def Fb.l2(N:Nat):Nat→Fb.c0
 |0,_,_=>none
 |n+1,x0,x3=>Fb.fN N (Fb.l2 N n) x0 x3
def Fb.b(N:Nat)(gX:Fb.c0)(a0:au):Option Bool:=
 gX a0 0
def Fb(a0:au):Option Bool:=Fb.b N (Fb.l2 N N) a0
def XZ(N:Nat)(a0:Int):Option Bool:=
 cond (dy 1 a0) (some (dy a0 1000000000000)) (some false)
def F99(a0:gb):Option Bool:=
 cond (dy 1 a0.1) (cond (dy a0.1 1099511627776) (cond (dy 1 a0.2.1) (cond (dy a0.2.1 24) (cond (dy 0 a0.2.2.1) (cond (aX a0.2.2.1 6) (cond (aM a0.2.2.2.1 1) (cond (dy 1 a0.2.2.2.2.1) (cond (dy a0.2.2.2.2.1 1000000000) ((XZ N a0.2.2.2.2.2.1).bind λr1=>some r1) (some false)) (some false)) (cond (aM a0.2.2.2.1 2) (cond (dy 1 a0.2.2.2.2.1) (cond (dy a0.2.2.2.2.1 1000000000) ((XZ N a0.2.2.2.2.2.1).bind λr2=>some r2) (some false)) (some false)) (some false))) (some false)) (some false)) (some false)) (some false)) (some false)) (some false)
abbrev AE.bP:=aY→Int→Option Bool
def AE.dM(cJ:AE.bP)(x0:aY)(x3:Int):Option Bool:=
 cond (aX x3 (ℓ x0)) (cond (bg x3 (ℓ x0)) ((F99 N (γ x0 x3.toNat dT)).bind λr2=>cond (!r2) (some false) (cond (aX 0 x3) (cond (bg x3 (ℓ x0)) (let v3:Int:=W .i64 (x3-1);cond (bg v3 (ℓ x0)) (cond (dy (γ x0 x3.toNat dT).1 (γ x0 v3.toNat dT).1) (some false) (cJ x0 (W .i64 (x3+1)))) none) none) (cJ x0 (W .i64 (x3+1))))) none) (some true)
def AE.l4(N:Nat):Nat→AE.bP
 |0,_,_=>none
 |n+1,x0,x3=>AE.dM N (AE.l4 N n) x0 x3
def AE.b(N:Nat)(e8:AE.bP)(a0:aY):Option Bool:=
 cond (aX 32 (ℓ a0)) (some false) (e8 a0 0)
def AE(a0:aY):Option Bool:=AE.b N (AE.l4 N N) a0
abbrev El.bN:=au→aL→aL→Int→Option aL
def El.dV(bS:El.bN)(x0:au)(x2 x3:aL)(x4:Int):Option aL:=
 cond (aX x4 (ℓ x0)) (cond (bg x4 (ℓ x0)) ((eC N (γ x0 x4.toNat aZ).2.2.1).bind λr3=>(nk N x3 r3).bind λr4=>bS x0 x2 r4 (W .i64 (x4+1))) none) (some x3)
def El.l5(N:Nat):Nat→El.bN
 |0,_,_,_,_=>none
 |n+1,x0,x2,x3,x4=>El.dV N (El.l5 N n) x0 x2 x3 x4
def El.b(fa:El.bN)(a0:au):Option aL:=
 (C3 N a0).bind λr1=>cond (!r1) (some (false,oZ)) (fa a0 (false,oZ) (false,oZ) 0)
def El(a0:au):Option aL:=El.b N (El.l5 N N) a0
def F48(a0:an)(a1:Int):Option Bool:=
 (Dc N a0.2.1 a1).bind λr1=>cond (r1.2) (some true) (some (aM a1 0))
def UC(a0:aE)(a1:Int):Option Int:=
 (CB N a0).bind λr1=>cond (!r1) (some 0) ((AF N a0 a1).bind λr2=>some r2)
abbrev gH.s8:=ae→an→Int→Option Bool
abbrev gH.yA:=ae→an→Int→Option Bool
abbrev gH.iQ:=ae→an→Int→Option Bool
abbrev gH.kz:=ae→an→Int→Option Bool
def gH.wY(IY:gH.s8)(x2:ae)(x3:an)(x9:Int):Option Bool:=
 cond (aX x9 (ℓ x3.2.2.2.2.2.1)) (cond (bg x9 (ℓ x3.2.2.2.2.2.1)) ((F48 N x3 (γ x3.2.2.2.2.2.1 x9.toNat dT).2.1).bind λQN=>cond (!QN) (some false) (cond (bg x9 (ℓ x3.2.2.2.2.2.1)) (cond (dy (ℓ x2.1) (γ x3.2.2.2.2.2.1 x9.toNat dT).2.2.1) (some false) (IY x2 x3 (W .i64 (x9+1)))) none)) none) (some true)
def gH.yd(N:Nat):Nat→gH.s8
 |0,_,_,_=>none
 |n+1,x2,x3,x9=>gH.wY N (gH.yd N n) x2 x3 x9
def gH.Fe(IZ:gH.s8)(LD:gH.yA)(x2:ae)(x3:an)(x8:Int):Option Bool:=
 cond (aX x8 (ℓ x3.2.2.2.2.1)) (cond (bg x8 (ℓ x3.2.2.2.2.1)) ((XZ N (γ x3.2.2.2.2.1 x8.toNat 0)).bind λNK=>cond (!NK) (some false) (LD x2 x3 (W .i64 (x8+1)))) none) (IZ x2 x3 0)
def gH.FR(N:Nat):Nat→gH.yA
 |0,_,_,_=>none
 |n+1,x2,x3,x8=>gH.Fe N (gH.yd N N) (gH.FR N n) x2 x3 x8
def gH.mN(QQ:gH.yA)(lC:gH.iQ)(x2:ae)(x3:an)(x7:Int):Option Bool:=
 cond (aX x7 (ℓ x3.2.2.2.1)) (cond (bg x7 (ℓ x3.2.2.2.1)) ((F48 N x3 (γ x3.2.2.2.1 x7.toNat aZ).1).bind λGe=>cond (!Ge) (some false) (cond (bg x7 (ℓ x3.2.2.2.1)) (cond (dy (ℓ x2.1) (γ x3.2.2.2.1 x7.toNat aZ).2.1) (some false) (lC x2 x3 (W .i64 (x7+1)))) none)) none) (QQ x2 x3 0)
def gH.nJ(N:Nat):Nat→gH.iQ
 |0,_,_,_=>none
 |n+1,x2,x3,x7=>gH.mN N (gH.FR N N) (gH.nJ N n) x2 x3 x7
def gH.uU(vk:gH.iQ)(lB:gH.kz)(x2:ae)(x3:an)(x5:Int):Option Bool:=
 cond (aX x5 (ℓ x3.2.2.1)) (cond (bg x5 (ℓ x3.2.2.1)) (cond (aM (γ x3.2.2.1 x5.toNat aZ).1 5) ((F48 N x3 (γ x3.2.2.1 x5.toNat aZ).2.1).bind λr9=>cond (!r9) (some false) (cond (aM (γ x3.2.2.1 x5.toNat aZ).1 6) ((UC N x3.1 (γ x3.2.2.1 x5.toNat aZ).2.1).bind λme=>cond (aM me 0) (some false) (lB x2 x3 (W .i64 (x5+1)))) (cond (aM (γ x3.2.2.1 x5.toNat aZ).1 7) ((UC N x3.1 (γ x3.2.2.1 x5.toNat aZ).2.1).bind λnZ=>cond (aM nZ 0) (some false) (lB x2 x3 (W .i64 (x5+1)))) (lB x2 x3 (W .i64 (x5+1)))))) (cond (aM (γ x3.2.2.1 x5.toNat aZ).1 6) ((UC N x3.1 (γ x3.2.2.1 x5.toNat aZ).2.1).bind λuu=>cond (aM uu 0) (some false) (lB x2 x3 (W .i64 (x5+1)))) (cond (aM (γ x3.2.2.1 x5.toNat aZ).1 7) ((UC N x3.1 (γ x3.2.2.1 x5.toNat aZ).2.1).bind λw1=>cond (aM w1 0) (some false) (lB x2 x3 (W .i64 (x5+1)))) (lB x2 x3 (W .i64 (x5+1)))))) none) (vk x2 x3 0)
def gH.l6(N:Nat):Nat→gH.kz
 |0,_,_,_=>none
 |n+1,x2,x3,x5=>gH.uU N (gH.nJ N N) (gH.l6 N n) x2 x3 x5
def gH.b(yw:gH.kz)(a0:ae)(a1:an):Option Bool:=
 (Ah N a0).bind λr1=>cond (!r1) (some false) ((Dd N a1.1 a1.2.1).bind λr2=>cond (!r2) (some false) ((C3 N a1.2.2.1).bind λr3=>cond (!r3) (some false) ((Fb N a1.2.2.2.1).bind λr4=>cond (!r4) (some false) ((AE N a1.2.2.2.2.2.1).bind λr5=>cond (!r5) (some false) (cond (!aM (ℓ a1.2.2.2.2.1) (ℓ a0.1)) (some false) ((El N a1.2.2.1).bind λr6=>(Uw N r6).bind λr7=>cond (!aM r7 0) (some false) (yw a0 a1 0)))))))
def gH(a0:ae)(a1:an):Option Bool:=gH.b N (gH.l6 N N) a0 a1
def Ac(a0 a1:aL):Option aL:=
 (E8 N a1).bind λr1=>(nk N a0 r1).bind λr2=>some r2
abbrev mO.bN:=au→Int→aE→Int→Option aE
def mO.dV(N:Nat)(bS:mO.bN)(x0:au)(x1:Int)(x5:aE)(x6:Int):Option aE:=
 cond (aX x6 (ℓ x0)) (cond (bg x6 (ℓ x0)) (cond (aM (γ x0 x6.toNat aZ).1 x1) (cond (bg x6 (ℓ x0)) (cond (bg x6 (ℓ x0)) (cond (small (ℓ x5+ℓ ([((γ x0 x6.toNat aZ).2.1,((γ x0 x6.toNat aZ).2.2.1,()))]))) (bS x0 x1 (x5++([((γ x0 x6.toNat aZ).2.1,((γ x0 x6.toNat aZ).2.2.1,()))])) (W .i64 (x6+1))) none) none) none) (bS x0 x1 x5 (W .i64 (x6+1)))) none) (some x5)
def mO.l5(N:Nat):Nat→mO.bN
 |0,_,_,_,_=>none
 |n+1,x0,x1,x5,x6=>mO.dV N (mO.l5 N n) x0 x1 x5 x6
def mO.b(fa:mO.bN)(a0:au)(a1:Int):Option aE:=
 (AD N a0).bind λr1=>cond (!r1) (some ([])) (fa a0 a1 ([]) 0)
def mO(a0:au)(a1:Int):Option aE:=mO.b N (mO.l5 N N) a0 a1
abbrev fx.fg:=aY→Int→au→Int→dg→Int→Option au
abbrev fx.eO:=aY→Int→au→Int→Option au
def fx.nR(N:Nat)(dL:fx.eO)(e7:fx.fg)(x0:aY)(x1:Int)(x5:au)(x6:Int)(x7:dg)(x8:Int):Option au:=
 cond (aX x8 (ℓ x0)) (cond (bg x8 (ℓ x0)) (cond (!aM (γ x0 x8.toNat dT).2.1 x1) (e7 x0 x1 x5 x6 x7 (W .i64 (x8+1))) (cond (bg x8 (ℓ x0)) (cond (!aM (γ x0 x8.toNat dT).2.2.1 x6) (e7 x0 x1 x5 x6 x7 (W .i64 (x8+1))) (cond (bg x8 (ℓ x0)) (cond (aM (γ x0 x8.toNat dT).2.2.2.1 1) (cond (bg x8 (ℓ x0)) (e7 x0 x1 x5 x6 (x7.1,((W .i64 (x7.2.1+((γ x0 x8.toNat dT).2.2.2.2.1))),x7.2.2)) (W .i64 (x8+1))) none) (cond (bg x8 (ℓ x0)) (e7 x0 x1 x5 x6 (x7.1,(x7.2.1,((W .i64 (x7.2.2.1+((γ x0 x8.toNat dT).2.2.2.2.1))),x7.2.2.2))) (W .i64 (x8+1))) none)) none)) none)) none) (cond (aX 0 x7.2.1) (cond (small (ℓ x5+ℓ ([x7]))) (dL x0 x1 (x5++([x7])) (W .i64 (x6+1))) none) (cond (aX 0 x7.2.2.1) (cond (small (ℓ x5+ℓ ([x7]))) (dL x0 x1 (x5++([x7])) (W .i64 (x6+1))) none) (dL x0 x1 x5 (W .i64 (x6+1)))))
def fx.l7(N:Nat)(dL:fx.eO):Nat→fx.fg
 |0,_,_,_,_,_,_=>none
 |n+1,x0,x1,x5,x6,x7,x8=>fx.nR N dL (fx.l7 N dL n) x0 x1 x5 x6 x7 x8
def fx.nY(N:Nat)(s7:fx.fg)(dL:fx.eO)(x0:aY)(x1:Int)(x5:au)(x6:Int):Option au:=
 cond (aX x6 6) (s7 x0 x1 x5 x6 (x6,c7) 0) (some x5)
def fx.l3(N:Nat):Nat→fx.eO
 |0,_,_,_,_=>none
 |n+1,x0,x1,x5,x6=>fx.nY N (fx.l7 N (fx.l3 N n) N) (fx.l3 N n) x0 x1 x5 x6
def fx.b(N:Nat)(pB:fx.eO)(a0:aY)(a1:Int):Option au:=
 pB a0 a1 ([]) 0
def fx(a0:aY)(a1:Int):Option au:=fx.b N (fx.l3 N N) a0 a1
abbrev oC.bP:=aE→ae→Int→Option Bool
def oC.dM(N:Nat)(cJ:oC.bP)(x1:aE)(x2:ae)(x5:Int):Option Bool:=
 cond (aX x5 (ℓ x1)) (cond (bg x5 (ℓ x1)) (cond (aX (γ x1 x5.toNat c7).1 0) (some false) (cond (bg x5 (ℓ x1)) (cond (dy (ℓ x2.1) (γ x1 x5.toNat c7).1) (some false) (cond (bg x5 (ℓ x1)) (cond (aM (γ x1 x5.toNat c7).2.1 0) (some false) (cond (bg x5 (ℓ x1)) (cond (aM (γ x1 x5.toNat c7).2.1 (-9223372036854775808)) (some false) (cond (aX 0 x5) (cond (bg x5 (ℓ x1)) (let v3:Int:=W .i64 (x5-1);cond (bg v3 (ℓ x1)) (cond (dy (γ x1 x5.toNat c7).1 (γ x1 v3.toNat c7).1) (some false) (cJ x1 x2 (W .i64 (x5+1)))) none) none) (cJ x1 x2 (W .i64 (x5+1))))) none)) none)) none)) none) (some true)
def oC.l4(N:Nat):Nat→oC.bP
 |0,_,_,_=>none
 |n+1,x1,x2,x5=>oC.dM N (oC.l4 N n) x1 x2 x5
def oC.b(e8:oC.bP)(a0:ae)(a1:aE):Option Bool:=
 (Ah N a0).bind λr1=>cond (!r1) (some false) (e8 a1 a0 0)
def oC(a0:ae)(a1:aE):Option Bool:=oC.b N (oC.l4 N N) a0 a1
abbrev mP.bN:=au→ae→Int→Int→Option Bool
def mP.dV(N:Nat)(bS:mP.bN)(x1:au)(x2:ae)(x5 x6:Int):Option Bool:=
 cond (aX x6 (ℓ x1)) (cond (bg x6 (ℓ x1)) (cond (aX (γ x1 x6.toNat aZ).1 0) (some false) (cond (dy (ℓ x2.1) (γ x1 x6.toNat aZ).1) (some false) (cond (aX (γ x1 x6.toNat aZ).2.1 0) (some false) (cond (aX x5 (γ x1 x6.toNat aZ).2.1) (some false) (cond (aX (γ x1 x6.toNat aZ).2.2.1 0) (some false) (cond (aX x5 (γ x1 x6.toNat aZ).2.2.1) (some false) (cond (aM (γ x1 x6.toNat aZ).2.1 0) (cond (aM (γ x1 x6.toNat aZ).2.2.1 0) (some false) (cond (aX 0 x6) (let v3:Int:=W .i64 (x6-1);cond (bg v3 (ℓ x1)) (cond (dy (γ x1 x6.toNat aZ).1 (γ x1 v3.toNat aZ).1) (some false) (bS x1 x2 x5 (W .i64 (x6+1)))) none) (bS x1 x2 x5 (W .i64 (x6+1))))) (cond (aX 0 x6) (let v6:Int:=W .i64 (x6-1);cond (bg v6 (ℓ x1)) (cond (dy (γ x1 x6.toNat aZ).1 (γ x1 v6.toNat aZ).1) (some false) (bS x1 x2 x5 (W .i64 (x6+1)))) none) (bS x1 x2 x5 (W .i64 (x6+1))))))))))) none) (some true)
def mP.l5(N:Nat):Nat→mP.bN
 |0,_,_,_,_=>none
 |n+1,x1,x2,x5,x6=>mP.dV N (mP.l5 N n) x1 x2 x5 x6
def mP.b(fa:mP.bN)(a0:ae)(a1:au):Option Bool:=
 (Ah N a0).bind λr1=>cond (!r1) (some false) (fa a1 a0 33000000000 0)
def mP(a0:ae)(a1:au):Option Bool:=mP.b N (mP.l5 N N) a0 a1
def CZ(a0:aL):Option aL:=
 (CY N false a0.2.1).bind λr1=>some r1
def wW(a0 a1:aL):Option Int:=
 (Ac N a0 a1).bind λr1=>(Uw N r1).bind λr2=>some r2
abbrev gE.iQ:=au→Int→aL→aL→aL→aL→Int→Option (aL×(Int))
abbrev gE.fg:=aE→au→Int→aL→aL→aL→aL→Int→Option (aL×(Int))
def gE.mN(lC:gE.iQ)(x2:au)(x3:Int)(x8 bx:aL)(bf bq:aL)(c4:Int):Option (aL×(Int)):=
 cond (aX c4 (ℓ x2)) (cond (bg c4 (ℓ x2)) (cond (aM (γ x2 c4.toNat aZ).1 x3) (cond (bg c4 (ℓ x2)) ((eC N (γ x2 c4.toNat aZ).2.1).bind λr8=>cond (bg c4 (ℓ x2)) ((eC N (γ x2 c4.toNat aZ).2.2.1).bind λr9=>lC x2 x3 x8 bx r8 r9 (W .i64 (c4+1))) none) none) (lC x2 x3 x8 bx bf bq (W .i64 (c4+1)))) none) ((nk N bx bf).bind λnZ=>(CZ N nZ).bind λn0=>(Ac N bx bq).bind λtV=>(CZ N tV).bind λuu=>(wW N uu n0).bind λwz=>cond (aX 0 wz) (some (uu,0)) (some (n0,0)))
def gE.nJ(N:Nat):Nat→gE.iQ
 |0,_,_,_,_,_,_,_=>none
 |n+1,x2,x3,x8,bx,bf,bq,c4=>gE.mN N (gE.nJ N n) x2 x3 x8 bx bf bq c4
def gE.nR(vk:gE.iQ)(e7:gE.fg)(x1:aE)(x2:au)(x3:Int)(x8 bx:aL)(bf bq:aL)(cq:Int):Option (aL×(Int)):=
 cond (aX cq (ℓ x1)) (cond (bg cq (ℓ x1)) (cond (aM (γ x1 cq.toNat c7).1 x3) (cond (bg cq (ℓ x1)) ((eC N (γ x1 cq.toNat c7).2.1).bind λr4=>e7 x1 x2 x3 x8 r4 bf bq (W .i64 (cq+1))) none) (e7 x1 x2 x3 x8 bx bf bq (W .i64 (cq+1)))) none) (vk x2 x3 x8 bx bf bq 0)
def gE.l7(N:Nat):Nat→gE.fg
 |0,_,_,_,_,_,_,_,_=>none
 |n+1,x1,x2,x3,x8,bx,bf,bq,cq=>gE.nR N (gE.nJ N N) (gE.l7 N n) x1 x2 x3 x8 bx bf bq cq
def gE.b(s7:gE.fg)(a0:ae)(a1:aE)(a2:au)(a3:Int):Option (aL×(Int)):=
 (oC N a0 a1).bind λr1=>cond (!r1) (some ((false,oZ),1)) ((mP N a0 a2).bind λr2=>cond (!r2) (some ((false,oZ),1)) (cond (aX a3 0) (some ((false,oZ),3)) (cond (dy (ℓ a0.1) a3) (some ((false,oZ),3)) (s7 a1 a2 a3 (false,oZ) (false,oZ) (false,oZ) (false,oZ) 0))))
def gE(a0:ae)(a1:aE)(a2:au)(a3:Int):Option (aL×(Int)):=gE.b N (gE.l7 N N) a0 a1 a2 a3
abbrev ei.TH:=aL→aL→aL→(List Int)→Int→Int→Int→Option aL
abbrev ei.fg:=aL→aL→aL→(List Int)→Int→Int→Int→Option aL
abbrev ei.eO:=aL→aL→aL→(List Int)→Int→Option aL
def ei.Pe(dL:ei.eO)(e7:ei.fg)(x2 x3 x4:aL)(x5:List Int)(x6 x7 x8:Int):Option aL:=
 let v7:Int:=W .i64 (x6+x8);cond (bg v7 (ℓ x5)) (cond (bg x6 (ℓ x2.2.1)) ((Mm N x3.2.1 x8).bind λr8=>let v11:Int:=W .u64 (x7+(W .u64 ((γ x5 v7.toNat 0)+(W .u64 ((γ x2.2.1 x6.toNat 0)*r8)))));let Vo:Int:=W .i64 (x6+x8);cond (bg Vo (ℓ x5)) (cond (aX 32 0) none (e7 x2 x3 x4 (List.set x5 Vo.toNat (sb .and .u64 v11 4294967295)) x6 (shr .u64 v11 32) (W .i64 (x8+1)))) none) none) none
def ei.j9(dL:ei.eO)(e7:ei.fg)(x2 x3 x4:aL)(x5:List Int)(x6 x7 x8:Int):Option aL:=ei.Pe N dL e7 x2 x3 x4 x5 x6 x7 x8
def ei.nR(N:Nat)(I4:ei.TH)(dL:ei.eO)(e7:ei.fg)(x2 x3 x4:aL)(x5:List Int)(x6 x7 x8:Int):Option aL:=
 cond (aX x8 (ℓ x3.2.1)) (I4 x2 x3 x4 x5 x6 x7 x8) (cond (aX 0 x7) (I4 x2 x3 x4 x5 x6 x7 x8) (dL x2 x3 x4 x5 (W .i64 (x6+1))))
def ei.l7(N:Nat)(dL:ei.eO):Nat→ei.fg
 |0,_,_,_,_,_,_,_=>none
 |n+1,x2,x3,x4,x5,x6,x7,x8=>ei.nR N (ei.j9 N dL (ei.l7 N dL n)) dL (ei.l7 N dL n) x2 x3 x4 x5 x6 x7 x8
def ei.nY(s7:ei.fg)(dL:ei.eO)(x2 x3 x4:aL)(x5:List Int)(x6:Int):Option aL:=
 cond (aX x6 (ℓ x2.2.1)) (s7 x2 x3 x4 x5 x6 0 0) ((CY N (!(oX .bool x2.1 x3.1)) x5).bind λyx=>some yx)
def ei.l3(N:Nat):Nat→ei.eO
 |0,_,_,_,_,_=>none
 |n+1,x2,x3,x4,x5,x6=>ei.nY N (ei.l7 N (ei.l3 N n) N) (ei.l3 N n) x2 x3 x4 x5 x6
def ei.b(N:Nat)(pB:ei.eO)(a0 a1:aL):Option aL:=
 let v2:Int:=W .i64 ((W .i64 ((ℓ a0.2.1:Int)+(ℓ a1.2.1:Int)))+1);cond (kU v2 v2) (pB a0 a1 (false,oZ) (List.replicate v2.toNat 0) 0) none
def ei(a0 a1:aL):Option aL:=ei.b N (ei.l3 N N) a0 a1
abbrev nT.bN:=aE→au→ae→aL→aL→Int→Option (aL×(Int))
def nT.dV(bS:nT.bN)(x1:aE)(x2:au)(x3:ae)(x6 x8:aL)(x9:Int):Option (aL×(Int)):=
 cond (aX x9 (ℓ x3.1)) ((gE N x3 x1 x2 x9).bind λr4=>cond (bg x9 (ℓ x3.1)) ((eC N (γ x3.1 x9.toNat bb).2.2.1).bind λr5=>(ei N r4.1 r5).bind λr6=>(nk N x8 r6).bind λr7=>bS x1 x2 x3 x6 r7 (W .i64 (x9+1))) none) (some (x8,0))
def nT.l5(N:Nat):Nat→nT.bN
 |0,_,_,_,_,_,_=>none
 |n+1,x1,x2,x3,x6,x8,x9=>nT.dV N (nT.l5 N n) x1 x2 x3 x6 x8 x9
def nT.b(fa:nT.bN)(a0:ae)(a1:aE)(a2:au):Option (aL×(Int)):=
 (oC N a0 a1).bind λr1=>cond (!r1) (some ((false,oZ),1)) ((mP N a0 a2).bind λr2=>cond (!r2) (some ((false,oZ),1)) (fa a1 a2 a0 (false,oZ) (false,oZ) 0))
def nT(a0:ae)(a1:aE)(a2:au):Option (aL×(Int)):=nT.b N (nT.l5 N N) a0 a1 a2
def P7(a0:ae)(a1:an)(a2:Int)(a3:aY):Option aL:=
 cond (small (ℓ du+ℓ a1.2.2.2.2.2.1)) (let v1:List ((Int)×((Int)×((Int)×((Int)×((Int)×((Int)×(Unit))))))):=du++a1.2.2.2.2.2.1;cond (small (ℓ v1+ℓ a3)) ((mO N a1.2.2.2.1 a2).bind λr3=>(fx N (v1++a3) a2).bind λr4=>(nT N a0 r3 r4).bind λr5=>some r5.1) none) none
def Xa(a0:ae)(a1:an)(a2 a3:Int):Option (an×(Int)):=
 (gH N a0 a1).bind λr1=>cond (!r1) (some ((cn,(cW,(bo,(bo,(di,(du,())))))),1)) (cond (aX a3 1) (some ((cn,(cW,(bo,(bo,(di,(du,())))))),1)) ((Dc N a1.2.1 a2).bind λr2=>cond (!r2.2) (some ((cn,(cW,(bo,(bo,(di,(du,())))))),3)) ((UC N a1.1 r2.1.2.1).bind λr3=>cond (!aM r3 1) (some ((cn,(cW,(bo,(bo,(di,(du,())))))),7)) ((vn N a1.2.2.1 5 a2).bind λr4=>(eC N r4).bind λr5=>(eC N a3).bind λr6=>(Ac N r5 r6).bind λr7=>(P7 N a0 a1 a2 du).bind λr8=>(wW N r7 r8).bind λr9=>cond (aX r9 0) (some ((cn,(cW,(bo,(bo,(di,(du,())))))),10)) ((eC N a3).bind λme=>(Dw N 5 a2 1 0 me).bind λoI=>(zt N a1 bo oI).bind λnZ=>some (nZ.1,nZ.2))))))
def IA(a0:aR)(a1:Int):Option Int:=
 (UC N a0.2.2.1.1 a1).bind λr1=>some r1
abbrev oK.kb:=Int→Int→aN→Int→Option (aN×(Int))
def oK.Ej(N:Nat)(gK:oK.kb)(x1 x2:Int)(bx:aN)(bf:Int):Option (aN×(Int)):=
 cond (aX bf (ℓ bx)) (cond (bg bf (ℓ bx)) (cond (aM (γ bx bf.toNat bb).1 x1) (cond (bg bf (ℓ bx)) (gK x1 x2 (List.set bx bf.toNat ((γ bx bf.toNat bb).1,((γ bx bf.toNat bb).2.1,((γ bx bf.toNat bb).2.2.1,(x2,(γ bx bf.toNat bb).2.2.2.2))))) (W .i64 (bf+1))) none) (gK x1 x2 bx (W .i64 (bf+1)))) none) (some (bx,0))
def oK.l8(N:Nat):Nat→oK.kb
 |0,_,_,_,_=>none
 |n+1,x1,x2,bx,bf=>oK.Ej N (oK.l8 N n) x1 x2 bx bf
def oK.b(I5:oK.kb)(a0:aN)(a1 a2:Int):Option (aN×(Int)):=
 (m4 N a0).bind λr1=>cond (!r1) (some ([],1)) (cond (aX a2 0) (some ([],1)) (cond (aX 1000000000000 a2) (some ([],1)) ((oU N a0 a1).bind λr2=>cond (!r2.2) (some ([],3)) (cond (small (ℓ cW+ℓ a0)) (I5 a1 a2 (cW++a0) 0) none))))
def oK(a0:aN)(a1 a2:Int):Option (aN×(Int)):=oK.b N (oK.l8 N N) a0 a1 a2
def adB(a0:gb)(a1:Int):Option (aL×(Int)):=
 (F99 N a0).bind λr1=>cond (!r1) (some ((false,oZ),1)) ((XZ N a1).bind λr2=>cond (!r2) (some ((false,oZ),1)) (let v3:Int:=W .i64 (a0.2.2.2.2.2.1-a1);cond (aM a0.2.2.2.1 2) (let v4:Int:=W .i64 (a1-a0.2.2.2.2.2.1);cond (aX v4 0) (some ((false,oZ),0)) ((eC N a0.2.2.2.2.1).bind λr5=>(eC N v4).bind λr6=>(ei N r5 r6).bind λr7=>some (r7,0))) (cond (aX v3 0) (some ((false,oZ),0)) ((eC N a0.2.2.2.2.1).bind λr8=>(eC N v3).bind λr9=>(ei N r8 r9).bind λme=>some (me,0)))))
def aah(a0:ae)(a1:an)(a2:gb):Option Int:=
 (gH N a0 a1).bind λr1=>cond (!r1) (some 1) ((F99 N a2).bind λr2=>cond (!r2) (some 1) ((Dc N a1.2.1 a2.2.1).bind λr3=>cond (!r3.2) (some 3) ((UC N a1.1 r3.1.2.1).bind λr4=>cond (!aM r4 1) (some 7) (cond (dy (ℓ a0.1) a2.2.2.1) (some 3) (cond (small (ℓ du+ℓ a1.2.2.2.2.2.1)) (let v5:List ((Int)×((Int)×((Int)×((Int)×((Int)×((Int)×(Unit))))))):=du++a1.2.2.2.2.2.1;cond (small (ℓ v5+ℓ ([a2]))) ((mO N a1.2.2.2.1 a2.2.1).bind λr7=>(fx N (v5++([a2])) a2.2.1).bind λr8=>(gE N a0 r7 r8 a2.2.2.1).bind λr9=>(eC N r3.1.2.2.2.1).bind λme=>(wW N r9.1 me).bind λoI=>cond (aX 0 oI) (some 9) (cond (bg a2.2.2.1 (ℓ a1.2.2.2.2.1)) ((adB N a2 (γ a1.2.2.2.2.1 a2.2.2.1.toNat 0)).bind λnZ=>(vn N a1.2.2.1 5 a2.2.1).bind λn0=>(eC N n0).bind λtV=>(Ac N tV nZ.1).bind λuu=>(P7 N a0 a1 a2.2.1 ([a2])).bind λwz=>(wW N uu wz).bind λw1=>cond (aX w1 0) (some 10) (some 0)) none)) none) none)))))
def W9(N:Nat)(a0 a1:gb):Option Bool:=
 cond (!aM a0.2.2.2.2.2.1 a1.2.2.2.2.2.1) (some (oX .bool (aX a1.2.2.2.2.2.1 a0.2.2.2.2.2.1) (aM a0.2.2.2.1 1))) (some (aX a0.1 a1.1))
abbrev eu.QP:=aY→Int→Int→aY→Int→Int→Option aY
abbrev eu.lD:=aY→Int→Int→aY→Int→Int→Option aY
abbrev eu.bN:=aY→Int→Int→aY→Int→Option aY
def eu.Du(N:Nat)(bS:eu.bN)(x0:aY)(x1 x2:Int)(x7:aY)(x8 x9:Int):Option aY:=
 cond (jc 0 x9 (ℓ x7) (ℓ x7)) (let v9:List ((Int)×((Int)×((Int)×((Int)×((Int)×((Int)×(Unit))))))):=List.drop (0:Int).toNat (List.take x9.toNat x7);cond (small (ℓ v9)) (cond (bg x8 (ℓ x0)) (cond (small (ℓ v9+ℓ ([γ x0 x8.toNat dT]))) (let v10:List ((Int)×((Int)×((Int)×((Int)×((Int)×((Int)×(Unit))))))):=v9++([γ x0 x8.toNat dT]);cond (jc x9 (ℓ x7) (ℓ x7) (ℓ x7)) (let v11:List ((Int)×((Int)×((Int)×((Int)×((Int)×((Int)×(Unit))))))):=List.drop x9.toNat (List.take (ℓ x7:Int).toNat x7);cond (small (ℓ v10+ℓ v11)) (bS x0 x1 x2 (v10++v11) (W .i64 (x8+1))) none) none) none) none) none) none
def eu.Lg(bS:eu.bN)(x0:aY)(x1 x2:Int)(x7:aY)(x8 x9:Int):Option aY:=eu.Du N bS x0 x1 x2 x7 x8 x9
def eu.uX(EW:eu.QP)(bS:eu.bN)(oW:eu.lD)(x0:aY)(x1 x2:Int)(x7:aY)(x8 x9:Int):Option aY:=
 cond (aX x9 (ℓ x7)) (cond (bg x9 (ℓ x7)) (cond (bg x8 (ℓ x0)) ((W9 N (γ x7 x9.toNat dT) (γ x0 x8.toNat dT)).bind λr6=>cond (r6) (oW x0 x1 x2 x7 x8 (W .i64 (x9+1))) (EW x0 x1 x2 x7 x8 x9)) none) none) (EW x0 x1 x2 x7 x8 x9)
def eu.l9(N:Nat)(bS:eu.bN):Nat→eu.lD
 |0,_,_,_,_,_,_=>none
 |n+1,x0,x1,x2,x7,x8,x9=>eu.uX N (eu.Lg N bS) bS (eu.l9 N bS n) x0 x1 x2 x7 x8 x9
def eu.dV(N:Nat)(yz:eu.lD)(bS:eu.bN)(x0:aY)(x1 x2:Int)(x7:aY)(x8:Int):Option aY:=
 cond (aX x8 (ℓ x0)) (cond (bg x8 (ℓ x0)) (cond (!aM (γ x0 x8.toNat dT).2.2.1 x1) (bS x0 x1 x2 x7 (W .i64 (x8+1))) (cond (bg x8 (ℓ x0)) (cond (!aM (γ x0 x8.toNat dT).2.2.2.1 x2) (bS x0 x1 x2 x7 (W .i64 (x8+1))) (yz x0 x1 x2 x7 x8 0)) none)) none) (some x7)
def eu.l5(N:Nat):Nat→eu.bN
 |0,_,_,_,_,_=>none
 |n+1,x0,x1,x2,x7,x8=>eu.dV N (eu.l9 N (eu.l5 N n) N) (eu.l5 N n) x0 x1 x2 x7 x8
def eu.b(fa:eu.bN)(a0:aY)(a1 a2:Int):Option aY:=
 (AE N a0).bind λr1=>cond (!r1) (some ([])) (fa a0 a1 a2 ([]) 0)
def eu(a0:aY)(a1 a2:Int):Option aY:=eu.b N (eu.l5 N N) a0 a1 a2
abbrev cE.yB:=aY→Int→bE→aY→Int→Option (aY×bE×(Int)×(Int))
abbrev cE.aq1:=aY→Int→bE→Option (aY×bE×(Int)×(Int))
abbrev cE.yC:=gb→aY→Int→bE→aY→Int→Int→Int→Option (aY×bE×(Int)×(Int))
abbrev cE.I6:=gb→aY→Int→bE→aY→Int→Int→kQ→Option (aY×bE×(Int)×(Int))
abbrev cE.LF:=gb→aY→Int→bE→aY→Int→Option (aY×bE×(Int)×(Int))
abbrev cE.fg:=gb→aY→Int→bE→aY→Int→Option (aY×bE×(Int)×(Int))
def cE.Qb(N:Nat)(wO:cE.yB)(x8:aY)(x9:Int)(bx:bE)(fE:aY)(gl:Int):Option (aY×bE×(Int)×(Int)):=
 cond (aX gl (ℓ x8)) (cond (bg gl (ℓ x8)) (cond (aX 0 (γ x8 gl.toNat dT).2.2.2.2.1) (cond (bg gl (ℓ x8)) (cond (small (ℓ fE+ℓ ([γ x8 gl.toNat dT]))) (wO x8 x9 bx (fE++([γ x8 gl.toNat dT])) (W .i64 (gl+1))) none) none) (wO x8 x9 bx fE (W .i64 (gl+1)))) none) (some (fE,bx,x9,0))
def cE.NI(N:Nat):Nat→cE.yB
 |0,_,_,_,_,_=>none
 |n+1,x8,x9,bx,fE,gl=>cE.Qb N (cE.NI N n) x8 x9 bx fE gl
def cE.adJ(N:Nat)(abn:cE.yB)(x8:aY)(x9:Int)(bx:bE):Option (aY×bE×(Int)×(Int)):=
 abn x8 x9 bx ([]) 0
def cE.j22(x8:aY)(x9:Int)(bx:bE):Option (aY×bE×(Int)×(Int)):=cE.adJ N (cE.NI N N) x8 x9 bx
def cE.Fm(N:Nat)(e7:cE.fg)(I8:cE.yC)(x3:gb)(x8:aY)(x9:Int)(bx:bE)(bf:aY)(bq cq eD:Int):Option (aY×bE×(Int)×(Int)):=
 cond (aX eD (ℓ x8)) (cond (bg eD (ℓ x8)) (cond (bg bq (ℓ bf)) (cond (aM (γ x8 eD.toNat dT).1 (γ bf bq.toNat dT).1) (cond (bg eD (ℓ x8)) (cond (bg eD (ℓ x8)) (I8 x3 (List.set x8 eD.toNat ((γ x8 eD.toNat dT).1,((γ x8 eD.toNat dT).2.1,((γ x8 eD.toNat dT).2.2.1,((γ x8 eD.toNat dT).2.2.2.1,((W .i64 ((γ x8 eD.toNat dT).2.2.2.2.1-cq)),(γ x8 eD.toNat dT).2.2.2.2.2)))))) x9 bx bf bq cq (W .i64 (eD+1))) none) none) (I8 x3 x8 x9 bx bf bq cq (W .i64 (eD+1)))) none) none) (e7 x3 x8 x9 bx bf (W .i64 (bq+1)))
def cE.Jr(N:Nat)(e7:cE.fg):Nat→cE.yC
 |0,_,_,_,_,_,_,_,_=>none
 |n+1,x3,x8,x9,bx,bf,bq,cq,eD=>cE.Fm N e7 (cE.Jr N e7 n) x3 x8 x9 bx bf bq cq eD
def cE.w3(N:Nat)(QR:cE.yC)(e7:cE.fg)(x3:gb)(x8:aY)(x9:Int)(bx:bE)(bf:aY)(bq cq:Int)(c4:kQ):Option (aY×bE×(Int)×(Int)):=
 cond (small (ℓ bx+ℓ ([c4]))) (QR x3 x8 (W .i64 (x9-cq)) (bx++([c4])) bf bq cq 0) none
def cE.Dt(e7:cE.fg)(x3:gb)(x8:aY)(x9:Int)(bx:bE)(bf:aY)(bq cq:Int)(c4:kQ):Option (aY×bE×(Int)×(Int)):=cE.w3 N (cE.Jr N e7 N) e7 x3 x8 x9 bx bf bq cq c4
def cE.Df(N:Nat)(wN:cE.I6)(e7:cE.fg)(x3:gb)(x8:aY)(x9:Int)(bx:bE)(bf:aY)(bq:Int):Option (aY×bE×(Int)×(Int)):=
 cond (bg bq (ℓ bf)) (cond (aM (γ bf bq.toNat dT).2.1 x3.2.1) (e7 x3 x8 x9 bx bf (W .i64 (bq+1))) (cond (bg bq (ℓ bf)) (let v14:Int:=mn x9 (γ bf bq.toNat dT).2.2.2.2.1;cond (bg bq (ℓ bf)) (cond (bg bq (ℓ bf)) (cond (aM x3.2.2.2.1 2) (cond (bg bq (ℓ bf)) (wN x3 x8 x9 bx bf bq v14 ((γ bf bq.toNat dT).2.1,(x3.2.1,(x3.2.2.1,(v14,((γ bf bq.toNat dT).2.2.2.2.2.1,())))))) none) (wN x3 x8 x9 bx bf bq v14 (x3.2.1,((γ bf bq.toNat dT).2.1,(x3.2.2.1,(v14,((γ bf bq.toNat dT).2.2.2.2.2.1,()))))))) none) none) none)) none
def cE.JW(e7:cE.fg)(x3:gb)(x8:aY)(x9:Int)(bx:bE)(bf:aY)(bq:Int):Option (aY×bE×(Int)×(Int)):=cE.Df N (cE.Dt N e7) e7 x3 x8 x9 bx bf bq
def cE.nR(N:Nat)(QS:cE.aq1)(yD:cE.LF)(e7:cE.fg)(x3:gb)(x8:aY)(x9:Int)(bx:bE)(bf:aY)(bq:Int):Option (aY×bE×(Int)×(Int)):=
 cond (aX bq (ℓ bf)) (cond (aX 0 x9) (cond (aM x3.2.2.2.1 1) (cond (bg bq (ℓ bf)) (cond (aX x3.2.2.2.2.2.1 (γ bf bq.toNat dT).2.2.2.2.2.1) (QS x8 x9 bx) (cond (aM x3.2.2.2.1 2) (cond (bg bq (ℓ bf)) (cond (aX (γ bf bq.toNat dT).2.2.2.2.2.1 x3.2.2.2.2.2.1) (QS x8 x9 bx) (yD x3 x8 x9 bx bf bq)) none) (yD x3 x8 x9 bx bf bq))) none) (cond (aM x3.2.2.2.1 2) (cond (bg bq (ℓ bf)) (cond (aX (γ bf bq.toNat dT).2.2.2.2.2.1 x3.2.2.2.2.2.1) (QS x8 x9 bx) (yD x3 x8 x9 bx bf bq)) none) (yD x3 x8 x9 bx bf bq))) (QS x8 x9 bx)) (QS x8 x9 bx)
def cE.l7(N:Nat):Nat→cE.fg
 |0,_,_,_,_,_,_=>none
 |n+1,x3,x8,x9,bx,bf,bq=>cE.nR N (cE.j22 N) (cE.JW N (cE.l7 N n)) (cE.l7 N n) x3 x8 x9 bx bf bq
def cE.b(s7:cE.fg)(a0:aY)(a1:gb):Option (aY×bE×(Int)×(Int)):=
 (AE N a0).bind λr1=>cond (!r1) (some ([],[],0,1)) ((F99 N a1).bind λr2=>cond (!r2) (some ([],[],0,1)) (cond (small (ℓ du+ℓ a0)) ((eu N a0 a1.2.2.1 (W .i64 (3-a1.2.2.2.1))).bind λr5=>s7 a1 (du++a0) a1.2.2.2.2.1 ([]) r5 0) none))
def cE(a0:aY)(a1:gb):Option (aY×bE×(Int)×(Int)):=cE.b N (cE.l7 N N) a0 a1
def ZT(a0:kQ):Option Bool:=
 cond (dy 0 a0.1) (cond (dy a0.1 24) (cond (dy 0 a0.2.1) (cond (dy a0.2.1 24) (cond (!aM a0.1 a0.2.1) (cond (dy 0 a0.2.2.1) (cond (aX a0.2.2.1 6) (cond (dy 1 a0.2.2.2.1) (cond (dy a0.2.2.2.1 1000000000) ((XZ N a0.2.2.2.2.1).bind λr1=>some r1) (some false)) (some false)) (some false)) (some false)) (some false)) (some false)) (some false)) (some false)) (some false)
def MD(N:Nat)(a0:Int):Option ((Int)×(Int)):=
 cond (aM a0 0) (some (2,0)) (some (5,a0))
def PH(a0:kQ)(a1:Int):Option (bO×(Int)):=
 (ZT N a0).bind λr1=>cond (!r1) (some ([],1)) ((XZ N a1).bind λr2=>cond (!r2) (some ([],1)) ((eC N (W .i64 (a1-a0.2.2.2.2.1))).bind λr4=>(eC N a0.2.2.2.1).bind λr5=>(ei N r4 r5).bind λr6=>(Uw N r6).bind λr7=>cond (aM r7 0) (some ([],0)) ((MD N a0.1).bind λr8=>(MD N a0.2.1).bind λr9=>(E8 N r6).bind λme=>some ([(r8.1,(r8.2,(r6,()))),(r9.1,(r9.2,(me,())))],0))))
abbrev nS.yE:=bE→ae→an→an→au→bO→Int→Option (an×(Int))
abbrev nS.bP:=bE→ae→an→an→Int→Option (an×(Int))
def nS.yg(Cv:nS.yE)(x2:bE)(x3:ae)(x4 x6:an)(x9:au)(bx:bO)(bf:Int):Option (an×(Int)):=
 cond (aX bf (ℓ x2)) (cond (bg bf (ℓ x2)) ((F48 N x4 (γ x2 bf.toNat gv).1).bind λr6=>cond (!r6) (some ((cn,(cW,(bo,(bo,(di,(du,())))))),3)) ((F48 N x4 (γ x2 bf.toNat gv).2.1).bind λr7=>cond (!r7) (some ((cn,(cW,(bo,(bo,(di,(du,())))))),3)) (cond (dy (ℓ x3.1) (γ x2 bf.toNat gv).2.2.1) (some ((cn,(cW,(bo,(bo,(di,(du,())))))),3)) (let v8:Int:=W .i64 (0-((γ x2 bf.toNat gv).2.2.2.1));cond (small (ℓ x9+ℓ ([((γ x2 bf.toNat gv).1,((γ x2 bf.toNat gv).2.2.1,((γ x2 bf.toNat gv).2.2.2.1,()))),((γ x2 bf.toNat gv).2.1,((γ x2 bf.toNat gv).2.2.1,(v8,())))]))) (cond (bg (γ x2 bf.toNat gv).2.2.1 (ℓ x4.2.2.2.2.1)) ((PH N (γ x2 bf.toNat gv) (γ x4.2.2.2.2.1 (γ x2 bf.toNat gv).2.2.1.toNat 0)).bind λme=>cond (small (ℓ bx+ℓ me.1)) (Cv x2 x3 x4 x6 (x9++([((γ x2 bf.toNat gv).1,((γ x2 bf.toNat gv).2.2.1,((γ x2 bf.toNat gv).2.2.2.1,()))),((γ x2 bf.toNat gv).2.1,((γ x2 bf.toNat gv).2.2.1,(v8,())))])) (bx++me.1) (W .i64 (bf+1))) none) none) none)))) none) ((zt N x4 x9 bx).bind λn0=>some (n0.1,n0.2))
def nS.An(N:Nat):Nat→nS.yE
 |0,_,_,_,_,_,_,_=>none
 |n+1,x2,x3,x4,x6,x9,bx,bf=>nS.yg N (nS.An N n) x2 x3 x4 x6 x9 bx bf
def nS.dM(QT:nS.yE)(cJ:nS.bP)(x2:bE)(x3:ae)(x4 x6:an)(x8:Int):Option (an×(Int)):=
 cond (aX x8 (ℓ x2)) (cond (bg x8 (ℓ x2)) ((ZT N (γ x2 x8.toNat gv)).bind λr3=>cond (!r3) (some ((cn,(cW,(bo,(bo,(di,(du,())))))),1)) (cJ x2 x3 x4 x6 (W .i64 (x8+1)))) none) (QT x2 x3 x4 x6 ([]) ([]) 0)
def nS.l4(N:Nat):Nat→nS.bP
 |0,_,_,_,_,_=>none
 |n+1,x2,x3,x4,x6,x8=>nS.dM N (nS.An N N) (nS.l4 N n) x2 x3 x4 x6 x8
def nS.b(e8:nS.bP)(a0:ae)(a1:an)(a2:bE):Option (an×(Int)):=
 (gH N a0 a1).bind λr1=>cond (!r1) (some ((cn,(cW,(bo,(bo,(di,(du,())))))),1)) (cond (aX 200 (ℓ a2)) (some ((cn,(cW,(bo,(bo,(di,(du,())))))),1)) (e8 a2 a0 a1 (cn,(cW,(bo,(bo,(di,(du,())))))) 0))
def nS(a0:ae)(a1:an)(a2:bE):Option (an×(Int)):=nS.b N (nS.l4 N N) a0 a1 a2
abbrev jZ.LF:=ae→an→gb→an→aY→bE→Int→Option (an×bE×(Int)×(Int))
abbrev jZ.abc:=ae→an→gb→an→Option (an×bE×(Int)×(Int))
def jZ.Df(x3:ae)(x4:an)(x5:gb)(x6:an)(bq:aY)(cq:bE)(c4:Int):Option (an×bE×(Int)×(Int)):=
 (nS N x3 x4 cq).bind λr6=>cond (!aM r6.2 0) (some ((cn,(cW,(bo,(bo,(di,(du,())))))),DQ,0,r6.2)) (cond (aX 0 c4) (cond (small (ℓ bq+ℓ ([(x5.1,(x5.2.1,(x5.2.2.1,(x5.2.2.2.1,(c4,x5.2.2.2.2.2)))))]))) (some ((r6.1.1,(r6.1.2.1,(r6.1.2.2.1,(r6.1.2.2.2.1,(r6.1.2.2.2.2.1,((bq++([(x5.1,(x5.2.1,(x5.2.2.1,(x5.2.2.2.1,(c4,x5.2.2.2.2.2)))))])),r6.1.2.2.2.2.2.2)))))),cq,c4,0)) none) (some ((r6.1.1,(r6.1.2.1,(r6.1.2.2.1,(r6.1.2.2.2.1,(r6.1.2.2.2.2.1,(bq,r6.1.2.2.2.2.2.2)))))),cq,c4,0)))
def jZ.JW(x3:ae)(x4:an)(x5:gb)(x6:an)(bq:aY)(cq:bE)(c4:Int):Option (an×bE×(Int)×(Int)):=jZ.Df N x3 x4 x5 x6 bq cq c4
def jZ.XX(yD:jZ.LF)(x3:ae)(x4:an)(x5:gb)(x6:an):Option (an×bE×(Int)×(Int)):=
 (cE N x4.2.2.2.2.2.1 x5).bind λr4=>cond (aX 0 r4.2.2.1) (cond (aM (ℓ r4.1) 32) (some ((cn,(cW,(bo,(bo,(di,(du,())))))),DQ,0,5)) (yD x3 x4 x5 x6 r4.1 r4.2.1 r4.2.2.1)) (yD x3 x4 x5 x6 r4.1 r4.2.1 r4.2.2.1)
def jZ.j7(x3:ae)(x4:an)(x5:gb)(x6:an):Option (an×bE×(Int)×(Int)):=jZ.XX N (jZ.JW N) x3 x4 x5 x6
def jZ.b(J8:jZ.abc)(a0:ae)(a1:an)(a2:gb):Option (an×bE×(Int)×(Int)):=
 (aah N a0 a1 a2).bind λr1=>cond (!aM r1 0) (some ((cn,(cW,(bo,(bo,(di,(du,())))))),DQ,0,r1)) (cond (aX 0 (ℓ a1.2.2.2.2.2.1)) (let v2:Int:=W .i64 ((ℓ a1.2.2.2.2.2.1:Int)-1);cond (bg v2 (ℓ a1.2.2.2.2.2.1)) (cond (dy a2.1 (γ a1.2.2.2.2.2.1 v2.toNat dT).1) (some ((cn,(cW,(bo,(bo,(di,(du,())))))),DQ,0,1)) (J8 a0 a1 a2 (cn,(cW,(bo,(bo,(di,(du,())))))))) none) (J8 a0 a1 a2 (cn,(cW,(bo,(bo,(di,(du,()))))))))
def jZ(a0:ae)(a1:an)(a2:gb):Option (an×bE×(Int)×(Int)):=jZ.b N (jZ.j7 N) a0 a1 a2
abbrev oM.bN:=aY→Int→Int→aY→Int→Option (aY×(Int))
def oM.dV(N:Nat)(bS:oM.bN)(x0:aY)(x1 x2:Int)(x8:aY)(x9:Int):Option (aY×(Int)):=
 cond (aX x9 (ℓ x0)) (cond (bg x9 (ℓ x0)) (cond (!aM (γ x0 x9.toNat dT).1 x2) (cond (bg x9 (ℓ x0)) (cond (small (ℓ x8+ℓ ([γ x0 x9.toNat dT]))) (bS x0 x1 x2 (x8++([γ x0 x9.toNat dT])) (W .i64 (x9+1))) none) none) (cond (bg x9 (ℓ x0)) (cond (!aM (γ x0 x9.toNat dT).2.1 x1) (cond (bg x9 (ℓ x0)) (cond (small (ℓ x8+ℓ ([γ x0 x9.toNat dT]))) (bS x0 x1 x2 (x8++([γ x0 x9.toNat dT])) (W .i64 (x9+1))) none) none) (bS x0 x1 x2 x8 (W .i64 (x9+1)))) none)) none) (cond (aM (ℓ x8) (ℓ x0)) (some ([],3)) (some (x8,0)))
def oM.l5(N:Nat):Nat→oM.bN
 |0,_,_,_,_,_=>none
 |n+1,x0,x1,x2,x8,x9=>oM.dV N (oM.l5 N n) x0 x1 x2 x8 x9
def oM.b(fa:oM.bN)(a0:aY)(a1 a2:Int):Option (aY×(Int)):=
 (AE N a0).bind λr1=>cond (!r1) (some ([],1)) (fa a0 a1 a2 ([]) 0)
def oM(a0:aY)(a1 a2:Int):Option (aY×(Int)):=oM.b N (oM.l5 N N) a0 a1 a2
abbrev kj.kz:=au→Int→bO→aL→Int→Option (bO×(Int))
def kj.uU(lB:kj.kz)(x0:au)(x1:Int)(bx:bO)(bf:aL)(bq:Int):Option (bO×(Int)):=
 cond (aX bq (ℓ x0)) (cond (bg bq (ℓ x0)) (cond (!aM (γ x0 bq.toNat aZ).2.1 x1) (lB x0 x1 bx bf (W .i64 (bq+1))) ((Uw N bf).bind λr9=>cond (aM r9 0) (lB x0 x1 bx bf (W .i64 (bq+1))) (cond (bg bq (ℓ x0)) ((MD N (γ x0 bq.toNat aZ).1).bind λoI=>cond (bg bq (ℓ x0)) ((eC N (γ x0 bq.toNat aZ).2.2.1).bind λnZ=>(ei N nZ bf).bind λn0=>cond (small (ℓ bx+ℓ ([(oI.1,(oI.2,(n0,())))]))) (lB x0 x1 (bx++([(oI.1,(oI.2,(n0,())))])) bf (W .i64 (bq+1))) none) none) none))) none) (some (bx,0))
def kj.l6(N:Nat):Nat→kj.kz
 |0,_,_,_,_,_=>none
 |n+1,x0,x1,bx,bf,bq=>kj.uU N (kj.l6 N n) x0 x1 bx bf bq
def kj.b(yw:kj.kz)(a0:au)(a1 a2 a3:Int):Option (bO×(Int)):=
 (AD N a0).bind λr1=>cond (!r1) (some ([],1)) ((XZ N a2).bind λr2=>cond (!r2) (some ([],1)) ((XZ N a3).bind λr3=>cond (!r3) (some ([],1)) ((eC N a3).bind λr4=>(eC N a2).bind λr5=>(Ac N r4 r5).bind λr6=>yw a0 a1 ([]) r6 0)))
def kj(a0:au)(a1 a2 a3:Int):Option (bO×(Int)):=kj.b N (kj.l6 N N) a0 a1 a2 a3
def F52(a0:ae)(a1:an)(a2 a3:Int):Option (an×bO×(Int)):=
 (gH N a0 a1).bind λr1=>cond (!r1) (some ((cn,(cW,(bo,(bo,(di,(du,())))))),([]:List ((Int)×((Int)×(((Bool)×((List Int)×(Unit)))×(Unit))))),1)) ((XZ N a3).bind λr2=>cond (!r2) (some ((cn,(cW,(bo,(bo,(di,(du,())))))),([]:List ((Int)×((Int)×(((Bool)×((List Int)×(Unit)))×(Unit))))),1)) (cond (aX a2 0) (some ((cn,(cW,(bo,(bo,(di,(du,())))))),([]:List ((Int)×((Int)×(((Bool)×((List Int)×(Unit)))×(Unit))))),3)) (cond (dy (ℓ a0.1) a2) (some ((cn,(cW,(bo,(bo,(di,(du,())))))),([]:List ((Int)×((Int)×(((Bool)×((List Int)×(Unit)))×(Unit))))),3)) (cond (bg a2 (ℓ a1.2.2.2.2.1)) ((kj N a1.2.2.2.1 a2 (γ a1.2.2.2.2.1 a2.toNat 0) a3).bind λr3=>(zt N a1 bo r3.1).bind λr4=>cond (!aM r4.2 0) (some ((cn,(cW,(bo,(bo,(di,(du,())))))),([]:List ((Int)×((Int)×(((Bool)×((List Int)×(Unit)))×(Unit))))),r4.2)) (cond (small (ℓ di+ℓ a1.2.2.2.2.1)) (let v5:List Int:=di++a1.2.2.2.2.1;cond (bg a2 (ℓ v5)) (some ((r4.1.1,(r4.1.2.1,(r4.1.2.2.1,(r4.1.2.2.2.1,((List.set v5 a2.toNat a3),r4.1.2.2.2.2.2))))),r3.1,0)) none) none)) none))))
abbrev rq.c0:=aE→Int→Option Bool
def rq.fN(N:Nat)(dW:rq.c0)(x0:aE)(x3:Int):Option Bool:=
 cond (aX x3 (ℓ x0)) (cond (bg x3 (ℓ x0)) (cond (aX (γ x0 x3.toNat c7).1 1) (some false) (cond (bg x3 (ℓ x0)) (cond (aX 24 (γ x0 x3.toNat c7).1) (some false) (cond (bg x3 (ℓ x0)) (cond (aM (γ x0 x3.toNat c7).2.1 0) (some false) (cond (aX 0 x3) (cond (bg x3 (ℓ x0)) (let v2:Int:=W .i64 (x3-1);cond (bg v2 (ℓ x0)) (cond (dy (γ x0 x3.toNat c7).1 (γ x0 v2.toNat c7).1) (some false) (dW x0 (W .i64 (x3+1)))) none) none) (dW x0 (W .i64 (x3+1))))) none)) none)) none) (some true)
def rq.l2(N:Nat):Nat→rq.c0
 |0,_,_=>none
 |n+1,x0,x3=>rq.fN N (rq.l2 N n) x0 x3
def rq.b(N:Nat)(gX:rq.c0)(a0:aE):Option Bool:=
 gX a0 0
def rq(a0:aE):Option Bool:=rq.b N (rq.l2 N N) a0
abbrev fB.yF:=aE→bO→aE→Int→aL→Int→Option (aE×(Int))
abbrev fB.lD:=aE→bO→aE→Int→aL→Int→Option (aE×(Int))
abbrev fB.bN:=aE→bO→aE→Int→Option (aE×(Int))
def fB.Ib(bS:fB.bN)(EX:fB.yF)(x0:aE)(x1:bO)(x6:aE)(x7:Int)(x8:aL)(bx:Int):Option (aE×(Int)):=
 cond (aX bx (ℓ x1)) (cond (bg bx (ℓ x1)) (cond (aM (γ x1 bx.toNat (0,(0,((false,oZ),())))).1 5) (cond (bg bx (ℓ x1)) (cond (aM (γ x1 bx.toNat (0,(0,((false,oZ),())))).2.1 x7) (cond (bg bx (ℓ x1)) ((nk N x8 (γ x1 bx.toNat (0,(0,((false,oZ),())))).2.2.1).bind λr8=>EX x0 x1 x6 x7 r8 (W .i64 (bx+1))) none) (EX x0 x1 x6 x7 x8 (W .i64 (bx+1)))) none) (EX x0 x1 x6 x7 x8 (W .i64 (bx+1)))) none) ((xW N x8).bind λnZ=>cond (!nZ.2) (some ([],2)) (cond (!aM nZ.1 0) (cond (small (ℓ x6+ℓ ([(x7,(nZ.1,()))]))) (bS x0 x1 (x6++([(x7,(nZ.1,()))])) (W .i64 (x7+1))) none) (bS x0 x1 x6 (W .i64 (x7+1)))))
def fB.KZ(N:Nat)(bS:fB.bN):Nat→fB.yF
 |0,_,_,_,_,_,_=>none
 |n+1,x0,x1,x6,x7,x8,bx=>fB.Ib N bS (fB.KZ N bS n) x0 x1 x6 x7 x8 bx
def fB.uX(QU:fB.yF)(bS:fB.bN)(oW:fB.lD)(x0:aE)(x1:bO)(x6:aE)(x7:Int)(x8:aL)(x9:Int):Option (aE×(Int)):=
 cond (aX x9 (ℓ x0)) (cond (bg x9 (ℓ x0)) (cond (aM (γ x0 x9.toNat c7).1 x7) (cond (bg x9 (ℓ x0)) ((eC N (γ x0 x9.toNat c7).2.1).bind λr4=>oW x0 x1 x6 x7 r4 (W .i64 (x9+1))) none) (oW x0 x1 x6 x7 x8 (W .i64 (x9+1)))) none) (QU x0 x1 x6 x7 x8 0)
def fB.l9(N:Nat)(bS:fB.bN):Nat→fB.lD
 |0,_,_,_,_,_,_=>none
 |n+1,x0,x1,x6,x7,x8,x9=>fB.uX N (fB.KZ N bS N) bS (fB.l9 N bS n) x0 x1 x6 x7 x8 x9
def fB.dV(N:Nat)(yz:fB.lD)(bS:fB.bN)(x0:aE)(x1:bO)(x6:aE)(x7:Int):Option (aE×(Int)):=
 cond (dy x7 24) (yz x0 x1 x6 x7 (false,oZ) 0) (some (x6,0))
def fB.l5(N:Nat):Nat→fB.bN
 |0,_,_,_,_=>none
 |n+1,x0,x1,x6,x7=>fB.dV N (fB.l9 N (fB.l5 N n) N) (fB.l5 N n) x0 x1 x6 x7
def fB.b(fa:fB.bN)(a0:aE)(a1:bO):Option (aE×(Int)):=
 (rq N a0).bind λr1=>cond (!r1) (some ([],1)) (fa a0 a1 ([]) 1)
def fB(a0:aE)(a1:bO):Option (aE×(Int)):=fB.b N (fB.l5 N N) a0 a1
def Xm(a0:aR)(a1:Int):Option ((Int)×(Bool)):=
 (eC N a0.1).bind λr1=>(eC N a1).bind λr2=>(nk N r1 r2).bind λr3=>(xW N r3).bind λr4=>some (r4.1,r4.2)
def W7(N:Nat)(a0 a1:Int):Option ((Int)×(Bool)):=
 cond (aM a0 0) (cond (aM a1 1) (some (1,true)) (cond (aM a0 1) (cond (aM a1 11) (some (2,true)) (cond (aM a0 2) (cond (aM a1 12) (some (1,true)) (cond (aM a0 2) (cond (aM a1 13) (some (3,true)) (cond (aM a0 3) (cond (aM a1 21) (some (4,true)) (some (0,false))) (some (0,false)))) (cond (aM a0 3) (cond (aM a1 21) (some (4,true)) (some (0,false))) (some (0,false))))) (cond (aM a0 2) (cond (aM a1 13) (some (3,true)) (cond (aM a0 3) (cond (aM a1 21) (some (4,true)) (some (0,false))) (some (0,false)))) (cond (aM a0 3) (cond (aM a1 21) (some (4,true)) (some (0,false))) (some (0,false)))))) (cond (aM a0 2) (cond (aM a1 12) (some (1,true)) (cond (aM a0 2) (cond (aM a1 13) (some (3,true)) (cond (aM a0 3) (cond (aM a1 21) (some (4,true)) (some (0,false))) (some (0,false)))) (cond (aM a0 3) (cond (aM a1 21) (some (4,true)) (some (0,false))) (some (0,false))))) (cond (aM a0 2) (cond (aM a1 13) (some (3,true)) (cond (aM a0 3) (cond (aM a1 21) (some (4,true)) (some (0,false))) (some (0,false)))) (cond (aM a0 3) (cond (aM a1 21) (some (4,true)) (some (0,false))) (some (0,false))))))) (cond (aM a0 1) (cond (aM a1 11) (some (2,true)) (cond (aM a0 2) (cond (aM a1 12) (some (1,true)) (cond (aM a0 2) (cond (aM a1 13) (some (3,true)) (cond (aM a0 3) (cond (aM a1 21) (some (4,true)) (some (0,false))) (some (0,false)))) (cond (aM a0 3) (cond (aM a1 21) (some (4,true)) (some (0,false))) (some (0,false))))) (cond (aM a0 2) (cond (aM a1 13) (some (3,true)) (cond (aM a0 3) (cond (aM a1 21) (some (4,true)) (some (0,false))) (some (0,false)))) (cond (aM a0 3) (cond (aM a1 21) (some (4,true)) (some (0,false))) (some (0,false)))))) (cond (aM a0 2) (cond (aM a1 12) (some (1,true)) (cond (aM a0 2) (cond (aM a1 13) (some (3,true)) (cond (aM a0 3) (cond (aM a1 21) (some (4,true)) (some (0,false))) (some (0,false)))) (cond (aM a0 3) (cond (aM a1 21) (some (4,true)) (some (0,false))) (some (0,false))))) (cond (aM a0 2) (cond (aM a1 13) (some (3,true)) (cond (aM a0 3) (cond (aM a1 21) (some (4,true)) (some (0,false))) (some (0,false)))) (cond (aM a0 3) (cond (aM a1 21) (some (4,true)) (some (0,false))) (some (0,false))))))
abbrev mR.yE:=Int→Int→aE→Int→Option (aE×(Int))
def mR.yg(N:Nat)(Cv:mR.yE)(x1 x9:Int)(bf:aE)(bq:Int):Option (aE×(Int)):=
 cond (aX bq (ℓ bf)) (cond (bg bq (ℓ bf)) (cond (aM (γ bf bq.toNat c7).1 x1) (cond (bg bq (ℓ bf)) (Cv x1 x9 (List.set bf bq.toNat ((γ bf bq.toNat c7).1,(x9,(γ bf bq.toNat c7).2.2))) (W .i64 (bq+1))) none) (Cv x1 x9 bf (W .i64 (bq+1)))) none) (some (bf,0))
def mR.An(N:Nat):Nat→mR.yE
 |0,_,_,_,_=>none
 |n+1,x1,x9,bf,bq=>mR.yg N (mR.An N n) x1 x9 bf bq
def mR.b(QT:mR.yE)(a0:aE)(a1 a2:Int):Option (aE×(Int)):=
 (CB N a0).bind λr1=>cond (!r1) (some ([],1)) ((AF N a0 a1).bind λr2=>cond (aM r2 0) (some ([],3)) ((W7 N r2 a2).bind λr3=>cond (!r3.2) (some ([],8)) (cond (small (ℓ cn+ℓ a0)) (QT a1 r3.1 (cn++a0) 0) none)))
def mR(a0:aE)(a1 a2:Int):Option (aE×(Int)):=mR.b N (mR.An N N) a0 a1 a2
abbrev mS.bN:=aN→Int→(List Int)→Int→Option (List Int)
def mS.dV(N:Nat)(bS:mS.bN)(x0:aN)(x1:Int)(x5:List Int)(x6:Int):Option (List Int):=
 cond (aX x6 (ℓ x0)) (cond (bg x6 (ℓ x0)) (cond (aM (γ x0 x6.toNat bb).2.1 x1) (cond (bg x6 (ℓ x0)) (cond (small (ℓ x5+ℓ ([(γ x0 x6.toNat bb).1]))) (bS x0 x1 (x5++([(γ x0 x6.toNat bb).1])) (W .i64 (x6+1))) none) none) (bS x0 x1 x5 (W .i64 (x6+1)))) none) (some x5)
def mS.l5(N:Nat):Nat→mS.bN
 |0,_,_,_,_=>none
 |n+1,x0,x1,x5,x6=>mS.dV N (mS.l5 N n) x0 x1 x5 x6
def mS.b(fa:mS.bN)(a0:aN)(a1:Int):Option (List Int):=
 (m4 N a0).bind λr1=>cond (!r1) (some ([])) (fa a0 a1 ([]) 0)
def mS(a0:aN)(a1:Int):Option (List Int):=mS.b N (mS.l5 N N) a0 a1
abbrev eV.lD:=aY→(List Int)→aY→Int→Bool→Int→Option aY
abbrev eV.bN:=aY→(List Int)→aY→Int→Option aY
def eV.uX(N:Nat)(bS:eV.bN)(oW:eV.lD)(x0:aY)(x1:List Int)(x5:aY)(x6:Int)(x7:Bool)(x8:Int):Option aY:=
 cond (aX x8 (ℓ x1)) (cond (x7) (oW x0 x1 x5 x6 true (W .i64 (x8+1))) (cond (bg x8 (ℓ x1)) (cond (bg x6 (ℓ x0)) (oW x0 x1 x5 x6 (aM (γ x1 x8.toNat 0) (γ x0 x6.toNat dT).2.1) (W .i64 (x8+1))) none) none)) (cond (!x7) (cond (bg x6 (ℓ x0)) (cond (small (ℓ x5+ℓ ([γ x0 x6.toNat dT]))) (bS x0 x1 (x5++([γ x0 x6.toNat dT])) (W .i64 (x6+1))) none) none) (bS x0 x1 x5 (W .i64 (x6+1))))
def eV.l9(N:Nat)(bS:eV.bN):Nat→eV.lD
 |0,_,_,_,_,_,_=>none
 |n+1,x0,x1,x5,x6,x7,x8=>eV.uX N bS (eV.l9 N bS n) x0 x1 x5 x6 x7 x8
def eV.dV(N:Nat)(yz:eV.lD)(bS:eV.bN)(x0:aY)(x1:List Int)(x5:aY)(x6:Int):Option aY:=
 cond (aX x6 (ℓ x0)) (yz x0 x1 x5 x6 false 0) (some x5)
def eV.l5(N:Nat):Nat→eV.bN
 |0,_,_,_,_=>none
 |n+1,x0,x1,x5,x6=>eV.dV N (eV.l9 N (eV.l5 N n) N) (eV.l5 N n) x0 x1 x5 x6
def eV.b(fa:eV.bN)(a0:aY)(a1:List Int):Option aY:=
 (AE N a0).bind λr1=>cond (!r1) (some ([])) (fa a0 a1 ([]) 0)
def eV(a0:aY)(a1:List Int):Option aY:=eV.b N (eV.l5 N N) a0 a1
def X0(a0:ae)(a1:an)(a2:Int):Option (an×(Int)):=
 (gH N a0 a1).bind λr1=>cond (!r1) (some ((cn,(cW,(bo,(bo,(di,(du,())))))),1)) ((UC N a1.1 a2).bind λr2=>cond (aM r2 0) (some ((cn,(cW,(bo,(bo,(di,(du,())))))),3)) ((mS N a1.2.1 a2).bind λr3=>(eV N a1.2.2.2.2.2.1 r3).bind λr4=>some ((a1.1,(a1.2.1,(a1.2.2.1,(a1.2.2.2.1,(a1.2.2.2.2.1,(r4,a1.2.2.2.2.2.2)))))),0)))
def ZB(N:Nat)(a0:cO):Option Bool:=
 cond (dy 1 a0.1) (cond (dy a0.1 1099511627776) (cond (dy 1 a0.2.1) (cond (dy a0.2.1 1099511627776) (cond (dy 1 a0.2.2.1) (cond (dy a0.2.2.1 12) (cond (dy (-1152921504606846976) a0.2.2.2.1) (some (dy a0.2.2.2.1 1152921504606846976)) (some false)) (some false)) (some false)) (some false)) (some false)) (some false)) (some false)
abbrev fi.lD:=aN→Int→Int→Option Bool
abbrev fi.abj:=aN→Int→Option Bool
abbrev fi.bP:=aN→Int→Option Bool
def fi.uX(N:Nat)(cJ:fi.bP)(oW:fi.lD)(x0:aN)(x3 x4:Int):Option Bool:=
 cond (aX x4 x3) (cond (bg x4 (ℓ x0)) (cond (bg x3 (ℓ x0)) (cond (aM (γ x0 x4.toNat bb).2.2.1 (γ x0 x3.toNat bb).2.2.1) (cond (bg x4 (ℓ x0)) (cond (bg x3 (ℓ x0)) (cond (aM (γ x0 x4.toNat bb).2.1 (γ x0 x3.toNat bb).2.1) (some false) (oW x0 x3 (W .i64 (x4+1)))) none) none) (oW x0 x3 (W .i64 (x4+1)))) none) none) (cJ x0 (W .i64 (x3+1)))
def fi.l9(N:Nat)(cJ:fi.bP):Nat→fi.lD
 |0,_,_,_=>none
 |n+1,x0,x3,x4=>fi.uX N cJ (fi.l9 N cJ n) x0 x3 x4
def fi.ZL(N:Nat)(yz:fi.lD)(cJ:fi.bP)(x0:aN)(x3:Int):Option Bool:=
 yz x0 x3 0
def fi.j8(cJ:fi.bP)(x0:aN)(x3:Int):Option Bool:=fi.ZL N (fi.l9 N cJ N) cJ x0 x3
def fi.dM(QM:fi.abj)(cJ:fi.bP)(x0:aN)(x3:Int):Option Bool:=
 cond (aX x3 (ℓ x0)) (cond (bg x3 (ℓ x0)) ((ZB N (γ x0 x3.toNat bb)).bind λr2=>cond (!r2) (some false) (cond (aX 0 x3) (cond (bg x3 (ℓ x0)) (let v3:Int:=W .i64 (x3-1);cond (bg v3 (ℓ x0)) (cond (dy (γ x0 x3.toNat bb).1 (γ x0 v3.toNat bb).1) (some false) (QM x0 x3)) none) none) (QM x0 x3))) none) (some true)
def fi.l4(N:Nat):Nat→fi.bP
 |0,_,_=>none
 |n+1,x0,x3=>fi.dM N (fi.j8 N (fi.l4 N n)) (fi.l4 N n) x0 x3
def fi.b(N:Nat)(e8:fi.bP)(a0:aN):Option Bool:=
 cond (aX 40 (ℓ a0)) (some false) (e8 a0 0)
def fi(a0:aN):Option Bool:=fi.b N (fi.l4 N N) a0
abbrev qn.bN:=aN→Int→aN→Int→Option aN
def qn.dV(N:Nat)(bS:qn.bN)(x0:aN)(x1:Int)(x5:aN)(x6:Int):Option aN:=
 cond (aX x6 (ℓ x0)) (cond (bg x6 (ℓ x0)) (cond (!aM (γ x0 x6.toNat bb).2.2.1 x1) (cond (bg x6 (ℓ x0)) (cond (small (ℓ x5+ℓ ([γ x0 x6.toNat bb]))) (bS x0 x1 (x5++([γ x0 x6.toNat bb])) (W .i64 (x6+1))) none) none) (bS x0 x1 x5 (W .i64 (x6+1)))) none) (some x5)
def qn.l5(N:Nat):Nat→qn.bN
 |0,_,_,_,_=>none
 |n+1,x0,x1,x5,x6=>qn.dV N (qn.l5 N n) x0 x1 x5 x6
def qn.b(fa:qn.bN)(a0:aN)(a1:Int):Option aN:=
 (fi N a0).bind λr1=>cond (!r1) (some ([])) (fa a0 a1 ([]) 0)
def qn(a0:aN)(a1:Int):Option aN:=qn.b N (qn.l5 N N) a0 a1
def adY(N:Nat)(a0:aR)(a1:Int):Option Bool:=
 cond (aM a1 14) (cond (aM a0.2.2.2.1.2.1 1) (some (aX a0.1 a0.2.2.2.1.2.2.1)) (some false)) (cond (aM a1 15) (cond (aM a0.2.2.2.1.2.1 1) (some (dy a0.2.2.2.1.2.2.1 a0.1)) (some false)) (cond (aM a1 19) (cond (aM a0.2.2.2.1.2.1 3) (some (aX a0.1 a0.2.2.2.1.2.2.1)) (some false)) (cond (aM a1 20) (cond (aM a0.2.2.2.1.2.1 3) (some (dy a0.2.2.2.1.2.2.1 a0.1)) (some false)) (some (aM a0.2.2.2.1.2.1 2)))))
def MV(a0:an)(a1:Int):Option Int:=
 (UC N a0.1 a1).bind λr1=>some r1
abbrev qM.bN:=aE→Bool→ae→aL→aL→Int→Option (aL×(Int))
def qM.dV(bS:qM.bN)(x1:aE)(x2:Bool)(x3:ae)(x6 x8:aL)(x9:Int):Option (aL×(Int)):=
 cond (aX x9 (ℓ x1)) (cond (bg x9 (ℓ x1)) (cond (bg (γ x1 x9.toNat c7).1 (ℓ x3.1)) (cond (x2) (cond (bg x9 (ℓ x1)) (cond (bg (γ x1 x9.toNat c7).1 (ℓ x3.1)) (cond (bg x9 (ℓ x1)) ((eC N (γ x1 x9.toNat c7).2.1).bind λr3=>(CZ N r3).bind λr4=>(eC N (γ x3.1 (γ x1 x9.toNat c7).1.toNat bb).2.2.2.1).bind λr5=>(ei N r4 r5).bind λr6=>(nk N x8 r6).bind λr7=>bS x1 x2 x3 x6 r7 (W .i64 (x9+1))) none) none) none) (cond (bg x9 (ℓ x1)) ((eC N (γ x1 x9.toNat c7).2.1).bind λr9=>(CZ N r9).bind λme=>(eC N (γ x3.1 (γ x1 x9.toNat c7).1.toNat bb).2.2.1).bind λoI=>(ei N me oI).bind λnZ=>(nk N x8 nZ).bind λn0=>bS x1 x2 x3 x6 n0 (W .i64 (x9+1))) none)) none) none) (some (x8,0))
def qM.l5(N:Nat):Nat→qM.bN
 |0,_,_,_,_,_,_=>none
 |n+1,x1,x2,x3,x6,x8,x9=>qM.dV N (qM.l5 N n) x1 x2 x3 x6 x8 x9
def qM.b(fa:qM.bN)(a0:ae)(a1:aE)(a2:Bool):Option (aL×(Int)):=
 (oC N a0 a1).bind λr1=>cond (!r1) (some ((false,oZ),1)) (fa a1 a2 a0 (false,oZ) (false,oZ) 0)
def qM(a0:ae)(a1:aE)(a2:Bool):Option (aL×(Int)):=qM.b N (qM.l5 N N) a0 a1 a2
def aly(a0:ae)(a1:aE):Option (aL×(Int)):=
 (qM N a0 a1 false).bind λr1=>some (r1.1,r1.2)
def Tj(a0:an)(a1:Int):Option Int:=
 (vn N a0.2.2.1 5 a1).bind λr1=>some r1
def adL(a0:ae)(a1:an)(a2 a3 a4:Int):Option Int:=
 (gH N a0 a1).bind λr1=>cond (!r1) (some 1) ((Dc N a1.2.1 a4).bind λr2=>cond (!r2.2) (some 3) ((MV N a1 a2).bind λr3=>cond (aM r3 0) (some 3) ((MV N a1 a3).bind λr4=>cond (aM r4 0) (some 3) (cond (!aM r2.1.2.1 a2) (some 8) (cond (!aM r2.1.2.2.1 2) (some 8) ((MV N a1 a3).bind λr5=>cond (!aM r5 1) (some 7) ((mO N a1.2.2.2.1 a4).bind λr6=>(aly N a0 r6).bind λr7=>(Tj N a1 a4).bind λr8=>(eC N r8).bind λr9=>(wW N r9 r7.1).bind λme=>cond (aX me 0) (some 10) (some 0))))))))
abbrev oL.fT:=Int→Int→aN→Int→Option (aN×(Int))
def oL.lq(N:Nat)(gR:oL.fT)(x2 x3:Int)(cq:aN)(c4:Int):Option (aN×(Int)):=
 cond (aX c4 (ℓ cq)) (cond (bg c4 (ℓ cq)) (cond (aM (γ cq c4.toNat bb).1 x2) (cond (bg c4 (ℓ cq)) (gR x2 x3 (List.set cq c4.toNat ((γ cq c4.toNat bb).1,(x3,(γ cq c4.toNat bb).2.2))) (W .i64 (c4+1))) none) (gR x2 x3 cq (W .i64 (c4+1)))) none) (some (cq,0))
def oL.mw(N:Nat):Nat→oL.fT
 |0,_,_,_,_=>none
 |n+1,x2,x3,cq,c4=>oL.lq N (oL.mw N n) x2 x3 cq c4
def oL.b(s9:oL.fT)(a0:aE)(a1:aN)(a2 a3:Int):Option (aN×(Int)):=
 (Dd N a0 a1).bind λr1=>cond (!r1) (some ([],1)) ((oU N a1 a2).bind λr2=>(AF N a0 a3).bind λr3=>cond (!r2.2) (some ([],3)) (cond (aM r3 0) (some ([],3)) (cond (!aM r2.1.2.2.1 2) (some ([],8)) (cond (!aM r3 1) (some ([],7)) (cond (small (ℓ cW+ℓ a1)) (s9 a2 a3 (cW++a1) 0) none)))))
def oL(a0:aE)(a1:aN)(a2 a3:Int):Option (aN×(Int)):=oL.b N (oL.mw N N) a0 a1 a2 a3
def Xb(a0:ae)(a1:an)(a2 a3 a4:Int):Option (an×(Int)):=
 (adL N a0 a1 a2 a3 a4).bind λr1=>cond (!aM r1 0) (some ((cn,(cW,(bo,(bo,(di,(du,())))))),r1)) ((oL N a1.1 a1.2.1 a4 a3).bind λr2=>cond (!aM r2.2 0) (some ((cn,(cW,(bo,(bo,(di,(du,())))))),r2.2)) (some ((a1.1,(r2.1,a1.2.2)),0)))
def aax(a0:ae)(a1:aE):Option (aL×(Int)):=
 (qM N a0 a1 true).bind λr1=>some (r1.1,r1.2)
def adV(a0:ae)(a1:an)(a2:Int):Option ((Int)×(Int)):=
 (gH N a0 a1).bind λr1=>cond (!r1) (some (0,1)) ((Dc N a1.2.1 a2).bind λr2=>cond (!r2.2) (some (0,3)) ((mO N a1.2.2.2.1 a2).bind λr3=>(aax N a0 r3).bind λr4=>(Tj N a1 a2).bind λr5=>cond (dy r5 0) (some (0,0)) ((xW N r4.1).bind λr6=>cond (r6.2) (cond (aX r6.1 r5) (some (r6.1,0)) (some (r5,0))) (some (r5,0)))))
abbrev nU.bN:=au→Int→Int→au→Int→Option au
def nU.dV(N:Nat)(bS:nU.bN)(x0:au)(x1 x2:Int)(x7:au)(x8:Int):Option au:=
 cond (aX x8 (ℓ x0)) (cond (bg x8 (ℓ x0)) (cond (aM (γ x0 x8.toNat aZ).1 x1) (cond (bg x8 (ℓ x0)) (cond (bg x8 (ℓ x0)) (let v3:Int:=W .i64 (0-((γ x0 x8.toNat aZ).2.2.1));cond (bg x8 (ℓ x0)) (cond (bg x8 (ℓ x0)) (cond (small (ℓ x7+ℓ ([(x1,((γ x0 x8.toNat aZ).2.1,(v3,()))),(x2,((γ x0 x8.toNat aZ).2.1,((γ x0 x8.toNat aZ).2.2.1,())))]))) (bS x0 x1 x2 (x7++([(x1,((γ x0 x8.toNat aZ).2.1,(v3,()))),(x2,((γ x0 x8.toNat aZ).2.1,((γ x0 x8.toNat aZ).2.2.1,())))])) (W .i64 (x8+1))) none) none) none) none) none) (bS x0 x1 x2 x7 (W .i64 (x8+1)))) none) (some x7)
def nU.l5(N:Nat):Nat→nU.bN
 |0,_,_,_,_,_=>none
 |n+1,x0,x1,x2,x7,x8=>nU.dV N (nU.l5 N n) x0 x1 x2 x7 x8
def nU.b(fa:nU.bN)(a0:au)(a1 a2:Int):Option au:=
 (AD N a0).bind λr1=>cond (!r1) (some ([])) (cond (aM a1 a2) (some ([])) (cond (aX a1 0) (some ([])) (cond (aX 24 a1) (some ([])) (cond (aX a2 0) (some ([])) (cond (aX 24 a2) (some ([])) (fa a0 a1 a2 ([]) 0))))))
def nU(a0:au)(a1 a2:Int):Option au:=nU.b N (nU.l5 N N) a0 a1 a2
abbrev hZ.I6:=Int→ae→an→an→au→bO→Int→cO→Option (an×(Int))
abbrev hZ.kb:=Int→ae→an→an→au→bO→Int→Option (an×(Int))
def hZ.w3(gK:hZ.kb)(x2:Int)(x3:ae)(x4 x6:an)(x8:au)(x9:bO)(bx:Int)(bf:cO):Option (an×(Int)):=
 (Tj N x4 bf.1).bind λme=>cond (aX me 0) ((eC N me).bind λoI=>(E8 N oI).bind λnZ=>(Dw N 2 0 5 bf.1 nZ).bind λn0=>cond (small (ℓ x9+ℓ n0)) ((nU N x4.2.2.2.1 bf.1 0).bind λuu=>cond (small (ℓ x8+ℓ uu)) (gK x2 x3 x4 x6 (x8++uu) (x9++n0) (W .i64 (bx+1))) none) none) ((nU N x4.2.2.2.1 bf.1 0).bind λyx=>cond (small (ℓ x8+ℓ yx)) (gK x2 x3 x4 x6 (x8++yx) x9 (W .i64 (bx+1))) none)
def hZ.Dt(gK:hZ.kb)(x2:Int)(x3:ae)(x4 x6:an)(x8:au)(x9:bO)(bx:Int)(bf:cO):Option (an×(Int)):=hZ.w3 N gK x2 x3 x4 x6 x8 x9 bx bf
def hZ.Ej(wN:hZ.I6)(gK:hZ.kb)(x2:Int)(x3:ae)(x4 x6:an)(x8:au)(x9:bO)(bx:Int):Option (an×(Int)):=
 cond (aX bx (ℓ x4.2.1)) (cond (bg bx (ℓ x4.2.1)) (cond (!aM (γ x4.2.1 bx.toNat bb).2.1 x2) (gK x2 x3 x4 x6 x8 x9 (W .i64 (bx+1))) (cond (aM (γ x4.2.1 bx.toNat bb).2.2.1 2) ((adV N x3 x4 (γ x4.2.1 bx.toNat bb).1).bind λr5=>(eC N r5.1).bind λr6=>(Dw N 5 (γ x4.2.1 bx.toNat bb).1 2 0 r6).bind λr7=>cond (small (ℓ x9+ℓ r7)) (wN x2 x3 x4 x6 x8 (x9++r7) bx (γ x4.2.1 bx.toNat bb)) none) (wN x2 x3 x4 x6 x8 x9 bx (γ x4.2.1 bx.toNat bb)))) none) ((zt N x4 x8 x9).bind λGe=>some (Ge.1,Ge.2))
def hZ.l8(N:Nat):Nat→hZ.kb
 |0,_,_,_,_,_,_,_=>none
 |n+1,x2,x3,x4,x6,x8,x9,bx=>hZ.Ej N (hZ.Dt N (hZ.l8 N n)) (hZ.l8 N n) x2 x3 x4 x6 x8 x9 bx
def hZ.b(I5:hZ.kb)(a0:ae)(a1:an)(a2:Int):Option (an×(Int)):=
 (gH N a0 a1).bind λr1=>cond (!r1) (some ((cn,(cW,(bo,(bo,(di,(du,())))))),1)) ((MV N a1 a2).bind λr2=>cond (aM r2 0) (some ((cn,(cW,(bo,(bo,(di,(du,())))))),3)) (I5 a2 a0 a1 (cn,(cW,(bo,(bo,(di,(du,())))))) ([]) ([]) 0))
def hZ(a0:ae)(a1:an)(a2:Int):Option (an×(Int)):=hZ.b N (hZ.l8 N N) a0 a1 a2
abbrev sM.bN:=ae→an→qm→Int→Option (qm×(Int))
def sM.dV(bS:sM.bN)(x2:ae)(x3:an)(x6:qm)(x7:Int):Option (qm×(Int)):=
 cond (aX x7 (ℓ x2.1)) (cond (bg x7 (ℓ x2.1)) (cond (bg (γ x2.1 x7.toNat bb).1 (ℓ x6)) ((CC N x3.2.2.2.1 0 x7).bind λr4=>(eC N r4).bind λr5=>cond (bg x7 (ℓ x3.2.2.2.2.1)) ((eC N (γ x3.2.2.2.2.1 x7.toNat 0)).bind λr6=>(ei N r5 r6).bind λr7=>(nk N (γ x6 (γ x2.1 x7.toNat bb).1.toNat (false,oZ)) r7).bind λr8=>cond (bg (γ x2.1 x7.toNat bb).1 (ℓ x6)) (bS x2 x3 (List.set x6 (γ x2.1 x7.toNat bb).1.toNat r8) (W .i64 (x7+1))) none) none) none) none) (some (x6,0))
def sM.l5(N:Nat):Nat→sM.bN
 |0,_,_,_,_=>none
 |n+1,x2,x3,x6,x7=>sM.dV N (sM.l5 N n) x2 x3 x6 x7
def sM.b(fa:sM.bN)(a0:ae)(a1:an):Option (qm×(Int)):=
 (gH N a0 a1).bind λr1=>cond (!r1) (some ([],1)) (cond (kU 4 4) (fa a0 a1 (List.replicate (4:Int).toNat (false,oZ)) 0) none)
def sM(a0:ae)(a1:an):Option (qm×(Int)):=sM.b N (sM.l5 N N) a0 a1
abbrev qh.bN:=Int→ae→(List Int)→Int→Option (List Int)
def qh.dV(N:Nat)(bS:qh.bN)(x1:Int)(x2:ae)(x5:List Int)(x6:Int):Option (List Int):=
 cond (aX x6 (ℓ x2.1)) (cond (bg x6 (ℓ x2.1)) (cond (aM (γ x2.1 x6.toNat bb).1 x1) (cond (small (ℓ x5+ℓ ([x6]))) (bS x1 x2 (x5++([x6])) (W .i64 (x6+1))) none) (bS x1 x2 x5 (W .i64 (x6+1)))) none) (some x5)
def qh.l5(N:Nat):Nat→qh.bN
 |0,_,_,_,_=>none
 |n+1,x1,x2,x5,x6=>qh.dV N (qh.l5 N n) x1 x2 x5 x6
def qh.b(fa:qh.bN)(a0:ae)(a1:Int):Option (List Int):=
 (Ah N a0).bind λr1=>cond (!r1) (some ([])) (fa a1 a0 ([]) 0)
def qh(a0:ae)(a1:Int):Option (List Int):=qh.b N (qh.l5 N N) a0 a1
abbrev qC.bP:=(List Int)→(List Int)→Int→Int→Option ((List Int)×(Int))
def qC.dM(cJ:qC.bP)(x0 x4:List Int)(x5 x6:Int):Option ((List Int)×(Int)):=
 cond (dy 0 x6) (cond (aX 32 0) none (cond (bg x6 (ℓ x0)) (let v5:Int:=sb .or .u64 (W .u64 (shl .u64 x5 32)) (γ x0 x6.toNat 0);cond (aX 1 0) none (cond (bg x6 (ℓ x4)) (cJ x0 (List.set x4 x6.toNat (shr .u64 v5 1)) (sb .and .u64 v5 1) (W .i64 (x6-1))) none)) none)) ((pd N x4).bind λme=>some (me,x5))
def qC.l4(N:Nat):Nat→qC.bP
 |0,_,_,_,_=>none
 |n+1,x0,x4,x5,x6=>qC.dM N (qC.l4 N n) x0 x4 x5 x6
def qC.b(N:Nat)(e8:qC.bP)(a0:List Int):Option ((List Int)×(Int)):=
 cond (kU (ℓ a0) (ℓ a0)) (e8 a0 (List.replicate (ℓ a0:Int).toNat 0) 0 (W .i64 ((ℓ a0:Int)-1))) none
def qC(a0:List Int):Option ((List Int)×(Int)):=qC.b N (qC.l4 N N) a0
abbrev jg.lD:=aL→aL→aL→aL→(List Int)→aL→aL→Int→Option (aL×aL)
abbrev jg.eO:=aL→aL→aL→aL→(List Int)→(List Int)→Option (aL×aL)
def jg.uX(oW:jg.lD)(x2 x3:aL)(x4 x5:aL)(x6:List Int)(bx bf:aL)(bq:Int):Option (aL×aL):=
 cond (dy 0 bq) ((nk N bx bx).bind λr6=>(nk N bf bf).bind λr7=>cond (bg bq (ℓ x6)) (cond (aM (γ x6 bq.toNat 0) 1) ((eC N 1).bind λr8=>(nk N r7 r8).bind λr9=>(wW N r9 x3).bind λme=>cond (dy 0 me) ((Ac N r9 x3).bind λoI=>(eC N 1).bind λnZ=>(nk N r6 nZ).bind λn0=>oW x2 x3 x4 x5 x6 n0 oI (W .i64 (bq-1))) (oW x2 x3 x4 x5 x6 r6 r9 (W .i64 (bq-1)))) ((wW N r7 x3).bind λwz=>cond (dy 0 wz) ((Ac N r7 x3).bind λw1=>(eC N 1).bind λyx=>(nk N r6 yx).bind λQV=>oW x2 x3 x4 x5 x6 QV w1 (W .i64 (bq-1))) (oW x2 x3 x4 x5 x6 r6 r7 (W .i64 (bq-1))))) none) (cond (!x2.1) (some (bx,bf)) ((Uw N bf).bind λNo=>cond (aM No 0) ((E8 N bx).bind λET=>some (ET,bf)) ((E8 N bx).bind λNK=>(eC N 1).bind λJu=>(Ac N NK Ju).bind λEV=>(Ac N x3 bf).bind λQN=>some (EV,QN))))
def jg.l9(N:Nat):Nat→jg.lD
 |0,_,_,_,_,_,_,_,_=>none
 |n+1,x2,x3,x4,x5,x6,bx,bf,bq=>jg.uX N (jg.l9 N n) x2 x3 x4 x5 x6 bx bf bq
def jg.nY(yz:jg.lD)(dL:jg.eO)(x2 x3:aL)(x4 x5:aL)(x6 x7:List Int):Option (aL×aL):=
 cond (aX 0 (ℓ x7)) ((qC N x7).bind λr2=>cond (small (ℓ x6+ℓ ([r2.2]))) (dL x2 x3 x4 x5 (x6++([r2.2])) r2.1) none) (yz x2 x3 x4 x5 x6 (false,oZ) (false,oZ) (W .i64 ((ℓ x6:Int)-1)))
def jg.l3(N:Nat):Nat→jg.eO
 |0,_,_,_,_,_,_=>none
 |n+1,x2,x3,x4,x5,x6,x7=>jg.nY N (jg.l9 N N) (jg.l3 N n) x2 x3 x4 x5 x6 x7
def jg.b(N:Nat)(pB:jg.eO)(a0 a1:aL):Option (aL×aL):=
 pB a0 a1 (false,oZ) (false,oZ) ([]) a0.2.1
def jg(a0 a1:aL):Option (aL×aL):=jg.b N (jg.l3 N N) a0 a1
abbrev jJ.I6:=Int→ae→an→qm→aN→Int→(List Int)→Int→Option (aN×(Int))
abbrev jJ.kz:=Int→ae→an→qm→aN→Int→Option (aN×(Int))
def jJ.w3(lB:jJ.kz)(x2:Int)(x3:ae)(x4:an)(x8:qm)(bx:aN)(bf:Int)(bq:List Int)(fE:Int):Option (aN×(Int)):=
 cond (aM fE 0) (lB x2 x3 x4 x8 bx (W .i64 (bf+1))) (cond (bg 0 (ℓ bq)) (cond (bg bf (ℓ x8)) ((Uw N (γ x8 bf.toNat (false,oZ))).bind λtV=>cond (aX 0 tV) (cond (small (ℓ bx+ℓ ([(x2,(γ bq (0:Int).toNat 0,(2,(fE,()))))]))) (lB (W .i64 (x2+1)) x3 x4 x8 (bx++([(x2,(γ bq (0:Int).toNat 0,(2,(fE,()))))])) (W .i64 (bf+1))) none) (cond (small (ℓ bx+ℓ ([(x2,(γ bq (0:Int).toNat 0,(1,(fE,()))))]))) (lB (W .i64 (x2+1)) x3 x4 x8 (bx++([(x2,(γ bq (0:Int).toNat 0,(1,(fE,()))))])) (W .i64 (bf+1))) none)) none) none)
def jJ.Dt(lB:jJ.kz)(x2:Int)(x3:ae)(x4:an)(x8:qm)(bx:aN)(bf:Int)(bq:List Int)(fE:Int):Option (aN×(Int)):=jJ.w3 N lB x2 x3 x4 x8 bx bf bq fE
def jJ.uU(wN:jJ.I6)(lB:jJ.kz)(x2:Int)(x3:ae)(x4:an)(x8:qm)(bx:aN)(bf:Int):Option (aN×(Int)):=
 cond (aX bf 4) ((qh N x3 bf).bind λr3=>cond (bg bf (ℓ x8)) ((CZ N (γ x8 bf.toNat (false,oZ))).bind λr4=>cond (aM (ℓ r3) 0) (lB x2 x3 x4 x8 bx (W .i64 (bf+1))) ((eC N x3.2.2.2.2.2.2.1).bind λr6=>(wW N r4 r6).bind λr7=>cond (dy r7 0) (lB x2 x3 x4 x8 bx (W .i64 (bf+1))) (cond (bg 0 (ℓ r3)) (cond (bg (γ r3 (0:Int).toNat 0) (ℓ x4.2.2.2.2.1)) ((eC N (γ x4.2.2.2.2.1 (γ r3 (0:Int).toNat 0).toNat 0)).bind λr9=>(jg N r4 r9).bind λme=>(xW N me.1).bind λoI=>cond (!oI.2) (wN x2 x3 x4 x8 bx bf r3 1000000000) (cond (aX 1000000000 oI.1) (wN x2 x3 x4 x8 bx bf r3 1000000000) (wN x2 x3 x4 x8 bx bf r3 oI.1))) none) none))) none) (some (bx,0))
def jJ.l6(N:Nat):Nat→jJ.kz
 |0,_,_,_,_,_,_=>none
 |n+1,x2,x3,x4,x8,bx,bf=>jJ.uU N (jJ.Dt N (jJ.l6 N n)) (jJ.l6 N n) x2 x3 x4 x8 bx bf
def jJ.b(yw:jJ.kz)(a0:ae)(a1:an)(a2:Int):Option (aN×(Int)):=
 (sM N a0 a1).bind λr1=>cond (!aM r1.2 0) (some ([],1)) (cond (aX a2 1) (some ([],1)) (cond (aX 1099511627772 a2) (some ([],1)) (yw a2 a0 a1 r1.1 ([]) 0)))
def jJ(a0:ae)(a1:an)(a2:Int):Option (aN×(Int)):=jJ.b N (jJ.l6 N N) a0 a1 a2
def adu(N:Nat)(a0:cO):Option Bool:=
 cond (dy 1 a0.1) (cond (dy a0.1 1099511627776) (cond (dy 0 a0.2.1) (cond (aX a0.2.1 6) (cond (aM a0.2.2.1 1) (cond (dy 1 a0.2.2.2.1) (some (dy a0.2.2.2.1 1000000000)) (some false)) (cond (aM a0.2.2.1 2) (cond (dy 1 a0.2.2.2.1) (some (dy a0.2.2.2.1 1000000000)) (some false)) (some false))) (some false)) (some false)) (some false)) (some false)
abbrev qL.aq2:=Int→ae→an→cO→an→cO→kQ→Option (an×cO×(Int))
def qL.adC(x4:Int)(x6:ae)(x7:an)(x8:cO)(bq:an)(cq:cO)(gl:kQ):Option (an×cO×(Int)):=
 (nS N x6 x7 ([gl])).bind λr6=>cond (!aM r6.2 0) (some ((cn,(cW,(bo,(bo,(di,(du,())))))),bb,r6.2)) (some (r6.1,(x8.1,(x8.2.1,(x8.2.2.1,((W .i64 (x8.2.2.2.1-x4)),x8.2.2.2.2)))),0))
def qL.j14(x4:Int)(x6:ae)(x7:an)(x8:cO)(bq:an)(cq:cO)(gl:kQ):Option (an×cO×(Int)):=qL.adC N x4 x6 x7 x8 bq cq gl
def qL.b(ajj:qL.aq2)(a0:ae)(a1:an)(a2:cO)(a3 a4 a5:Int):Option (an×cO×(Int)):=
 (gH N a0 a1).bind λr1=>cond (!r1) (some ((cn,(cW,(bo,(bo,(di,(du,())))))),bb,1)) ((adu N a2).bind λr2=>cond (!r2) (some ((cn,(cW,(bo,(bo,(di,(du,())))))),bb,1)) (cond (aX a4 1) (some ((cn,(cW,(bo,(bo,(di,(du,())))))),bb,1)) (cond (aX 1000000000 a4) (some ((cn,(cW,(bo,(bo,(di,(du,())))))),bb,1)) (cond (aX a5 1) (some ((cn,(cW,(bo,(bo,(di,(du,())))))),bb,1)) (cond (aX 1000000000000 a5) (some ((cn,(cW,(bo,(bo,(di,(du,())))))),bb,1)) (cond (aX a2.2.2.2.1 a4) (some ((cn,(cW,(bo,(bo,(di,(du,())))))),bb,9)) (cond (aX a3 1) (some ((cn,(cW,(bo,(bo,(di,(du,())))))),bb,1)) (cond (aX 24 a3) (some ((cn,(cW,(bo,(bo,(di,(du,())))))),bb,1)) ((aah N a0 a1 (a2.1,(a3,(a2.2.1,((W .i64 (3-a2.2.2.1)),(a4,(a5,()))))))).bind λr4=>cond (!aM r4 0) (some ((cn,(cW,(bo,(bo,(di,(du,())))))),bb,r4)) (cond (aM a2.2.2.1 2) (ajj a4 a0 a1 a2 (cn,(cW,(bo,(bo,(di,(du,())))))) bb (a3,(0,(a2.2.1,(a4,(a5,())))))) (ajj a4 a0 a1 a2 (cn,(cW,(bo,(bo,(di,(du,())))))) bb (0,(a3,(a2.2.1,(a4,(a5,()))))))))))))))))
def qL(a0:ae)(a1:an)(a2:cO)(a3 a4 a5:Int):Option (an×cO×(Int)):=qL.b N (qL.j14 N) a0 a1 a2 a3 a4 a5
abbrev oO.bN:=ae→aR→iE→aR→dg→aN→Bool→Int→Int→Option (aR×dg)
def oO.dV(bS:oO.bN)(x3:ae)(x4:aR)(x5:iE)(x6:aR)(x7:dg)(x8:aN)(x9:Bool)(bx bf:Int):Option (aR×dg):=
 cond (aX bf (ℓ x4.2.2.2.1.2.2.2.2.1)) (cond (bg bf (ℓ x4.2.2.2.1.2.2.2.2.1)) (cond (aM (γ x4.2.2.2.1.2.2.2.2.1 bf.toNat bb).1 x5.2.2.2.2.2.1) ((qL N x3 x4.2.2.1 (γ x4.2.2.2.1.2.2.2.2.1 bf.toNat bb) x5.2.2.1 x5.2.2.2.2.2.2.1 x5.2.2.2.2.2.2.2.1).bind λr2=>cond (!aM r2.2.2 0) ((gj N r2.2.2).bind λr3=>some (x4,r3)) (cond (aX 0 r2.2.1.2.2.2.1) (cond (small (ℓ x8+ℓ ([r2.2.1]))) (bS x3 (x4.1,(x4.2.1,(r2.1,x4.2.2.2))) x5 x6 x7 (x8++([r2.2.1])) true r2.2.1.2.2.2.1 (W .i64 (bf+1))) none) (bS x3 (x4.1,(x4.2.1,(r2.1,x4.2.2.2))) x5 x6 x7 x8 true r2.2.1.2.2.2.1 (W .i64 (bf+1))))) (cond (aX 0 (γ x4.2.2.2.1.2.2.2.2.1 bf.toNat bb).2.2.2.1) (cond (small (ℓ x8+ℓ ([γ x4.2.2.2.1.2.2.2.2.1 bf.toNat bb]))) (bS x3 x4 x5 x6 x7 (x8++([γ x4.2.2.2.1.2.2.2.2.1 bf.toNat bb])) x9 bx (W .i64 (bf+1))) none) (bS x3 x4 x5 x6 x7 x8 x9 bx (W .i64 (bf+1))))) none) (cond (!x9) ((gj N 3).bind λme=>some (x4,me)) (some ((x4.1,(x4.2.1,(x4.2.2.1,((x4.2.2.2.1.1,(x4.2.2.2.1.2.1,(x4.2.2.2.1.2.2.1,(x4.2.2.2.1.2.2.2.1,(x8,x4.2.2.2.1.2.2.2.2.2))))),x4.2.2.2.2)))),(0,(0,(bx,()))))))
def oO.l5(N:Nat):Nat→oO.bN
 |0,_,_,_,_,_,_,_,_,_=>none
 |n+1,x3,x4,x5,x6,x7,x8,x9,bx,bf=>oO.dV N (oO.l5 N n) x3 x4 x5 x6 x7 x8 x9 bx bf
def oO.b(N:Nat)(fa:oO.bN)(a0:ae)(a1:aR)(a2:iE):Option (aR×dg):=
 fa a0 a1 a2 (0,(0,((cn,(cW,(bo,(bo,(di,(du,())))))),((0,(0,(0,(0,(cW,(([]:List ((Int)×((List ((Int)×((Int)×(Unit))))×((Int)×((Int)×((Int)×((Int)×(Unit)))))))),(cW,(di,(cn,(cn,())))))))))),((0,(0,(DQ,(0,())))),()))))) aZ ([]) false 0 0
def oO(a0:ae)(a1:aR)(a2:iE):Option (aR×dg):=oO.b N (oO.l5 N N) a0 a1 a2
abbrev sO.bP:=Int→aL→Int→Option Int
def sO.dM(cJ:sO.bP)(x1:Int)(x2:aL)(x5:Int):Option Int:=
 cond (aX x5 3) ((eC N x5).bind λr3=>(eC N x1).bind λr4=>(ei N r3 r4).bind λr5=>(wW N r5 x2).bind λr6=>cond (aX r6 0) (cJ x1 x2 (W .i64 (x5+1))) (some x5)) (some x5)
def sO.l4(N:Nat):Nat→sO.bP
 |0,_,_,_=>none
 |n+1,x1,x2,x5=>sO.dM N (sO.l4 N n) x1 x2 x5
def sO.b(e8:sO.bP)(a0:aL)(a1:Int):Option Int:=
 (Uw N a0).bind λr1=>cond (dy r1 0) (some 0) (cond (aX a1 1) (some 0) (e8 a1 a0 1))
def sO(a0:aL)(a1:Int):Option Int:=sO.b N (sO.l4 N N) a0 a1
abbrev qJ.bP:=(List Int)→Int→Option Bool
def qJ.dM(N:Nat)(cJ:qJ.bP)(x1:List Int)(x5:Int):Option Bool:=
 cond (aX x5 (ℓ x1)) (cond (bg x5 (ℓ x1)) (cond (aX (γ x1 x5.toNat 0) 0) (some true) (cJ x1 (W .i64 (x5+1)))) none) (some false)
def qJ.l4(N:Nat):Nat→qJ.bP
 |0,_,_=>none
 |n+1,x1,x5=>qJ.dM N (qJ.l4 N n) x1 x5
def qJ.b(N:Nat)(e8:qJ.bP)(a0:Int)(a1:List Int):Option Bool:=
 cond (aX a0 0) (some true) (cond (aX 64 (ℓ a1)) (some true) (e8 a1 0))
def qJ(a0:Int)(a1:List Int):Option Bool:=qJ.b N (qJ.l4 N N) a0 a1
abbrev qB.eO:=(List Int)→aL→aL→Int→Option aL
def qB.nY(dL:qB.eO)(x0:List Int)(x2 x3:aL)(x4:Int):Option aL:=
 cond (aX x4 (ℓ x0)) (cond (bg x4 (ℓ x0)) ((eC N (γ x0 x4.toNat 0)).bind λr2=>(nk N x3 r2).bind λr3=>dL x0 x2 r3 (W .i64 (x4+1))) none) (some x3)
def qB.l3(N:Nat):Nat→qB.eO
 |0,_,_,_,_=>none
 |n+1,x0,x2,x3,x4=>qB.nY N (qB.l3 N n) x0 x2 x3 x4
def qB.b(N:Nat)(pB:qB.eO)(a0:List Int):Option aL:=
 pB a0 (false,oZ) (false,oZ) 0
def qB(a0:List Int):Option aL:=qB.b N (qB.l3 N N) a0
abbrev gq.abj:=(List Int)→(List Int)→Int→Int→Option (List Int)
abbrev gq.kz:=(List Int)→(List Int)→Int→Int→Option (List Int)
abbrev gq.eO:=(List Int)→(List Int)→Int→Option (List Int)
def gq.ZL(N:Nat)(dL:gq.eO)(x0 x3:List Int)(x4 x5:Int):Option (List Int):=
 cond (jc 0 x5 (ℓ x3) (ℓ x3)) (let v5:List Int:=List.drop (0:Int).toNat (List.take x5.toNat x3);cond (small (ℓ v5)) (cond (small (ℓ v5+ℓ ([x4]))) (let v6:List Int:=v5++([x4]);cond (jc x5 (ℓ x3) (ℓ x3) (ℓ x3)) (let v7:List Int:=List.drop x5.toNat (List.take (ℓ x3:Int).toNat x3);cond (small (ℓ v6+ℓ v7)) (dL x0 (v6++v7) (W .i64 (x4+1))) none) none) none) none) none
def gq.j8(dL:gq.eO)(x0 x3:List Int)(x4 x5:Int):Option (List Int):=gq.ZL N dL x0 x3 x4 x5
def gq.uU(N:Nat)(QM:gq.abj)(dL:gq.eO)(lB:gq.kz)(x0 x3:List Int)(x4 x5:Int):Option (List Int):=
 cond (aX x5 (ℓ x3)) (cond (bg x5 (ℓ x3)) (cond (bg (γ x3 x5.toNat 0) (ℓ x0)) (cond (bg x4 (ℓ x0)) (cond (dy (γ x0 x4.toNat 0) (γ x0 (γ x3 x5.toNat 0).toNat 0)) (lB x0 x3 x4 (W .i64 (x5+1))) (QM x0 x3 x4 x5)) none) none) none) (QM x0 x3 x4 x5)
def gq.l6(N:Nat)(dL:gq.eO):Nat→gq.kz
 |0,_,_,_,_=>none
 |n+1,x0,x3,x4,x5=>gq.uU N (gq.j8 N dL) dL (gq.l6 N dL n) x0 x3 x4 x5
def gq.nY(N:Nat)(yw:gq.kz)(dL:gq.eO)(x0 x3:List Int)(x4:Int):Option (List Int):=
 cond (aX x4 (ℓ x0)) (yw x0 x3 x4 0) (some x3)
def gq.l3(N:Nat):Nat→gq.eO
 |0,_,_,_=>none
 |n+1,x0,x3,x4=>gq.nY N (gq.l6 N (gq.l3 N n) N) (gq.l3 N n) x0 x3 x4
def gq.b(N:Nat)(pB:gq.eO)(a0:List Int):Option (List Int):=
 pB a0 ([]) 0
def gq(a0:List Int):Option (List Int):=gq.b N (gq.l3 N N) a0
abbrev gC.s8:=(List Int)→Int→(List Int)→Int→Option ((List Int)×(Int))
abbrev gC.yF:=Int→(List Int)→aL→(List Int)→(List Int)→Int→Int→Option ((List Int)×(Int))
abbrev gC.TE:=Int→(List Int)→aL→Option ((List Int)×(Int))
def gC.wY(N:Nat)(IY:gC.s8)(x9:List Int)(bf:Int)(eD:List Int)(fE:Int):Option ((List Int)×(Int)):=
 cond (aX fE (ℓ eD)) (cond (aX 0 bf) (cond (bg fE (ℓ eD)) (cond (bg (γ eD fE.toNat 0) (ℓ x9)) (cond (bg (γ eD fE.toNat 0) (ℓ x9)) (IY (List.set x9 (γ eD fE.toNat 0).toNat (W .i64 ((γ x9 (γ eD fE.toNat 0).toNat 0)+1))) (W .i64 (bf-1)) eD (W .i64 (fE+1))) none) none) none) (some (x9,0))) (some (x9,0))
def gC.yd(N:Nat):Nat→gC.s8
 |0,_,_,_,_=>none
 |n+1,x9,bf,eD,fE=>gC.wY N (gC.yd N n) x9 bf eD fE
def gC.Ib(IZ:gC.s8)(EX:gC.yF)(x0:Int)(x1:List Int)(x6:aL)(x9 bx:List Int)(bf bq:Int):Option ((List Int)×(Int)):=
 cond (aX bq (ℓ x1)) ((eC N x0).bind λme=>cond (bg bq (ℓ x1)) ((eC N (γ x1 bq.toNat 0)).bind λoI=>(ei N me oI).bind λnZ=>(jg N nZ x6).bind λn0=>(xW N n0.1).bind λtV=>cond (bg bq (ℓ x9)) (let v15:List Int:=List.set x9 bq.toNat tV.1;(xW N n0.2).bind λwz=>cond (bg bq (ℓ bx)) (cond (bg bq (ℓ v15)) (EX x0 x1 x6 v15 (List.set bx bq.toNat wz.1) (W .i64 (bf-(γ v15 bq.toNat 0))) (W .i64 (bq+1))) none) none) none) none) ((gq N bx).bind λQO=>IZ x9 bf QO 0)
def gC.KZ(N:Nat):Nat→gC.yF
 |0,_,_,_,_,_,_,_=>none
 |n+1,x0,x1,x6,x9,bx,bf,bq=>gC.Ib N (gC.yd N N) (gC.KZ N n) x0 x1 x6 x9 bx bf bq
def gC.O6(QU:gC.yF)(x0:Int)(x1:List Int)(x6:aL):Option ((List Int)×(Int)):=
 (xW N x6).bind λr5=>cond (!r5.2) (some ([],2)) (cond (kU (ℓ x1) (ℓ x1)) (let v6:List Int:=List.replicate (ℓ x1:Int).toNat 0;cond (kU (ℓ x1) (ℓ x1)) ((Uw N x6).bind λr8=>cond (aM r8 0) (some (v6,0)) (QU x0 x1 x6 v6 (List.replicate (ℓ x1:Int).toNat 0) x0 0)) none) none)
def gC.j6(x0:Int)(x1:List Int)(x6:aL):Option ((List Int)×(Int)):=gC.O6 N (gC.KZ N N) x0 x1 x6
def gC.b(Fs:gC.TE)(a0:Int)(a1:List Int):Option ((List Int)×(Int)):=
 (qJ N a0 a1).bind λr1=>cond (r1) (some ([],1)) ((qB N a1).bind λr2=>(Uw N r2).bind λr3=>cond (aM r3 0) (cond (!aM a0 0) (some ([],1)) (Fs a0 a1 r2)) (Fs a0 a1 r2))
def gC(a0:Int)(a1:List Int):Option ((List Int)×(Int)):=gC.b N (gC.j6 N) a0 a1
abbrev sJ.bN:=Int→Int→(List Int)→Int→Option ((List Int)×(Int))
def sJ.dV(bS:sJ.bN)(x0 x1:Int)(x6:List Int)(x7:Int):Option ((List Int)×(Int)):=
 cond (aX x7 x1) (cond (bg x7 (ℓ x6)) (bS x0 x1 (List.set x6 x7.toNat 1) (W .i64 (x7+1))) none) ((gC N x0 x6).bind λr5=>some (r5.1,r5.2))
def sJ.l5(N:Nat):Nat→sJ.bN
 |0,_,_,_,_=>none
 |n+1,x0,x1,x6,x7=>sJ.dV N (sJ.l5 N n) x0 x1 x6 x7
def sJ.b(N:Nat)(fa:sJ.bN)(a0 a1:Int):Option ((List Int)×(Int)):=
 cond (aX a0 0) (some ([],1)) (cond (aX a1 1) (some ([],1)) (cond (aX 64 a1) (some ([],1)) (cond (kU a1 a1) (fa a0 a1 (List.replicate a1.toNat 0) 0) none)))
def sJ(a0 a1:Int):Option ((List Int)×(Int)):=sJ.b N (sJ.l5 N N) a0 a1
abbrev cw.aq3:=Int→ae→aE→bL→Int→aE→Int→Int→je→aE→Int→(List Int)→Option (bL×(Int))
abbrev cw.abo:=Int→ae→aE→bL→Int→aE→Int→Int→je→aE→Int→Int→Option (bL×(Int))
abbrev cw.yB:=Int→ae→aE→bL→Int→aE→Int→Int→je→aE→Int→Option (bL×(Int))
abbrev cw.vl:=Int→ae→aE→bL→Int→aE→Int→Int→Option (bL×(Int))
abbrev cw.fT:=Int→ae→aE→bL→Int→aE→aL→Int→Option (bL×(Int))
abbrev cw.kb:=Int→ae→aE→bL→Int→Option (bL×(Int))
def cw.alA(N:Nat)(gK:cw.kb)(nQ:cw.vl)(wO:cw.yB)(x2:Int)(x3:ae)(x8:aE)(x9:bL)(bx:Int)(bf:aE)(c4 eD:Int)(fE:je)(wE:aE)(gl:Int)(nV:List Int):Option (bL×(Int)):=
 cond (bg eD (ℓ nV)) (cond (!aM (γ nV eD.toNat 0) 0) (cond (bg gl (ℓ bf)) (cond (bg eD (ℓ nV)) (cond (small (ℓ wE+ℓ ([((γ bf gl.toNat c7).1,(γ nV eD.toNat 0,()))]))) (wO x2 x3 x8 x9 bx bf c4 eD (fE.1,(cn,fE.2.2)) (wE++([((γ bf gl.toNat c7).1,(γ nV eD.toNat 0,()))])) (W .i64 (gl+1))) none) none) none) (wO x2 x3 x8 x9 bx bf c4 eD fE wE (W .i64 (gl+1)))) none
def cw.j32(gK:cw.kb)(nQ:cw.vl)(wO:cw.yB)(x2:Int)(x3:ae)(x8:aE)(x9:bL)(bx:Int)(bf:aE)(c4 eD:Int)(fE:je)(wE:aE)(gl:Int)(nV:List Int):Option (bL×(Int)):=cw.alA N gK nQ wO x2 x3 x8 x9 bx bf c4 eD fE wE gl nV
def cw.Qg(ajk:cw.aq3)(gK:cw.kb)(nQ:cw.vl)(wO:cw.yB)(x2:Int)(x3:ae)(x8:aE)(x9:bL)(bx:Int)(bf:aE)(c4 eD:Int)(fE:je)(wE:aE)(gl my:Int):Option (bL×(Int)):=
 (sJ N my c4).bind λwz=>cond (bg gl (ℓ bf)) (cond (aX (γ bf gl.toNat c7).2.1 0) (cond (bg eD (ℓ wz.1)) (cond (bg eD (ℓ wz.1)) (ajk x2 x3 x8 x9 bx bf c4 eD fE wE gl (List.set wz.1 eD.toNat (W .i64 (0-(γ wz.1 eD.toNat 0))))) none) none) (ajk x2 x3 x8 x9 bx bf c4 eD fE wE gl wz.1)) none
def cw.Xf(gK:cw.kb)(nQ:cw.vl)(wO:cw.yB)(x2:Int)(x3:ae)(x8:aE)(x9:bL)(bx:Int)(bf:aE)(c4 eD:Int)(fE:je)(wE:aE)(gl my:Int):Option (bL×(Int)):=cw.Qg N (cw.j32 N gK nQ wO) gK nQ wO x2 x3 x8 x9 bx bf c4 eD fE wE gl my
def cw.Qb(QW:cw.abo)(gK:cw.kb)(nQ:cw.vl)(wO:cw.yB)(x2:Int)(x3:ae)(x8:aE)(x9:bL)(bx:Int)(bf:aE)(c4 eD:Int)(fE:je)(wE:aE)(gl:Int):Option (bL×(Int)):=
 cond (aX gl (ℓ bf)) (cond (bg gl (ℓ bf)) (cond (aX (γ bf gl.toNat c7).2.1 0) (QW x2 x3 x8 x9 bx bf c4 eD fE wE gl (W .i64 (0-((γ bf gl.toNat c7).2.1)))) (QW x2 x3 x8 x9 bx bf c4 eD fE wE gl (γ bf gl.toNat c7).2.1)) none) (cond (aM (ℓ wE) 0) (nQ x2 x3 x8 x9 bx bf c4 (W .i64 (eD+1))) ((aax N x3 wE).bind λNK=>(E8 N NK.1).bind λJu=>(xW N Ju).bind λEV=>cond (!EV.2) (some ([],2)) (cond (small (ℓ x9+ℓ ([(fE.1,(wE,(EV.1,fE.2.2.2)))]))) (nQ (W .i64 (x2+1)) x3 x8 (x9++([(fE.1,(wE,(EV.1,fE.2.2.2)))])) bx bf c4 (W .i64 (eD+1))) none)))
def cw.NI(N:Nat)(gK:cw.kb)(nQ:cw.vl):Nat→cw.yB
 |0,_,_,_,_,_,_,_,_,_,_,_=>none
 |n+1,x2,x3,x8,x9,bx,bf,c4,eD,fE,wE,gl=>cw.Qb N (cw.Xf N gK nQ (cw.NI N gK nQ n)) gK nQ (cw.NI N gK nQ n) x2 x3 x8 x9 bx bf c4 eD fE wE gl
def cw.Qf(N:Nat)(abn:cw.yB)(gK:cw.kb)(nQ:cw.vl)(x2:Int)(x3:ae)(x8:aE)(x9:bL)(bx:Int)(bf:aE)(c4 eD:Int):Option (bL×(Int)):=
 cond (aX eD c4) (abn x2 x3 x8 x9 bx bf c4 eD (x2,(cn,(0,(1,c7)))) cn 0) (gK x2 x3 x8 x9 (W .i64 (bx+1)))
def cw.J4(N:Nat)(gK:cw.kb):Nat→cw.vl
 |0,_,_,_,_,_,_,_,_=>none
 |n+1,x2,x3,x8,x9,bx,bf,c4,eD=>cw.Qf N (cw.NI N gK (cw.J4 N gK n) N) gK (cw.J4 N gK n) x2 x3 x8 x9 bx bf c4 eD
def cw.lq(abp:cw.vl)(gK:cw.kb)(gR:cw.fT)(x2:Int)(x3:ae)(x8:aE)(x9:bL)(bx:Int)(bf:aE)(bq:aL)(cq:Int):Option (bL×(Int)):=
 cond (aX cq (ℓ x8)) (cond (bg cq (ℓ x8)) (cond (bg (γ x8 cq.toNat c7).1 (ℓ x3.1)) (cond (aM (γ x3.1 (γ x8 cq.toNat c7).1.toNat bb).1 bx) (cond (bg cq (ℓ x8)) (cond (small (ℓ bf+ℓ ([γ x8 cq.toNat c7]))) (cond (bg cq (ℓ x8)) ((eC N (γ x8 cq.toNat c7).2.1).bind λr6=>(CZ N r6).bind λr7=>(nk N bq r7).bind λr8=>gR x2 x3 x8 x9 bx (bf++([γ x8 cq.toNat c7])) r8 (W .i64 (cq+1))) none) none) none) (gR x2 x3 x8 x9 bx bf bq (W .i64 (cq+1)))) none) none) ((sO N bq x3.2.2.2.2.2.1).bind λoI=>abp x2 x3 x8 x9 bx bf oI 0)
def cw.mw(N:Nat)(gK:cw.kb):Nat→cw.fT
 |0,_,_,_,_,_,_,_,_=>none
 |n+1,x2,x3,x8,x9,bx,bf,bq,cq=>cw.lq N (cw.J4 N gK N) gK (cw.mw N gK n) x2 x3 x8 x9 bx bf bq cq
def cw.Ej(N:Nat)(s9:cw.fT)(gK:cw.kb)(x2:Int)(x3:ae)(x8:aE)(x9:bL)(bx:Int):Option (bL×(Int)):=
 cond (aX bx 4) (s9 x2 x3 x8 x9 bx ([]) (false,oZ) 0) (some (x9,0))
def cw.l8(N:Nat):Nat→cw.kb
 |0,_,_,_,_,_=>none
 |n+1,x2,x3,x8,x9,bx=>cw.Ej N (cw.mw N (cw.l8 N n) N) (cw.l8 N n) x2 x3 x8 x9 bx
def cw.b(I5:cw.kb)(a0:ae)(a1:an)(a2:Int):Option (bL×(Int)):=
 (gH N a0 a1).bind λr1=>cond (!r1) (some ([],1)) (cond (aX a2 1) (some ([],1)) (cond (aX 1099511627764 a2) (some ([],1)) ((mO N a1.2.2.2.1 0).bind λr2=>cond (aM (ℓ r2) 0) (some ([],3)) (I5 a2 a0 r2 ([]) 0))))
def cw(a0:ae)(a1:an)(a2:Int):Option (bL×(Int)):=cw.b N (cw.l8 N N) a0 a1 a2
abbrev sP.bN:=an→(List Int)→Int→Option ((List Int)×(Int))
def sP.dV(bS:sP.bN)(x3:an)(x6:List Int)(x7:Int):Option ((List Int)×(Int)):=
 cond (aX x7 (ℓ x3.1)) (cond (bg x7 (ℓ x3.1)) (cond (aM (γ x3.1 x7.toNat c7).2.1 1) (cond (bg x7 (ℓ x3.1)) ((vn N x3.2.2.1 6 (γ x3.1 x7.toNat c7).1).bind λr3=>cond (aX 0 r3) (cond (bg x7 (ℓ x3.1)) (cond (small (ℓ x6+ℓ ([(γ x3.1 x7.toNat c7).1]))) (bS x3 (x6++([(γ x3.1 x7.toNat c7).1])) (W .i64 (x7+1))) none) none) (bS x3 x6 (W .i64 (x7+1)))) none) (bS x3 x6 (W .i64 (x7+1)))) none) (some (x6,0))
def sP.l5(N:Nat):Nat→sP.bN
 |0,_,_,_=>none
 |n+1,x3,x6,x7=>sP.dV N (sP.l5 N n) x3 x6 x7
def sP.b(fa:sP.bN)(a0:ae)(a1:an):Option ((List Int)×(Int)):=
 (gH N a0 a1).bind λr1=>cond (!r1) (some ([],1)) (fa a1 ([]) 0)
def sP(a0:ae)(a1:an):Option ((List Int)×(Int)):=sP.b N (sP.l5 N N) a0 a1
abbrev jI.TH:=bL→ae→Int→je→Option Bool
abbrev jI.bP:=bL→ae→Int→Option Bool
def jI.Pe(N:Nat)(cJ:jI.bP)(x1:bL)(x2:ae)(x5:Int)(x6:je):Option Bool:=
 cond (aM x6.2.2.2.1 1) (cond (!aM x6.2.2.2.2.1 0) (some false) (cond (!aM x6.2.2.2.2.2.1 0) (some false) (cJ x1 x2 (W .i64 (x5+1))))) (cond (aM x6.2.2.2.1 3) (cond (!aM x6.2.2.2.2.1 0) (some false) (cond (!aM x6.2.2.2.2.2.1 0) (some false) (cJ x1 x2 (W .i64 (x5+1))))) (cond (aM x6.2.2.2.1 2) (cond (aX x6.2.2.2.2.1 1) (some false) (cond (aX 12 x6.2.2.2.2.1) (some false) (cond (aX x6.2.2.2.2.2.1 (-1152921504606846976)) (some false) (cond (aX 1152921504606846976 x6.2.2.2.2.2.1) (some false) (cJ x1 x2 (W .i64 (x5+1))))))) (some false)))
def jI.j9(cJ:jI.bP)(x1:bL)(x2:ae)(x5:Int)(x6:je):Option Bool:=jI.Pe N cJ x1 x2 x5 x6
def jI.dM(I4:jI.TH)(cJ:jI.bP)(x1:bL)(x2:ae)(x5:Int):Option Bool:=
 cond (aX x5 (ℓ x1)) (cond (bg x5 (ℓ x1)) (cond (aX (γ x1 x5.toNat (0,(cn,bb))).1 1) (some false) (cond (aX 1099511627776 (γ x1 x5.toNat (0,(cn,bb))).1) (some false) (cond (aX 0 x5) (let v3:Int:=W .i64 (x5-1);cond (bg v3 (ℓ x1)) (cond (dy (γ x1 x5.toNat (0,(cn,bb))).1 (γ x1 v3.toNat (0,(cn,bb))).1) (some false) (cond (aM (ℓ (γ x1 x5.toNat (0,(cn,bb))).2.1:Int) 0) (some false) ((oC N x2 (γ x1 x5.toNat (0,(cn,bb))).2.1).bind λr4=>cond (!r4) (some false) (cond (aX 0 (γ x1 x5.toNat (0,(cn,bb))).2.2.1) (some false) (I4 x1 x2 x5 (γ x1 x5.toNat (0,(cn,bb)))))))) none) (cond (aM (ℓ (γ x1 x5.toNat (0,(cn,bb))).2.1:Int) 0) (some false) ((oC N x2 (γ x1 x5.toNat (0,(cn,bb))).2.1).bind λr9=>cond (!r9) (some false) (cond (aX 0 (γ x1 x5.toNat (0,(cn,bb))).2.2.1) (some false) (I4 x1 x2 x5 (γ x1 x5.toNat (0,(cn,bb)))))))))) none) (some true)
def jI.l4(N:Nat):Nat→jI.bP
 |0,_,_,_=>none
 |n+1,x1,x2,x5=>jI.dM N (jI.j9 N (jI.l4 N n)) (jI.l4 N n) x1 x2 x5
def jI.b(e8:jI.bP)(a0:ae)(a1:bL):Option Bool:=
 (Ah N a0).bind λr1=>cond (!r1) (some false) (cond (aX 12 (ℓ a1)) (some false) (e8 a1 a0 0))
def jI(a0:ae)(a1:bL):Option Bool:=jI.b N (jI.l4 N N) a0 a1
abbrev rr.c0:=bL→Int→je→Int→Option (je×(Bool))
def rr.fN(N:Nat)(dW:rr.c0)(x0:bL)(x1:Int)(x4:je)(x6:Int):Option (je×(Bool)):=
 cond (aX x6 (ℓ x0)) (cond (bg x6 (ℓ x0)) (cond (aM (γ x0 x6.toNat (0,(cn,bb))).1 x1) (cond (bg x6 (ℓ x0)) (some (γ x0 x6.toNat (0,(cn,bb)),true)) none) (dW x0 x1 x4 (W .i64 (x6+1)))) none) (some ((0,(cn,bb)),false))
def rr.l2(N:Nat):Nat→rr.c0
 |0,_,_,_,_=>none
 |n+1,x0,x1,x4,x6=>rr.fN N (rr.l2 N n) x0 x1 x4 x6
def rr.b(N:Nat)(gX:rr.c0)(a0:bL)(a1:Int):Option (je×(Bool)):=
 gX a0 a1 (0,(cn,bb)) 0
def rr(a0:bL)(a1:Int):Option (je×(Bool)):=rr.b N (rr.l2 N N) a0 a1
abbrev fC.iQ:=aE→aE→aE→Int→aL→Int→Option (aE×(Bool))
abbrev fC.fg:=aE→aE→aE→Int→aL→Int→Option (aE×(Bool))
abbrev fC.eO:=aE→aE→aE→Int→Option (aE×(Bool))
def fC.mN(dL:fC.eO)(lC:fC.iQ)(x0 x1 x6:aE)(x7:Int)(x8:aL)(bx:Int):Option (aE×(Bool)):=
 cond (aX bx (ℓ x1)) (cond (bg bx (ℓ x1)) (cond (aM (γ x1 bx.toNat c7).1 x7) (cond (bg bx (ℓ x1)) ((eC N (γ x1 bx.toNat c7).2.1).bind λr8=>(nk N x8 r8).bind λr9=>lC x0 x1 x6 x7 r9 (W .i64 (bx+1))) none) (lC x0 x1 x6 x7 x8 (W .i64 (bx+1)))) none) ((SO N x8).bind λnZ=>cond (!nZ.2) (some ([],false)) (cond (!aM nZ.1 0) (cond (small (ℓ x6+ℓ ([(x7,(nZ.1,()))]))) (dL x0 x1 (x6++([(x7,(nZ.1,()))])) (W .i64 (x7+1))) none) (dL x0 x1 x6 (W .i64 (x7+1)))))
def fC.nJ(N:Nat)(dL:fC.eO):Nat→fC.iQ
 |0,_,_,_,_,_,_=>none
 |n+1,x0,x1,x6,x7,x8,bx=>fC.mN N dL (fC.nJ N dL n) x0 x1 x6 x7 x8 bx
def fC.nR(vk:fC.iQ)(dL:fC.eO)(e7:fC.fg)(x0 x1 x6:aE)(x7:Int)(x8:aL)(x9:Int):Option (aE×(Bool)):=
 cond (aX x9 (ℓ x0)) (cond (bg x9 (ℓ x0)) (cond (aM (γ x0 x9.toNat c7).1 x7) (cond (bg x9 (ℓ x0)) ((eC N (γ x0 x9.toNat c7).2.1).bind λr3=>(nk N x8 r3).bind λr4=>e7 x0 x1 x6 x7 r4 (W .i64 (x9+1))) none) (e7 x0 x1 x6 x7 x8 (W .i64 (x9+1)))) none) (vk x0 x1 x6 x7 x8 0)
def fC.l7(N:Nat)(dL:fC.eO):Nat→fC.fg
 |0,_,_,_,_,_,_=>none
 |n+1,x0,x1,x6,x7,x8,x9=>fC.nR N (fC.nJ N dL N) dL (fC.l7 N dL n) x0 x1 x6 x7 x8 x9
def fC.nY(N:Nat)(s7:fC.fg)(dL:fC.eO)(x0 x1 x6:aE)(x7:Int):Option (aE×(Bool)):=
 cond (aX x7 6) (s7 x0 x1 x6 x7 (false,oZ) 0) (some (x6,true))
def fC.l3(N:Nat):Nat→fC.eO
 |0,_,_,_,_=>none
 |n+1,x0,x1,x6,x7=>fC.nY N (fC.l7 N (fC.l3 N n) N) (fC.l3 N n) x0 x1 x6 x7
def fC.b(N:Nat)(pB:fC.eO)(a0 a1:aE):Option (aE×(Bool)):=
 pB a0 a1 ([]) 0
def fC(a0 a1:aE):Option (aE×(Bool)):=fC.b N (fC.l3 N N) a0 a1
def alz(a0:aY)(a1:Int):Option au:=
 (AE N a0).bind λr1=>cond (!r1) (some ([])) ((fx N a0 a1).bind λr2=>some r2)
abbrev lX.fT:=aN→ae→an→cO→je→Int→Int→Option Int
abbrev lX.awN:=bL→aN→ae→an→cO→Option Int
def lX.lq(gR:lX.fT)(x3:aN)(x5:ae)(x6:an)(x9:cO)(bq:je)(c4 eD:Int):Option Int:=
 cond (aX eD (ℓ x3)) (cond (bg eD (ℓ x3)) (cond (aM (γ x3 eD.toNat bb).2.2.1 x9.2.2.1) (cond (bg eD (ℓ x3)) (cond (aM (γ x3 eD.toNat bb).2.1 x9.2.1) (some 4) (gR x3 x5 x6 x9 bq c4 (W .i64 (eD+1)))) none) (gR x3 x5 x6 x9 bq c4 (W .i64 (eD+1)))) none) (cond (aM (ℓ x3) 40) (some 5) ((eC N x9.2.2.2.1).bind λn0=>(eC N 4).bind λtV=>(eC N bq.2.2.1).bind λuu=>(ei N tV uu).bind λwz=>(wW N n0 wz).bind λw1=>cond (aX w1 0) (some 11) ((mO N x6.2.2.2.1 c4).bind λyx=>(fC N yx bq.2.1).bind λQV=>cond (!QV.2) (some 2) ((alz N x6.2.2.2.2.2.1 c4).bind λQO=>(nT N x5 QV.1 QO).bind λGe=>(Tj N x6 c4).bind λNo=>(eC N No).bind λET=>(eC N x9.2.2.2.1).bind λNK=>(Ac N ET NK).bind λJu=>(wW N Ju Ge.1).bind λEV=>cond (aX EV 0) (some 10) (some 0)))))
def lX.mw(N:Nat):Nat→lX.fT
 |0,_,_,_,_,_,_,_=>none
 |n+1,x3,x5,x6,x9,bq,c4,eD=>lX.lq N (lX.mw N n) x3 x5 x6 x9 bq c4 eD
def lX.j3b(s9:lX.fT)(x2:bL)(x3:aN)(x5:ae)(x6:an)(x9:cO):Option Int:=
 (MV N x6 x9.2.2.1).bind λr7=>cond (aM r7 0) (some 3) (cond (!aM r7 1) (some 7) ((rr N x2 x9.2.1).bind λr8=>(nq N x6.2.1 x9.2.2.1).bind λr9=>cond (!r8.2) (some 3) (cond (!aM r8.1.2.2.2.1 1) (some 3) (cond (aM r9 0) (some 3) (s9 x3 x5 x6 x9 r8.1 r9 0)))))
def lX.j3(x2:bL)(x3:aN)(x5:ae)(x6:an)(x9:cO):Option Int:=lX.j3b N (lX.mw N N) x2 x3 x5 x6 x9
def lX.b(aq4:lX.awN)(a0:ae)(a1:an)(a2:bL)(a3:aN)(a4:cO):Option Int:=
 (gH N a0 a1).bind λr1=>cond (!r1) (some 1) ((jI N a0 a2).bind λr2=>cond (!r2) (some 1) ((fi N a3).bind λr3=>cond (!r3) (some 1) ((ZB N a4).bind λr4=>cond (!r4) (some 1) (cond (aX 0 (ℓ a3)) (let v5:Int:=W .i64 ((ℓ a3:Int)-1);cond (bg v5 (ℓ a3)) (cond (dy a4.1 (γ a3 v5.toNat bb).1) (some 1) (aq4 a2 a3 a0 a1 a4)) none) (aq4 a2 a3 a0 a1 a4)))))
def lX(a0:ae)(a1:an)(a2:bL)(a3:aN)(a4:cO):Option Int:=lX.b N (lX.j3 N) a0 a1 a2 a3 a4
def adN(a0:ae)(a1:an)(a2:bL)(a3:aN)(a4:cO):Option (aN×(Int)):=
 (lX N a0 a1 a2 a3 a4).bind λr1=>cond (!aM r1 0) (some ([],r1)) (cond (small (ℓ cW+ℓ a3)) (let v2:List ((Int)×((Int)×((Int)×((Int)×(Unit))))):=cW++a3;cond (small (ℓ v2+ℓ ([a4]))) (some ((v2++([a4])),0)) none) none)
abbrev sV.kz:=aN→Int→cO→cO→Bool→Int→Option (cO×(Bool))
def sV.uU(N:Nat)(lB:sV.kz)(x0:aN)(x1:Int)(x4 x6:cO)(x7:Bool)(x8:Int):Option (cO×(Bool)):=
 cond (aX x8 (ℓ x0)) (cond (bg x8 (ℓ x0)) (cond (aM (γ x0 x8.toNat bb).2.1 x1) (cond (!x7) (cond (bg x8 (ℓ x0)) (lB x0 x1 x4 (γ x0 x8.toNat bb) true (W .i64 (x8+1))) none) (cond (bg x8 (ℓ x0)) (cond (aX x6.2.2.2.1 (γ x0 x8.toNat bb).2.2.2.1) (cond (bg x8 (ℓ x0)) (lB x0 x1 x4 (γ x0 x8.toNat bb) true (W .i64 (x8+1))) none) (lB x0 x1 x4 x6 x7 (W .i64 (x8+1)))) none)) (lB x0 x1 x4 x6 x7 (W .i64 (x8+1)))) none) (some (x6,x7))
def sV.l6(N:Nat):Nat→sV.kz
 |0,_,_,_,_,_,_=>none
 |n+1,x0,x1,x4,x6,x7,x8=>sV.uU N (sV.l6 N n) x0 x1 x4 x6 x7 x8
def sV.b(yw:sV.kz)(a0:aN)(a1:Int):Option (cO×(Bool)):=
 (fi N a0).bind λr1=>cond (!r1) (some (bb,false)) (yw a0 a1 bb bb false 0)
def sV(a0:aN)(a1:Int):Option (cO×(Bool)):=sV.b N (sV.l6 N N) a0 a1
abbrev gA.s8:=bL→aN→an→an→au→bO→bL→Int→je→cO→Int→Int→Option (an×bL×(Int))
abbrev gA.fg:=bL→aN→an→an→au→bO→bL→Int→Option (an×bL×(Int))
def gA.wY(e7:gA.fg)(IY:gA.s8)(x2:bL)(x3:aN)(x5 x8:an)(bf:au)(bq:bO)(cq:bL)(c4:Int)(eD:je)(fE:cO)(my nV:Int):Option (an×bL×(Int)):=
 cond (aX nV (ℓ eD.2.1)) (cond (bg nV (ℓ eD.2.1)) (cond (bg nV (ℓ eD.2.1)) (let v14:Int:=W .i64 (0-((γ eD.2.1 nV.toNat c7).2.1));cond (bg nV (ℓ eD.2.1)) (cond (bg nV (ℓ eD.2.1)) (cond (small (ℓ bf+ℓ ([(0,((γ eD.2.1 nV.toNat c7).1,(v14,()))),(my,((γ eD.2.1 nV.toNat c7).1,((γ eD.2.1 nV.toNat c7).2.1,())))]))) (IY x2 x3 x5 x8 (bf++([(0,((γ eD.2.1 nV.toNat c7).1,(v14,()))),(my,((γ eD.2.1 nV.toNat c7).1,((γ eD.2.1 nV.toNat c7).2.1,())))])) bq cq c4 eD fE my (W .i64 (nV+1))) none) none) none) none) none) ((eC N fE.2.2.2.1).bind λw1=>(Dw N 5 my 2 0 w1).bind λyx=>cond (small (ℓ bq+ℓ yx)) (cond (small (ℓ cq+ℓ ([eD]))) (e7 x2 x3 x5 x8 bf (bq++yx) (cq++([eD])) (W .i64 (c4+1))) none) none)
def gA.yd(N:Nat)(e7:gA.fg):Nat→gA.s8
 |0,_,_,_,_,_,_,_,_,_,_,_,_=>none
 |n+1,x2,x3,x5,x8,bf,bq,cq,c4,eD,fE,my,nV=>gA.wY N e7 (gA.yd N e7 n) x2 x3 x5 x8 bf bq cq c4 eD fE my nV
def gA.nR(IZ:gA.s8)(e7:gA.fg)(x2:bL)(x3:aN)(x5 x8:an)(bf:au)(bq:bO)(cq:bL)(c4:Int):Option (an×bL×(Int)):=
 cond (aX c4 (ℓ x2)) (cond (bg c4 (ℓ x2)) (cond (small (ℓ cn+ℓ (γ x2 c4.toNat (0,(cn,bb))).2.1)) (let v5:List ((Int)×((Int)×(Unit))):=cn++((γ x2 c4.toNat (0,(cn,bb))).2.1);cond (!aM (γ x2 c4.toNat (0,(cn,bb))).2.2.2.1 1) (cond (small (ℓ cq+ℓ ([((γ x2 c4.toNat (0,(cn,bb))).1,(v5,(γ x2 c4.toNat (0,(cn,bb))).2.2))]))) (e7 x2 x3 x5 x8 bf bq (cq++([((γ x2 c4.toNat (0,(cn,bb))).1,(v5,(γ x2 c4.toNat (0,(cn,bb))).2.2))])) (W .i64 (c4+1))) none) ((sV N x3 (γ x2 c4.toNat (0,(cn,bb))).1).bind λr8=>cond (!r8.2) (cond (small (ℓ cq+ℓ ([((γ x2 c4.toNat (0,(cn,bb))).1,(v5,((γ x2 c4.toNat (0,(cn,bb))).2.2.1,(3,(γ x2 c4.toNat (0,(cn,bb))).2.2.2.2))))]))) (e7 x2 x3 x5 x8 bf bq (cq++([((γ x2 c4.toNat (0,(cn,bb))).1,(v5,((γ x2 c4.toNat (0,(cn,bb))).2.2.1,(3,(γ x2 c4.toNat (0,(cn,bb))).2.2.2.2))))])) (W .i64 (c4+1))) none) ((nq N x5.2.1 r8.1.2.2.1).bind λoI=>cond (aM oI 0) (some ((cn,(cW,(bo,(bo,(di,(du,())))))),[],3)) ((MV N x5 r8.1.2.2.1).bind λnZ=>cond (aM nZ 0) (some ((cn,(cW,(bo,(bo,(di,(du,())))))),[],3)) (IZ x2 x3 x5 x8 bf bq cq c4 ((γ x2 c4.toNat (0,(cn,bb))).1,(v5,((γ x2 c4.toNat (0,(cn,bb))).2.2.1,(2,(r8.1.2.2.1,(r8.1.2.2.2.1,(γ x2 c4.toNat (0,(cn,bb))).2.2.2.2.2.2)))))) r8.1 oI 0))))) none) none) ((zt N x5 bf bq).bind λNo=>cond (!aM No.2 0) (some ((cn,(cW,(bo,(bo,(di,(du,())))))),[],No.2)) (some (No.1,cq,0)))
def gA.l7(N:Nat):Nat→gA.fg
 |0,_,_,_,_,_,_,_,_=>none
 |n+1,x2,x3,x5,x8,bf,bq,cq,c4=>gA.nR N (gA.yd N (gA.l7 N n) N) (gA.l7 N n) x2 x3 x5 x8 bf bq cq c4
def gA.b(s7:gA.fg)(a0:ae)(a1:an)(a2:bL)(a3:aN):Option (an×bL×(Int)):=
 (gH N a0 a1).bind λr1=>cond (!r1) (some ((cn,(cW,(bo,(bo,(di,(du,())))))),[],1)) ((jI N a0 a2).bind λr2=>cond (!r2) (some ((cn,(cW,(bo,(bo,(di,(du,())))))),[],1)) ((fi N a3).bind λr3=>cond (!r3) (some ((cn,(cW,(bo,(bo,(di,(du,())))))),[],1)) (s7 a2 a3 a1 (cn,(cW,(bo,(bo,(di,(du,())))))) ([]) ([]) ([]) 0)))
def gA(a0:ae)(a1:an)(a2:bL)(a3:aN):Option (an×bL×(Int)):=gA.b N (gA.l7 N N) a0 a1 a2 a3
abbrev qo.c0:=aE→Int→Option Bool
def qo.fN(N:Nat)(dW:qo.c0)(x0:aE)(x3:Int):Option Bool:=
 cond (aX x3 (ℓ x0)) (cond (bg x3 (ℓ x0)) (cond (aX (γ x0 x3.toNat c7).1 1) (some false) (cond (bg x3 (ℓ x0)) (cond (aX 12 (γ x0 x3.toNat c7).1) (some false) (cond (bg x3 (ℓ x0)) (cond (aX (γ x0 x3.toNat c7).2.1 1) (some false) (cond (bg x3 (ℓ x0)) (cond (aX 4 (γ x0 x3.toNat c7).2.1) (some false) (cond (aX 0 x3) (cond (bg x3 (ℓ x0)) (let v2:Int:=W .i64 (x3-1);cond (bg v2 (ℓ x0)) (cond (dy (γ x0 x3.toNat c7).1 (γ x0 v2.toNat c7).1) (some false) (dW x0 (W .i64 (x3+1)))) none) none) (dW x0 (W .i64 (x3+1))))) none)) none)) none)) none) (some true)
def qo.l2(N:Nat):Nat→qo.c0
 |0,_,_=>none
 |n+1,x0,x3=>qo.fN N (qo.l2 N n) x0 x3
def qo.b(N:Nat)(gX:qo.c0)(a0:aE):Option Bool:=
 gX a0 0
def qo(a0:aE):Option Bool:=qo.b N (qo.l2 N N) a0
abbrev sQ.c0:=(List Int)→Int→Option Bool
def sQ.fN(N:Nat)(dW:sQ.c0)(x0:List Int)(x3:Int):Option Bool:=
 cond (aX x3 (ℓ x0)) (cond (bg x3 (ℓ x0)) (cond (aX (γ x0 x3.toNat 0) 1) (some false) (cond (bg x3 (ℓ x0)) (cond (aX 12 (γ x0 x3.toNat 0)) (some false) (cond (aX 0 x3) (cond (bg x3 (ℓ x0)) (let v2:Int:=W .i64 (x3-1);cond (bg v2 (ℓ x0)) (cond (dy (γ x0 x3.toNat 0) (γ x0 v2.toNat 0)) (some false) (dW x0 (W .i64 (x3+1)))) none) none) (dW x0 (W .i64 (x3+1))))) none)) none) (some true)
def sQ.l2(N:Nat):Nat→sQ.c0
 |0,_,_=>none
 |n+1,x0,x3=>sQ.fN N (sQ.l2 N n) x0 x3
def sQ.b(N:Nat)(gX:sQ.c0)(a0:List Int):Option Bool:=
 gX a0 0
def sQ(a0:List Int):Option Bool:=sQ.b N (sQ.l2 N N) a0
abbrev kk.iQ:=Int→bL→Int→Int→Option Int
abbrev kk.eO:=Int→bL→aN→Int→Int→Option Int
def kk.mN(N:Nat)(lC:kk.iQ)(x0:Int)(x1:bL)(x7 bq:Int):Option Int:=
 cond (aX bq (ℓ x1)) (cond (bg bq (ℓ x1)) (cond (aM (γ x1 bq.toNat (0,(cn,bb))).2.2.2.1 2) (cond (bg bq (ℓ x1)) (cond (aM (γ x1 bq.toNat (0,(cn,bb))).2.2.2.2.1 x0) (lC x0 x1 4 (W .i64 (bq+1))) (lC x0 x1 x7 (W .i64 (bq+1)))) none) (lC x0 x1 x7 (W .i64 (bq+1)))) none) (some x7)
def kk.nJ(N:Nat):Nat→kk.iQ
 |0,_,_,_,_=>none
 |n+1,x0,x1,x7,bq=>kk.mN N (kk.nJ N n) x0 x1 x7 bq
def kk.nY(vk:kk.iQ)(dL:kk.eO)(x0:Int)(x1:bL)(x2:aN)(x7 x8:Int):Option Int:=
 cond (aX x8 (ℓ x2)) (cond (bg x8 (ℓ x2)) (cond (!aM (γ x2 x8.toNat bb).2.2.1 x0) (dL x0 x1 x2 x7 (W .i64 (x8+1))) (cond (bg x8 (ℓ x2)) ((rr N x1 (γ x2 x8.toNat bb).2.1).bind λr3=>cond (r3.2) (cond (bg x8 (ℓ x2)) (cond (dy r3.1.2.2.1 (γ x2 x8.toNat bb).2.2.2.1) (dL x0 x1 x2 (mx x7 3) (W .i64 (x8+1))) (dL x0 x1 x2 (mx x7 2) (W .i64 (x8+1)))) none) (dL x0 x1 x2 (mx x7 2) (W .i64 (x8+1)))) none)) none) (vk x0 x1 x7 0)
def kk.l3(N:Nat):Nat→kk.eO
 |0,_,_,_,_,_=>none
 |n+1,x0,x1,x2,x7,x8=>kk.nY N (kk.nJ N N) (kk.l3 N n) x0 x1 x2 x7 x8
def kk.b(N:Nat)(pB:kk.eO)(a0:Int)(a1:bL)(a2:aN):Option Int:=
 pB a0 a1 a2 1 0
def kk(a0:Int)(a1:bL)(a2:aN):Option Int:=kk.b N (kk.l3 N N) a0 a1 a2
abbrev dS.yC:=aE→(List Int)→bL→aN→aE→Int→Int→Bool→Int→Option (aE×(Int))
abbrev dS.yF:=aE→(List Int)→bL→aN→aE→Int→Int→Bool→Int→Option (aE×(Int))
abbrev dS.lD:=aE→(List Int)→bL→aN→aE→Int→Int→Bool→Int→Option (aE×(Int))
abbrev dS.bN:=aE→(List Int)→bL→aN→aE→Int→Option (aE×(Int))
def dS.Fm(bS:dS.bN)(I8:dS.yC)(x1:aE)(x2:List Int)(x3:bL)(x4:aN)(bq:aE)(cq c4:Int)(eD:Bool)(my:Int):Option (aE×(Int)):=
 cond (aX my (ℓ x4)) (cond (eD) (I8 x1 x2 x3 x4 bq cq c4 true (W .i64 (my+1))) (cond (bg my (ℓ x4)) (I8 x1 x2 x3 x4 bq cq c4 (aM (γ x4 my.toNat bb).2.2.1 cq) (W .i64 (my+1))) none)) (cond (eD) ((kk N cq x3 x4).bind λuu=>let v16:Int:=mx c4 uu;cond (small (ℓ bq+ℓ ([(cq,(v16,()))]))) (bS x1 x2 x3 x4 (bq++([(cq,(v16,()))])) (W .i64 (cq+1))) none) (bS x1 x2 x3 x4 bq (W .i64 (cq+1))))
def dS.Jr(N:Nat)(bS:dS.bN):Nat→dS.yC
 |0,_,_,_,_,_,_,_,_,_=>none
 |n+1,x1,x2,x3,x4,bq,cq,c4,eD,my=>dS.Fm N bS (dS.Jr N bS n) x1 x2 x3 x4 bq cq c4 eD my
def dS.Ib(N:Nat)(QR:dS.yC)(bS:dS.bN)(EX:dS.yF)(x1:aE)(x2:List Int)(x3:bL)(x4:aN)(bq:aE)(cq c4:Int)(eD:Bool)(gl:Int):Option (aE×(Int)):=
 cond (aX gl (ℓ x2)) (cond (eD) (EX x1 x2 x3 x4 bq cq c4 true (W .i64 (gl+1))) (cond (bg gl (ℓ x2)) (EX x1 x2 x3 x4 bq cq c4 (aM (γ x2 gl.toNat 0) cq) (W .i64 (gl+1))) none)) (QR x1 x2 x3 x4 bq cq c4 eD 0)
def dS.KZ(N:Nat)(bS:dS.bN):Nat→dS.yF
 |0,_,_,_,_,_,_,_,_,_=>none
 |n+1,x1,x2,x3,x4,bq,cq,c4,eD,gl=>dS.Ib N (dS.Jr N bS N) bS (dS.KZ N bS n) x1 x2 x3 x4 bq cq c4 eD gl
def dS.uX(N:Nat)(QU:dS.yF)(bS:dS.bN)(oW:dS.lD)(x1:aE)(x2:List Int)(x3:bL)(x4:aN)(bq:aE)(cq c4:Int)(eD:Bool)(fE:Int):Option (aE×(Int)):=
 cond (aX fE (ℓ x1)) (cond (bg fE (ℓ x1)) (cond (aM (γ x1 fE.toNat c7).1 cq) (cond (bg fE (ℓ x1)) (oW x1 x2 x3 x4 bq cq (γ x1 fE.toNat c7).2.1 true (W .i64 (fE+1))) none) (oW x1 x2 x3 x4 bq cq c4 eD (W .i64 (fE+1)))) none) (QU x1 x2 x3 x4 bq cq c4 eD 0)
def dS.l9(N:Nat)(bS:dS.bN):Nat→dS.lD
 |0,_,_,_,_,_,_,_,_,_=>none
 |n+1,x1,x2,x3,x4,bq,cq,c4,eD,fE=>dS.uX N (dS.KZ N bS N) bS (dS.l9 N bS n) x1 x2 x3 x4 bq cq c4 eD fE
def dS.dV(N:Nat)(yz:dS.lD)(bS:dS.bN)(x1:aE)(x2:List Int)(x3:bL)(x4:aN)(bq:aE)(cq:Int):Option (aE×(Int)):=
 cond (dy cq 12) (yz x1 x2 x3 x4 bq cq 0 false 0) (some (bq,0))
def dS.l5(N:Nat):Nat→dS.bN
 |0,_,_,_,_,_,_=>none
 |n+1,x1,x2,x3,x4,bq,cq=>dS.dV N (dS.l9 N (dS.l5 N n) N) (dS.l5 N n) x1 x2 x3 x4 bq cq
def dS.b(fa:dS.bN)(a0:ae)(a1:aE)(a2:List Int)(a3:bL)(a4:aN):Option (aE×(Int)):=
 (qo N a1).bind λr1=>cond (!r1) (some ([],1)) ((sQ N a2).bind λr2=>cond (!r2) (some ([],1)) ((jI N a0 a3).bind λr3=>cond (!r3) (some ([],1)) ((fi N a4).bind λr4=>cond (!r4) (some ([],1)) (fa a1 a2 a3 a4 ([]) 1))))
def dS(a0:ae)(a1:aE)(a2:List Int)(a3:bL)(a4:aN):Option (aE×(Int)):=dS.b N (dS.l5 N N) a0 a1 a2 a3 a4
def MY(a0:bE)(a1:an)(a2 a3 a4:Int):Option bE:=
 (vn N a1.2.2.1 a3 a4).bind λr1=>cond (aX 0 r1) (cond (small (ℓ a0+ℓ ([(a2,(a3,(a4,(r1,(0,())))))]))) (some (a0++([(a2,(a3,(a4,(r1,(0,())))))]))) none) (some a0)
def aaA(N:Nat)(a0:Int):Option Bool:=
 cond (aM a0 1) (some true) (some (aM a0 2))
abbrev sR.bP:=aE→Int→Int→Option Int
def sR.dM(N:Nat)(cJ:sR.bP)(x0:aE)(x1 x5:Int):Option Int:=
 cond (aX x5 (ℓ x0)) (cond (bg x5 (ℓ x0)) (cond (aM (γ x0 x5.toNat c7).1 x1) (cond (bg x5 (ℓ x0)) (some (γ x0 x5.toNat c7).2.1) none) (cJ x0 x1 (W .i64 (x5+1)))) none) (some 1)
def sR.l4(N:Nat):Nat→sR.bP
 |0,_,_,_=>none
 |n+1,x0,x1,x5=>sR.dM N (sR.l4 N n) x0 x1 x5
def sR.b(e8:sR.bP)(a0:aE)(a1:Int):Option Int:=
 (qo N a0).bind λr1=>cond (!r1) (some 0) (e8 a0 a1 0)
def sR(a0:aE)(a1:Int):Option Int:=sR.b N (sR.l4 N N) a0 a1
abbrev sS.bN:=aE→Int→Int→an→(List Int)→Int→Option ((List Int)×(Int))
def sS.dV(bS:sS.bN)(x2:aE)(x3 x4:Int)(x6:an)(bq:List Int)(cq:Int):Option ((List Int)×(Int)):=
 cond (aX cq (ℓ x6.1)) (cond (bg cq (ℓ x6.1)) ((aaA N (γ x6.1 cq.toNat c7).2.1).bind λr4=>cond (r4) (cond (!aM (γ x6.1 cq.toNat c7).1 x3) ((vn N x6.2.2.1 6 (γ x6.1 cq.toNat c7).1).bind λr5=>cond (aX 0 r5) ((sR N x2 (γ x6.1 cq.toNat c7).1).bind λr6=>cond (aM r6 x4) (cond (small (ℓ bq+ℓ ([(γ x6.1 cq.toNat c7).1]))) (bS x2 x3 x4 x6 (bq++([(γ x6.1 cq.toNat c7).1])) (W .i64 (cq+1))) none) (bS x2 x3 x4 x6 bq (W .i64 (cq+1)))) (bS x2 x3 x4 x6 bq (W .i64 (cq+1)))) (bS x2 x3 x4 x6 bq (W .i64 (cq+1)))) (bS x2 x3 x4 x6 bq (W .i64 (cq+1)))) none) (some (bq,0))
def sS.l5(N:Nat):Nat→sS.bN
 |0,_,_,_,_,_,_=>none
 |n+1,x2,x3,x4,x6,bq,cq=>sS.dV N (sS.l5 N n) x2 x3 x4 x6 bq cq
def sS.b(fa:sS.bN)(a0:ae)(a1:an)(a2:aE)(a3 a4:Int):Option ((List Int)×(Int)):=
 (gH N a0 a1).bind λr1=>cond (!r1) (some ([],1)) ((qo N a2).bind λr2=>cond (!r2) (some ([],1)) (fa a2 a3 a4 a1 ([]) 0))
def sS(a0:ae)(a1:an)(a2:aE)(a3 a4:Int):Option ((List Int)×(Int)):=sS.b N (sS.l5 N N) a0 a1 a2 a3 a4
abbrev c8.nM:=Int→aE→aE→ae→an→bE→Int→(List Int)→Int→Option (bE×(Int))
abbrev c8.I2:=Int→aE→an→bE→Int→Option (bE×(Int))
abbrev c8.vl:=Int→aE→ae→an→bE→Int→Option (bE×(Int))
abbrev c8.iQ:=Int→aE→aE→ae→an→bE→Int→Option (bE×(Int))
abbrev c8.TH:=Int→aE→aE→ae→an→bE→Option (bE×(Int))
def c8.wX(lC:c8.iQ)(o6:c8.nM)(x2:Int)(x3 x4:aE)(x5:ae)(x6:an)(bq:bE)(c4:Int)(eD:List Int)(gl:Int):Option (bE×(Int)):=
 cond (aX gl (ℓ eD)) (cond (bg gl (ℓ eD)) ((MY N bq x6 (W .i64 ((W .i64 (4+c4))-1)) 6 (γ eD gl.toNat 0)).bind λuu=>o6 x2 x3 x4 x5 x6 uu c4 eD (W .i64 (gl+1))) none) (lC x2 x3 x4 x5 x6 bq (W .i64 (c4+1)))
def c8.yc(N:Nat)(lC:c8.iQ):Nat→c8.nM
 |0,_,_,_,_,_,_,_,_,_=>none
 |n+1,x2,x3,x4,x5,x6,bq,c4,eD,gl=>c8.wX N lC (c8.yc N lC n) x2 x3 x4 x5 x6 bq c4 eD gl
def c8.MA(EU:c8.I2)(x2:Int)(x4:aE)(x6:an)(bq:bE)(XL:Int):Option (bE×(Int)):=
 cond (aX XL (ℓ x4)) (cond (bg XL (ℓ x4)) ((Dc N x6.2.1 (γ x4 XL.toNat c7).1).bind λJv=>cond (bg XL (ℓ x4)) (cond (bg XL (ℓ x4)) ((vn N x6.2.2.1 5 (γ x4 XL.toNat c7).1).bind λr32=>let v33:Int:=mn (γ x4 XL.toNat c7).2.1 r32;cond (Jv.2) (cond (!aM Jv.1.2.1 x2) (cond (aX 0 v33) (cond (small (ℓ bq+ℓ ([(9,(5,(Jv.1.1,(v33,(0,())))))]))) (EU x2 x4 x6 (bq++([(9,(5,(Jv.1.1,(v33,(0,())))))])) (W .i64 (XL+1))) none) (EU x2 x4 x6 bq (W .i64 (XL+1)))) (EU x2 x4 x6 bq (W .i64 (XL+1)))) (EU x2 x4 x6 bq (W .i64 (XL+1)))) none) none) none) (some (bq,0))
def c8.Pv(N:Nat):Nat→c8.I2
 |0,_,_,_,_,_=>none
 |n+1,x2,x4,x6,bq,XL=>c8.MA N (c8.Pv N n) x2 x4 x6 bq XL
def c8.Qf(abh:c8.I2)(nQ:c8.vl)(x2:Int)(x4:aE)(x5:ae)(x6:an)(bq:bE)(my:Int):Option (bE×(Int)):=
 cond (aX my (ℓ x6.1)) (cond (bg my (ℓ x6.1)) ((aaA N (γ x6.1 my.toNat c7).2.1).bind λQV=>cond (!QV) (nQ x2 x4 x5 x6 bq (W .i64 (my+1))) (cond (aM (γ x6.1 my.toNat c7).1 x2) (nQ x2 x4 x5 x6 bq (W .i64 (my+1))) ((eC N x5.2.2.1).bind λNo=>(vn N x6.2.2.1 6 (γ x6.1 my.toNat c7).1).bind λET=>(eC N ET).bind λNK=>(ei N No NK).bind λJu=>(xW N Ju).bind λEV=>cond (!EV.2) (some ([],2)) (cond (aX 0 EV.1) (cond (small (ℓ bq+ℓ ([(8,(7,((γ x6.1 my.toNat c7).1,(EV.1,(0,())))))]))) (nQ x2 x4 x5 x6 (bq++([(8,(7,((γ x6.1 my.toNat c7).1,(EV.1,(0,())))))])) (W .i64 (my+1))) none) (nQ x2 x4 x5 x6 bq (W .i64 (my+1))))))) none) (abh x2 x4 x6 bq 0)
def c8.J4(N:Nat):Nat→c8.vl
 |0,_,_,_,_,_,_=>none
 |n+1,x2,x4,x5,x6,bq,my=>c8.Qf N (c8.Pv N N) (c8.J4 N n) x2 x4 x5 x6 bq my
def c8.mN(I0:c8.nM)(abp:c8.vl)(lC:c8.iQ)(x2:Int)(x3 x4:aE)(x5:ae)(x6:an)(bq:bE)(c4:Int):Option (bE×(Int)):=
 cond (dy c4 4) ((sS N x5 x6 x3 x2 c4).bind λoI=>I0 x2 x3 x4 x5 x6 bq c4 oI.1 0) (abp x2 x4 x5 x6 bq 0)
def c8.nJ(N:Nat):Nat→c8.iQ
 |0,_,_,_,_,_,_,_=>none
 |n+1,x2,x3,x4,x5,x6,bq,c4=>c8.mN N (c8.yc N (c8.nJ N n) N) (c8.J4 N N) (c8.nJ N n) x2 x3 x4 x5 x6 bq c4
def c8.Pe(vk:c8.iQ)(x2:Int)(x3 x4:aE)(x5:ae)(x6:an)(bq:bE):Option (bE×(Int)):=
 (MY N bq x6 2 6 x2).bind λr8=>(MY N r8 x6 3 3 0).bind λr9=>vk x2 x3 x4 x5 x6 r9 1
def c8.j9(x2:Int)(x3 x4:aE)(x5:ae)(x6:an)(bq:bE):Option (bE×(Int)):=c8.Pe N (c8.nJ N N) x2 x3 x4 x5 x6 bq
def c8.b(I4:c8.TH)(a0:ae)(a1:an)(a2:Int)(a3 a4:aE):Option (bE×(Int)):=
 (gH N a0 a1).bind λr1=>cond (!r1) (some ([],1)) ((qo N a3).bind λr2=>cond (!r2) (some ([],1)) ((rq N a4).bind λr3=>cond (!r3) (some ([],1)) ((UC N a1.1 a2).bind λr4=>cond (aM r4 0) (some ([],3)) ((nq N a1.2.1 a2).bind λr5=>cond (!aM r5 0) ((MY N ([]) a1 1 5 r5).bind λr6=>I4 a2 a3 a4 a0 a1 r6) (I4 a2 a3 a4 a0 a1 ([]))))))
def c8(a0:ae)(a1:an)(a2:Int)(a3 a4:aE):Option (bE×(Int)):=c8.b N (c8.j9 N) a0 a1 a2 a3 a4
def adP(a0:ae)(a1:an):Option ((Int)×(Int)):=
 (gH N a0 a1).bind λr1=>cond (!r1) (some (0,1)) ((vn N a1.2.2.1 2 0).bind λr2=>cond (aM r2 (-9223372036854775808)) (some (0,2)) (some ((mx (W .i64 (0-r2)) 0),0)))
abbrev sU.bP:=bE→Int→Option Bool
def sU.dM(cJ:sU.bP)(x0:bE)(x3:Int):Option Bool:=
 cond (aX x3 (ℓ x0)) (cond (bg x3 (ℓ x0)) (cond (aX (γ x0 x3.toNat gv).1 1) (some false) (cond (aX 9 (γ x0 x3.toNat gv).1) (some false) ((F97 N (γ x0 x3.toNat gv).2.1 (γ x0 x3.toNat gv).2.2.1).bind λr2=>cond (!r2) (some false) (cond (aX (γ x0 x3.toNat gv).2.2.2.1 1) (some false) (cond (aX (γ x0 x3.toNat gv).2.2.2.2.1 0) (some false) (cond (aX (γ x0 x3.toNat gv).2.2.2.1 (γ x0 x3.toNat gv).2.2.2.2.1) (some false) (cond (aX 0 x3) (let v3:Int:=W .i64 (x3-1);cond (bg v3 (ℓ x0)) (cond (aX (γ x0 x3.toNat gv).1 (γ x0 v3.toNat gv).1) (some false) (let v4:Int:=W .i64 (x3-1);cond (bg v4 (ℓ x0)) (cond (aM (γ x0 x3.toNat gv).1 (γ x0 v4.toNat gv).1) (let v5:Int:=W .i64 (x3-1);cond (bg v5 (ℓ x0)) (cond (!aM (γ x0 x3.toNat gv).2.1 (γ x0 v5.toNat gv).2.1) (some false) (let v6:Int:=W .i64 (x3-1);cond (bg v6 (ℓ x0)) (cond (dy (γ x0 x3.toNat gv).2.2.1 (γ x0 v6.toNat gv).2.2.1) (some false) (cJ x0 (W .i64 (x3+1)))) none)) none) (cJ x0 (W .i64 (x3+1)))) none)) none) (cJ x0 (W .i64 (x3+1)))))))))) none) (some true)
def sU.l4(N:Nat):Nat→sU.bP
 |0,_,_=>none
 |n+1,x0,x3=>sU.dM N (sU.l4 N n) x0 x3
def sU.b(N:Nat)(e8:sU.bP)(a0:bE):Option Bool:=
 cond (aX 64 (ℓ a0)) (some false) (e8 a0 0)
def sU(a0:bE):Option Bool:=sU.b N (sU.l4 N N) a0
abbrev dZ.yC:=bE→Int→Int→Int→(List Int)→Int→Option (bE×(Int)×(Int))
abbrev dZ.QP:=bE→Int→Int→Int→(List Int)→Option (bE×(Int)×(Int))
abbrev dZ.kb:=bE→Int→Int→Int→(List Int)→Option (bE×(Int)×(Int))
abbrev dZ.bN:=bE→Int→Int→Option (bE×(Int)×(Int))
def dZ.Fm(N:Nat)(bS:dZ.bN)(I8:dZ.yC)(x7:bE)(x8 x9 bx:Int)(c4:List Int)(fE:Int):Option (bE×(Int)×(Int)):=
 cond (aX fE bx) (let v13:Int:=W .i64 (fE-x9);cond (bg v13 (ℓ c4)) (cond (bg fE (ℓ x7)) (let v15:Int:=W .i64 (fE-x9);cond (bg v15 (ℓ c4)) (I8 (List.set x7 fE.toNat ((γ x7 fE.toNat gv).1,((γ x7 fE.toNat gv).2.1,((γ x7 fE.toNat gv).2.2.1,((γ x7 fE.toNat gv).2.2.2.1,(γ c4 v13.toNat 0,(γ x7 fE.toNat gv).2.2.2.2.2)))))) (W .i64 (x8-(γ c4 v15.toNat 0))) x9 bx c4 (W .i64 (fE+1))) none) none) none) (bS x7 x8 bx)
def dZ.Jr(N:Nat)(bS:dZ.bN):Nat→dZ.yC
 |0,_,_,_,_,_,_=>none
 |n+1,x7,x8,x9,bx,c4,fE=>dZ.Fm N bS (dZ.Jr N bS n) x7 x8 x9 bx c4 fE
def dZ.Du(QR:dZ.yC)(bS:dZ.bN)(x7:bE)(x8 x9 bx:Int)(bf:List Int):Option (bE×(Int)×(Int)):=
 (qB N bf).bind λr8=>(xW N r8).bind λr9=>cond (!r9.2) (some ([],0,2)) ((gC N (mn r9.1 x8) bf).bind λoI=>cond (!aM oI.2 0) (some ([],0,oI.2)) (QR x7 x8 x9 bx oI.1 x9))
def dZ.Lg(bS:dZ.bN)(x7:bE)(x8 x9 bx:Int)(bf:List Int):Option (bE×(Int)×(Int)):=dZ.Du N (dZ.Jr N bS N) bS x7 x8 x9 bx bf
def dZ.Ej(N:Nat)(EW:dZ.QP)(bS:dZ.bN)(gK:dZ.kb)(x7:bE)(x8 x9 bx:Int)(bf:List Int):Option (bE×(Int)×(Int)):=
 cond (aX bx (ℓ x7)) (cond (bg bx (ℓ x7)) (cond (bg x9 (ℓ x7)) (cond (aM (γ x7 bx.toNat gv).1 (γ x7 x9.toNat gv).1) (cond (bg bx (ℓ x7)) (cond (small (ℓ bf+ℓ ([(γ x7 bx.toNat gv).2.2.2.1]))) (gK x7 x8 x9 (W .i64 (bx+1)) (bf++([(γ x7 bx.toNat gv).2.2.2.1]))) none) none) (EW x7 x8 x9 bx bf)) none) none) (EW x7 x8 x9 bx bf)
def dZ.l8(N:Nat)(bS:dZ.bN):Nat→dZ.kb
 |0,_,_,_,_,_=>none
 |n+1,x7,x8,x9,bx,bf=>dZ.Ej N (dZ.Lg N bS) bS (dZ.l8 N bS n) x7 x8 x9 bx bf
def dZ.dV(N:Nat)(I5:dZ.kb)(bS:dZ.bN)(x7:bE)(x8 x9:Int):Option (bE×(Int)×(Int)):=
 cond (aX x9 (ℓ x7)) (I5 x7 x8 x9 x9 ([])) (some (x7,x8,0))
def dZ.l5(N:Nat):Nat→dZ.bN
 |0,_,_,_=>none
 |n+1,x7,x8,x9=>dZ.dV N (dZ.l8 N (dZ.l5 N n) N) (dZ.l5 N n) x7 x8 x9
def dZ.b(fa:dZ.bN)(a0:bE)(a1:Int):Option (bE×(Int)×(Int)):=
 (sU N a0).bind λr1=>cond (!r1) (some ([],0,1)) (cond (aX a1 0) (some ([],0,1)) (cond (small (ℓ DQ+ℓ a0)) (fa (DQ++a0) a1 0) none))
def dZ(a0:bE)(a1:Int):Option (bE×(Int)×(Int)):=dZ.b N (dZ.l5 N N) a0 a1
def adQ(a0:ae)(a1:an):Option ((Int)×(Int)):=
 (gH N a0 a1).bind λr1=>cond (!r1) (some (0,1)) ((vn N a1.2.2.1 2 0).bind λr2=>some ((mx r2 0),0))
abbrev jb.aq5:=an→an→ew→bO→ew→bE→Int→Int→Int→Option (an×ew×(Int))
abbrev jb.I7:=Int→ae→an→an→ew→bE→Int→bO→ew→bE→Int→Option (an×ew×(Int))
def jb.adS(x6 bx:an)(bf:ew)(my:bO)(nV:ew)(I9:bE)(x21 x23 x24:Int):Option (an×ew×(Int)):=
 (eC N x21).bind λw1=>(Dw N 2 0 x23 x24 w1).bind λyx=>cond (small (ℓ my+ℓ yx)) ((zt N x6 bo (my++yx)).bind λQO=>cond (!aM QO.2 0) (some ((cn,(cW,(bo,(bo,(di,(du,())))))),(0,(0,(DQ,(0,())))),QO.2)) (some (QO.1,(nV.1,(nV.2.1,(I9,nV.2.2.2))),0))) none
def jb.j26(x6 bx:an)(bf:ew)(my:bO)(nV:ew)(I9:bE)(x21 x23 x24:Int):Option (an×ew×(Int)):=jb.adS N x6 bx bf my nV I9 x21 x23 x24
def jb.JY(ajl:jb.aq5)(LC:jb.I7)(x2:Int)(x5:ae)(x6 bx:an)(bf:ew)(cq:bE)(gl:Int)(my:bO)(nV:ew)(I9:bE)(AH:Int):Option (an×ew×(Int)):=
 cond (aX AH (ℓ cq)) (cond (bg AH (ℓ cq)) (cond (aX 0 (γ cq AH.toNat gv).2.2.2.2.1) (cond (bg AH (ℓ cq)) (cond (small (ℓ I9+ℓ ([γ cq AH.toNat gv]))) (cond (bg AH (ℓ cq)) (cond (bg AH (ℓ cq)) (cond (bg AH (ℓ cq)) ((eC N (γ cq AH.toNat gv).2.2.2.2.1).bind λr6=>(Dw N (γ cq AH.toNat gv).2.1 (γ cq AH.toNat gv).2.2.1 2 0 r6).bind λr7=>cond (small (ℓ my+ℓ r7)) (LC x2 x5 x6 bx bf cq gl (my++r7) (nV.1,(nV.2.1,(DQ,nV.2.2.2))) (I9++([γ cq AH.toNat gv])) (W .i64 (AH+1))) none) none) none) none) none) none) (LC x2 x5 x6 bx bf cq gl my nV I9 (W .i64 (AH+1)))) none) ((eC N gl).bind λoI=>(Dw N 4 0 2 0 oI).bind λnZ=>cond (small (ℓ my+ℓ nZ)) (let v13:List ((Int)×((Int)×(((Bool)×((List Int)×(Unit)))×(Unit)))):=my++nZ;(adQ N x5 x6).bind λtV=>(nq N x6.2.1 x2).bind λuu=>cond (!aM uu 0) (ajl x6 bx bf v13 nV I9 tV.1 5 uu) (ajl x6 bx bf v13 nV I9 tV.1 6 x2)) none)
def jb.KK(N:Nat):Nat→jb.I7
 |0,_,_,_,_,_,_,_,_,_,_,_=>none
 |n+1,x2,x5,x6,bx,bf,cq,gl,my,nV,I9,AH=>jb.JY N (jb.j26 N) (jb.KK N n) x2 x5 x6 bx bf cq gl my nV I9 AH
def jb.b(abm:jb.I7)(a0:ae)(a1:an)(a2:Int)(a3 a4:aE):Option (an×ew×(Int)):=
 (c8 N a0 a1 a2 a3 a4).bind λr1=>cond (aM r1.2 1) (some ((cn,(cW,(bo,(bo,(di,(du,())))))),(0,(0,(DQ,(0,())))),r1.2)) (cond (aM r1.2 3) (some ((cn,(cW,(bo,(bo,(di,(du,())))))),(0,(0,(DQ,(0,())))),r1.2)) ((adP N a0 a1).bind λr2=>cond (!aM r2.2 0) (some ((cn,(cW,(bo,(bo,(di,(du,())))))),(0,(0,(DQ,(0,())))),r2.2)) (cond (!aM r1.2 0) (some ((cn,(cW,(bo,(bo,(di,(du,())))))),(0,(0,(DQ,(0,())))),r1.2)) ((dZ N r1.1 r2.1).bind λr3=>cond (!aM r3.2.2 0) (some ((cn,(cW,(bo,(bo,(di,(du,())))))),(0,(0,(DQ,(0,())))),r3.2.2)) (abm a2 a0 a1 (cn,(cW,(bo,(bo,(di,(du,())))))) (0,(0,(DQ,(0,())))) r3.1 r3.2.1 ([]) (a2,(r2.1,(DQ,(r3.2.1,())))) DQ 0)))))
def jb(a0:ae)(a1:an)(a2:Int)(a3 a4:aE):Option (an×ew×(Int)):=jb.b N (jb.KK N N) a0 a1 a2 a3 a4
abbrev fu.I1:=(List Int)→(List Int)→(List Int)→Int→Int→(List Int)→Int→Option ((List Int)×(Int)×(Int))
abbrev fu.iQ:=(List Int)→(List Int)→(List Int)→Int→Int→(List Int)→Bool→Int→Option ((List Int)×(Int)×(Int))
abbrev fu.kb:=(List Int)→(List Int)→(List Int)→Int→Int→Option ((List Int)×(Int)×(Int))
def fu.SP(N:Nat)(gK:fu.kb)(abg:fu.I1)(x1 x2 bf:List Int)(bq cq:Int)(gl:List Int)(nV:Int):Option ((List Int)×(Int)×(Int)):=
 cond (aX nV (ℓ x1)) (cond (bg nV (ℓ gl)) (cond (bg nV (ℓ x2)) (cond (bg nV (ℓ bf)) (let v16:Int:=mn (γ gl nV.toNat 0) (W .i64 ((γ x2 nV.toNat 0)-(γ bf nV.toNat 0)));cond (bg nV (ℓ bf)) (cond (bg nV (ℓ bf)) (abg x1 x2 (List.set bf nV.toNat (W .i64 ((γ bf nV.toNat 0)+v16))) (W .i64 (bq-v16)) cq gl (W .i64 (nV+1))) none) none) none) none) none) (gK x1 x2 bf bq (W .i64 (cq+1)))
def fu.WH(N:Nat)(gK:fu.kb):Nat→fu.I1
 |0,_,_,_,_,_,_,_=>none
 |n+1,x1,x2,bf,bq,cq,gl,nV=>fu.SP N gK (fu.WH N gK n) x1 x2 bf bq cq gl nV
def fu.mN(abi:fu.I1)(gK:fu.kb)(lC:fu.iQ)(x1 x2 bf:List Int)(bq cq:Int)(c4:List Int)(eD:Bool)(fE:Int):Option ((List Int)×(Int)×(Int)):=
 cond (aX fE (ℓ x1)) (cond (bg fE (ℓ x1)) (cond (aX 0 (γ x1 fE.toNat 0)) (cond (bg fE (ℓ bf)) (cond (bg fE (ℓ x2)) (cond (aX (γ bf fE.toNat 0) (γ x2 fE.toNat 0)) (cond (bg fE (ℓ x1)) (cond (bg fE (ℓ c4)) (lC x1 x2 bf bq cq (List.set c4 fE.toNat (γ x1 fE.toNat 0)) true (W .i64 (fE+1))) none) none) (lC x1 x2 bf bq cq c4 eD (W .i64 (fE+1)))) none) none) (lC x1 x2 bf bq cq c4 eD (W .i64 (fE+1)))) none) (cond (aM bq 0) (some (bf,bq,0)) (cond (!eD) (some (bf,bq,0)) ((gC N bq c4).bind λn0=>abi x1 x2 bf bq cq n0.1 0)))
def fu.nJ(N:Nat)(gK:fu.kb):Nat→fu.iQ
 |0,_,_,_,_,_,_,_,_=>none
 |n+1,x1,x2,bf,bq,cq,c4,eD,fE=>fu.mN N (fu.WH N gK N) gK (fu.nJ N gK n) x1 x2 bf bq cq c4 eD fE
def fu.Ej(N:Nat)(vk:fu.iQ)(gK:fu.kb)(x1 x2 bf:List Int)(bq cq:Int):Option ((List Int)×(Int)×(Int)):=
 cond (dy cq (ℓ x1)) (cond (kU (ℓ x1) (ℓ x1)) (vk x1 x2 bf bq cq (List.replicate (ℓ x1:Int).toNat 0) false 0) none) (some (bf,bq,0))
def fu.l8(N:Nat):Nat→fu.kb
 |0,_,_,_,_,_=>none
 |n+1,x1,x2,bf,bq,cq=>fu.Ej N (fu.nJ N (fu.l8 N n) N) (fu.l8 N n) x1 x2 bf bq cq
def fu.b(I5:fu.kb)(a0:Int)(a1 a2:List Int):Option ((List Int)×(Int)×(Int)):=
 (qJ N a0 a1).bind λr1=>cond (r1) (some ([],0,1)) (cond (!aM (ℓ a2) (ℓ a1)) (some ([],0,1)) ((qJ N 0 a2).bind λr2=>cond (r2) (some ([],0,1)) ((qB N a1).bind λr3=>(xW N r3).bind λr4=>cond (!r4.2) (some ([],0,2)) (cond (kU (ℓ a1) (ℓ a1)) (I5 a1 a2 (List.replicate (ℓ a1:Int).toNat 0) a0 0) none))))
def fu(a0:Int)(a1 a2:List Int):Option ((List Int)×(Int)×(Int)):=fu.b N (fu.l8 N N) a0 a1 a2
abbrev gr.abq:=Int→Int→(List Int)→(List Int)→au→Int→Option (au×(Int))
abbrev gr.yE:=Int→an→Int→(List Int)→(List Int)→Int→Option (au×(Int))
def gr.aaB(N:Nat)(Vp:gr.abq)(x2 x8:Int)(x9 cq:List Int)(fE:au)(gl:Int):Option (au×(Int)):=
 cond (aX gl (ℓ cq)) (cond (bg gl (ℓ cq)) (cond (aX x8 0) (let v17:Int:=W .i64 (0-(γ cq gl.toNat 0));cond (!aM v17 0) (cond (bg gl (ℓ x9)) (cond (small (ℓ fE+ℓ ([(γ x9 gl.toNat 0,(x2,(v17,())))]))) (Vp x2 x8 x9 cq (fE++([(γ x9 gl.toNat 0,(x2,(v17,())))])) (W .i64 (gl+1))) none) none) (Vp x2 x8 x9 cq fE (W .i64 (gl+1)))) (cond (!aM (γ cq gl.toNat 0) 0) (cond (bg gl (ℓ x9)) (cond (small (ℓ fE+ℓ ([(γ x9 gl.toNat 0,(x2,(γ cq gl.toNat 0,())))]))) (Vp x2 x8 x9 cq (fE++([(γ x9 gl.toNat 0,(x2,(γ cq gl.toNat 0,())))])) (W .i64 (gl+1))) none) none) (Vp x2 x8 x9 cq fE (W .i64 (gl+1))))) none) (some (fE,0))
def gr.Xk(N:Nat):Nat→gr.abq
 |0,_,_,_,_,_,_=>none
 |n+1,x2,x8,x9,cq,fE,gl=>gr.aaB N (gr.Xk N n) x2 x8 x9 cq fE gl
def gr.yg(aq6:gr.abq)(Cv:gr.yE)(x2:Int)(x4:an)(x8:Int)(x9 bx:List Int)(bf:Int):Option (au×(Int)):=
 cond (aX bf (ℓ x4.2.2.2.1)) (cond (bg bf (ℓ x4.2.2.2.1)) (cond (!aM (γ x4.2.2.2.1 bf.toNat aZ).1 0) (cond (aM (γ x4.2.2.2.1 bf.toNat aZ).2.1 x2) (cond (!(oX .bool (aX 0 (γ x4.2.2.2.1 bf.toNat aZ).2.2.1) (aX 0 x8))) (cond (small (ℓ x9+ℓ ([(γ x4.2.2.2.1 bf.toNat aZ).1]))) (let v6:Int:=mx (γ x4.2.2.2.1 bf.toNat aZ).2.2.1 (W .i64 (0-((γ x4.2.2.2.1 bf.toNat aZ).2.2.1)));cond (small (ℓ bx+ℓ ([v6]))) (Cv x2 x4 x8 (x9++([(γ x4.2.2.2.1 bf.toNat aZ).1])) (bx++([v6])) (W .i64 (bf+1))) none) none) (Cv x2 x4 x8 x9 bx (W .i64 (bf+1)))) (Cv x2 x4 x8 x9 bx (W .i64 (bf+1)))) (Cv x2 x4 x8 x9 bx (W .i64 (bf+1)))) none) ((fu N (mx x8 (W .i64 (0-x8))) bx bx).bind λtV=>cond (!aM tV.2.2 0) (some ([],tV.2.2)) (aq6 x2 x8 x9 tV.1 ([(0,(x2,((W .i64 (0-x8)),())))]) 0))
def gr.An(N:Nat):Nat→gr.yE
 |0,_,_,_,_,_,_=>none
 |n+1,x2,x4,x8,x9,bx,bf=>gr.yg N (gr.Xk N N) (gr.An N n) x2 x4 x8 x9 bx bf
def gr.b(QT:gr.yE)(a0:ae)(a1:an)(a2:Int):Option (au×(Int)):=
 (gH N a0 a1).bind λr1=>cond (!r1) (some ([],1)) (cond (aX a2 0) (some ([],3)) (cond (dy (ℓ a0.1) a2) (some ([],3)) ((CC N a1.2.2.2.1 0 a2).bind λr2=>cond (aM r2 0) (some ([],0)) (QT a2 a1 r2 ([]) ([]) 0))))
def gr(a0:ae)(a1:an)(a2:Int):Option (au×(Int)):=gr.b N (gr.An N N) a0 a1 a2
abbrev oN.bN:=ae→an→an→au→Int→Option (an×(Int))
def oN.dV(bS:oN.bN)(x2:ae)(x3 x4:an)(x6:au)(x7:Int):Option (an×(Int)):=
 cond (aX x7 (ℓ x2.1)) ((gr N x2 x3 x7).bind λr3=>cond (!aM r3.2 0) (some ((cn,(cW,(bo,(bo,(di,(du,())))))),r3.2)) (cond (small (ℓ x6+ℓ r3.1)) (bS x2 x3 x4 (x6++r3.1) (W .i64 (x7+1))) none)) ((zt N x3 x6 ([]:List ((Int)×((Int)×(((Bool)×((List Int)×(Unit)))×(Unit)))))).bind λr6=>some (r6.1,r6.2))
def oN.l5(N:Nat):Nat→oN.bN
 |0,_,_,_,_,_=>none
 |n+1,x2,x3,x4,x6,x7=>oN.dV N (oN.l5 N n) x2 x3 x4 x6 x7
def oN.b(fa:oN.bN)(a0:ae)(a1:an):Option (an×(Int)):=
 (gH N a0 a1).bind λr1=>cond (!r1) (some ((cn,(cW,(bo,(bo,(di,(du,())))))),1)) (fa a0 a1 (cn,(cW,(bo,(bo,(di,(du,())))))) ([]) 0)
def oN(a0:ae)(a1:an):Option (an×(Int)):=oN.b N (oN.l5 N N) a0 a1
abbrev oP.abr:=aR→aR→dg→bL→Int→Int→Option (aR×dg)
def oP.adX(N:Nat)(ajm:oP.abr)(x4 x6:aR)(x7:dg)(c4:bL)(fE gl:Int):Option (aR×dg):=
 cond (aX gl (ℓ c4)) (cond (bg gl (ℓ c4)) (cond (aM (γ c4 gl.toNat (0,(cn,bb))).2.2.2.1 2) (ajm x4 x6 x7 c4 (W .i64 (fE+1)) (W .i64 (gl+1))) (ajm x4 x6 x7 c4 fE (W .i64 (gl+1)))) none) (some (x4,(0,(fE,(0,())))))
def oP.l41(N:Nat):Nat→oP.abr
 |0,_,_,_,_,_,_=>none
 |n+1,x4,x6,x7,c4,fE,gl=>oP.adX N (oP.l41 N n) x4 x6 x7 c4 fE gl
def oP.b(aq7:oP.abr)(a0:ae)(a1:aR)(a2:iE):Option (aR×dg):=
 cond (aM a2.1 14) ((Xb N a0 a1.2.2.1 a1.2.2.2.1.1 a2.2.1 a2.2.2.1).bind λr1=>(gj N r1.2).bind λr2=>some ((a1.1,(a1.2.1,(r1.1,a1.2.2.2))),r2)) (cond (aM a2.1 15) ((hZ N a0 a1.2.2.1 a1.2.2.2.1.1).bind λr3=>(gj N r3.2).bind λr4=>some ((a1.1,(a1.2.1,(r3.1,((a1.2.2.2.1.1,(2,(0,a1.2.2.2.1.2.2.2))),a1.2.2.2.2)))),r4)) (cond (aM a2.1 16) ((jJ N a0 a1.2.2.1 a1.2.1).bind λr5=>some ((a1.1,((W .i64 (a1.2.1+(ℓ r5.1:Int))),(a1.2.2.1,((a1.2.2.2.1.1,(a1.2.2.2.1.2.1,(a1.2.2.2.1.2.2.1,(a1.2.2.2.1.2.2.2.1,(r5.1,a1.2.2.2.1.2.2.2.2.2))))),a1.2.2.2.2)))),(r5.2,((ℓ r5.1:Int),(0,()))))) (cond (aM a2.1 17) ((oO N a0 a1 a2).bind λr7=>some (r7.1,r7.2)) (cond (aM a2.1 18) (cond (aM a1.2.2.2.1.2.2.2.1 3) ((gj N 5).bind λr8=>some (a1,r8)) ((cw N a0 a1.2.2.1 a1.2.1).bind λr9=>cond (!aM r9.2 0) ((gj N r9.2).bind λme=>some (a1,me)) ((Xm N a1 a0.2.2.2.2.1).bind λoI=>cond (!oI.2) ((gj N 2).bind λnZ=>some (a1,nZ)) ((sP N a0 a1.2.2.1).bind λtV=>some ((a1.1,((W .i64 (a1.2.1+(ℓ r9.1:Int))),(a1.2.2.1,((a1.2.2.2.1.1,(3,(oI.1,((W .i64 (a1.2.2.2.1.2.2.2.1+1)),(cW,(r9.1,(cW,(tV.1,a1.2.2.2.1.2.2.2.2.2.2.2.2)))))))),a1.2.2.2.2)))),(0,((ℓ r9.1:Int),(0,())))))))) (cond (aM a2.1 19) ((adN N a0 a1.2.2.1 a1.2.2.2.1.2.2.2.2.2.1 a1.2.2.2.1.2.2.2.2.2.2.1 (a1.2.1,(a2.2.2.2.2.2.1,(a2.2.1,(a2.2.2.2.2.2.2.2.1,()))))).bind λwz=>let v17:Int:=W .i64 (a1.2.1+1);some ((a1.1,(v17,(a1.2.2.1,((a1.2.2.2.1.1,(a1.2.2.2.1.2.1,(a1.2.2.2.1.2.2.1,(a1.2.2.2.1.2.2.2.1,(a1.2.2.2.1.2.2.2.2.1,(a1.2.2.2.1.2.2.2.2.2.1,(wz.1,a1.2.2.2.1.2.2.2.2.2.2.2))))))),a1.2.2.2.2)))),(wz.2,((W .i64 (v17-1)),(0,()))))) (cond (aM a2.1 20) ((gA N a0 a1.2.2.1 a1.2.2.2.1.2.2.2.2.2.1 a1.2.2.2.1.2.2.2.2.2.2.1).bind λQV=>cond (!aM QV.2.2 0) ((gj N QV.2.2).bind λQO=>some (a1,QO)) ((dS N a0 a1.2.2.2.1.2.2.2.2.2.2.2.2.1 a1.2.2.2.1.2.2.2.2.2.2.2.1 QV.2.1 a1.2.2.2.1.2.2.2.2.2.2.1).bind λGe=>aq7 (a1.1,(a1.2.1,(QV.1,((a1.2.2.2.1.1,(2,(0,(a1.2.2.2.1.2.2.2.1,(a1.2.2.2.1.2.2.2.2.1,(QV.2.1,(a1.2.2.2.1.2.2.2.2.2.2.1,(a1.2.2.2.1.2.2.2.2.2.2.2.1,(Ge.1,a1.2.2.2.1.2.2.2.2.2.2.2.2.2))))))))),a1.2.2.2.2)))) (0,(0,((cn,(cW,(bo,(bo,(di,(du,())))))),((0,(0,(0,(0,(cW,(([]:List ((Int)×((List ((Int)×((Int)×(Unit))))×((Int)×((Int)×((Int)×((Int)×(Unit)))))))),(cW,(di,(cn,(cn,())))))))))),((0,(0,(DQ,(0,())))),()))))) aZ QV.2.1 0 0)) (cond (aM a2.1 21) ((jb N a0 a1.2.2.1 a1.2.2.2.1.1 a1.2.2.2.1.2.2.2.2.2.2.2.2.1 a1.2.2.2.1.2.2.2.2.2.2.2.2.2.1).bind λEV=>cond (!aM EV.2.2 0) ((gj N EV.2.2).bind λQN=>some (a1,QN)) ((oN N a0 EV.1).bind λr28=>cond (!aM r28.2 0) ((gj N r28.2).bind λGg=>some (a1,Gg)) ((mR N r28.1.1 a1.2.2.2.1.1 a2.1).bind λTG=>some ((a1.1,(a1.2.1,((TG.1,r28.1.2),((0,(0,(0,(0,(cW,(([]:List ((Int)×((List ((Int)×((Int)×(Unit))))×((Int)×((Int)×((Int)×((Int)×(Unit)))))))),(cW,(di,(cn,(cn,())))))))))),(EV.2.1,a1.2.2.2.2.2))))),(TG.2,(0,(EV.2.1.2.1,()))))))) ((gj N 0).bind λJv=>some (a1,Jv)))))))))
def oP(a0:ae)(a1:aR)(a2:iE):Option (aR×dg):=oP.b N (oP.l41 N N) a0 a1 a2
abbrev qN.abo:=ae→aR→iE→aR→dg→Option (aR×dg)
def qN.Qg(x3:ae)(x4:aR)(x5:iE)(x6:aR)(x7:dg):Option (aR×dg):=
 (adY N x4 x5.1).bind λQN=>cond (!QN) ((gj N 6).bind λr28=>some (x4,r28)) ((oP N x3 x4 x5).bind λGg=>some (Gg.1,Gg.2))
def qN.Xf(x3:ae)(x4:aR)(x5:iE)(x6:aR)(x7:dg):Option (aR×dg):=qN.Qg N x3 x4 x5 x6 x7
def qN.b(QW:qN.abo)(a0:ae)(a1:aR)(a2:iE):Option (aR×dg):=
 cond (aM a2.1 11) ((mR N a1.2.2.1.1 a2.2.1 a2.1).bind λr1=>cond (aM r1.2 0) (cond (aM a2.1 11) ((X0 N a0 (r1.1,a1.2.2.1.2) a2.2.1).bind λr2=>cond (aM a1.2.2.2.1.2.1 3) ((qn N a1.2.2.2.1.2.2.2.2.2.2.1 a2.2.1).bind λr3=>(gj N r1.2).bind λr4=>some ((a1.1,(a1.2.1,(r2.1,((a1.2.2.2.1.1,(a1.2.2.2.1.2.1,(a1.2.2.2.1.2.2.1,(a1.2.2.2.1.2.2.2.1,(a1.2.2.2.1.2.2.2.2.1,(a1.2.2.2.1.2.2.2.2.2.1,(r3,a1.2.2.2.1.2.2.2.2.2.2.2))))))),a1.2.2.2.2)))),r4)) ((gj N r1.2).bind λr5=>some ((a1.1,(a1.2.1,(r2.1,a1.2.2.2))),r5))) ((gj N r1.2).bind λr6=>some ((a1.1,(a1.2.1,((r1.1,a1.2.2.1.2),a1.2.2.2))),r6))) ((gj N r1.2).bind λr7=>some ((a1.1,(a1.2.1,((r1.1,a1.2.2.1.2),a1.2.2.2))),r7))) (cond (aM a2.1 12) ((mR N a1.2.2.1.1 a2.2.1 a2.1).bind λr8=>cond (aM r8.2 0) (cond (aM a2.1 11) ((X0 N a0 (r8.1,a1.2.2.1.2) a2.2.1).bind λr9=>cond (aM a1.2.2.2.1.2.1 3) ((qn N a1.2.2.2.1.2.2.2.2.2.2.1 a2.2.1).bind λme=>(gj N r8.2).bind λoI=>some ((a1.1,(a1.2.1,(r9.1,((a1.2.2.2.1.1,(a1.2.2.2.1.2.1,(a1.2.2.2.1.2.2.1,(a1.2.2.2.1.2.2.2.1,(a1.2.2.2.1.2.2.2.2.1,(a1.2.2.2.1.2.2.2.2.2.1,(me,a1.2.2.2.1.2.2.2.2.2.2.2))))))),a1.2.2.2.2)))),oI)) ((gj N r8.2).bind λnZ=>some ((a1.1,(a1.2.1,(r9.1,a1.2.2.2))),nZ))) ((gj N r8.2).bind λn0=>some ((a1.1,(a1.2.1,((r8.1,a1.2.2.1.2),a1.2.2.2))),n0))) ((gj N r8.2).bind λtV=>some ((a1.1,(a1.2.1,((r8.1,a1.2.2.1.2),a1.2.2.2))),tV))) (cond (aM a2.1 13) ((IA N a1 a2.2.1).bind λuu=>cond (aM uu 0) ((gj N 3).bind λwz=>some (a1,wz)) (cond (!aM a1.2.2.2.1.2.1 0) ((gj N 6).bind λw1=>some (a1,w1)) ((mR N a1.2.2.1.1 a2.2.1 a2.1).bind λyx=>cond (!aM yx.2 0) ((gj N yx.2).bind λQV=>some ((a1.1,(a1.2.1,((yx.1,a1.2.2.1.2),a1.2.2.2))),QV)) ((Xm N (a1.1,(a1.2.1,((yx.1,a1.2.2.1.2),a1.2.2.2))) a0.2.2.2.1).bind λQO=>cond (!QO.2) ((gj N 2).bind λGe=>some ((a1.1,(a1.2.1,((yx.1,a1.2.2.1.2),a1.2.2.2))),Ge)) (some ((a1.1,(a1.2.1,((yx.1,a1.2.2.1.2),((a2.2.1,(1,(QO.1,(0,(cW,(([]:List ((Int)×((List ((Int)×((Int)×(Unit))))×((Int)×((Int)×((Int)×((Int)×(Unit)))))))),(cW,(di,(cn,(cn,())))))))))),a1.2.2.2.2)))),aZ)))))) (cond (aM a2.1 19) ((IA N a1 a2.2.1).bind λNo=>cond (aM No 0) ((gj N 3).bind λET=>some (a1,ET)) ((IA N a1 a2.2.1).bind λNK=>cond (!aM NK 1) ((gj N 7).bind λJu=>some (a1,Ju)) (QW a0 a1 a2 (0,(0,((cn,(cW,(bo,(bo,(di,(du,())))))),((0,(0,(0,(0,(cW,(([]:List ((Int)×((List ((Int)×((Int)×(Unit))))×((Int)×((Int)×((Int)×((Int)×(Unit)))))))),(cW,(di,(cn,(cn,())))))))))),((0,(0,(DQ,(0,())))),()))))) aZ))) (QW a0 a1 a2 (0,(0,((cn,(cW,(bo,(bo,(di,(du,())))))),((0,(0,(0,(0,(cW,(([]:List ((Int)×((List ((Int)×((Int)×(Unit))))×((Int)×((Int)×((Int)×((Int)×(Unit)))))))),(cW,(di,(cn,(cn,())))))))))),((0,(0,(DQ,(0,())))),()))))) aZ))))
def qN(a0:ae)(a1:aR)(a2:iE):Option (aR×dg):=qN.b N (qN.Xf N) a0 a1 a2
def Xo(a0:ae)(a1:aR)(a2:iE):Option (aR×dg):=
 cond (aM a2.1 1) ((iZ N a1.2.2.1.1 a2.2.1).bind λr1=>(gj N r1.2).bind λr2=>some ((a1.1,(a1.2.1,((r1.1,a1.2.2.1.2),a1.2.2.2))),r2)) (cond (aM a2.1 2) ((fU N a1.2.2.1.1 a1.2.2.1.2.1 (a2.2.2.1,(a2.2.1,(a2.2.2.2.2.1,(0,()))))).bind λr3=>(gj N r3.2).bind λr4=>some ((a1.1,(a1.2.1,((a1.2.2.1.1,(r3.1,a1.2.2.1.2.2)),a1.2.2.2))),r4)) (cond (aM a2.1 3) ((Tm N a1 a2.2.2.1).bind λr5=>cond (!r5) ((gj N 3).bind λr6=>some (a1,r6)) ((Qm N a1 1 0 5 a2.2.2.1 a2.2.2.2.2.2.2.1).bind λr7=>some (r7.1,r7.2))) (cond (aM a2.1 4) ((Xa N a0 a1.2.2.1 a2.2.2.1 a2.2.2.2.2.2.2.1).bind λr8=>(gj N r8.2).bind λr9=>some ((a1.1,(a1.2.1,(r8.1,a1.2.2.2))),r9)) (cond (aM a2.1 5) ((IA N a1 a2.2.1).bind λme=>cond (aM me 0) ((gj N 3).bind λoI=>some (a1,oI)) ((IA N a1 a2.2.1).bind λnZ=>cond (!aM nZ 1) ((gj N 7).bind λn0=>some (a1,n0)) ((Qm N a1 1 0 6 a2.2.1 a2.2.2.2.2.2.2.1).bind λtV=>some (tV.1,tV.2)))) (cond (aM a2.1 22) ((IA N a1 a2.2.1).bind λuu=>cond (aM uu 0) ((gj N 3).bind λwz=>some (a1,wz)) ((vn N a1.2.2.1.2.2.1 7 a2.2.1).bind λw1=>(eC N w1).bind λyx=>(E8 N yx).bind λQV=>(eC N a2.2.2.2.2.2.2.1).bind λQO=>(wW N QO QV).bind λGe=>cond (aX 0 Ge) ((gj N 9).bind λNo=>some (a1,No)) ((Qm N a1 1 0 7 a2.2.1 a2.2.2.2.2.2.2.1).bind λET=>some (ET.1,ET.2)))) (cond (aM a2.1 6) ((oK N a1.2.2.1.2.1 a2.2.2.1 a2.2.2.2.2.2.2.1).bind λNK=>(gj N NK.2).bind λJu=>some ((a1.1,(a1.2.1,((a1.2.2.1.1,(NK.1,a1.2.2.1.2.2)),a1.2.2.2))),Ju)) (cond (aM a2.1 7) ((jZ N a0 a1.2.2.1 (a1.2.1,(a2.2.2.1,(a2.2.2.2.1,(a2.2.2.2.2.1,(a2.2.2.2.2.2.2.1,(a2.2.2.2.2.2.2.2.1,()))))))).bind λEV=>let v27:Int:=W .i64 (a1.2.1+1);some ((a1.1,(v27,(EV.1,a1.2.2.2))),(EV.2.2.2,((W .i64 (v27-1)),((W .i64 (a2.2.2.2.2.2.2.1-EV.2.2.1)),()))))) (cond (aM a2.1 8) ((Tm N a1 a2.2.2.1).bind λTG=>cond (!TG) ((gj N 3).bind λJv=>some (a1,Jv)) ((oM N a1.2.2.1.2.2.2.2.2.1 a2.2.2.1 a2.2.2.2.2.2.1).bind λr32=>(gj N r32.2).bind λr33=>some ((a1.1,(a1.2.1,((a1.2.2.1.1,(a1.2.2.1.2.1,(a1.2.2.1.2.2.1,(a1.2.2.1.2.2.2.1,(a1.2.2.1.2.2.2.2.1,(r32.1,a1.2.2.1.2.2.2.2.2.2)))))),a1.2.2.2))),r33))) (cond (aM a2.1 9) ((F52 N a0 a1.2.2.1 a2.2.2.2.1 a2.2.2.2.2.2.2.2.1).bind λr34=>cond (aM r34.2.2 0) (cond (!aM a1.2.2.2.1.2.1 0) ((fB N a1.2.2.2.1.2.2.2.2.2.2.2.2.2.1 r34.2.1).bind λr35=>(gj N r35.2).bind λr36=>some ((a1.1,(a1.2.1,(r34.1,((a1.2.2.2.1.1,(a1.2.2.2.1.2.1,(a1.2.2.2.1.2.2.1,(a1.2.2.2.1.2.2.2.1,(a1.2.2.2.1.2.2.2.2.1,(a1.2.2.2.1.2.2.2.2.2.1,(a1.2.2.2.1.2.2.2.2.2.2.1,(a1.2.2.2.1.2.2.2.2.2.2.2.1,(a1.2.2.2.1.2.2.2.2.2.2.2.2.1,(r35.1,a1.2.2.2.1.2.2.2.2.2.2.2.2.2.2)))))))))),a1.2.2.2.2)))),r36)) ((gj N r34.2.2).bind λr37=>some ((a1.1,(a1.2.1,(r34.1,a1.2.2.2))),r37))) ((gj N r34.2.2).bind λr38=>some ((a1.1,(a1.2.1,(r34.1,a1.2.2.2))),r38))) (cond (aM a2.1 10) ((Xm N a1 a2.2.2.2.2.2.2.1).bind λr39=>cond (!r39.2) ((gj N 2).bind λr40=>some (a1,r40)) (some ((r39.1,a1.2),aZ))) ((qN N a0 a1 a2).bind λr41=>some (r41.1,r41.2))))))))))))
def F76(a0:ae)(a1:aR)(a2:iE):Option (aR×dg):=
 (Ah N a0).bind λr1=>cond (!r1) (some (a1,(1,c7))) ((sN N a2).bind λr2=>cond (!r2) (some (a1,(1,c7))) ((Xo N a0 a1 a2).bind λr3=>cond (!aM r3.2.1 0) (some (a1,(r3.2.1,c7))) (some (r3.1,r3.2))))
abbrev rn.alO:=cZ→dq→aR→Option (aR×cZ×dq)
def rn.l1b(awQ:rn.alO)(x0:cZ)(x1:dq)(x4:aR):Option (aR×cZ×dq):=
 cond (aX x0.2.2.1 (ℓ x1)) (cond (bg x0.2.2.1 (ℓ x1)) ((F76 N x0.1 x0.2.1 (γ x1 x0.2.2.1.toNat zz8)).bind λr2=>awQ (x0.1,(r2.1,((W .i64 (x0.2.2.1+1)),x0.2.2.2))) x1 x4) none) (some (x0.2.1,x0,x1))
def rn.l1(N:Nat):Nat→rn.alO
 |0,_,_,_=>none
 |n+1,x0,x1,x4=>rn.l1b N (rn.l1 N n) x0 x1 x4
def rn.b(N:Nat)(awR:rn.alO)(a0:cZ)(a1:dq):Option (aR×cZ×dq):=
 awR a0 a1 (0,(0,((cn,(cW,(bo,(bo,(di,(du,())))))),((0,(0,(0,(0,(cW,(([]:List ((Int)×((List ((Int)×((Int)×(Unit))))×((Int)×((Int)×((Int)×((Int)×(Unit)))))))),(cW,(di,(cn,(cn,())))))))))),((0,(0,(DQ,(0,())))),())))))
def rn(a0:cZ)(a1:dq):Option (aR×cZ×dq):=rn.b N (rn.l1 N N) a0 a1
abbrev eP.yA:=aP→cZ→dq→aR→Int→je→Int→Option (dq×aP×cZ)
abbrev eP.fT:=aP→cZ→dq→aR→Int→Option (dq×aP×cZ)
abbrev eP.LF:=aP→cZ→dq→Option (dq×aP×cZ)
abbrev eP.bN:=aP→cZ→dq→aR→Int→Option (dq×aP×cZ)
def eP.Fe(gR:eP.fT)(LD:eP.yA)(x0:aP)(x1:cZ)(x2:dq)(bx:aR)(bf:Int)(bq:je)(cq:Int):Option (dq×aP×cZ):=
 cond (dy cq 4) ((Te N x0 3).bind λGe=>cond (!Ge.1) ((qV N Ge.2 41).bind λNo=>let v26:Int:=mx (mn (W .i64 ((W .i64 (bq.2.2.1+No.1))-20)) 1152921504606846976) (-1152921504606846976);cond (small (ℓ x2+ℓ ([(19,(cq,(0,(0,(0,(bq.1,(0,(v26,()))))))))]))) (LD No.2 x1 (x2++([(19,(cq,(0,(0,(0,(bq.1,(0,(v26,()))))))))])) bx bf bq (W .i64 (cq+1))) none) (LD Ge.2 x1 x2 bx bf bq (W .i64 (cq+1)))) (gR x0 x1 x2 bx (W .i64 (bf+1)))
def eP.FR(N:Nat)(gR:eP.fT):Nat→eP.yA
 |0,_,_,_,_,_,_,_=>none
 |n+1,x0,x1,x2,bx,bf,bq,cq=>eP.Fe N gR (eP.FR N gR n) x0 x1 x2 bx bf bq cq
def eP.lq(QQ:eP.yA)(gR:eP.fT)(x0:aP)(x1:cZ)(x2:dq)(bx:aR)(bf:Int):Option (dq×aP×cZ):=
 cond (aX bf (ℓ bx.2.2.2.1.2.2.2.2.2.1)) (cond (bg bf (ℓ bx.2.2.2.1.2.2.2.2.2.1)) (QQ x0 x1 x2 bx bf (γ bx.2.2.2.1.2.2.2.2.2.1 bf.toNat (0,(cn,bb))) 1) none) ((oJ N x0 x1.1).bind λJv=>cond (small (ℓ x2+ℓ Jv.1)) (let v32:List ((Int)×((Int)×((Int)×((Int)×((Int)×((Int)×((Int)×((Int)×(Unit))))))))):=x2++Jv.1;cond (small (ℓ v32+ℓ ([(10,(0,(0,(0,(0,(0,(2,(0,())))))))),(20,Nz)]))) (some ((v32++([(10,(0,(0,(0,(0,(0,(2,(0,())))))))),(20,Nz)])),Jv.2,x1)) none) none)
def eP.mw(N:Nat):Nat→eP.fT
 |0,_,_,_,_,_=>none
 |n+1,x0,x1,x2,bx,bf=>eP.lq N (eP.FR N (eP.mw N n) N) (eP.mw N n) x0 x1 x2 bx bf
def eP.Df(s9:eP.fT)(x0:aP)(x1:cZ)(x2:dq):Option (dq×aP×cZ):=
 cond (small (ℓ x2+ℓ ([(18,Nz)]))) ((rn N x1 (x2++([(18,Nz)]))).bind λyx=>s9 x0 yx.2.1 yx.2.2 yx.1 0) none
def eP.JW(x0:aP)(x1:cZ)(x2:dq):Option (dq×aP×cZ):=eP.Df N (eP.mw N N) x0 x1 x2
def eP.dV(yD:eP.LF)(bS:eP.bN)(x0:aP)(x1:cZ)(x2:dq)(x7:aR)(x8:Int):Option (dq×aP×cZ):=
 cond (aX x8 (ℓ x7.2.2.2.1.2.2.2.2.1)) (cond (bg x8 (ℓ x7.2.2.2.1.2.2.2.2.1)) ((Te N x0 2).bind λr5=>cond (r5.1) ((qV N r5.2 7).bind λr6=>let v7:Int:=W .i64 (1+r6.1);(F74 N r6.2).bind λr8=>let v9:Int:=W .u64 (γ x7.2.2.2.1.2.2.2.2.1 x8.toNat bb).2.2.2.1;cond (aM v9 0) none (let Vo:Int:=W .i64 (1+(W .i64 (rem r8.1 v9)));cond (bg (γ x7.2.2.2.1.2.2.2.2.1 x8.toNat bb).2.1 (ℓ x7.2.2.1.2.2.2.2.1)) (cond (small (ℓ x2+ℓ ([(17,(0,(v7,(0,(0,((γ x7.2.2.2.1.2.2.2.2.1 x8.toNat bb).1,(Vo,(γ x7.2.2.1.2.2.2.2.1 (γ x7.2.2.2.1.2.2.2.2.1 x8.toNat bb).2.1.toNat 0,()))))))))]))) (bS r8.2 x1 (x2++([(17,(0,(v7,(0,(0,((γ x7.2.2.2.1.2.2.2.2.1 x8.toNat bb).1,(Vo,(γ x7.2.2.1.2.2.2.2.1 (γ x7.2.2.2.1.2.2.2.2.1 x8.toNat bb).2.1.toNat 0,()))))))))])) x7 (W .i64 (x8+1))) none) none)) (bS r5.2 x1 x2 x7 (W .i64 (x8+1)))) none) (yD x0 x1 x2)
def eP.l5(N:Nat):Nat→eP.bN
 |0,_,_,_,_,_=>none
 |n+1,x0,x1,x2,x7,x8=>eP.dV N (eP.JW N) (eP.l5 N n) x0 x1 x2 x7 x8
def eP.b(fa:eP.bN)(yD:eP.LF)(a0:aP)(a1:cZ)(a2:dq):Option (dq×aP×cZ):=
 (Te N a0 2).bind λr1=>cond (r1.1) (cond (small (ℓ a2+ℓ ([(16,Nz)]))) ((rn N a1 (a2++([(16,Nz)]))).bind λr3=>fa r1.2 r3.2.1 r3.2.2 r3.1 0) none) (yD r1.2 a1 a2)
def eP(a0:aP)(a1:cZ)(a2:dq):Option (dq×aP×cZ):=eP.b N (eP.l5 N N) (eP.JW N) a0 a1 a2
abbrev vY.yA:=aP→ae→cZ→dq→Int→Option (dq×aP)
abbrev vY.lD:=aP→ae→cZ→dq→Int→Option (dq×aP)
def vY.Fe(LD:vY.yA)(x0:aP)(x4:ae)(x9:cZ)(bx:dq)(cq:Int):Option (dq×aP):=
 cond (aX 0 cq) ((eP N x0 x9 bx).bind λJu=>LD Ju.2.1 x4 Ju.2.2 Ju.1 (W .i64 (cq-1))) ((Te N x0 4).bind λQN=>cond (!QN.1) (cond (small (ℓ bx+ℓ ([(21,Nz)]))) (let v28:List ((Int)×((Int)×((Int)×((Int)×((Int)×((Int)×((Int)×((Int)×(Unit))))))))):=bx++([(21,Nz)]);(oJ N QN.2 x4).bind λGg=>cond (small (ℓ v28+ℓ Gg.1)) (some ((v28++Gg.1),Gg.2)) none) none) ((oJ N QN.2 x4).bind λJv=>cond (small (ℓ bx+ℓ Jv.1)) (some ((bx++Jv.1),Jv.2)) none))
def vY.FR(N:Nat):Nat→vY.yA
 |0,_,_,_,_,_=>none
 |n+1,x0,x4,x9,bx,cq=>vY.Fe N (vY.FR N n) x0 x4 x9 bx cq
def vY.uX(QQ:vY.yA)(oW:vY.lD)(x0:aP)(x4:ae)(x9:cZ)(bx:dq)(bq:Int):Option (dq×aP):=
 cond (dy bq 7) ((Te N x0 3).bind λme=>cond (me.1) ((qV N me.2 2).bind λoI=>let Vo:Int:=W .i64 (3+oI.1);cond (small (ℓ bx+ℓ ([(14,(Vo,(bq,gv)))]))) (oW oI.2 x4 x9 (bx++([(14,(Vo,(bq,gv)))])) (W .i64 (bq+1))) none) (oW me.2 x4 x9 bx (W .i64 (bq+1)))) ((oJ N x0 x4).bind λwz=>cond (small (ℓ bx+ℓ wz.1)) (let v17:List ((Int)×((Int)×((Int)×((Int)×((Int)×((Int)×((Int)×((Int)×(Unit))))))))):=bx++wz.1;(qV N wz.2 2).bind λyx=>let v19:Int:=W .i64 (2+yx.1);cond (small (ℓ v17+ℓ ([(10,(0,(0,(0,(0,(0,(v19,(0,())))))))),(15,Nz)]))) (let v20:List ((Int)×((Int)×((Int)×((Int)×((Int)×((Int)×((Int)×((Int)×(Unit))))))))):=v17++([(10,(0,(0,(0,(0,(0,(v19,(0,())))))))),(15,Nz)]);(oJ N yx.2 x4).bind λGe=>cond (small (ℓ v20+ℓ Ge.1)) ((qV N Ge.2 3).bind λET=>QQ ET.2 x4 x9 (v20++Ge.1) ET.1) none) none) none)
def vY.l9(N:Nat):Nat→vY.lD
 |0,_,_,_,_,_=>none
 |n+1,x0,x4,x9,bx,bq=>vY.uX N (vY.FR N N) (vY.l9 N n) x0 x4 x9 bx bq
def vY.b(yz:vY.lD)(a0:aP)(a1:ae)(a2:Int):Option (dq×aP):=
 (F75 N a1).bind λr1=>(Fl N a0 a1 a2).bind λr2=>(qV N r2.2 2).bind λr3=>let v4:Int:=W .i64 (1+r3.1);cond (small (ℓ r2.1+ℓ ([(11,(v4,dT))]))) (let v5:List ((Int)×((Int)×((Int)×((Int)×((Int)×((Int)×((Int)×((Int)×(Unit))))))))):=r2.1++([(11,(v4,dT))]);(oJ N r3.2 a1).bind λr6=>cond (small (ℓ v5+ℓ r6.1)) (let v7:List ((Int)×((Int)×((Int)×((Int)×((Int)×((Int)×((Int)×((Int)×(Unit))))))))):=v5++r6.1;cond (small (ℓ v7+ℓ ([(13,(v4,dT))]))) (yz r6.2 a1 (a1,(r1.1,(0,()))) (v7++([(13,(v4,dT))])) 5) none) none) none
def vY(a0:aP)(a1:ae)(a2:Int):Option (dq×aP):=vY.b N (vY.l9 N N) a0 a1 a2
abbrev HL.bN:=aP→ae→dq→Int→Option (dq×aP)
def HL.dV(bS:HL.bN)(x0:aP)(x4:ae)(x7:dq)(x8:Int):Option (dq×aP):=
 cond (aX 0 x8) ((F77 N x0 x4).bind λr5=>cond (small (ℓ x7+ℓ ([r5.1]))) (bS r5.2 x4 (x7++([r5.1])) (W .i64 (x8-1))) none) (some (x7,x0))
def HL.l5(N:Nat):Nat→HL.bN
 |0,_,_,_,_=>none
 |n+1,x0,x4,x7,x8=>HL.dV N (HL.l5 N n) x0 x4 x7 x8
def HL.b(fa:HL.bN)(a0:aP)(a1:ae)(a2:Int):Option (dq×aP):=
 (qV N a0 5).bind λr1=>cond (aM r1.1 0) ((qV N r1.2 (W .i64 (a2+1))).bind λr3=>fa r3.2 a1 ([]) r3.1) (cond (aM r1.1 1) ((Fl N r1.2 a1 a2).bind λr8=>some (r8.1,r8.2)) ((vY N r1.2 a1 a2).bind λr9=>some (r9.1,r9.2)))
def HL(a0:aP)(a1:ae)(a2:Int):Option (dq×aP):=HL.b N (HL.l5 N N) a0 a1 a2
abbrev IX.kz:=dq→ae→aR→aR→au→Int→Option (aR×au)
def IX.uU(lB:IX.kz)(x1:dq)(x2:ae)(x4 x6:aR)(x8:au)(x9:Int):Option (aR×au):=
 cond (aX x9 (ℓ x1)) (cond (bg x9 (ℓ x1)) ((F76 N x2 x6 (γ x1 x9.toNat zz8)).bind λr3=>cond (small (ℓ x8+ℓ ([r3.2]))) (lB x1 x2 x4 r3.1 (x8++([r3.2])) (W .i64 (x9+1))) none) none) (some (x6,x8))
def IX.l6(N:Nat):Nat→IX.kz
 |0,_,_,_,_,_,_=>none
 |n+1,x1,x2,x4,x6,x8,x9=>IX.uU N (IX.l6 N n) x1 x2 x4 x6 x8 x9
def IX.b(yw:IX.kz)(a0:ae)(a1:dq):Option (aR×au):=
 (F75 N a0).bind λr1=>cond (!aM r1.2 0) (some ((0,(0,((cn,(cW,(bo,(bo,(di,(du,())))))),((0,(0,(0,(0,(cW,(([]:List ((Int)×((List ((Int)×((Int)×(Unit))))×((Int)×((Int)×((Int)×((Int)×(Unit)))))))),(cW,(di,(cn,(cn,())))))))))),((0,(0,(DQ,(0,())))),()))))),[])) (yw a1 a0 (0,(0,((cn,(cW,(bo,(bo,(di,(du,())))))),((0,(0,(0,(0,(cW,(([]:List ((Int)×((List ((Int)×((Int)×(Unit))))×((Int)×((Int)×((Int)×((Int)×(Unit)))))))),(cW,(di,(cn,(cn,())))))))))),((0,(0,(DQ,(0,())))),()))))) r1.1 ([]) 0)
def IX(a0:ae)(a1:dq):Option (aR×au):=IX.b N (IX.l6 N N) a0 a1
def F8(a0:aP)(a1:ae)(a2:Int):Option (aR×aP):=
 (HL N a0 a1 a2).bind λr1=>(IX N a1 r1.1).bind λr2=>some (r2.1,r1.2)
def F53(a0:ae)(a1:an)(a2:Int):Option (aL×(Int)):=
 (gH N a0 a1).bind λr1=>cond (!r1) (some ((false,oZ),1)) ((Dc N a1.2.1 a2).bind λr2=>cond (!r2.2) (some ((false,oZ),3)) ((P7 N a0 a1 a2 du).bind λr3=>some (r3,0)))
abbrev Fh.bP:=aE→aE→Int→Option Bool
def Fh.dM(N:Nat)(cJ:Fh.bP)(x0 x1:aE)(x5:Int):Option Bool:=
 cond (aX x5 (ℓ x0)) (cond (bg x5 (ℓ x0)) (cond (bg x5 (ℓ x1)) (cond (!(oX (.pair (.int .i64) (.pair (.int .i64) .unit)) (γ x0 x5.toNat c7) (γ x1 x5.toNat c7))) (some false) (cJ x0 x1 (W .i64 (x5+1)))) none) none) (some true)
def Fh.l4(N:Nat):Nat→Fh.bP
 |0,_,_,_=>none
 |n+1,x0,x1,x5=>Fh.dM N (Fh.l4 N n) x0 x1 x5
def Fh.b(N:Nat)(e8:Fh.bP)(a0 a1:aE):Option Bool:=
 cond (!aM (ℓ a0) (ℓ a1)) (some false) (e8 a0 a1 0)
def Fh(a0 a1:aE):Option Bool:=Fh.b N (Fh.l4 N N) a0 a1
abbrev Fi.bP:=aN→aN→Int→Option Bool
def Fi.dM(N:Nat)(cJ:Fi.bP)(x0 x1:aN)(x5:Int):Option Bool:=
 cond (aX x5 (ℓ x0)) (cond (bg x5 (ℓ x0)) (cond (bg x5 (ℓ x1)) (cond (!(oX (.pair (.int .i64) (.pair (.int .i64) (.pair (.int .i64) (.pair (.int .i64) .unit)))) (γ x0 x5.toNat bb) (γ x1 x5.toNat bb))) (some false) (cJ x0 x1 (W .i64 (x5+1)))) none) none) (some true)
def Fi.l4(N:Nat):Nat→Fi.bP
 |0,_,_,_=>none
 |n+1,x0,x1,x5=>Fi.dM N (Fi.l4 N n) x0 x1 x5
def Fi.b(N:Nat)(e8:Fi.bP)(a0 a1:aN):Option Bool:=
 cond (!aM (ℓ a0) (ℓ a1)) (some false) (e8 a0 a1 0)
def Fi(a0 a1:aN):Option Bool:=Fi.b N (Fi.l4 N N) a0 a1
abbrev Fj.bP:=au→au→Int→Option Bool
def Fj.dM(N:Nat)(cJ:Fj.bP)(x0 x1:au)(x5:Int):Option Bool:=
 cond (aX x5 (ℓ x0)) (cond (bg x5 (ℓ x0)) (cond (bg x5 (ℓ x1)) (cond (!(oX (.pair (.int .i64) (.pair (.int .i64) (.pair (.int .i64) .unit))) (γ x0 x5.toNat aZ) (γ x1 x5.toNat aZ))) (some false) (cJ x0 x1 (W .i64 (x5+1)))) none) none) (some true)
def Fj.l4(N:Nat):Nat→Fj.bP
 |0,_,_,_=>none
 |n+1,x0,x1,x5=>Fj.dM N (Fj.l4 N n) x0 x1 x5
def Fj.b(N:Nat)(e8:Fj.bP)(a0 a1:au):Option Bool:=
 cond (!aM (ℓ a0) (ℓ a1)) (some false) (e8 a0 a1 0)
def Fj(a0 a1:au):Option Bool:=Fj.b N (Fj.l4 N N) a0 a1
abbrev Fk.bP:=aY→aY→Int→Option Bool
def Fk.dM(N:Nat)(cJ:Fk.bP)(x0 x1:aY)(x5:Int):Option Bool:=
 cond (aX x5 (ℓ x0)) (cond (bg x5 (ℓ x0)) (cond (bg x5 (ℓ x1)) (cond (!(oX (.pair (.int .i64) (.pair (.int .i64) (.pair (.int .i64) (.pair (.int .i64) (.pair (.int .i64) (.pair (.int .i64) .unit)))))) (γ x0 x5.toNat dT) (γ x1 x5.toNat dT))) (some false) (cJ x0 x1 (W .i64 (x5+1)))) none) none) (some true)
def Fk.l4(N:Nat):Nat→Fk.bP
 |0,_,_,_=>none
 |n+1,x0,x1,x5=>Fk.dM N (Fk.l4 N n) x0 x1 x5
def Fk.b(N:Nat)(e8:Fk.bP)(a0 a1:aY):Option Bool:=
 cond (!aM (ℓ a0) (ℓ a1)) (some false) (e8 a0 a1 0)
def Fk(a0 a1:aY):Option Bool:=Fk.b N (Fk.l4 N N) a0 a1
def F14(a0 a1:an):Option Bool:=
 (Fh N a0.1 a1.1).bind λr1=>cond (r1) ((Fi N a0.2.1 a1.2.1).bind λr2=>cond (r2) ((Di N a0.2.2.1 a1.2.2.1).bind λr3=>cond (r3) ((Fj N a0.2.2.2.1 a1.2.2.2.1).bind λr4=>cond (r4) ((Dj N a0.2.2.2.2.1 a1.2.2.2.2.1).bind λr5=>cond (r5) ((Fk N a0.2.2.2.2.2.1 a1.2.2.2.2.2.1).bind λr6=>some r6) (some false)) (some false)) (some false)) (some false)) (some false)
def adv(a0:bY):Option aL:=
 (eC N a0.1).bind λr1=>(CY N false ([0,0,1])).bind λr2=>(ei N r1 r2).bind λr3=>(Wi N a0.2.1).bind λr4=>(CY N false r4).bind λr5=>(nk N r3 r5).bind λr6=>some r6
def F56(a0:bY)(a1:aL):Option Bool:=
 (adv N a0).bind λr1=>(wW N r1 a1).bind λr2=>some (aM r2 0)
abbrev Fo.bP:=cT→bO→Int→Option Bool
def Fo.dM(cJ:Fo.bP)(x0:cT)(x1:bO)(x5:Int):Option Bool:=
 cond (aX x5 (ℓ x0)) (cond (bg x5 (ℓ x0)) (cond (bg x5 (ℓ x1)) (cond (!aM (γ x0 x5.toNat (0,(0,(c7,())))).1 (γ x1 x5.toNat (0,(0,((false,oZ),())))).1) (some false) (cond (bg x5 (ℓ x0)) (cond (bg x5 (ℓ x1)) (cond (!aM (γ x0 x5.toNat (0,(0,(c7,())))).2.1 (γ x1 x5.toNat (0,(0,((false,oZ),())))).2.1) (some false) (cond (bg x5 (ℓ x0)) (cond (bg x5 (ℓ x1)) ((F56 N (γ x0 x5.toNat (0,(0,(c7,())))).2.2.1 (γ x1 x5.toNat (0,(0,((false,oZ),())))).2.2.1).bind λr2=>cond (!r2) (some false) (cJ x0 x1 (W .i64 (x5+1)))) none) none)) none) none)) none) none) (some true)
def Fo.l4(N:Nat):Nat→Fo.bP
 |0,_,_,_=>none
 |n+1,x0,x1,x5=>Fo.dM N (Fo.l4 N n) x0 x1 x5
def Fo.b(N:Nat)(e8:Fo.bP)(a0:cT)(a1:bO):Option Bool:=
 cond (!aM (ℓ a0) (ℓ a1)) (some false) (e8 a0 a1 0)
def Fo(a0:cT)(a1:bO):Option Bool:=Fo.b N (Fo.l4 N N) a0 a1
def F11(a0:ae)(a1:an)(a2:bE)(a3 a4:Int)(a5 a6:Int):Option Bool:=
 (ur N a0 a1 a2).bind λr1=>(nS N a0 a1 a2).bind λr2=>(F17 N a0 a1 a3 a6).bind λr3=>(F52 N a0 a1 a3 a6).bind λr4=>(F18 N a0 a1 a4).bind λr5=>(F53 N a0 a1 a4).bind λr6=>(F19 N a0 a1 a5).bind λr7=>(X0 N a0 a1 a5).bind λr8=>cond (aM r1.2 r2.2) (cond (aM r3.2.2 r4.2.2) (cond (aM r5.2 r6.2) (cond (aM r7.2 r8.2) ((F14 N r1.1 r2.1).bind λr9=>cond (r9) ((F14 N r3.1 r4.1).bind λme=>cond (me) ((Fo N r3.2.1 r4.2.1).bind λoI=>cond (oI) ((F56 N r5.1 r6.1).bind λnZ=>cond (nZ) ((F14 N r7.1 r8.1).bind λn0=>cond (n0) ((F9 N a0 a1).bind λtV=>(gH N a0 a1).bind λuu=>some (oX .bool tV uu)) (some false)) (some false)) (some false)) (some false)) (some false)) (some false)) (some false)) (some false)) (some false)
abbrev F3.aq9:=Int→ae→an→Int→Option Bool
def F3.alc(x2:Int)(x8:ae)(x9:an)(bx:Int):Option Bool:=
 (F9 N x8 x9).bind λnZ=>(gH N x8 x9).bind λn0=>cond (oX .bool nZ n0) (cond (aM 3 0) none (cond (aM 8 0) none (cond (aM 5 0) none ((F11 N x8 x9 DQ (rem bx 3) (rem bx 8) (rem bx 5) x2).bind λw1=>some w1)))) (some false)
def F3.j38(x2:Int)(x8:ae)(x9:an)(bx:Int):Option Bool:=F3.alc N x2 x8 x9 bx
def F3.b(ta:F3.aq9)(a0:List Int)(a1 a2:Int):Option Bool:=
 (F5 N).bind λr1=>cond (!r1) (some false) ((F6 N a0).bind λr2=>(F7 N r2).bind λr3=>(F8 N r3.2 r3.1 20).bind λr4=>cond (small (ℓ di+ℓ r4.1.2.2.1.2.2.2.2.1)) (let v5:List Int:=di++r4.1.2.2.1.2.2.2.2.1;cond (aM 12 0) none (let v7:Int:=W .i64 (W .u8 (quo a1 12));cond (aM 12 0) none (let v8:Int:=rem a1 12;cond (aM v8 0) (cond (aM (ℓ v5) 0) none (let v9:Int:=rem v7 (ℓ v5:Int);cond (bg v9 (ℓ v5)) (ta a2 r3.1 (r4.1.2.2.1.1,(r4.1.2.2.1.2.1,(r4.1.2.2.1.2.2.1,(r4.1.2.2.1.2.2.2.1,((List.set v5 v9.toNat a2),r4.1.2.2.1.2.2.2.2.2))))) v7) none)) (cond (aM v8 1) (cond (small (ℓ v5+ℓ ([5]))) (ta a2 r3.1 (r4.1.2.2.1.1,(r4.1.2.2.1.2.1,(r4.1.2.2.1.2.2.1,(r4.1.2.2.1.2.2.2.1,((v5++([5])),r4.1.2.2.1.2.2.2.2.2))))) v7) none) (cond (aM v8 2) (cond (small (ℓ bo+ℓ r4.1.2.2.1.2.2.1)) (let v19:List ((Int)×((Int)×((Int)×(Unit)))):=bo++r4.1.2.2.1.2.2.1;cond (small (ℓ v19+ℓ ([(5,(20,(a2,())))]))) (ta a2 r3.1 (r4.1.2.2.1.1,(r4.1.2.2.1.2.1,((v19++([(5,(20,(a2,())))])),(r4.1.2.2.1.2.2.2.1,(v5,r4.1.2.2.1.2.2.2.2.2))))) v7) none) none) (cond (aM v8 3) (cond (aX 0 (ℓ r4.1.2.2.1.2.2.1)) (cond (small (ℓ bo+ℓ r4.1.2.2.1.2.2.1)) (let v21:List ((Int)×((Int)×((Int)×(Unit)))):=bo++r4.1.2.2.1.2.2.1;cond (aM (ℓ v21) 0) none (let v22:Int:=rem v7 (ℓ v21:Int);cond (bg v22 (ℓ v21)) (ta a2 r3.1 (r4.1.2.2.1.1,(r4.1.2.2.1.2.1,((List.set v21 v22.toNat ((γ v21 v22.toNat aZ).1,((γ v21 v22.toNat aZ).2.1,(a2,(γ v21 v22.toNat aZ).2.2.2)))),(r4.1.2.2.1.2.2.2.1,(v5,r4.1.2.2.1.2.2.2.2.2))))) v7) none)) none) (ta a2 r3.1 (r4.1.2.2.1.1,(r4.1.2.2.1.2.1,(r4.1.2.2.1.2.2.1,(r4.1.2.2.1.2.2.2.1,(v5,r4.1.2.2.1.2.2.2.2.2))))) v7)) (cond (aM v8 4) (cond (small (ℓ bo+ℓ r4.1.2.2.1.2.2.2.1)) (let v24:List ((Int)×((Int)×((Int)×(Unit)))):=bo++r4.1.2.2.1.2.2.2.1;cond (small (ℓ v24+ℓ ([(24,(5,(a2,())))]))) (ta a2 r3.1 (r4.1.2.2.1.1,(r4.1.2.2.1.2.1,(r4.1.2.2.1.2.2.1,((v24++([(24,(5,(a2,())))])),(v5,r4.1.2.2.1.2.2.2.2.2))))) v7) none) none) (cond (aM v8 5) (cond (aX 0 (ℓ r4.1.2.2.1.2.2.2.1)) (cond (small (ℓ bo+ℓ r4.1.2.2.1.2.2.2.1)) (let v26:List ((Int)×((Int)×((Int)×(Unit)))):=bo++r4.1.2.2.1.2.2.2.1;cond (aM (ℓ v26) 0) none (let v27:Int:=rem v7 (ℓ v26:Int);cond (bg v27 (ℓ v26)) (ta a2 r3.1 (r4.1.2.2.1.1,(r4.1.2.2.1.2.1,(r4.1.2.2.1.2.2.1,((List.set v26 v27.toNat ((γ v26 v27.toNat aZ).1,((γ v26 v27.toNat aZ).2.1,(a2,(γ v26 v27.toNat aZ).2.2.2)))),(v5,r4.1.2.2.1.2.2.2.2.2))))) v7) none)) none) (ta a2 r3.1 (r4.1.2.2.1.1,(r4.1.2.2.1.2.1,(r4.1.2.2.1.2.2.1,(r4.1.2.2.1.2.2.2.1,(v5,r4.1.2.2.1.2.2.2.2.2))))) v7)) (cond (aM v8 6) (cond (small (ℓ du+ℓ r4.1.2.2.1.2.2.2.2.2.1)) (let v29:List ((Int)×((Int)×((Int)×((Int)×((Int)×((Int)×(Unit))))))):=du++r4.1.2.2.1.2.2.2.2.2.1;let v30:Int:=W .i64 (1+v7);cond (aM 6 0) none (let v31:Int:=rem v7 6;cond (small (ℓ v29+ℓ ([(1099511627776,(v30,(v31,(1,(1,(1,()))))))]))) (ta a2 r3.1 (r4.1.2.2.1.1,(r4.1.2.2.1.2.1,(r4.1.2.2.1.2.2.1,(r4.1.2.2.1.2.2.2.1,(v5,((v29++([(1099511627776,(v30,(v31,(1,(1,(1,()))))))])),r4.1.2.2.1.2.2.2.2.2.2)))))) v7) none)) none) (cond (aM v8 7) (ta a2 r3.1 (cn,(r4.1.2.2.1.2.1,(r4.1.2.2.1.2.2.1,(r4.1.2.2.1.2.2.2.1,(v5,r4.1.2.2.1.2.2.2.2.2))))) v7) (cond (aM v8 8) (ta a2 r3.1 (r4.1.2.2.1.1,(cW,(r4.1.2.2.1.2.2.1,(r4.1.2.2.1.2.2.2.1,(v5,r4.1.2.2.1.2.2.2.2.2))))) v7) (cond (aM v8 9) (cond (aX 0 (ℓ r4.1.2.2.1.2.1)) (cond (small (ℓ cW+ℓ r4.1.2.2.1.2.1)) (let v33:List ((Int)×((Int)×((Int)×((Int)×(Unit))))):=cW++r4.1.2.2.1.2.1;cond (aM (ℓ v33) 0) none (let v34:Int:=rem v7 (ℓ v33:Int);cond (bg v34 (ℓ v33)) (ta a2 r3.1 (r4.1.2.2.1.1,((List.set v33 v34.toNat ((γ v33 v34.toNat bb).1,(a2,(γ v33 v34.toNat bb).2.2))),(r4.1.2.2.1.2.2.1,(r4.1.2.2.1.2.2.2.1,(v5,r4.1.2.2.1.2.2.2.2.2))))) v7) none)) none) (ta a2 r3.1 (r4.1.2.2.1.1,(r4.1.2.2.1.2.1,(r4.1.2.2.1.2.2.1,(r4.1.2.2.1.2.2.2.1,(v5,r4.1.2.2.1.2.2.2.2.2))))) v7)) (cond (aM v8 10) (ta a2 (r3.1.1,(a2,r3.1.2.2)) (r4.1.2.2.1.1,(r4.1.2.2.1.2.1,(r4.1.2.2.1.2.2.1,(r4.1.2.2.1.2.2.2.1,(v5,r4.1.2.2.1.2.2.2.2.2))))) v7) (let v36:Int:=W .i64 ((ℓ r3.1.1:Int)-1);cond (jc 0 v36 (ℓ r3.1.1) (ℓ r3.1.1)) (ta a2 ((List.drop (0:Int).toNat (List.take v36.toNat r3.1.1)),r3.1.2) (r4.1.2.2.1.1,(r4.1.2.2.1.2.1,(r4.1.2.2.1.2.2.1,(r4.1.2.2.1.2.2.2.1,(v5,r4.1.2.2.1.2.2.2.2.2))))) v7) none)))))))))))))) none)
def F3(a0:List Int)(a1 a2:Int):Option Bool:=F3.b N (F3.j38 N) a0 a1 a2
end
end VM.F
