/- A part of the proof of LotEven of layer 23: the functions as equations between values, printed by a program. -/
import Derived.Test.YthnjnpjmbabcaaaGreatVm0
set_option linter.all false
open List renaming length→ℓ, getD→γ
namespace VM.F
open Go VM
set_option maxRecDepth 100000
noncomputable section
variable (N:Nat)
abbrev vL:Ty:=(.pair .str .unit)
abbrev lA:Ty:=(.pair .str (.pair (.int .u64) .unit))
abbrev hZ:Ty:=(.pair (.int .i64) (.pair (.int .i64) .unit))
abbrev eZ:Ty:=(.pair (.int .i64) (.pair (.int .u64) .unit))
abbrev cP:Ty:=(.pair .bool (.pair (.slice (.int .u64)) .unit))
abbrev fB:Ty:=(.pair (.slice (.int .u64)) (.pair (.int .i64) .unit))
abbrev oB:Ty:=(.pair (.int .i64) hZ)
abbrev vM:Ty:=(.pair (.int .i64) (.pair (.int .i64) (.pair .bool (.pair (.int .u8) .unit))))
abbrev eD:Ty:=(.pair (.int .i64) oB)
abbrev tE:Ty:=(.pair (.int .i64) eD)
abbrev su:Ty:=(.pair (.int .i64) (.pair (.int .i64) (.pair cP .unit)))
abbrev m9:Ty:=(.pair (.int .i64) tE)
abbrev pE:Ty:=(.pair (.int .i64) (.pair (.int .i64) m9))
abbrev fZ:Ty:=(.pair (.int .i64) (.pair (.slice hZ) eD))
abbrev gN:Ty:=(.pair (.int .i64) (.pair (.int .i64) (.pair (.slice tE) (.pair (.int .i64) .unit))))
abbrev aA:Ty:=(.pair (.slice eD) m9)
abbrev aL:Ty:=(.pair (.slice hZ) (.pair (.slice eD) (.pair (.slice oB) (.pair (.slice oB) (.pair (.slice (.int .i64)) (.pair (.slice m9) .unit))))))
abbrev sr:Ty:=(.pair (.int .i64) (.pair (.int .i64) (.pair (.int .i64) (.pair (.int .i64) (.pair (.slice eD) (.pair (.slice fZ) (.pair (.slice eD) (.pair (.slice (.int .i64)) (.pair (.slice hZ) (.pair (.slice hZ) .unit))))))))))
abbrev dY:Ty:=(.pair (.int .i64) (.pair (.int .i64) (.pair aL (.pair sr (.pair gN .unit)))))
abbrev Zj:=Ty.den vL
abbrev Zk:=List (Ty.den vL)
abbrev OX:=Ty.den lA
abbrev OY:=List (Ty.den lA)
abbrev lT:=Ty.den hZ
abbrev aB:=List (Ty.den hZ)
abbrev bI:=Ty.den eZ
abbrev tF:=List (Ty.den eZ)
abbrev aH:=Ty.den cP
abbrev pD:=List (Ty.den cP)
abbrev bb:=Ty.den fB
abbrev atp:=List (Ty.den fB)
abbrev eP:=Ty.den oB
abbrev aC:=List (Ty.den oB)
abbrev Zl:=Ty.den vM
abbrev Zm:=List (Ty.den vM)
abbrev cv:=Ty.den eD
abbrev aO:=List (Ty.den eD)
abbrev tB:=Ty.den tE
abbrev bO:=List (Ty.den tE)
abbrev ahS:=Ty.den su
abbrev bJ:=List (Ty.den su)
abbrev gu:=Ty.den m9
abbrev bC:=List (Ty.den m9)
abbrev ia:=Ty.den pE
abbrev jK:=List (Ty.den pE)
abbrev eE:=Ty.den fZ
abbrev aN:=List (Ty.den fZ)
abbrev dG:=Ty.den gN
abbrev anV:=List (Ty.den gN)
abbrev ae:=Ty.den aA
abbrev anW:=List (Ty.den aA)
abbrev aq:=Ty.den aL
abbrev atq:=List (Ty.den aL)
abbrev alO:=Ty.den sr
abbrev alP:=List (Ty.den sr)
abbrev aV:=Ty.den dY
abbrev arx:=List (Ty.den dY)
def F23(N:Nat):Option (ae×aq):=
 some (([(0,(100,(0,(2,())))),(1,(7,ct))],(0,(0,(0,(0,(3,(0,()))))))),([(1,(1,()))],([(1,(1,(1,(0,()))))],(cf,([(0,(0,(7,()))),(0,(1,((-2),()))),(1,(0,((-7),()))),(1,(1,(2,())))],([100,7],(eu,())))))))
def Ec(N:Nat)(a0 a1 a2:Int):Option Bool:=
 cond (cY a1 a0) (some (cY a0 a2)) (some false)
abbrev B8.bT:=ae→aO→Int→Int→Option Bool
def B8.ew(cB:B8.bT)(x1:ae)(a8:aO)(bp cq:Int):Option Bool:=
 cond (aT cq bp) (cond (a7 cq (ℓ a8)) ((Ec N (γ a8 cq.toNat aQ).1 0 3).bind λr3=>cond (!r3) (some false) ((Ec N (γ a8 cq.toNat aQ).2.1 1 1000000000000).bind λr4=>cond (!r4) (some false) ((Ec N (γ a8 cq.toNat aQ).2.2.1 0 1000000000).bind λr5=>cond (!r5) (some false) ((Ec N (γ a8 cq.toNat aQ).2.2.2.1 0 1000000000).bind λr6=>cond (!r6) (some false) (cB x1 a8 bp (W .i64 (cq+1))))))) none) (cond (cY 0 x1.2.1) ((Ec N x1.2.2.1 0 4).bind λr8=>cond (r8) ((Ec N x1.2.2.2.1 0 1000000).bind λr9=>cond (r9) ((Ec N x1.2.2.2.2.1 0 1000000).bind λnV=>cond (nV) ((Ec N x1.2.2.2.2.2.1 1 4611686018427387904).bind λqc=>cond (qc) (some (cY 0 x1.2.2.2.2.2.2.1)) (some false)) (some false)) (some false)) (some false)) (some false))
def B8.l4(N:Nat):Nat→B8.bT
 |0,_,_,_,_=>none
 |n+1,x1,a8,bp,cq=>B8.ew N (B8.l4 N n) x1 a8 bp cq
def B8.b(fN:B8.bT)(a0:ae):Option Bool:=
 (Ec N (ℓ a0.1) 1 6).bind λr1=>cond (!r1) (some false) (fN a0 a0.1 (ℓ a0.1) 0)
def B8(a0:ae):Option Bool:=B8.b N (B8.l4 N N) a0
abbrev pn.c3:=aB→aB→Int→Int→Option Bool
def pn.gm(N:Nat)(eJ:pn.c3)(x0 x5:aB)(x6 x7:Int):Option Bool:=
 cond (aT x7 x6) (cond (a7 x7 (ℓ x5)) (cond (aT (γ x5 x7.toNat ct).1 1) (some false) (cond (aT 12 (γ x5 x7.toNat ct).1) (some false) (cond (aT (γ x5 x7.toNat ct).2.1 1) (some false) (cond (aT 4 (γ x5 x7.toNat ct).2.1) (some false) (cond (aT 0 x7) (let v2:Int:=W .i64 (x7-1);cond (a7 v2 (ℓ x0)) (cond (cY (γ x5 x7.toNat ct).1 (γ x0 v2.toNat ct).1) (some false) (eJ x0 x5 x6 (W .i64 (x7+1)))) none) (eJ x0 x5 x6 (W .i64 (x7+1)))))))) none) (some true)
def pn.l2(N:Nat):Nat→pn.c3
 |0,_,_,_,_=>none
 |n+1,x0,x5,x6,x7=>pn.gm N (pn.l2 N n) x0 x5 x6 x7
def pn.b(N:Nat)(jd:pn.c3)(a0:aB):Option Bool:=
 jd a0 a0 (ℓ a0) 0
def pn(a0:aB):Option Bool:=pn.b N (pn.l2 N N) a0
abbrev m4.dd:=aO→(List Bool)→aO→Int→Int→Option Bool
def m4.lD(N:Nat)(cX:m4.dd)(x0:aO)(x3:List Bool)(x6:aO)(x7 x8:Int):Option Bool:=
 cond (aT x8 x7) (cond (a7 x8 (ℓ x6)) (cond (aT (γ x6 x8.toNat aQ).1 1) (some false) (cond (aT 24 (γ x6 x8.toNat aQ).1) (some false) (cond (aT (γ x6 x8.toNat aQ).2.1 1) (some false) (cond (aT 12 (γ x6 x8.toNat aQ).2.1) (some false) (cond (!aM (γ x6 x8.toNat aQ).2.2.1 1) (cond (!aM (γ x6 x8.toNat aQ).2.2.1 2) (some false) (cond (aT (γ x6 x8.toNat aQ).2.2.2.1 0) (some false) (cond (aT 1000000000000 (γ x6 x8.toNat aQ).2.2.2.1) (some false) (cond (aT 0 x8) (let v2:Int:=W .i64 (x8-1);cond (a7 v2 (ℓ x0)) (cond (cY (γ x6 x8.toNat aQ).1 (γ x0 v2.toNat aQ).1) (some false) (cond (aM (γ x6 x8.toNat aQ).2.2.1 1) (cond (a7 (γ x6 x8.toNat aQ).2.1 13) (cond (γ x3 (γ x6 x8.toNat aQ).2.1.toNat false) (some false) (cond (a7 (γ x6 x8.toNat aQ).2.1 13) (cX x0 (List.set x3 (γ x6 x8.toNat aQ).2.1.toNat true) x6 x7 (W .i64 (x8+1))) none)) none) (cX x0 x3 x6 x7 (W .i64 (x8+1))))) none) (cond (aM (γ x6 x8.toNat aQ).2.2.1 1) (cond (a7 (γ x6 x8.toNat aQ).2.1 13) (cond (γ x3 (γ x6 x8.toNat aQ).2.1.toNat false) (some false) (cond (a7 (γ x6 x8.toNat aQ).2.1 13) (cX x0 (List.set x3 (γ x6 x8.toNat aQ).2.1.toNat true) x6 x7 (W .i64 (x8+1))) none)) none) (cX x0 x3 x6 x7 (W .i64 (x8+1)))))))) (cond (aT (γ x6 x8.toNat aQ).2.2.2.1 0) (some false) (cond (aT 1000000000000 (γ x6 x8.toNat aQ).2.2.2.1) (some false) (cond (aT 0 x8) (let v7:Int:=W .i64 (x8-1);cond (a7 v7 (ℓ x0)) (cond (cY (γ x6 x8.toNat aQ).1 (γ x0 v7.toNat aQ).1) (some false) (cond (aM (γ x6 x8.toNat aQ).2.2.1 1) (cond (a7 (γ x6 x8.toNat aQ).2.1 13) (cond (γ x3 (γ x6 x8.toNat aQ).2.1.toNat false) (some false) (cond (a7 (γ x6 x8.toNat aQ).2.1 13) (cX x0 (List.set x3 (γ x6 x8.toNat aQ).2.1.toNat true) x6 x7 (W .i64 (x8+1))) none)) none) (cX x0 x3 x6 x7 (W .i64 (x8+1))))) none) (cond (aM (γ x6 x8.toNat aQ).2.2.1 1) (cond (a7 (γ x6 x8.toNat aQ).2.1 13) (cond (γ x3 (γ x6 x8.toNat aQ).2.1.toNat false) (some false) (cond (a7 (γ x6 x8.toNat aQ).2.1 13) (cX x0 (List.set x3 (γ x6 x8.toNat aQ).2.1.toNat true) x6 x7 (W .i64 (x8+1))) none)) none) (cX x0 x3 x6 x7 (W .i64 (x8+1)))))))))))) none) (some true)
def m4.l3(N:Nat):Nat→m4.dd
 |0,_,_,_,_,_=>none
 |n+1,x0,x3,x6,x7,x8=>m4.lD N (m4.l3 N n) x0 x3 x6 x7 x8
def m4.b(N:Nat)(mL:m4.dd)(a0:aO):Option Bool:=
 mL a0 (List.replicate 13 false) a0 (ℓ a0) 0
def m4(a0:aO):Option Bool:=m4.b N (m4.l3 N N) a0
abbrev BK.bT:=Int→aB→Int→Int→Option Int
def BK.ew(N:Nat)(cB:BK.bT)(x1:Int)(bn:aB)(a8 bp:Int):Option Int:=
 cond (aT bp a8) (cond (a7 bp (ℓ bn)) (cond (aM (γ bn bp.toNat ct).1 x1) (some (γ bn bp.toNat ct).2.1) (cB x1 bn a8 (W .i64 (bp+1)))) none) (some 0)
def BK.l4(N:Nat):Nat→BK.bT
 |0,_,_,_,_=>none
 |n+1,x1,bn,a8,bp=>BK.ew N (BK.l4 N n) x1 bn a8 bp
def BK.b(fN:BK.bT)(a0:aB)(a1:Int):Option Int:=
 (pn N a0).bind λr1=>cond (!r1) (some 0) (fN a1 a0 (ℓ a0) 0)
def BK(a0:aB)(a1:Int):Option Int:=BK.b N (BK.l4 N N) a0 a1
abbrev Ef.bT:=aB→aO→Int→Int→Option Bool
def Ef.ew(cB:Ef.bT)(x0:aB)(cG:aO)(dO dx:Int):Option Bool:=
 cond (aT dx dO) (cond (a7 dx (ℓ cG)) ((BK N x0 (γ cG dx.toNat aQ).2.1).bind λr4=>cond (aM r4 0) (some false) (cB x0 cG dO (W .i64 (dx+1)))) none) (some true)
def Ef.l4(N:Nat):Nat→Ef.bT
 |0,_,_,_,_=>none
 |n+1,x0,cG,dO,dx=>Ef.ew N (Ef.l4 N n) x0 cG dO dx
def Ef.b(fN:Ef.bT)(a0:aB)(a1:aO):Option Bool:=
 (pn N a0).bind λr1=>cond (!r1) (some false) ((m4 N a1).bind λr2=>cond (!r2) (some false) (fN a0 a1 (ℓ a1) 0))
def Ef(a0:aB)(a1:aO):Option Bool:=Ef.b N (Ef.l4 N N) a0 a1
def W4(N:Nat)(a0 a1:Int):Option Bool:=
 cond (aM a0 1) (some (aM a1 0)) (cond (aM a0 2) (some (aM a1 0)) (cond (aM a0 3) (some (aM a1 0)) (cond (aM a0 4) (some (aM a1 0)) (cond (aM a0 5) (cond (cY 1 a1) (some (cY a1 24)) (some false)) (cond (aM a0 6) (cond (cY 1 a1) (some (cY a1 12)) (some false)) (cond (aM a0 7) (cond (cY 1 a1) (some (cY a1 12)) (some false)) (some false)))))))
def aar(N:Nat)(a0 a1:Int)(a2:eP):Option Int:=
 cond (!aM a0 a2.1) (some (W .i64 (a0-a2.1))) (some (W .i64 (a1-a2.2.1)))
abbrev Dr.c3:=aC→aC→Int→Int→Option Bool
def Dr.gm(eJ:Dr.c3)(x0 x5:aC)(x6 x7:Int):Option Bool:=
 cond (aT x7 x6) (cond (a7 x7 (ℓ x5)) ((W4 N (γ x5 x7.toNat bW).1 (γ x5 x7.toNat bW).2.1).bind λr2=>cond (!r2) (some false) (cond (aM (γ x5 x7.toNat bW).2.2.1 0) (some false) (cond (aT 0 x7) (let v3:Int:=W .i64 (x7-1);cond (a7 v3 (ℓ x0)) ((aar N (γ x5 x7.toNat bW).1 (γ x5 x7.toNat bW).2.1 (γ x0 v3.toNat bW)).bind λr4=>cond (cY r4 0) (some false) (eJ x0 x5 x6 (W .i64 (x7+1)))) none) (eJ x0 x5 x6 (W .i64 (x7+1)))))) none) (some true)
def Dr.l2(N:Nat):Nat→Dr.c3
 |0,_,_,_,_=>none
 |n+1,x0,x5,x6,x7=>Dr.gm N (Dr.l2 N n) x0 x5 x6 x7
def Dr.b(N:Nat)(jd:Dr.c3)(a0:aC):Option Bool:=
 jd a0 a0 (ℓ a0) 0
def Dr(a0:aC):Option Bool:=Dr.b N (Dr.l2 N N) a0
def F27(N:Nat)(a0:Int):Option bI:=
 cond (aT 63 0) none (some ((shr .i64 a0 63),((W .u64 a0),())))
abbrev pk.dd:=bI→Int→Int→Int→tF→Int→Int→Option (bI×(Bool))
def pk.lD(cX:pk.dd)(x2:bI)(x4 x5 x6:Int)(bn:tF)(a8 bp:Int):Option (bI×(Bool)):=
 cond (aT bp a8) (cond (a7 bp (ℓ bn)) ((sQ N x6 (γ bn bp.toNat ct).2.1 0).bind λr2=>(sQ N x5 (W .u64 (γ bn bp.toNat ct).1) r2.2).bind λr4=>cond (aT 63 0) none (cX x2 (W .i64 ((W .i64 (x4+(shr .i64 (γ bn bp.toNat ct).1 63)))+(W .i64 r4.2))) r4.1 r2.1 bn a8 (W .i64 (bp+1)))) none) (cond (aT 63 0) none (cond (!aM x4 (shr .i64 (W .i64 x5) 63)) (some (ct,false)) (some (((W .i64 x5),(x6,())),true))))
def pk.l3(N:Nat):Nat→pk.dd
 |0,_,_,_,_,_,_,_=>none
 |n+1,x2,x4,x5,x6,bn,a8,bp=>pk.lD N (pk.l3 N n) x2 x4 x5 x6 bn a8 bp
def pk.b(N:Nat)(mL:pk.dd)(a0:tF):Option (bI×(Bool)):=
 mL ct 0 0 0 a0 (ℓ a0) 0
def pk(a0:tF):Option (bI×(Bool)):=pk.b N (pk.l3 N N) a0
abbrev Dt.cc:=bI→tF→aC→Int→Int→Option bI
def Dt.e8(bX:Dt.cc)(x2:bI)(x3:tF)(bp:aC)(cq cy:Int):Option bI:=
 cond (aT cy cq) (cond (a7 cy (ℓ bp)) ((F27 N (γ bp cy.toNat bW).2.2.1).bind λr3=>cond (small (ℓ x3+ℓ ([r3]))) (bX x2 (x3++([r3])) bp cq (W .i64 (cy+1))) none) none) ((pk N x3).bind λr6=>some r6.1)
def Dt.l5(N:Nat):Nat→Dt.cc
 |0,_,_,_,_,_=>none
 |n+1,x2,x3,bp,cq,cy=>Dt.e8 N (Dt.l5 N n) x2 x3 bp cq cy
def Dt.b(ga:Dt.cc)(a0:aC):Option bI:=
 (Dr N a0).bind λr1=>cond (!r1) (some ct) (ga ct ([]) a0 (ℓ a0) 0)
def Dt(a0:aC):Option bI:=Dt.b N (Dt.l5 N N) a0
def F62(N:Nat)(a0 a1:bI):Option Int:=
 cond (aT a0.1 a1.1) (some (-1)) (cond (aM a0.1 a1.1) (cond (aT a0.2.1 a1.2.1) (some (-1)) (cond (ti (.pair (.int .i64) (.pair (.int .u64) .unit)) a0 a1) (some 0) (some 1))) (cond (ti (.pair (.int .i64) (.pair (.int .u64) .unit)) a0 a1) (some 0) (some 1)))
def F61(a0:bI):Option Int:=
 (F62 N a0 ct).bind λr1=>some r1
def aat(N:Nat)(a0 a1:Int):Option Bool:=
 cond (cY 0 a0) (cond (cY a0 24) (cond (cY 0 a1) (some (aT a1 6)) (some false)) (some false)) (some false)
def W5(N:Nat)(a0:Int):Option Bool:=
 some (!aM a0 (-9223372036854775808))
def ahO(N:Nat)(a0 a1:Int)(a2:eP):Option Int:=
 cond (!aM a0 a2.1) (some (W .i64 (a0-a2.1))) (some (W .i64 (a1-a2.2.1)))
abbrev Ca.c3:=aC→aC→Int→Int→Option Bool
def Ca.gm(eJ:Ca.c3)(x0 x5:aC)(x6 x7:Int):Option Bool:=
 cond (aT x7 x6) (cond (a7 x7 (ℓ x5)) ((aat N (γ x5 x7.toNat bW).1 (γ x5 x7.toNat bW).2.1).bind λr2=>cond (!r2) (some false) (cond (aM (γ x5 x7.toNat bW).2.2.1 0) (some false) ((W5 N (γ x5 x7.toNat bW).2.2.1).bind λr3=>cond (!r3) (some false) (cond (aT 0 x7) (let v4:Int:=W .i64 (x7-1);cond (a7 v4 (ℓ x0)) ((ahO N (γ x5 x7.toNat bW).1 (γ x5 x7.toNat bW).2.1 (γ x0 v4.toNat bW)).bind λr5=>cond (cY r5 0) (some false) (eJ x0 x5 x6 (W .i64 (x7+1)))) none) (eJ x0 x5 x6 (W .i64 (x7+1))))))) none) (some true)
def Ca.l2(N:Nat):Nat→Ca.c3
 |0,_,_,_,_=>none
 |n+1,x0,x5,x6,x7=>Ca.gm N (Ca.l2 N n) x0 x5 x6 x7
def Ca.b(N:Nat)(jd:Ca.c3)(a0:aC):Option Bool:=
 jd a0 a0 (ℓ a0) 0
def Ca(a0:aC):Option Bool:=Ca.b N (Ca.l2 N N) a0
abbrev pt.cc:=Int→bI→tF→aC→Int→Int→Option bI
def pt.e8(bX:pt.cc)(x1:Int)(x4:bI)(x5:tF)(cy:aC)(cG dO:Int):Option bI:=
 cond (aT dO cG) (cond (a7 dO (ℓ cy)) (cond (aM (γ cy dO.toNat bW).2.1 x1) ((F27 N (γ cy dO.toNat bW).2.2.1).bind λr3=>cond (small (ℓ x5+ℓ ([r3]))) (bX x1 x4 (x5++([r3])) cy cG (W .i64 (dO+1))) none) (bX x1 x4 x5 cy cG (W .i64 (dO+1)))) none) ((pk N x5).bind λr7=>some r7.1)
def pt.l5(N:Nat):Nat→pt.cc
 |0,_,_,_,_,_,_=>none
 |n+1,x1,x4,x5,cy,cG,dO=>pt.e8 N (pt.l5 N n) x1 x4 x5 cy cG dO
def pt.b(ga:pt.cc)(a0:aC)(a1:Int):Option bI:=
 (Ca N a0).bind λr1=>cond (!r1) (some ct) (ga a1 ct ([]) a0 (ℓ a0) 0)
def pt(a0:aC)(a1:Int):Option bI:=pt.b N (pt.l5 N N) a0 a1
abbrev Eg.c3:=aC→Int→Option Bool
def Eg.gm(eJ:Eg.c3)(x0:aC)(x4:Int):Option Bool:=
 cond (aT x4 6) ((pt N x0 x4).bind λr2=>(F61 N r2).bind λr3=>cond (!aM r3 0) (some false) (eJ x0 (W .i64 (x4+1)))) ((Ca N x0).bind λr5=>some r5)
def Eg.l2(N:Nat):Nat→Eg.c3
 |0,_,_=>none
 |n+1,x0,x4=>Eg.gm N (Eg.l2 N n) x0 x4
def Eg.b(N:Nat)(jd:Eg.c3)(a0:aC):Option Bool:=
 jd a0 0
def Eg(a0:aC):Option Bool:=Eg.b N (Eg.l2 N N) a0
def aau(N:Nat)(a0:gu):Option Bool:=
 cond (cY 1 a0.1) (cond (cY a0.1 1099511627776) (cond (cY 1 a0.2.1) (cond (cY a0.2.1 24) (cond (cY 0 a0.2.2.1) (cond (aT a0.2.2.1 6) (cond (aM a0.2.2.2.1 1) (cond (cY 1 a0.2.2.2.2.1) (cond (cY a0.2.2.2.2.1 1000000000) (cond (cY 1 a0.2.2.2.2.2.1) (some (cY a0.2.2.2.2.2.1 1000000000000)) (some false)) (some false)) (some false)) (cond (aM a0.2.2.2.1 2) (cond (cY 1 a0.2.2.2.2.1) (cond (cY a0.2.2.2.2.1 1000000000) (cond (cY 1 a0.2.2.2.2.2.1) (some (cY a0.2.2.2.2.2.1 1000000000000)) (some false)) (some false)) (some false)) (some false))) (some false)) (some false)) (some false)) (some false)) (some false)) (some false)
abbrev Ed.c3:=bC→bC→Int→Int→Option Bool
def Ed.gm(eJ:Ed.c3)(x0 x5:bC)(x6 x7:Int):Option Bool:=
 cond (aT x7 x6) (cond (a7 x7 (ℓ x5)) ((aau N (γ x5 x7.toNat fu)).bind λr2=>cond (!r2) (some false) (cond (aT 0 x7) (let v3:Int:=W .i64 (x7-1);cond (a7 v3 (ℓ x0)) (cond (cY (γ x5 x7.toNat fu).1 (γ x0 v3.toNat fu).1) (some false) (eJ x0 x5 x6 (W .i64 (x7+1)))) none) (eJ x0 x5 x6 (W .i64 (x7+1))))) none) (some (cY (ℓ x0) 32))
def Ed.l2(N:Nat):Nat→Ed.c3
 |0,_,_,_,_=>none
 |n+1,x0,x5,x6,x7=>Ed.gm N (Ed.l2 N n) x0 x5 x6 x7
def Ed.b(N:Nat)(jd:Ed.c3)(a0:bC):Option Bool:=
 jd a0 a0 (ℓ a0) 0
def Ed(a0:bC):Option Bool:=Ed.b N (Ed.l2 N N) a0
abbrev pq.bT:=Int→cv→aO→Int→Int→Option (cv×(Bool))
def pq.ew(N:Nat)(cB:pq.bT)(x1:Int)(x4:cv)(bp:aO)(cq cy:Int):Option (cv×(Bool)):=
 cond (aT cy cq) (cond (a7 cy (ℓ bp)) (cond (aM (γ bp cy.toNat aQ).1 x1) (some (γ bp cy.toNat aQ,true)) (cB x1 x4 bp cq (W .i64 (cy+1)))) none) (some (aQ,false))
def pq.l4(N:Nat):Nat→pq.bT
 |0,_,_,_,_,_=>none
 |n+1,x1,x4,bp,cq,cy=>pq.ew N (pq.l4 N n) x1 x4 bp cq cy
def pq.b(fN:pq.bT)(a0:aO)(a1:Int):Option (cv×(Bool)):=
 (m4 N a0).bind λr1=>cond (!r1) (some (aQ,false)) (fN a1 aQ a0 (ℓ a0) 0)
def pq(a0:aO)(a1:Int):Option (cv×(Bool)):=pq.b N (pq.l4 N N) a0 a1
def F88(a0:aq)(a1:Int):Option Bool:=
 (pq N a0.2.1 a1).bind λr1=>some r1.2
def F92(N:Nat)(a0:Int):Option Bool:=
 cond (cY 1 a0) (some (cY a0 1000000000000)) (some false)
def F91(a0:Int):Option Bool:=
 (F92 N a0).bind λr1=>some (!r1)
abbrev sF.c3:=(List Int)→Unit→Int→Int→Option Int
def sF.gm(eJ:sF.c3)(x0:List Int)(x1:Unit)(x7 x8:Int):Option Int:=
 cond (aT x8 x7) (cond (a7 x8 (ℓ x0)) ((F91 N (γ x0 x8.toNat 0)).bind λr2=>cond (r2) (some x8) (eJ x0 () x7 (W .i64 (x8+1)))) none) (some (-1))
def sF.l2(N:Nat):Nat→sF.c3
 |0,_,_,_,_=>none
 |n+1,x0,x1,x7,x8=>sF.gm N (sF.l2 N n) x0 x1 x7 x8
def sF.b(N:Nat)(jd:sF.c3)(a0:List Int)(a1:Unit):Option Int:=
 jd a0 () (ℓ a0) 0
def sF(a0:List Int)(a1:Unit):Option Int:=sF.b N (sF.l2 N N) a0 a1
def F90(a0:List Int)(a1:Unit):Option Bool:=
 (sF N a0 ()).bind λr1=>some (cY 0 r1)
abbrev mv.sv:=ae→aq→bC→Int→Int→Option Bool
abbrev mv.HF:=ae→aq→aC→Int→Int→Option Bool
abbrev mv.bT:=ae→aq→aC→Int→Int→Option Bool
def mv.wm(HH:mv.sv)(x2:ae)(x3:aq)(Vd:bC)(abJ Rw:Int):Option Bool:=
 cond (aT Rw abJ) (cond (a7 Rw (ℓ Vd)) ((F88 N x3 (γ Vd Rw.toNat fu).2.1).bind λS7=>cond (!S7) (some false) (cond (cY (ℓ x2.1) (γ Vd Rw.toNat fu).2.2.1) (some false) (HH x2 x3 Vd abJ (W .i64 (Rw+1))))) none) ((F90 N x3.2.2.2.2.1 ()).bind λL4=>some (!L4))
def mv.xq(N:Nat):Nat→mv.sv
 |0,_,_,_,_,_=>none
 |n+1,x2,x3,Vd,abJ,Rw=>mv.wm N (mv.xq N n) x2 x3 Vd abJ Rw
def mv.KW(HI:mv.sv)(S8:mv.HF)(x2:ae)(x3:aq)(x83:aC)(HJ DO:Int):Option Bool:=
 cond (aT DO HJ) (cond (a7 DO (ℓ x83)) (cond (!aM (γ x83 DO.toNat bW).1 0) ((F88 N x3 (γ x83 DO.toNat bW).1).bind λBC=>cond (!BC) (some false) (cond (cY (ℓ x2.1) (γ x83 DO.toNat bW).2.1) (some false) (S8 x2 x3 x83 HJ (W .i64 (DO+1))))) (cond (cY (ℓ x2.1) (γ x83 DO.toNat bW).2.1) (some false) (S8 x2 x3 x83 HJ (W .i64 (DO+1))))) none) (HI x2 x3 x3.2.2.2.2.2.1 (ℓ x3.2.2.2.2.2.1) 0)
def mv.LZ(N:Nat):Nat→mv.HF
 |0,_,_,_,_,_=>none
 |n+1,x2,x3,x83,HJ,DO=>mv.KW N (mv.xq N N) (mv.LZ N n) x2 x3 x83 HJ DO
def mv.ew(YD:mv.HF)(cB:mv.bT)(x2:ae)(x3:aq)(Ve:aC)(x58 S9:Int):Option Bool:=
 cond (aT S9 x58) (cond (a7 S9 (ℓ Ve)) (cond (aM (γ Ve S9.toNat bW).1 5) ((F88 N x3 (γ Ve S9.toNat bW).2.1).bind λr9=>cond (!r9) (some false) (cB x2 x3 Ve x58 (W .i64 (S9+1)))) (cond (aM (γ Ve S9.toNat bW).1 6) ((BK N x3.1 (γ Ve S9.toNat bW).2.1).bind λqc=>cond (aM qc 0) (some false) (cB x2 x3 Ve x58 (W .i64 (S9+1)))) (cond (aM (γ Ve S9.toNat bW).1 7) ((BK N x3.1 (γ Ve S9.toNat bW).2.1).bind λtG=>cond (aM tG 0) (some false) (cB x2 x3 Ve x58 (W .i64 (S9+1)))) (cB x2 x3 Ve x58 (W .i64 (S9+1)))))) none) (YD x2 x3 x3.2.2.2.1 (ℓ x3.2.2.2.1) 0)
def mv.l4(N:Nat):Nat→mv.bT
 |0,_,_,_,_,_=>none
 |n+1,x2,x3,Ve,x58,S9=>mv.ew N (mv.LZ N N) (mv.l4 N n) x2 x3 Ve x58 S9
def mv.b(fN:mv.bT)(a0:ae)(a1:aq):Option Bool:=
 (B8 N a0).bind λr1=>cond (!r1) (some false) ((Ef N a1.1 a1.2.1).bind λr2=>cond (!r2) (some false) ((Dr N a1.2.2.1).bind λr3=>cond (!r3) (some false) ((Dt N a1.2.2.1).bind λr4=>(F61 N r4).bind λr5=>cond (!aM r5 0) (some false) ((Eg N a1.2.2.2.1).bind λr6=>cond (!r6) (some false) ((Ed N a1.2.2.2.2.2.1).bind λr7=>cond (!r7) (some false) (cond (!aM (ℓ a1.2.2.2.2.1) (ℓ a0.1)) (some false) (fN a0 a1 a1.2.2.1 (ℓ a1.2.2.1) 0)))))))
def mv(a0:ae)(a1:aq):Option Bool:=mv.b N (mv.l4 N N) a0 a1
abbrev Dy.cc:=Int→aB→aC→Int→Int→Option aB
def Dy.e8(N:Nat)(bX:Dy.cc)(x1:Int)(x5:aB)(a8:aC)(bp cq:Int):Option aB:=
 cond (aT cq bp) (cond (a7 cq (ℓ a8)) (cond (aM (γ a8 cq.toNat bW).1 x1) (cond (small (ℓ x5+ℓ ([((γ a8 cq.toNat bW).2.1,((γ a8 cq.toNat bW).2.2.1,()))]))) (bX x1 (x5++([((γ a8 cq.toNat bW).2.1,((γ a8 cq.toNat bW).2.2.1,()))])) a8 bp (W .i64 (cq+1))) none) (bX x1 x5 a8 bp (W .i64 (cq+1)))) none) (some x5)
def Dy.l5(N:Nat):Nat→Dy.cc
 |0,_,_,_,_,_=>none
 |n+1,x1,x5,a8,bp,cq=>Dy.e8 N (Dy.l5 N n) x1 x5 a8 bp cq
def Dy.b(ga:Dy.cc)(a0:aC)(a1:Int):Option aB:=
 (Ca N a0).bind λr1=>cond (!r1) (some ([])) (ga a1 ([]) a0 (ℓ a0) 0)
def Dy(a0:aC)(a1:Int):Option aB:=Dy.b N (Dy.l5 N N) a0 a1
def F45(N:Nat)(a0:Int):Option Int:=
 cond (aT a0 0) (some (W .u64 (0-(W .u64 a0)))) (some (W .u64 a0))
def F44(a0 a1:bI):Option (bI×(Bool)):=
 (sQ N a0.2.1 a1.2.1 0).bind λr1=>(sQ N (W .u64 a0.1) (W .u64 a1.1) r1.2).bind λr4=>let v5:Int:=W .i64 r4.1;cond (ti .bool (aT a0.1 0) (aT a1.1 0)) (cond (!(ti .bool (aT v5 0) (aT a0.1 0))) (some (ct,false)) (some ((v5,(r1.1,())),true))) (some ((v5,(r1.1,())),true))
def WT(N:Nat)(a0 a1:Int):Option ((Int)×(Int)):=
 let v1:Int:=mX .and .u64 a0 4294967295;cond (aT 32 0) none (let v2:Int:=shr .u64 a0 32;let v3:Int:=mX .and .u64 a1 4294967295;cond (aT 32 0) none (let v4:Int:=shr .u64 a1 32;cond (aT 32 0) none (let v8:Int:=W .u64 ((W .u64 (v2*v3))+(shr .u64 (W .u64 (v1*v3)) 32));cond (aT 32 0) none (cond (aT 32 0) none (some ((W .u64 ((W .u64 ((W .u64 (v2*v4))+(shr .u64 v8 32)))+(shr .u64 (W .u64 ((mX .and .u64 v8 4294967295)+(W .u64 (v1*v4)))) 32))),(W .u64 (a0*a1))))))))
def aab(a0 a1:Int):Option ((Int)×(Int)):=
 (WT N a0 a1).bind λr1=>some (r1.1,r1.2)
abbrev rM.Rx:=Int→Int→bI→Option (bI×(Bool))
def rM.Qc(x1 x2:Int)(x6:bI):Option (bI×(Bool)):=
 (sR N 0 x2 0).bind λr3=>(sR N 0 x1 r3.2).bind λr4=>some (((W .i64 r4.1),(r3.1,())),true)
def rM.j7(x1 x2:Int)(x6:bI):Option (bI×(Bool)):=rM.Qc N x1 x2 x6
def rM.b(N:Nat)(CE:rM.Rx)(a0:Bool)(a1 a2:Int):Option (bI×(Bool)):=
 cond (!a0) (cond (cY 9223372036854775808 a1) (some (ct,false)) (some (((W .i64 a1),(a2,())),true))) (cond (aT 9223372036854775808 a1) (some (ct,false)) (cond (aM a1 9223372036854775808) (cond (aT 0 a2) (some (ct,false)) (CE a1 a2 ct)) (CE a1 a2 ct)))
def rM(a0:Bool)(a1 a2:Int):Option (bI×(Bool)):=rM.b N (rM.j7 N) a0 a1 a2
def F63(a0 a1:Int):Option bI:=
 (F45 N a0).bind λr1=>(F45 N a1).bind λr2=>(WT N r1 r2).bind λr3=>(rM N (!(ti .bool (aT a0 0) (aT a1 0))) r3.1 r3.2).bind λr4=>some r4.1
abbrev zE.bT:=Int→bI→Int→Option Int
def zE.ew(cB:zE.bT)(x1:Int)(x2:bI)(x5:Int):Option Int:=
 cond (aT x5 3) ((F63 N x5 x1).bind λr3=>(F62 N r3 x2).bind λr4=>cond (aT r4 0) (cB x1 x2 (W .i64 (x5+1))) (some x5)) (some x5)
def zE.l4(N:Nat):Nat→zE.bT
 |0,_,_,_=>none
 |n+1,x1,x2,x5=>zE.ew N (zE.l4 N n) x1 x2 x5
def zE.b(fN:zE.bT)(a0:bI)(a1:Int):Option Int:=
 (F61 N a0).bind λr1=>cond (aT r1 1) (some 0) (cond (aT a1 1) (some 0) (fN a1 a0 1))
def zE(a0:bI)(a1:Int):Option Int:=zE.b N (zE.l4 N N) a0 a1
def ahY(N:Nat)(a0:Int):Option Bool:=
 some (aT a0 0)
abbrev lq.c3:=(List Int)→Unit→Int→Int→Option Int
def lq.gm(eJ:lq.c3)(x0:List Int)(x1:Unit)(x7 x8:Int):Option Int:=
 cond (aT x8 x7) (cond (a7 x8 (ℓ x0)) ((ahY N (γ x0 x8.toNat 0)).bind λr2=>cond (r2) (some x8) (eJ x0 () x7 (W .i64 (x8+1)))) none) (some (-1))
def lq.l2(N:Nat):Nat→lq.c3
 |0,_,_,_,_=>none
 |n+1,x0,x1,x7,x8=>lq.gm N (lq.l2 N n) x0 x1 x7 x8
def lq.b(N:Nat)(jd:lq.c3)(a0:List Int)(a1:Unit):Option Int:=
 jd a0 () (ℓ a0) 0
def lq(a0:List Int)(a1:Unit):Option Int:=lq.b N (lq.l2 N N) a0 a1
def ah0(a0:List Int)(a1:Unit):Option Bool:=
 (lq N a0 ()).bind λr1=>some (cY 0 r1)
def aaI(a0:List Int):Option Bool:=
 cond (cY (ℓ a0) 64) ((ah0 N a0 ()).bind λr1=>some (!r1)) (some false)
abbrev rN.dd:=Int→Int→(List Int)→Int→Int→Option ((Int)×(Bool))
def rN.lD(cX:rN.dd)(x4 x5:Int)(bn:List Int)(a8 bp:Int):Option ((Int)×(Bool)):=
 cond (aT bp a8) (cond (a7 bp (ℓ bn)) ((sQ N x5 (W .u64 (γ bn bp.toNat 0)) 0).bind λr3=>cond (aT 63 0) none (cX (W .i64 ((W .i64 (x4+(shr .i64 (γ bn bp.toNat 0) 63)))+(W .i64 r3.2))) r3.1 bn a8 (W .i64 (bp+1)))) none) (cond (aT 63 0) none (cond (!aM x4 (shr .i64 (W .i64 x5) 63)) (some (0,false)) (some ((W .i64 x5),true))))
def rN.l3(N:Nat):Nat→rN.dd
 |0,_,_,_,_,_=>none
 |n+1,x4,x5,bn,a8,bp=>rN.lD N (rN.l3 N n) x4 x5 bn a8 bp
def rN.b(N:Nat)(mL:rN.dd)(a0:List Int):Option ((Int)×(Bool)):=
 mL 0 0 a0 (ℓ a0) 0
def rN(a0:List Int):Option ((Int)×(Bool)):=rN.b N (rN.l3 N N) a0
def aal(a0:bI):Option ((Int)×(Int)):=
 cond (cY 0 a0.1) (some ((W .u64 a0.1),a0.2.1)) ((sR N 0 a0.2.1 0).bind λr2=>(sR N 0 (W .u64 a0.1) r2.2).bind λr4=>some (r4.1,r2.1))
abbrev mY.Rx:=Int→Int→Option Int
abbrev mY.atr:=Int→Int→Option Int
def mY.Qc(N:Nat)(x0 x2:Int):Option Int:=
 cond (cY 256 x0) (cond (aT 8 0) none (let v8:Int:=W .u8 (shr .u64 x0 8);cond (a7 v8 (ByteArray.size (strOf [0,1,2,2,3,3,3,3,4,4,4,4,4,4,4,4,5,5,5,5,5,5,5,5,5,5,5,5,5,5,5,5,6,6,6,6,6,6,6,6,6,6,6,6,6,6,6,6,6,6,6,6,6,6,6,6,6,6,6,6,6,6,6,6,7,7,7,7,7,7,7,7,7,7,7,7,7,7,7,7,7,7,7,7,7,7,7,7,7,7,7,7,7,7,7,7,7,7,7,7,7,7,7,7,7,7,7,7,7,7,7,7,7,7,7,7,7,7,7,7,7,7,7,7,7,7,7,7,8,8,8,8,8,8,8,8,8,8,8,8,8,8,8,8,8,8,8,8,8,8,8,8,8,8,8,8,8,8,8,8,8,8,8,8,8,8,8,8,8,8,8,8,8,8,8,8,8,8,8,8,8,8,8,8,8,8,8,8,8,8,8,8,8,8,8,8,8,8,8,8,8,8,8,8,8,8,8,8,8,8,8,8,8,8,8,8,8,8,8,8,8,8,8,8,8,8,8,8,8,8,8,8,8,8,8,8,8,8,8,8,8,8,8,8,8,8,8,8,8,8,8,8,8,8,8,8]))) (some (W .i64 ((W .i64 (x2+8))+(W .i64 (((strOf [0,1,2,2,3,3,3,3,4,4,4,4,4,4,4,4,5,5,5,5,5,5,5,5,5,5,5,5,5,5,5,5,6,6,6,6,6,6,6,6,6,6,6,6,6,6,6,6,6,6,6,6,6,6,6,6,6,6,6,6,6,6,6,6,7,7,7,7,7,7,7,7,7,7,7,7,7,7,7,7,7,7,7,7,7,7,7,7,7,7,7,7,7,7,7,7,7,7,7,7,7,7,7,7,7,7,7,7,7,7,7,7,7,7,7,7,7,7,7,7,7,7,7,7,7,7,7,7,8,8,8,8,8,8,8,8,8,8,8,8,8,8,8,8,8,8,8,8,8,8,8,8,8,8,8,8,8,8,8,8,8,8,8,8,8,8,8,8,8,8,8,8,8,8,8,8,8,8,8,8,8,8,8,8,8,8,8,8,8,8,8,8,8,8,8,8,8,8,8,8,8,8,8,8,8,8,8,8,8,8,8,8,8,8,8,8,8,8,8,8,8,8,8,8,8,8,8,8,8,8,8,8,8,8,8,8,8,8,8,8,8,8,8,8,8,8,8,8,8,8,8,8,8,8,8,8]).data.getD v8.toNat 0).toNat:Int))))) none)) (let v11:Int:=W .u8 x0;cond (a7 v11 (ByteArray.size (strOf [0,1,2,2,3,3,3,3,4,4,4,4,4,4,4,4,5,5,5,5,5,5,5,5,5,5,5,5,5,5,5,5,6,6,6,6,6,6,6,6,6,6,6,6,6,6,6,6,6,6,6,6,6,6,6,6,6,6,6,6,6,6,6,6,7,7,7,7,7,7,7,7,7,7,7,7,7,7,7,7,7,7,7,7,7,7,7,7,7,7,7,7,7,7,7,7,7,7,7,7,7,7,7,7,7,7,7,7,7,7,7,7,7,7,7,7,7,7,7,7,7,7,7,7,7,7,7,7,8,8,8,8,8,8,8,8,8,8,8,8,8,8,8,8,8,8,8,8,8,8,8,8,8,8,8,8,8,8,8,8,8,8,8,8,8,8,8,8,8,8,8,8,8,8,8,8,8,8,8,8,8,8,8,8,8,8,8,8,8,8,8,8,8,8,8,8,8,8,8,8,8,8,8,8,8,8,8,8,8,8,8,8,8,8,8,8,8,8,8,8,8,8,8,8,8,8,8,8,8,8,8,8,8,8,8,8,8,8,8,8,8,8,8,8,8,8,8,8,8,8,8,8,8,8,8,8]))) (some (W .i64 (x2+(W .i64 (((strOf [0,1,2,2,3,3,3,3,4,4,4,4,4,4,4,4,5,5,5,5,5,5,5,5,5,5,5,5,5,5,5,5,6,6,6,6,6,6,6,6,6,6,6,6,6,6,6,6,6,6,6,6,6,6,6,6,6,6,6,6,6,6,6,6,7,7,7,7,7,7,7,7,7,7,7,7,7,7,7,7,7,7,7,7,7,7,7,7,7,7,7,7,7,7,7,7,7,7,7,7,7,7,7,7,7,7,7,7,7,7,7,7,7,7,7,7,7,7,7,7,7,7,7,7,7,7,7,7,8,8,8,8,8,8,8,8,8,8,8,8,8,8,8,8,8,8,8,8,8,8,8,8,8,8,8,8,8,8,8,8,8,8,8,8,8,8,8,8,8,8,8,8,8,8,8,8,8,8,8,8,8,8,8,8,8,8,8,8,8,8,8,8,8,8,8,8,8,8,8,8,8,8,8,8,8,8,8,8,8,8,8,8,8,8,8,8,8,8,8,8,8,8,8,8,8,8,8,8,8,8,8,8,8,8,8,8,8,8,8,8,8,8,8,8,8,8,8,8,8,8,8,8,8,8,8,8]).data.getD v11.toNat 0).toNat:Int))))) none)
def mY.j7(x0 x2:Int):Option Int:=mY.Qc N x0 x2
def mY.j4b(N:Nat)(CE:mY.Rx)(x0 x2:Int):Option Int:=
 cond (cY 65536 x0) (cond (aT 16 0) none (CE (shr .u64 x0 16) (W .i64 (x2+16)))) (CE x0 x2)
def mY.j4(x0 x2:Int):Option Int:=mY.j4b N (mY.j7 N) x0 x2
def mY.b(N:Nat)(anX:mY.atr)(a0:Int):Option Int:=
 cond (cY 4294967296 a0) (cond (aT 32 0) none (anX (shr .u64 a0 32) 32)) (anX a0 0)
def mY(a0:Int):Option Int:=mY.b N (mY.j4 N) a0
def aad(a0:Int):Option Int:=
 (mY N a0).bind λr1=>some (W .i64 (64-r1))
abbrev dX.anY:=Int→Int→Int→Int→Int→Int→Option ((Int)×(Int))
abbrev dX.nT:=Int→Int→Int→Int→Int→Int→Int→Int→Int→Option ((Int)×(Int))
abbrev dX.anZ:=Int→Int→Int→Int→Int→Int→Int→Int→Option ((Int)×(Int))
abbrev dX.HL:=Int→Int→Int→Int→Int→Int→Int→Int→Int→Option ((Int)×(Int))
def dX.ahM(N:Nat)(x2 x8:Int)(cy cG:Int)(dx lE:Int):Option ((Int)×(Int)):=
 cond (aT x8 0) none (some ((W .u64 ((W .u64 (cG*4294967296))+lE)),(shr .u64 (W .u64 ((W .u64 ((W .u64 (dx*4294967296))+cy))-(W .u64 (lE*x2)))) x8)))
def dX.j28(x2 x8:Int)(cy cG:Int)(dx lE:Int):Option ((Int)×(Int)):=dX.ahM N x2 x8 cy cG dx lE
def dX.yE(N:Nat)(YE:dX.anY)(od:dX.nT)(x2 x8:Int)(x9 bn:Int)(cy cG:Int)(dO dx lE:Int):Option ((Int)×(Int)):=
 cond (cY 4294967296 lE) (let v30:Int:=W .u64 (lE-1);let v31:Int:=W .u64 (dO+x9);cond (cY 4294967296 v31) (YE x2 x8 cy cG dx v30) (od x2 x8 x9 bn cy cG v31 dx v30)) (cond (aT (W .u64 ((W .u64 (4294967296*dO))+cy)) (W .u64 (lE*bn))) (let v43:Int:=W .u64 (lE-1);let v44:Int:=W .u64 (dO+x9);cond (cY 4294967296 v44) (YE x2 x8 cy cG dx v43) (od x2 x8 x9 bn cy cG v44 dx v43)) (YE x2 x8 cy cG dx lE))
def dX.xX(N:Nat):Nat→dX.nT
 |0,_,_,_,_,_,_,_,_,_=>none
 |n+1,x2,x8,x9,bn,cy,cG,dO,dx,lE=>dX.yE N (dX.j28 N) (dX.xX N n) x2 x8 x9 bn cy cG dO dx lE
def dX.ahL(N:Nat)(HM:dX.nT)(x2 x8:Int)(x9 bn:Int)(a8 cq:Int)(cy cG:Int):Option ((Int)×(Int)):=
 let v25:Int:=W .u64 ((W .u64 ((W .u64 (a8*4294967296))+cq))-(W .u64 (cG*x2)));cond (aM x9 0) none (let v26:Int:=W .u64 (quo v25 x9);HM x2 x8 x9 bn cy cG (W .u64 (v25-(W .u64 (v26*x9)))) v25 v26)
def dX.j21(x2 x8:Int)(x9 bn:Int)(a8 cq:Int)(cy cG:Int):Option ((Int)×(Int)):=dX.ahL N (dX.xX N N) x2 x8 x9 bn a8 cq cy cG
def dX.Ny(N:Nat)(YF:dX.anZ)(Ta:dX.HL)(x2 x8:Int)(x9 bn:Int)(a8 cq:Int)(cy cG dO:Int):Option ((Int)×(Int)):=
 cond (cY 4294967296 cG) (let v19:Int:=W .u64 (cG-1);let v20:Int:=W .u64 (dO+x9);cond (cY 4294967296 v20) (YF x2 x8 x9 bn a8 cq cy v19) (Ta x2 x8 x9 bn a8 cq cy v19 v20)) (cond (aT (W .u64 ((W .u64 (4294967296*dO))+cq)) (W .u64 (cG*bn))) (let v48:Int:=W .u64 (cG-1);let v49:Int:=W .u64 (dO+x9);cond (cY 4294967296 v49) (YF x2 x8 x9 bn a8 cq cy v48) (Ta x2 x8 x9 bn a8 cq cy v48 v49)) (YF x2 x8 x9 bn a8 cq cy cG))
def dX.Nx(N:Nat):Nat→dX.HL
 |0,_,_,_,_,_,_,_,_,_=>none
 |n+1,x2,x8,x9,bn,a8,cq,cy,cG,dO=>dX.Ny N (dX.j21 N) (dX.Nx N n) x2 x8 x9 bn a8 cq cy cG dO
def dX.b(YG:dX.HL)(a0 a1 a2:Int):Option ((Int)×(Int)):=
 cond (aM a2 0) none (cond (cY a2 a0) none (cond (aM a0 0) (cond (aM a2 0) none (cond (aM a2 0) none (some ((W .u64 (quo a1 a2)),(rem a1 a2))))) ((aad N a2).bind λr3=>let v4:Int:=W .u64 r3;cond (aT v4 0) none (let v5:Int:=W .u64 (shl .u64 a2 v4);cond (aT 32 0) none (let v6:Int:=shr .u64 v5 32;cond (aT v4 0) none (let v9:Int:=W .u64 (64-v4);cond (aT v9 0) none (let v11:Int:=mX .or .u64 (W .u64 (shl .u64 a0 v4)) (shr .u64 a1 v9);cond (aT v4 0) none (let v12:Int:=W .u64 (shl .u64 a1 v4);cond (aT 32 0) none (cond (aM v6 0) none (let Vx:Int:=W .u64 (quo v11 v6);YG v5 v4 v6 (mX .and .u64 v5 4294967295) v11 (shr .u64 v12 32) (mX .and .u64 v12 4294967295) Vx (W .u64 (v11-(W .u64 (Vx*v6))))))))))))))
def dX(a0 a1 a2:Int):Option ((Int)×(Int)):=dX.b N (dX.Nx N N) a0 a1 a2
abbrev uq.OZ:=bI→Int→Int→Int→Option (bI×(Int)×(Bool))
def uq.A5(x4:bI)(bn a8 bp:Int):Option (bI×(Int)×(Bool)):=
 (rM N true bn bp).bind λqc=>some (qc.1,(W .i64 a8),true)
def uq.KR(x4:bI)(bn a8 bp:Int):Option (bI×(Int)×(Bool)):=uq.A5 N x4 bn a8 bp
def uq.b(wa:uq.OZ)(a0:bI)(a1:Int):Option (bI×(Int)×(Bool)):=
 cond (aT a1 1) (some (ct,0,false)) ((aal N a0).bind λr1=>let v2:Int:=W .u64 a1;(dX N 0 r1.1 v2).bind λr3=>(dX N r3.2 r1.2 v2).bind λr4=>cond (cY 0 a0.1) (some (((W .i64 r3.1),(r4.1,())),(W .i64 r4.2),true)) (cond (aT 0 r4.2) ((sQ N r4.1 1 0).bind λr7=>wa ct (W .u64 (r3.1+r7.2)) (W .u64 (v2-r4.2)) r7.1) (wa ct r3.1 r4.2 r4.1)))
def uq(a0:bI)(a1:Int):Option (bI×(Int)×(Bool)):=uq.b N (uq.KR N) a0 a1
def F49(N:Nat)(a0:bI):Option ((Int)×(Bool)):=
 cond (aT 63 0) none (cond (!aM a0.1 (shr .i64 (W .i64 a0.2.1) 63)) (some (0,false)) (some ((W .i64 a0.2.1),true)))
def ahX(N:Nat)(a0:List Int):Option (List Int):=
 cond (jA 0 (ℓ a0) (ℓ a0) (ℓ a0)) (some (List.drop (0:Int).toNat (List.take (ℓ a0:Int).toNat a0))) none
abbrev iZ.jL:=(List Int)→(List Int)→Int→Int→Int→Int→Option (List Int)
abbrev iZ.dd:=(List Int)→(List Int)→Int→Int→Option (List Int)
def iZ.vX(cX:iZ.dd)(ll:iZ.jL)(x0 x3:List Int)(x4 x5:Int)(bn a8:Int):Option (List Int):=
 cond (aT 0 x5) (let v4:Int:=W .i64 (x5-1);cond (a7 v4 (ℓ x3)) (cond (a7 (γ x3 v4.toNat 0) (ℓ x0)) (cond (a7 x4 (ℓ x0)) (cond (aT (γ x0 (γ x3 v4.toNat 0).toNat 0) (γ x0 x4.toNat 0)) (ll x0 x3 x4 (W .i64 (x5-1)) bn a8) ((uY N x3 x5 ([x4])).bind λr6=>cX x0 r6 bn (W .i64 (a8+1)))) none) none) none) ((uY N x3 x5 ([x4])).bind λr8=>cX x0 r8 bn (W .i64 (a8+1)))
def iZ.l6(N:Nat)(cX:iZ.dd):Nat→iZ.jL
 |0,_,_,_,_,_,_=>none
 |n+1,x0,x3,x4,x5,bn,a8=>iZ.vX N cX (iZ.l6 N cX n) x0 x3 x4 x5 bn a8
def iZ.lD(xF:iZ.jL)(cX:iZ.dd)(x0 x3:List Int)(bn a8:Int):Option (List Int):=
 cond (aT a8 bn) (xF x0 x3 a8 (ℓ x3) bn a8) ((ahX N x3).bind λnV=>some nV)
def iZ.l3(N:Nat):Nat→iZ.dd
 |0,_,_,_,_=>none
 |n+1,x0,x3,bn,a8=>iZ.lD N (iZ.l6 N (iZ.l3 N n) N) (iZ.l3 N n) x0 x3 bn a8
def iZ.b(N:Nat)(mL:iZ.dd)(a0:List Int):Option (List Int):=
 cond (iP 0 (ℓ a0)) (mL a0 (List.replicate (0:Int).toNat 0) (ℓ a0) 0) none
def iZ(a0:List Int):Option (List Int):=iZ.b N (iZ.l3 N N) a0
abbrev qa.qb:=(List Int)→(List Int)→Int→Int→Option ((List Int)×(Int))
abbrev qa.je:=Int→Int→(List Int)→(List Int)→Int→(List Int)→Int→Int→Option ((List Int)×(Int))
abbrev qa.LG:=Int→(List Int)→Int→Option ((List Int)×(Int))
def qa.Bo(N:Nat)(pL:qa.qb)(x8 x88:List Int)(x89 x90:Int):Option ((List Int)×(Int)):=
 cond (aT x90 x89) (cond (a7 x90 (ℓ x88)) (cond (a7 (γ x88 x90.toNat 0) (ℓ x8)) (cond (a7 (γ x88 x90.toNat 0) (ℓ x8)) (pL (List.set x8 (γ x88 x90.toNat 0).toNat (W .i64 ((γ x8 (γ x88 x90.toNat 0).toNat 0)+1))) x88 x89 (W .i64 (x90+1))) none) none) none) (some (x8,0))
def qa.yF(N:Nat):Nat→qa.qb
 |0,_,_,_,_=>none
 |n+1,x8,x88,x89,x90=>qa.Bo N (qa.yF N n) x8 x88 x89 x90
def qa.m5(O0:qa.qb)(pM:qa.je)(x0 x6:Int)(x8 x9:List Int)(bn:Int)(YH:List Int)(Qe Vy:Int):Option ((List Int)×(Int)):=
 cond (aT Vy Qe) (cond (a7 Vy (ℓ YH)) ((F63 N x0 (γ YH Vy.toNat 0)).bind λr7=>(uq N r7 x6).bind λr8=>(F49 N r8.1).bind λr9=>cond (a7 Vy (ℓ x8)) (let v10:List Int:=List.set x8 Vy.toNat r9.1;cond (a7 Vy (ℓ x9)) (cond (a7 Vy (ℓ v10)) (pM x0 x6 v10 (List.set x9 Vy.toNat r8.2.1) (W .i64 (bn-(γ v10 Vy.toNat 0))) YH Qe (W .i64 (Vy+1))) none) none) none) none) ((iZ N x9).bind λwq=>cond (jA 0 bn (ℓ wq) (ℓ wq)) (let Vx:List Int:=List.drop (0:Int).toNat (List.take bn.toNat wq);O0 x8 Vx (ℓ Vx) 0) none)
def qa.oU(N:Nat):Nat→qa.je
 |0,_,_,_,_,_,_,_,_=>none
 |n+1,x0,x6,x8,x9,bn,YH,Qe,Vy=>qa.m5 N (qa.yF N N) (qa.oU N n) x0 x6 x8 x9 bn YH Qe Vy
def qa.JC(N:Nat)(uN:qa.je)(x0:Int)(x1:List Int)(x6:Int):Option ((List Int)×(Int)):=
 cond (iP (ℓ x1) (ℓ x1)) (let v4:List Int:=List.replicate (ℓ x1:Int).toNat 0;cond (iP (ℓ x1) (ℓ x1)) (cond (aM x0 0) (some (v4,0)) (uN x0 x6 v4 (List.replicate (ℓ x1:Int).toNat 0) x0 x1 (ℓ x1) 0)) none) none
def qa.j8(x0:Int)(x1:List Int)(x6:Int):Option ((List Int)×(Int)):=qa.JC N (qa.oU N N) x0 x1 x6
def qa.b(BD:qa.LG)(a0:Int)(a1:List Int):Option ((List Int)×(Int)):=
 cond (aT a0 0) (some ([],1)) ((aaI N a1).bind λr1=>cond (!r1) (some ([],1)) ((rN N a1).bind λr2=>cond (!r2.2) (some ([],2)) (cond (aM r2.1 0) (cond (aT 0 a0) (some ([],1)) (BD a0 a1 r2.1)) (BD a0 a1 r2.1))))
def qa(a0:Int)(a1:List Int):Option ((List Int)×(Int)):=qa.b N (qa.j8 N) a0 a1
def F46(a0 a1:Int):Option ((List Int)×(Int)):=
 cond (aT a0 0) (some ([],1)) (cond (aT a1 1) (some ([],1)) (cond (aT 64 a1) (some ([],1)) ((Ao N ([1]) a1).bind λr1=>(qa N a0 r1).bind λr2=>some (r2.1,r2.2))))
abbrev Ce.c3:=aB→ae→aB→Int→Int→Option Bool
def Ce.gm(eJ:Ce.c3)(x1:aB)(x2:ae)(x7:aB)(x8 x9:Int):Option Bool:=
 cond (aT x9 x8) (cond (a7 x9 (ℓ x7)) (cond (aT (γ x7 x9.toNat ct).1 0) (some false) (cond (cY (ℓ x2.1) (γ x7 x9.toNat ct).1) (some false) (cond (aM (γ x7 x9.toNat ct).2.1 0) (some false) ((W5 N (γ x7 x9.toNat ct).2.1).bind λr2=>cond (!r2) (some false) (cond (aT 0 x9) (let v3:Int:=W .i64 (x9-1);cond (a7 v3 (ℓ x1)) (cond (cY (γ x7 x9.toNat ct).1 (γ x1 v3.toNat ct).1) (some false) (eJ x1 x2 x7 x8 (W .i64 (x9+1)))) none) (eJ x1 x2 x7 x8 (W .i64 (x9+1)))))))) none) ((B8 N x2).bind λr6=>some r6)
def Ce.l2(N:Nat):Nat→Ce.c3
 |0,_,_,_,_,_=>none
 |n+1,x1,x2,x7,x8,x9=>Ce.gm N (Ce.l2 N n) x1 x2 x7 x8 x9
def Ce.b(N:Nat)(jd:Ce.c3)(a0:ae)(a1:aB):Option Bool:=
 jd a1 a0 a1 (ℓ a1) 0
def Ce(a0:ae)(a1:aB):Option Bool:=Ce.b N (Ce.l2 N N) a0 a1
def F98(N:Nat)(a0:cv):Option Int:=
 some a0.2.2.2.1
abbrev Ek.cc:=Unit→ae→bI→tF→aB→Int→Int→Option (bI×(Int))
def Ek.e8(bX:Ek.cc)(x2:Unit)(x3:ae)(x6:bI)(x8:tF)(lE:aB)(nW xG:Int):Option (bI×(Int)):=
 cond (aT xG nW) (cond (a7 xG (ℓ lE)) ((F45 N (γ lE xG.toNat ct).2.1).bind λr3=>cond (a7 (γ lE xG.toNat ct).1 (ℓ x3.1)) ((F98 N (γ x3.1 (γ lE xG.toNat ct).1.toNat aQ)).bind λr5=>(F63 N (W .i64 r3) r5).bind λr6=>cond (small (ℓ x8+ℓ ([r6]))) (bX () x3 x6 (x8++([r6])) lE nW (W .i64 (xG+1))) none) none) none) ((pk N x8).bind λr9=>some (r9.1,0))
def Ek.l5(N:Nat):Nat→Ek.cc
 |0,_,_,_,_,_,_,_=>none
 |n+1,x2,x3,x6,x8,lE,nW,xG=>Ek.e8 N (Ek.l5 N n) x2 x3 x6 x8 lE nW xG
def Ek.b(ga:Ek.cc)(a0:ae)(a1:aB)(a2:Unit):Option (bI×(Int)):=
 (Ce N a0 a1).bind λr1=>cond (!r1) (some (ct,1)) (ga () a0 ct ([]) a1 (ℓ a1) 0)
def Ek(a0:ae)(a1:aB)(a2:Unit):Option (bI×(Int)):=Ek.b N (Ek.l5 N N) a0 a1 a2
def F47(a0:ae)(a1:aB):Option (bI×(Int)):=
 (Ek N a0 a1 ()).bind λr1=>some (r1.1,r1.2)
def F99(a0 a1:bI):Option (bI×(Bool)):=
 (sR N a0.2.1 a1.2.1 0).bind λr1=>(sR N (W .u64 a0.1) (W .u64 a1.1) r1.2).bind λr4=>let v5:Int:=W .i64 r4.1;cond (!(ti .bool (aT a0.1 0) (aT a1.1 0))) (cond (!(ti .bool (aT v5 0) (aT a0.1 0))) (some (ct,false)) (some ((v5,(r1.1,())),true))) (some ((v5,(r1.1,())),true))
def F48(a0:bI):Option (bI×(Bool)):=
 (F99 N ct a0).bind λr1=>some (r1.1,r1.2)
abbrev dN.O1:=Int→ae→aB→aN→(List aB)→lT→Int→Int→Int→aB→Int→Int→(List Int)→Int→Int→Option (aN×(Int))
abbrev dN.O2:=Int→ae→aB→aN→(List aB)→lT→Int→aB→Int→Int→(List Int)→Int→Int→Option (aN×(Int))
abbrev dN.YI:=Int→ae→aB→aN→Int→(List aB)→Int→Int→Option (aN×(Int))
abbrev dN.qb:=Int→ae→aB→aN→(List aB)→Int→aB→Int→Int→Option (aN×(Int))
abbrev dN.je:=Int→ae→aB→aN→Int→aB→bI→Int→Int→Int→Option (aN×(Int))
abbrev dN.fe:=Int→ae→aB→aN→Int→Option (aN×(Int))
def dN.Ep(N:Nat)(di:dN.fe)(pL:dN.qb)(O3:dN.O2)(x2:Int)(x3:ae)(x8:aB)(x9:aN)(cG:List aB)(dx:lT)(xG x21 yG:Int)(HJ:aB)(DO L7:Int)(Et:List Int)(IZ zy:Int):Option (aN×(Int)):=
 cond (!aM x21 0) (cond (a7 xG (ℓ cG)) (cond (small (ℓ (γ cG xG.toNat bM)+ℓ ([(dx.1,(x21,()))]))) (cond (a7 xG (ℓ cG)) (cond (aM (xG.toNat:Nat) (xG.toNat:Nat)) (O3 x2 x3 x8 x9 (List.set cG xG.toNat ((γ cG xG.toNat bM)++([(dx.1,(x21,()))]))) dx yG HJ DO L7 Et IZ (W .i64 (zy+1))) none) none) none) none) (O3 x2 x3 x8 x9 cG dx yG HJ DO L7 Et IZ (W .i64 (zy+1)))
def dN.L1(di:dN.fe)(pL:dN.qb)(O3:dN.O2)(x2:Int)(x3:ae)(x8:aB)(x9:aN)(cG:List aB)(dx:lT)(xG x21 yG:Int)(HJ:aB)(DO L7:Int)(Et:List Int)(IZ zy:Int):Option (aN×(Int)):=dN.Ep N di pL O3 x2 x3 x8 x9 cG dx xG x21 yG HJ DO L7 Et IZ zy
def dN.aba(N:Nat)(DP:dN.O1)(di:dN.fe)(pL:dN.qb)(O3:dN.O2)(x2:Int)(x3:ae)(x8:aB)(x9:aN)(cG:List aB)(dx:lT)(yG:Int)(HJ:aB)(DO L7:Int)(Et:List Int)(IZ zy:Int):Option (aN×(Int)):=
 cond (aT zy IZ) (cond (a7 zy (ℓ Et)) (cond (aT dx.2.1 0) (DP x2 x3 x8 x9 cG dx zy (W .i64 (0-(γ Et zy.toNat 0))) yG HJ DO L7 Et IZ zy) (DP x2 x3 x8 x9 cG dx zy (γ Et zy.toNat 0) yG HJ DO L7 Et IZ zy)) none) (pL x2 x3 x8 x9 cG yG HJ DO (W .i64 (L7+1)))
def dN.Zg(N:Nat)(di:dN.fe)(pL:dN.qb):Nat→dN.O2
 |0,_,_,_,_,_,_,_,_,_,_,_,_,_=>none
 |n+1,x2,x3,x8,x9,cG,dx,yG,HJ,DO,L7,Et,IZ,zy=>dN.aba N (dN.L1 N di pL (dN.Zg N di pL n)) di pL (dN.Zg N di pL n) x2 x3 x8 x9 cG dx yG HJ DO L7 Et IZ zy
def dN.abt(di:dN.fe)(af6:dN.YI)(x2:Int)(x3:ae)(x8:aB)(x9:aN)(yG:Int)(LH:List aB)(YJ I0:Int):Option (aN×(Int)):=
 cond (aT I0 YJ) (cond (a7 I0 (ℓ LH)) (cond (aM (ℓ (γ LH I0.toNat bM):Int) 0) (af6 x2 x3 x8 x9 yG LH YJ (W .i64 (I0+1))) ((F47 N x3 (γ LH I0.toNat bM)).bind λr28=>(F48 N r28.1).bind λVf=>(F49 N Vf.1).bind λVz=>cond (!Vz.2) (some ([],2)) (let v31:Int:=W .i64 (x2+(ℓ x9:Int));cond (small (ℓ x9+ℓ ([(v31,(γ LH I0.toNat bM,(Vz.1,(1,ct))))]))) (af6 x2 x3 x8 (x9++([(v31,(γ LH I0.toNat bM,(Vz.1,(1,ct))))])) yG LH YJ (W .i64 (I0+1))) none))) none) (di x2 x3 x8 x9 (W .i64 (yG+1)))
def dN.Zh(N:Nat)(di:dN.fe):Nat→dN.YI
 |0,_,_,_,_,_,_,_,_=>none
 |n+1,x2,x3,x8,x9,yG,LH,YJ,I0=>dN.abt N di (dN.Zh N di n) x2 x3 x8 x9 yG LH YJ I0
def dN.Bo(an1:dN.O2)(an2:dN.YI)(di:dN.fe)(pL:dN.qb)(x2:Int)(x3:ae)(x8:aB)(x9:aN)(cG:List aB)(yG:Int)(HJ:aB)(DO L7:Int):Option (aN×(Int)):=
 cond (aT L7 DO) (cond (a7 L7 (ℓ HJ)) ((F45 N (γ HJ L7.toNat ct).2.1).bind λzG=>(F46 N (W .i64 zG) (ℓ cG)).bind λBC=>an1 x2 x3 x8 x9 cG (γ HJ L7.toNat ct) yG HJ DO L7 BC.1 (ℓ BC.1) 0) none) (an2 x2 x3 x8 x9 yG cG (ℓ cG) 0)
def dN.yF(N:Nat)(di:dN.fe):Nat→dN.qb
 |0,_,_,_,_,_,_,_,_,_=>none
 |n+1,x2,x3,x8,x9,cG,yG,HJ,DO,L7=>dN.Bo N (dN.Zg N di (dN.yF N di n) N) (dN.Zh N di N) di (dN.yF N di n) x2 x3 x8 x9 cG yG HJ DO L7
def dN.m5(O0:dN.qb)(di:dN.fe)(pM:dN.je)(x2:Int)(x3:ae)(x8:aB)(x9:aN)(bn:Int)(a8:aB)(bp:bI)(yG YH Qe:Int):Option (aN×(Int)):=
 cond (aT Qe YH) (cond (a7 Qe (ℓ x8)) (cond (a7 (γ x8 Qe.toNat ct).1 (ℓ x3.1)) (cond (aM (γ x3.1 (γ x8 Qe.toNat ct).1.toNat aQ).1 bn) (cond (small (ℓ a8+ℓ ([γ x8 Qe.toNat ct]))) ((F45 N (γ x8 Qe.toNat ct).2.1).bind λr6=>(F27 N (W .i64 r6)).bind λr8=>(F44 N bp r8).bind λr9=>pM x2 x3 x8 x9 bn (a8++([γ x8 Qe.toNat ct])) r9.1 yG YH (W .i64 (Qe+1))) none) (pM x2 x3 x8 x9 bn a8 bp yG YH (W .i64 (Qe+1)))) none) none) ((zE N bp x3.2.2.2.2.2.1).bind λqd=>cond (iP qd qd) (O0 x2 x3 x8 x9 (List.replicate qd.toNat bM) yG a8 (ℓ a8) 0) none)
def dN.oU(N:Nat)(di:dN.fe):Nat→dN.je
 |0,_,_,_,_,_,_,_,_,_,_=>none
 |n+1,x2,x3,x8,x9,bn,a8,bp,yG,YH,Qe=>dN.m5 N (dN.yF N di N) di (dN.oU N di n) x2 x3 x8 x9 bn a8 bp yG YH Qe
def dN.zo(N:Nat)(uN:dN.je)(di:dN.fe)(x2:Int)(x3:ae)(x8:aB)(x9:aN)(yG:Int):Option (aN×(Int)):=
 cond (aT yG 4) (uN x2 x3 x8 x9 yG ([]) ct yG (ℓ x8) 0) (some (x9,0))
def dN.l8(N:Nat):Nat→dN.fe
 |0,_,_,_,_,_=>none
 |n+1,x2,x3,x8,x9,yG=>dN.zo N (dN.oU N (dN.l8 N n) N) (dN.l8 N n) x2 x3 x8 x9 yG
def dN.b(CG:dN.fe)(a0:ae)(a1:aq)(a2:Int):Option (aN×(Int)):=
 (mv N a0 a1).bind λr1=>cond (!r1) (some ([],1)) (cond (aT a2 1) (some ([],1)) (cond (aT 1099511627764 a2) (some ([],1)) ((Dy N a1.2.2.2.1 0).bind λr2=>cond (aM (ℓ r2) 0) (some ([],3)) (CG a2 a0 r2 ([]) 0))))
def dN(a0:ae)(a1:aq)(a2:Int):Option (aN×(Int)):=dN.b N (dN.l8 N N) a0 a1 a2
abbrev DJ.c3:=Int→eE→aN→Int→Int→Option (eE×(Bool))
def DJ.gm(N:Nat)(eJ:DJ.c3)(x1:Int)(x4:eE)(x8:aN)(x9 bn:Int):Option (eE×(Bool)):=
 cond (aT bn x9) (cond (a7 bn (ℓ x8)) (cond (aM (γ x8 bn.toNat (0,(bM,aQ))).1 x1) (cond (small (ℓ (γ x8 bn.toNat (0,(bM,aQ))).2.1)) (some (((γ x8 bn.toNat (0,(bM,aQ))).1,((γ x8 bn.toNat (0,(bM,aQ))).2.1,(γ x8 bn.toNat (0,(bM,aQ))).2.2)),true)) none) (eJ x1 x4 x8 x9 (W .i64 (bn+1)))) none) (some ((0,(bM,aQ)),false))
def DJ.l2(N:Nat):Nat→DJ.c3
 |0,_,_,_,_,_=>none
 |n+1,x1,x4,x8,x9,bn=>DJ.gm N (DJ.l2 N n) x1 x4 x8 x9 bn
def DJ.b(N:Nat)(jd:DJ.c3)(a0:aN)(a1:Int):Option (eE×(Bool)):=
 jd a1 (0,(bM,aQ)) a0 (ℓ a0) 0
def DJ(a0:aN)(a1:Int):Option (eE×(Bool)):=DJ.b N (DJ.l2 N N) a0 a1
abbrev zF.bT:=aB→aB→Int→Option Bool
def zF.ew(N:Nat)(cB:zF.bT)(x0 x1:aB)(x5:Int):Option Bool:=
 cond (aT x5 (ℓ x0)) (cond (a7 x5 (ℓ x0)) (cond (a7 x5 (ℓ x1)) (cond (!(ti (.pair (.int .i64) (.pair (.int .i64) .unit)) (γ x0 x5.toNat ct) (γ x1 x5.toNat ct))) (some false) (cB x0 x1 (W .i64 (x5+1)))) none) none) (some true)
def zF.l4(N:Nat):Nat→zF.bT
 |0,_,_,_=>none
 |n+1,x0,x1,x5=>zF.ew N (zF.l4 N n) x0 x1 x5
def zF.b(N:Nat)(fN:zF.bT)(a0 a1:aB):Option Bool:=
 cond (!aM (ℓ a0) (ℓ a1)) (some false) (fN a0 a1 0)
def zF(a0 a1:aB):Option Bool:=zF.b N (zF.l4 N N) a0 a1
abbrev uR.LG:=aN→ae→eE→aN→Int→Int→Option Bool
abbrev uR.bT:=aN→ae→aN→Int→Int→Option Bool
def uR.JC(N:Nat)(cB:uR.bT)(x1:aN)(x2:ae)(x6:eE)(cG:aN)(dO dx:Int):Option Bool:=
 cond (aM x6.2.2.2.1 1) (cond (!aM x6.2.2.2.2.1 0) (some false) (cond (!aM x6.2.2.2.2.2.1 0) (some false) (cB x1 x2 cG dO (W .i64 (dx+1))))) (cond (aM x6.2.2.2.1 3) (cond (!aM x6.2.2.2.2.1 0) (some false) (cond (!aM x6.2.2.2.2.2.1 0) (some false) (cB x1 x2 cG dO (W .i64 (dx+1))))) (cond (aM x6.2.2.2.1 2) (cond (aT x6.2.2.2.2.1 1) (some false) (cond (aT 12 x6.2.2.2.2.1) (some false) (cond (aT x6.2.2.2.2.2.1 (-1152921504606846976)) (some false) (cond (aT 1152921504606846976 x6.2.2.2.2.2.1) (some false) (cB x1 x2 cG dO (W .i64 (dx+1))))))) (some false)))
def uR.j8(cB:uR.bT)(x1:aN)(x2:ae)(x6:eE)(cG:aN)(dO dx:Int):Option Bool:=uR.JC N cB x1 x2 x6 cG dO dx
def uR.ew(BD:uR.LG)(cB:uR.bT)(x1:aN)(x2:ae)(cG:aN)(dO dx:Int):Option Bool:=
 cond (aT dx dO) (cond (a7 dx (ℓ cG)) (cond (aT (γ cG dx.toNat (0,(bM,aQ))).1 1) (some false) (cond (aT 1099511627776 (γ cG dx.toNat (0,(bM,aQ))).1) (some false) (cond (aT 0 dx) (let v3:Int:=W .i64 (dx-1);cond (a7 v3 (ℓ x1)) (cond (cY (γ cG dx.toNat (0,(bM,aQ))).1 (γ x1 v3.toNat (0,(bM,aQ))).1) (some false) (cond (aM (ℓ (γ cG dx.toNat (0,(bM,aQ))).2.1:Int) 0) (some false) ((Ce N x2 (γ cG dx.toNat (0,(bM,aQ))).2.1).bind λr4=>cond (!r4) (some false) (cond (aT 0 (γ cG dx.toNat (0,(bM,aQ))).2.2.1) (some false) (BD x1 x2 (γ cG dx.toNat (0,(bM,aQ))) cG dO dx))))) none) (cond (aM (ℓ (γ cG dx.toNat (0,(bM,aQ))).2.1:Int) 0) (some false) ((Ce N x2 (γ cG dx.toNat (0,(bM,aQ))).2.1).bind λr9=>cond (!r9) (some false) (cond (aT 0 (γ cG dx.toNat (0,(bM,aQ))).2.2.1) (some false) (BD x1 x2 (γ cG dx.toNat (0,(bM,aQ))) cG dO dx))))))) none) (some true)
def uR.l4(N:Nat):Nat→uR.bT
 |0,_,_,_,_,_=>none
 |n+1,x1,x2,cG,dO,dx=>uR.ew N (uR.j8 N (uR.l4 N n)) (uR.l4 N n) x1 x2 cG dO dx
def uR.b(fN:uR.bT)(a0:ae)(a1:aN):Option Bool:=
 (B8 N a0).bind λr1=>cond (!r1) (some false) (cond (aT 12 (ℓ a1)) (some false) (fN a1 a0 a1 (ℓ a1) 0))
def uR(a0:ae)(a1:aN):Option Bool:=uR.b N (uR.l4 N N) a0 a1
def F7:Option Bool:=
 (F23 N).bind λr1=>(dN N r1.1 r1.2 5).bind λr2=>(DJ N r2.1 7).bind λr3=>(dN N r1.1 (r1.2.1,(r1.2.2.1,(r1.2.2.2.1,(cf,r1.2.2.2.2.2)))) 5).bind λr4=>cond (aM r2.2 0) (cond (aM (ℓ r2.1) 4) (cond (a7 0 (ℓ r2.1)) (cond (aM (γ r2.1 (0:Int).toNat (0,(bM,aQ))).1 5) (cond (a7 0 (ℓ r2.1)) ((zF N (γ r2.1 (0:Int).toNat (0,(bM,aQ))).2.1 ([(0,(3,()))])).bind λr5=>cond (r5) (cond (a7 0 (ℓ r2.1)) (cond (aM (γ r2.1 (0:Int).toNat (0,(bM,aQ))).2.2.1 (-6)) (cond (a7 0 (ℓ r2.1)) (cond (aM (γ r2.1 (0:Int).toNat (0,(bM,aQ))).2.2.2.1 1) (cond (r3.2) ((zF N r3.1.2.1 ([(0,(2,()))])).bind λr6=>cond (r6) (cond (a7 3 (ℓ r2.1)) ((zF N (γ r2.1 (3:Int).toNat (0,(bM,aQ))).2.1 ([(1,((-2),()))])).bind λr7=>cond (r7) (cond (aM r4.2 3) ((uR N r1.1 r2.1).bind λr8=>cond (r8) ((F27 N 7).bind λr9=>(zE N r9 3).bind λnV=>cond (aM nV 3) ((F27 N 6).bind λqc=>(zE N qc 3).bind λqd=>some (aM qd 2)) (some false)) (some false)) (some false)) (some false)) none) (some false)) (some false)) (some false)) none) (some false)) none) (some false)) none) (some false)) none) (some false)) (some false)
def F9(N:Nat)(a0:List Int):Option bb:=
 some (a0,(0,()))
def F66(N:Nat)(a0:bb):Option ((Int)×bb):=
 cond (aT a0.2.1 (ℓ a0.1)) (cond (a7 a0.2.1 (ℓ a0.1)) (some (γ a0.1 a0.2.1.toNat 0,(a0.1,((W .i64 (a0.2.1+1)),a0.2.2)))) none) (some (0,(a0.1,((W .i64 (a0.2.1+1)),a0.2.2))))
def tD(a0:bb)(a1:Int):Option ((Int)×bb):=
 (F66 N a0).bind λr1=>let v2:Int:=W .u64 a1;cond (aM v2 0) none (some ((W .i64 (rem r1.1 v2)),r1.2))
def Zf(a0:bb)(a1:Int):Option ((Bool)×bb):=
 (tD N a0 a1).bind λr1=>some (aM r1.1 (W .i64 (a1-1)),r1.2)
def L0(a0:bb):Option ((Int)×bb):=
 (F66 N a0).bind λr1=>cond (aM 8 0) none (let v2:Int:=rem r1.1 8;cond (aM v2 0) (cond (aT 1 0) none (some ((W .i64 (shr .u64 r1.1 1)),r1.2))) (cond (aM v2 1) (cond (aT 3 0) none (cond (aM 1000000000000 0) none (some ((W .i64 (rem (shr .u64 r1.1 3) 1000000000000)),r1.2)))) (cond (aM v2 2) (cond (aT 3 0) none (cond (aM 2 0) none (some ((W .i64 (rem (shr .u64 r1.1 3) 2)),r1.2)))) (cond (aT 3 0) none (cond (aM 5000 0) none (some ((W .i64 (rem (shr .u64 r1.1 3) 5000)),r1.2)))))))
abbrev vK.LG:=bb→ae→ae→aO→Int→cv→Option (ae×bb)
abbrev vK.dd:=bb→ae→ae→aO→Int→Option (ae×bb)
def vK.JC(cX:vK.dd)(x0:bb)(x2 x3:ae)(Vg:aO)(x4:Int)(x5:cv):Option (ae×bb):=
 (Zf N x0 12).bind λwq=>cond (wq.1) ((L0 N wq.2).bind λzG=>cond (aM 1000000001 0) none (let YK:Int:=rem zG.1 1000000001;(L0 N zG.2).bind λBC=>cond (aM 1000000001 0) none (let v18:Int:=rem BC.1 1000000001;cond (small (ℓ Vg+ℓ ([(x5.1,(x5.2.1,(YK,(v18,x5.2.2.2.2))))]))) (cX BC.2 x2 (dh,x3.2) (Vg++([(x5.1,(x5.2.1,(YK,(v18,x5.2.2.2.2))))])) (W .i64 (x4-1))) none))) (cond (small (ℓ Vg+ℓ ([x5]))) (cX wq.2 x2 (dh,x3.2) (Vg++([x5])) (W .i64 (x4-1))) none)
def vK.j8(cX:vK.dd)(x0:bb)(x2 x3:ae)(Vg:aO)(x4:Int)(x5:cv):Option (ae×bb):=vK.JC N cX x0 x2 x3 Vg x4 x5
def vK.lD(BD:vK.LG)(cX:vK.dd)(x0:bb)(x2 x3:ae)(Vg:aO)(x4:Int):Option (ae×bb):=
 cond (aT 0 x4) ((tD N x0 3).bind λr4=>(tD N r4.2 300).bind λr5=>(tD N r5.2 12).bind λr7=>(tD N r7.2 6).bind λr8=>(Zf N r8.2 12).bind λr9=>cond (r9.1) ((L0 N r9.2).bind λnV=>cond (aM 1000000000000 0) none (BD nV.2 x2 x3 Vg x4 (r4.1,((W .i64 (1+(rem nV.1 1000000000000))),(r7.1,(r8.1,())))))) (BD r9.2 x2 x3 Vg x4 (r4.1,((W .i64 (1+r5.1)),(r7.1,(r8.1,())))))) ((tD N x0 300).bind λL4=>(tD N L4.2 5).bind λL8=>(tD N L8.2 3).bind λL9=>(tD N L9.2 3).bind λDQ=>(tD N DQ.2 20).bind λVh=>let v28:Int:=W .i64 (1+Vh.1);(tD N Vh.2 100).bind λVf=>(Zf N Vf.2 15).bind λVz=>cond (Vz.1) ((L0 N Vz.2).bind λTb=>some ((Vg,(Tb.1,(L8.1,(L9.1,(DQ.1,(v28,(Vf.1,x3.2.2.2.2.2.2.2))))))),Tb.2)) (some ((Vg,(L4.1,(L8.1,(L9.1,(DQ.1,(v28,(Vf.1,x3.2.2.2.2.2.2.2))))))),Vz.2)))
def vK.l3(N:Nat):Nat→vK.dd
 |0,_,_,_,_,_=>none
 |n+1,x0,x2,x3,Vg,x4=>vK.lD N (vK.j8 N (vK.l3 N n)) (vK.l3 N n) x0 x2 x3 Vg x4
def vK.b(mL:vK.dd)(a0:bb):Option (ae×bb):=
 (tD N a0 4).bind λr1=>mL r1.2 (dh,fu) (dh,fu) dh (W .i64 (1+r1.1))
def vK(a0:bb):Option (ae×bb):=vK.b N (vK.l3 N N) a0
abbrev pF.je:=bb→jK→Int→Option (jK×bb)
abbrev pF.oG:=bb→jK→Int→Option (jK×bb)
abbrev pF.dd:=bb→jK→Int→Option (jK×bb)
def pF.m5(pM:pF.je)(x0:bb)(x5:jK)(x8:Int):Option (jK×bb):=
 cond (cY x8 7) ((tD N x0 3000).bind λzG=>let YK:Int:=W .i64 (200+zG.1);(tD N zG.2 200).bind λBC=>let v18:Int:=W .i64 (20+BC.1);cond (small (ℓ x5+ℓ ([(3,(0,(x8,(0,(0,(0,(YK,(0,())))))))),(6,(0,(x8,(0,(0,(0,(v18,(0,()))))))))]))) (pM BC.2 (x5++([(3,(0,(x8,(0,(0,(0,(YK,(0,())))))))),(6,(0,(x8,(0,(0,(0,(v18,(0,()))))))))])) (W .i64 (x8+1))) none) (some (x5,x0))
def pF.oU(N:Nat):Nat→pF.je
 |0,_,_,_=>none
 |n+1,x0,x5,x8=>pF.m5 N (pF.oU N n) x0 x5 x8
def pF.zA(uN:pF.je)(uO:pF.oG)(x0:bb)(x5:jK)(x7:Int):Option (jK×bb):=
 cond (cY x7 7) ((tD N x0 2).bind λnV=>let v11:Int:=W .i64 (1+nV.1);cond (small (ℓ x5+ℓ ([(2,(v11,(x7,(0,(2,bW)))))]))) (uO nV.2 (x5++([(2,(v11,(x7,(0,(2,bW)))))])) (W .i64 (x7+1))) none) (uN x0 x5 1)
def pF.l9(N:Nat):Nat→pF.oG
 |0,_,_,_=>none
 |n+1,x0,x5,x7=>pF.zA N (pF.oU N N) (pF.l9 N n) x0 x5 x7
def pF.lD(CH:pF.oG)(cX:pF.dd)(x0:bb)(x5:jK)(x6:Int):Option (jK×bb):=
 cond (cY x6 4) (cond (small (ℓ x5+ℓ ([(1,(x6,fu)),(2,(x6,(x6,(0,(1,bW)))))]))) (let v2:List ((Int)×((Int)×((Int)×((Int)×((Int)×((Int)×((Int)×((Int)×(Unit))))))))):=x5++([(1,(x6,fu)),(2,(x6,(x6,(0,(1,bW)))))]);(Zf N x0 5).bind λr3=>cond (!r3.1) ((tD N r3.2 400).bind λr4=>let v5:Int:=W .i64 (1+r4.1);cond (small (ℓ v2+ℓ ([(5,(x6,(0,(0,(0,(0,(v5,(0,()))))))))]))) (cX r4.2 (v2++([(5,(x6,(0,(0,(0,(0,(v5,(0,()))))))))])) (W .i64 (x6+1))) none) (cX r3.2 v2 (W .i64 (x6+1)))) none) (CH x0 x5 5)
def pF.l3(N:Nat):Nat→pF.dd
 |0,_,_,_=>none
 |n+1,x0,x5,x6=>pF.lD N (pF.l9 N N) (pF.l3 N n) x0 x5 x6
def pF.b(N:Nat)(mL:pF.dd)(a0:bb)(a1:ae):Option (jK×bb):=
 mL a0 ([]) 1
def pF(a0:bb)(a1:ae):Option (jK×bb):=pF.b N (pF.l3 N N) a0 a1
def F69(a0:bb)(a1:ae)(a2:Int):Option (ia×bb):=
 cond (a7 a2 (ℓ a1.1)) ((tD N a0 61).bind λr1=>(Zf N r1.2 20).bind λr6=>cond (r6.1) ((L0 N r6.2).bind λr7=>cond (aM 1000000000000 0) none (some ((9,(0,(0,(a2,(0,(0,(0,((W .i64 (1+(rem r7.1 1000000000000))),())))))))),r7.2))) (some ((9,(0,(0,(a2,(0,(0,(0,((mx 1 (mn 1000000000000 (W .i64 ((W .i64 ((γ a1.1 a2.toNat aQ).2.1+r1.1))-30)))),())))))))),r6.2))) none
def F70(a0:bb)(a1:ae):Option (ia×bb):=
 (tD N a0 (ℓ a1.1)).bind λr1=>(tD N r1.2 7).bind λr2=>let v3:Int:=W .i64 (1+r2.1);(tD N r2.2 2).bind λr4=>let v5:Int:=W .i64 (1+r4.1);(tD N r4.2 30).bind λr6=>cond (a7 r1.1 (ℓ a1.1)) ((tD N r6.2 21).bind λr8=>(Zf N r8.2 30).bind λtG=>cond (tG.1) ((L0 N tG.2).bind λwq=>cond (aM 1000000000 0) none ((L0 N wq.2).bind λBC=>cond (aM 1000000000000 0) none (some ((7,(0,(v3,(r1.1,(v5,(0,((W .i64 (1+(rem wq.1 1000000000))),((W .i64 (1+(rem BC.1 1000000000000))),())))))))),BC.2)))) (some ((7,(0,(v3,(r1.1,(v5,(0,((W .i64 (1+r6.1)),((mx 1 (mn 1000000000000 (W .i64 ((W .i64 ((γ a1.1 r1.1.toNat aQ).2.1+r8.1))-10)))),())))))))),tG.2))) none
def F68(a0:bb)(a1:ae):Option (ia×bb):=
 (tD N a0 4).bind λr1=>let v2:Int:=W .i64 (1+r1.1);(tD N r1.2 7).bind λr3=>let v4:Int:=W .i64 (1+r3.1);(tD N r3.2 (ℓ a1.1)).bind λr5=>(tD N r5.2 36).bind λr6=>let v7:Int:=W .i64 (1+r6.1);cond (aM v7 1) (some ((v7,(v2,fu)),r6.2)) (cond (aM v7 11) (some ((v7,(v2,fu)),r6.2)) (cond (aM v7 12) (some ((v7,(v2,fu)),r6.2)) (cond (aM v7 13) (some ((v7,(v2,fu)),r6.2)) (cond (aM v7 2) ((tD N r6.2 2).bind λr8=>some ((v7,(v2,(v4,(0,((W .i64 (1+r8.1)),bW))))),r8.2)) (cond (aM v7 3) ((L0 N r6.2).bind λnV=>some ((v7,(0,(v4,(0,(0,(0,((mx nV.1 1),(0,())))))))),nV.2)) (cond (aM v7 4) ((L0 N r6.2).bind λqd=>some ((v7,(0,(v4,(0,(0,(0,((mx qd.1 1),(0,())))))))),qd.2)) (cond (aM v7 5) ((L0 N r6.2).bind λwq=>some ((v7,(v2,(0,(0,(0,(0,((mx wq.1 1),(0,())))))))),wq.2)) (cond (aM v7 22) ((L0 N r6.2).bind λEu=>some ((v7,(v2,(0,(0,(0,(0,((mx Eu.1 1),(0,())))))))),Eu.2)) (cond (aM v7 6) ((L0 N r6.2).bind λDR=>cond (aM 1000000000001 0) none (some ((v7,(0,(v4,(0,(0,(0,((rem DR.1 1000000000001),(0,())))))))),DR.2))) (cond (aM v7 8) ((tD N r6.2 40).bind λO4=>some ((v7,(0,(v4,(0,(0,((W .i64 (1+O4.1)),ct)))))),O4.2)) (cond (aM v7 9) ((F69 N r6.2 a1 r5.1).bind λQf=>some (Qf.1,Qf.2)) (cond (aM v7 10) ((tD N r6.2 3).bind λL4=>some ((v7,(0,(0,(0,(0,(0,((W .i64 (1+L4.1)),(0,())))))))),L4.2)) (cond (aM v7 14) (some ((v7,(v2,(v4,np))),r6.2)) (cond (aM v7 15) (some ((v7,zz7),r6.2)) (cond (aM v7 16) (some ((v7,zz7),r6.2)) (cond (aM v7 18) (some ((v7,zz7),r6.2)) (cond (aM v7 20) (some ((v7,zz7),r6.2)) (cond (aM v7 21) (some ((v7,zz7),r6.2)) (cond (aM v7 17) ((tD N r6.2 60).bind λL9=>(tD N L9.2 20).bind λVh=>cond (a7 r5.1 (ℓ a1.1)) (some ((v7,(0,(v4,(0,(0,((W .i64 (1+L9.1)),((W .i64 (1+Vh.1)),((γ a1.1 r5.1.toNat aQ).2.1,())))))))),Vh.2)) none) (cond (aM v7 19) ((tD N r6.2 60).bind λVf=>(tD N Vf.2 80).bind λTb=>some ((v7,(v2,(0,(0,(0,((W .i64 (1+Vf.1)),(0,((W .i64 (Tb.1-60)),())))))))),Tb.2)) ((F70 N r6.2 a1).bind λr33=>some (r33.1,r33.2))))))))))))))))))))))
abbrev E0.dd:=bb→ae→jK→Int→Option (jK×bb)
def E0.lD(cX:E0.dd)(x0:bb)(x4:ae)(x7:jK)(x8:Int):Option (jK×bb):=
 cond (aT 0 x8) ((tD N x0 8).bind λr5=>cond (aM r5.1 0) ((F68 N r5.2 x4).bind λr6=>cond (small (ℓ x7+ℓ ([r6.1]))) (cX r6.2 x4 (x7++([r6.1])) (W .i64 (x8-1))) none) (cond (aM r5.1 1) ((tD N r5.2 (ℓ x4.1)).bind λr9=>(F69 N r9.2 x4 r9.1).bind λnV=>cond (small (ℓ x7+ℓ ([nV.1]))) (cX nV.2 x4 (x7++([nV.1])) (W .i64 (x8-1))) none) ((F70 N r5.2 x4).bind λtG=>cond (small (ℓ x7+ℓ ([tG.1]))) (cX tG.2 x4 (x7++([tG.1])) (W .i64 (x8-1))) none))) (some (x7,x0))
def E0.l3(N:Nat):Nat→E0.dd
 |0,_,_,_,_=>none
 |n+1,x0,x4,x7,x8=>E0.lD N (E0.l3 N n) x0 x4 x7 x8
def E0.b(mL:E0.dd)(a0:bb)(a1:ae)(a2:Int):Option (jK×bb):=
 (pF N a0 a1).bind λr1=>(tD N r1.2 (W .i64 (a2+1))).bind λr3=>mL r3.2 a1 r1.1 r3.1
def E0(a0:bb)(a1:ae)(a2:Int):Option (jK×bb):=E0.b N (E0.l3 N N) a0 a1 a2
abbrev Em.dd:=bb→ae→jK→Int→Option (jK×bb)
def Em.lD(cX:Em.dd)(x0:bb)(x3:ae)(x5:jK)(x6:Int):Option (jK×bb):=
 cond (aT 0 x6) ((Zf N x0 2).bind λr3=>cond (r3.1) ((tD N r3.2 (ℓ x3.1)).bind λr4=>(F69 N r4.2 x3 r4.1).bind λr5=>cond (small (ℓ x5+ℓ ([r5.1]))) (cX r5.2 x3 (x5++([r5.1])) (W .i64 (x6-1))) none) ((F68 N r3.2 x3).bind λr8=>cond (small (ℓ x5+ℓ ([r8.1]))) (cX r8.2 x3 (x5++([r8.1])) (W .i64 (x6-1))) none)) (some (x5,x0))
def Em.l3(N:Nat):Nat→Em.dd
 |0,_,_,_,_=>none
 |n+1,x0,x3,x5,x6=>Em.lD N (Em.l3 N n) x0 x3 x5 x6
def Em.b(mL:Em.dd)(a0:bb)(a1:ae):Option (jK×bb):=
 (tD N a0 3).bind λr1=>mL r1.2 a1 ([]) r1.1
def Em(a0:bb)(a1:ae):Option (jK×bb):=Em.b N (Em.l3 N N) a0 a1
def IG(N:Nat)(a0 a1 a2:Int):Option Bool:=
 cond (cY a1 a0) (some (cY a0 a2)) (some false)
abbrev zm.bT:=ae→Int→Option Bool
def zm.ew(cB:zm.bT)(x1:ae)(x3:Int):Option Bool:=
 cond (aT x3 (ℓ x1.1)) (cond (a7 x3 (ℓ x1.1)) ((IG N (γ x1.1 x3.toNat aQ).1 0 3).bind λr2=>cond (!r2) (some false) ((IG N (γ x1.1 x3.toNat aQ).2.1 1 1000000000000).bind λr3=>cond (!r3) (some false) ((IG N (γ x1.1 x3.toNat aQ).2.2.1 0 1000000000).bind λr4=>cond (!r4) (some false) ((IG N (γ x1.1 x3.toNat aQ).2.2.2.1 0 1000000000).bind λr5=>cond (!r5) (some false) (cB x1 (W .i64 (x3+1))))))) none) (cond (cY 0 x1.2.1) ((IG N x1.2.2.1 0 4).bind λr7=>cond (r7) ((IG N x1.2.2.2.1 0 1000000).bind λr8=>cond (r8) ((IG N x1.2.2.2.2.1 0 1000000).bind λr9=>cond (r9) ((IG N x1.2.2.2.2.2.1 1 4611686018427387904).bind λnV=>cond (nV) (some (cY 0 x1.2.2.2.2.2.2.1)) (some false)) (some false)) (some false)) (some false)) (some false))
def zm.l4(N:Nat):Nat→zm.bT
 |0,_,_=>none
 |n+1,x1,x3=>zm.ew N (zm.l4 N n) x1 x3
def zm.b(N:Nat)(fN:zm.bT)(a0:ae):Option Bool:=
 cond (aT (ℓ a0.1) 1) (some false) (cond (aT 6 (ℓ a0.1)) (some false) (fN a0 0))
def zm(a0:ae):Option Bool:=zm.b N (zm.l4 N N) a0
abbrev iy.fk:=ae→aq→aq→(List Int)→Int→Option (aq×(Int))
abbrev iy.YL:=ae→aq→aq→(List Int)→Option (aq×(Int))
def iy.rL(N:Nat)(eQ:iy.fk)(x1:ae)(x2 x4:aq)(x4l:List Int)(x5:Int):Option (aq×(Int)):=
 cond (aT x5 (ℓ x1.1)) (cond (a7 x5 (ℓ x1.1)) (cond (small (ℓ x4l+ℓ ([(γ x1.1 x5.toNat aQ).2.1]))) (eQ x1 x2 (x4.1,(x4.2.1,(x4.2.2.1,(x4.2.2.2.1,(dW,x4.2.2.2.2.2))))) (x4l++([(γ x1.1 x5.toNat aQ).2.1])) (W .i64 (x5+1))) none) none) (some ((x4.1,(x4.2.1,(x4.2.2.1,(x4.2.2.2.1,(x4l,x4.2.2.2.2.2))))),0))
def iy.l7(N:Nat):Nat→iy.fk
 |0,_,_,_,_,_=>none
 |n+1,x1,x2,x4,x4l,x5=>iy.rL N (iy.l7 N n) x1 x2 x4 x4l x5
def iy.T7(N:Nat)(vN:iy.fk)(x1:ae)(x2 x4:aq)(x4l:List Int):Option (aq×(Int)):=
 vN x1 x2 x4 x4l 0
def iy.j6(x1:ae)(x2 x4:aq)(x4l:List Int):Option (aq×(Int)):=iy.T7 N (iy.l7 N N) x1 x2 x4 x4l
def iy.b(LJ:iy.YL)(a0:ae):Option (aq×(Int)):=
 (zm N a0).bind λr1=>cond (!r1) (some ((bM,(dh,(cf,(cf,(dW,(eu,())))))),1)) (cond (!aM a0.2.1 0) (LJ a0 (bM,(dh,(cf,(cf,(dW,(eu,())))))) (bM,(dh,([(1,(0,((W .i64 (0-a0.2.1)),()))),(3,(0,(a0.2.1,())))],(cf,(dW,(eu,())))))) dW) (LJ a0 (bM,(dh,(cf,(cf,(dW,(eu,())))))) (bM,(dh,(cf,(cf,(dW,(eu,())))))) dW))
def iy(a0:ae):Option (aq×(Int)):=iy.b N (iy.j6 N) a0
def F71(a0:ae):Option (aV×(Int)):=
 (iy N a0).bind λr1=>cond (!aM r1.2 0) (some ((0,(0,((bM,(dh,(cf,(cf,(dW,(eu,())))))),((0,(0,(0,(0,(dh,(([]:List ((Int)×((List ((Int)×((Int)×(Unit))))×((Int)×((Int)×((Int)×((Int)×(Unit)))))))),(dh,(dW,(bM,(bM,())))))))))),((0,(0,(ED,(0,())))),()))))),r1.2)) (some ((0,(1,(r1.1,((0,(0,(0,(0,(dh,(([]:List ((Int)×((List ((Int)×((Int)×(Unit))))×((Int)×((Int)×((Int)×((Int)×(Unit)))))))),(dh,(dW,(bM,(bM,())))))))))),((0,(0,(ED,(0,())))),()))))),0))
def aia(N:Nat)(a0:Int):Option Bool:=
 cond (cY 1 a0) (some (cY a0 22)) (some false)
def aaY(N:Nat)(a0:Int):Option ByteArray:=
 cond (aM a0 1) (some (strOf [77])) (cond (aM a0 11) (some (strOf [77])) (cond (aM a0 12) (some (strOf [77])) (cond (aM a0 13) (some (strOf [77])) (cond (aM a0 2) (some (strOf [77,65,83])) (cond (aM a0 3) (some (strOf [65,81])) (cond (aM a0 4) (some (strOf [65,81])) (cond (aM a0 6) (some (strOf [65,81])) (cond (aM a0 5) (some (strOf [77,81])) (cond (aM a0 22) (some (strOf [77,81])) (cond (aM a0 7) (some (strOf [65,73,83,81,80])) (cond (aM a0 8) (some (strOf [65,68])) (cond (aM a0 9) (some (strOf [73,80])) (cond (aM a0 10) (some (strOf [81])) (cond (aM a0 14) (some (strOf [77,65])) (cond (aM a0 17) (some (strOf [65,68,81,80])) (cond (aM a0 19) (some (strOf [77,68,80])) (some (strOf []))))))))))))))))))
def ah8(N:Nat)(a0:Int):Option ((Int)×(Int)):=
 cond (aM a0 6) (some (0,1000000000000)) (cond (aM a0 7) (some (1,1000000000)) (cond (aM a0 17) (some (1,1000000000)) (cond (aM a0 10) (some (1,1000000)) (some (1,9223372036854775807)))))
def ah9(N:Nat)(a0:Int):Option ((Int)×(Int)):=
 cond (aM a0 19) (some ((-1152921504606846976),1152921504606846976)) (some (1,1000000000000))
def aaZ(a0 a1:Int):Option ((Int)×(Int)):=
 cond (aM a1 77) (some (1,12)) (cond (aM a1 65) (some (1,24)) (cond (aM a1 73) (some (0,5)) (cond (aM a1 83) (some (1,2)) (cond (aM a1 68) (some (1,1099511627776)) (cond (aM a1 81) ((ah8 N a0).bind λr1=>some (r1.1,r1.2)) ((ah9 N a0).bind λr2=>some (r2.1,r2.2)))))))
def aa0(N:Nat)(a0:ia)(a1:Int):Option Int:=
 cond (aM a1 77) (some a0.2.1) (cond (aM a1 65) (some a0.2.2.1) (cond (aM a1 73) (some a0.2.2.2.1) (cond (aM a1 83) (some a0.2.2.2.2.1) (cond (aM a1 68) (some a0.2.2.2.2.2.1) (cond (aM a1 81) (some a0.2.2.2.2.2.2.1) (some a0.2.2.2.2.2.2.2.1))))))
def aa1(N:Nat)(a0:ia)(a1 a2:Int):Option ia:=
 cond (aM a1 77) (some (a0.1,(a2,a0.2.2))) (cond (aM a1 65) (some (a0.1,(a0.2.1,(a2,a0.2.2.2)))) (cond (aM a1 73) (some (a0.1,(a0.2.1,(a0.2.2.1,(a2,a0.2.2.2.2))))) (cond (aM a1 83) (some (a0.1,(a0.2.1,(a0.2.2.1,(a0.2.2.2.1,(a2,a0.2.2.2.2.2)))))) (cond (aM a1 68) (some (a0.1,(a0.2.1,(a0.2.2.1,(a0.2.2.2.1,(a0.2.2.2.2.1,(a2,a0.2.2.2.2.2.2))))))) (cond (aM a1 81) (some (a0.1,(a0.2.1,(a0.2.2.1,(a0.2.2.2.1,(a0.2.2.2.2.1,(a0.2.2.2.2.2.1,(a2,a0.2.2.2.2.2.2.2)))))))) (some (a0.1,(a0.2.1,(a0.2.2.1,(a0.2.2.2.1,(a0.2.2.2.2.1,(a0.2.2.2.2.2.1,(a0.2.2.2.2.2.2.1,(a2,a0.2.2.2.2.2.2.2.2))))))))))))))
abbrev se.jL:=ia→ByteArray→ia→Int→Option Bool
def se.vX(ll:se.jL)(x1:ia)(x3:ByteArray)(x4:ia)(x5:Int):Option Bool:=
 cond (aT x5 (ByteArray.size x3:Int)) (cond (a7 x5 (ByteArray.size x3)) ((aaZ N x1.1 ((x3.data.getD x5.toNat 0).toNat:Int)).bind λr4=>cond (a7 x5 (ByteArray.size x3)) ((aa0 N x1 ((x3.data.getD x5.toNat 0).toNat:Int)).bind λr5=>cond (aT r5 r4.1) (some false) (cond (aT r4.2 r5) (some false) (cond (a7 x5 (ByteArray.size x3)) ((aa1 N x4 ((x3.data.getD x5.toNat 0).toNat:Int) r5).bind λr6=>ll x1 x3 r6 (W .i64 (x5+1))) none))) none) none) (some (ti (.pair (.int .i64) (.pair (.int .i64) (.pair (.int .i64) (.pair (.int .i64) (.pair (.int .i64) (.pair (.int .i64) (.pair (.int .i64) (.pair (.int .i64) .unit)))))))) x4 x1))
def se.l6(N:Nat):Nat→se.jL
 |0,_,_,_,_=>none
 |n+1,x1,x3,x4,x5=>se.vX N (se.l6 N n) x1 x3 x4 x5
def se.b(xF:se.jL)(a0:ia):Option Bool:=
 (aia N a0.1).bind λr1=>cond (!r1) (some false) ((aaY N a0.1).bind λr2=>xF a0 r2 (a0.1,zz7) 0)
def se(a0:ia):Option Bool:=se.b N (se.l6 N N) a0
abbrev nY.c3:=aB→Int→Option Bool
def nY.gm(N:Nat)(eJ:nY.c3)(x0:aB)(x3:Int):Option Bool:=
 cond (aT x3 (ℓ x0)) (cond (a7 x3 (ℓ x0)) (cond (aT (γ x0 x3.toNat ct).1 1) (some false) (cond (a7 x3 (ℓ x0)) (cond (aT 12 (γ x0 x3.toNat ct).1) (some false) (cond (a7 x3 (ℓ x0)) (cond (aT (γ x0 x3.toNat ct).2.1 1) (some false) (cond (a7 x3 (ℓ x0)) (cond (aT 4 (γ x0 x3.toNat ct).2.1) (some false) (cond (aT 0 x3) (cond (a7 x3 (ℓ x0)) (let v2:Int:=W .i64 (x3-1);cond (a7 v2 (ℓ x0)) (cond (cY (γ x0 x3.toNat ct).1 (γ x0 v2.toNat ct).1) (some false) (eJ x0 (W .i64 (x3+1)))) none) none) (eJ x0 (W .i64 (x3+1))))) none)) none)) none)) none) (some true)
def nY.l2(N:Nat):Nat→nY.c3
 |0,_,_=>none
 |n+1,x0,x3=>nY.gm N (nY.l2 N n) x0 x3
def nY.b(N:Nat)(jd:nY.c3)(a0:aB):Option Bool:=
 jd a0 0
def nY(a0:aB):Option Bool:=nY.b N (nY.l2 N N) a0
abbrev m0.c3:=aB→Int→Int→Option Int
def m0.gm(N:Nat)(eJ:m0.c3)(x0:aB)(x1 x5:Int):Option Int:=
 cond (aT x5 (ℓ x0)) (cond (a7 x5 (ℓ x0)) (cond (aM (γ x0 x5.toNat ct).1 x1) (cond (a7 x5 (ℓ x0)) (some (γ x0 x5.toNat ct).2.1) none) (eJ x0 x1 (W .i64 (x5+1)))) none) (some 0)
def m0.l2(N:Nat):Nat→m0.c3
 |0,_,_,_=>none
 |n+1,x0,x1,x5=>m0.gm N (m0.l2 N n) x0 x1 x5
def m0.b(N:Nat)(jd:m0.c3)(a0:aB)(a1:Int):Option Int:=
 jd a0 a1 0
def m0(a0:aB)(a1:Int):Option Int:=m0.b N (m0.l2 N N) a0 a1
abbrev iw.Ry:=aB→Int→aB→Int→Option (aB×(Int))
abbrev iw.fk:=aB→Int→aB→Int→Option (aB×(Int))
def iw.NL(N:Nat)(x0:aB)(x1:Int)(x6:aB)(x7:Int):Option (aB×(Int)):=
 cond (jA 0 x7 (ℓ x0) (ℓ x0)) (let v6:List ((Int)×((Int)×(Unit))):=List.drop (0:Int).toNat (List.take x7.toNat x0);cond (small (ℓ x6+ℓ v6)) (let v7:List ((Int)×((Int)×(Unit))):=x6++v6;cond (small (ℓ v7+ℓ ([(x1,(1,()))]))) (let v8:List ((Int)×((Int)×(Unit))):=v7++([(x1,(1,()))]);cond (jA x7 (ℓ x0) (ℓ x0) (ℓ x0)) (let v9:List ((Int)×((Int)×(Unit))):=List.drop x7.toNat (List.take (ℓ x0:Int).toNat x0);cond (small (ℓ v8+ℓ v9)) (some ((v8++v9),0)) none) none) none) none) none
def iw.j9(x0:aB)(x1:Int)(x6:aB)(x7:Int):Option (aB×(Int)):=iw.NL N x0 x1 x6 x7
def iw.rL(N:Nat)(HN:iw.Ry)(eQ:iw.fk)(x0:aB)(x1:Int)(x6:aB)(x7:Int):Option (aB×(Int)):=
 cond (aT x7 (ℓ x0)) (cond (a7 x7 (ℓ x0)) (cond (aT (γ x0 x7.toNat ct).1 x1) (eQ x0 x1 x6 (W .i64 (x7+1))) (HN x0 x1 x6 x7)) none) (HN x0 x1 x6 x7)
def iw.l7(N:Nat):Nat→iw.fk
 |0,_,_,_,_=>none
 |n+1,x0,x1,x6,x7=>iw.rL N (iw.j9 N) (iw.l7 N n) x0 x1 x6 x7
def iw.b(vN:iw.fk)(a0:aB)(a1:Int):Option (aB×(Int)):=
 (nY N a0).bind λr1=>cond (!r1) (some ([],1)) (cond (aT a1 1) (some ([],1)) (cond (aT 12 a1) (some ([],1)) ((m0 N a0 a1).bind λr2=>cond (!aM r2 0) (some ([],4)) (vN a0 a1 ([]) 0))))
def iw(a0:aB)(a1:Int):Option (aB×(Int)):=iw.b N (iw.l7 N N) a0 a1
def fp(N:Nat)(a0:Int):Option eP:=
 some (a0,ct)
abbrev eC.fe:=aO→Int→cv→Int→Option Bool
abbrev eC.Rx:=aO→Int→cv→Option Bool
abbrev eC.c3:=aO→Int→Option Bool
def eC.zo(N:Nat)(eJ:eC.c3)(di:eC.fe)(x0:aO)(x3:Int)(x4:cv)(x5:Int):Option Bool:=
 cond (aT x5 x3) (cond (aM x4.2.2.1 1) (cond (a7 x5 (ℓ x0)) (cond (aM (γ x0 x5.toNat aQ).2.2.1 1) (cond (a7 x5 (ℓ x0)) (cond (aM (γ x0 x5.toNat aQ).2.1 x4.2.1) (some false) (di x0 x3 x4 (W .i64 (x5+1)))) none) (di x0 x3 x4 (W .i64 (x5+1)))) none) (di x0 x3 x4 (W .i64 (x5+1)))) (eJ x0 (W .i64 (x3+1)))
def eC.l8(N:Nat)(eJ:eC.c3):Nat→eC.fe
 |0,_,_,_,_=>none
 |n+1,x0,x3,x4,x5=>eC.zo N eJ (eC.l8 N eJ n) x0 x3 x4 x5
def eC.Qc(N:Nat)(CG:eC.fe)(eJ:eC.c3)(x0:aO)(x3:Int)(x4:cv):Option Bool:=
 CG x0 x3 x4 0
def eC.j7(eJ:eC.c3)(x0:aO)(x3:Int)(x4:cv):Option Bool:=eC.Qc N (eC.l8 N eJ N) eJ x0 x3 x4
def eC.gm(N:Nat)(CE:eC.Rx)(eJ:eC.c3)(x0:aO)(x3:Int):Option Bool:=
 cond (aT x3 (ℓ x0)) (cond (a7 x3 (ℓ x0)) (cond (aT (γ x0 x3.toNat aQ).1 1) (some false) (cond (aT 24 (γ x0 x3.toNat aQ).1) (some false) (cond (aT (γ x0 x3.toNat aQ).2.1 1) (some false) (cond (aT 12 (γ x0 x3.toNat aQ).2.1) (some false) (cond (!aM (γ x0 x3.toNat aQ).2.2.1 1) (cond (!aM (γ x0 x3.toNat aQ).2.2.1 2) (some false) (cond (aT (γ x0 x3.toNat aQ).2.2.2.1 0) (some false) (cond (aT 1000000000000 (γ x0 x3.toNat aQ).2.2.2.1) (some false) (cond (aT 0 x3) (let v2:Int:=W .i64 (x3-1);cond (a7 v2 (ℓ x0)) (cond (cY (γ x0 x3.toNat aQ).1 (γ x0 v2.toNat aQ).1) (some false) (CE x0 x3 (γ x0 x3.toNat aQ))) none) (CE x0 x3 (γ x0 x3.toNat aQ)))))) (cond (aT (γ x0 x3.toNat aQ).2.2.2.1 0) (some false) (cond (aT 1000000000000 (γ x0 x3.toNat aQ).2.2.2.1) (some false) (cond (aT 0 x3) (let v9:Int:=W .i64 (x3-1);cond (a7 v9 (ℓ x0)) (cond (cY (γ x0 x3.toNat aQ).1 (γ x0 v9.toNat aQ).1) (some false) (CE x0 x3 (γ x0 x3.toNat aQ))) none) (CE x0 x3 (γ x0 x3.toNat aQ)))))))))) none) (some true)
def eC.l2(N:Nat):Nat→eC.c3
 |0,_,_=>none
 |n+1,x0,x3=>eC.gm N (eC.j7 N (eC.l2 N n)) (eC.l2 N n) x0 x3
def eC.b(N:Nat)(jd:eC.c3)(a0:aO):Option Bool:=
 jd a0 0
def eC(a0:aO):Option Bool:=eC.b N (eC.l2 N N) a0
abbrev Cd.bT:=aB→aO→Int→Option Bool
def Cd.ew(cB:Cd.bT)(x0:aB)(x1:aO)(x5:Int):Option Bool:=
 cond (aT x5 (ℓ x1)) (cond (a7 x5 (ℓ x1)) ((m0 N x0 (γ x1 x5.toNat aQ).2.1).bind λr4=>cond (aM r4 0) (some false) (cB x0 x1 (W .i64 (x5+1)))) none) (some true)
def Cd.l4(N:Nat):Nat→Cd.bT
 |0,_,_,_=>none
 |n+1,x0,x1,x5=>Cd.ew N (Cd.l4 N n) x0 x1 x5
def Cd.b(fN:Cd.bT)(a0:aB)(a1:aO):Option Bool:=
 (nY N a0).bind λr1=>cond (!r1) (some false) ((eC N a1).bind λr2=>cond (!r2) (some false) (fN a0 a1 0))
def Cd(a0:aB)(a1:aO):Option Bool:=Cd.b N (Cd.l4 N N) a0 a1
abbrev nZ.c3:=aO→Int→cv→Int→Option (cv×(Bool))
def nZ.gm(N:Nat)(eJ:nZ.c3)(x0:aO)(x1:Int)(x4:cv)(x6:Int):Option (cv×(Bool)):=
 cond (aT x6 (ℓ x0)) (cond (a7 x6 (ℓ x0)) (cond (aM (γ x0 x6.toNat aQ).1 x1) (cond (a7 x6 (ℓ x0)) (some (γ x0 x6.toNat aQ,true)) none) (eJ x0 x1 x4 (W .i64 (x6+1)))) none) (some (aQ,false))
def nZ.l2(N:Nat):Nat→nZ.c3
 |0,_,_,_,_=>none
 |n+1,x0,x1,x4,x6=>nZ.gm N (nZ.l2 N n) x0 x1 x4 x6
def nZ.b(N:Nat)(jd:nZ.c3)(a0:aO)(a1:Int):Option (cv×(Bool)):=
 jd a0 a1 aQ 0
def nZ(a0:aO)(a1:Int):Option (cv×(Bool)):=nZ.b N (nZ.l2 N N) a0 a1
abbrev mG.bT:=aO→Int→Int→Option Int
def mG.ew(N:Nat)(cB:mG.bT)(x0:aO)(x1 x5:Int):Option Int:=
 cond (aT x5 (ℓ x0)) (cond (a7 x5 (ℓ x0)) (cond (aM (γ x0 x5.toNat aQ).2.1 x1) (cond (a7 x5 (ℓ x0)) (cond (aM (γ x0 x5.toNat aQ).2.2.1 1) (cond (a7 x5 (ℓ x0)) (some (γ x0 x5.toNat aQ).1) none) (cB x0 x1 (W .i64 (x5+1)))) none) (cB x0 x1 (W .i64 (x5+1)))) none) (some 0)
def mG.l4(N:Nat):Nat→mG.bT
 |0,_,_,_=>none
 |n+1,x0,x1,x5=>mG.ew N (mG.l4 N n) x0 x1 x5
def mG.b(fN:mG.bT)(a0:aO)(a1:Int):Option Int:=
 (eC N a0).bind λr1=>cond (!r1) (some 0) (fN a0 a1 0)
def mG(a0:aO)(a1:Int):Option Int:=mG.b N (mG.l4 N N) a0 a1
abbrev fc.HO:=aO→cv→aO→Int→Option (aO×(Int))
abbrev fc.je:=aO→cv→aO→Int→Option (aO×(Int))
abbrev fc.O5:=aO→cv→Option (aO×(Int))
def fc.wo(N:Nat)(x1:aO)(x5:cv)(a8:aO)(bp:Int):Option (aO×(Int)):=
 cond (jA 0 bp (ℓ x1) (ℓ x1)) (let v10:List ((Int)×((Int)×((Int)×((Int)×(Unit))))):=List.drop (0:Int).toNat (List.take bp.toNat x1);cond (small (ℓ a8+ℓ v10)) (let v11:List ((Int)×((Int)×((Int)×((Int)×(Unit))))):=a8++v10;cond (small (ℓ v11+ℓ ([x5]))) (let v12:List ((Int)×((Int)×((Int)×((Int)×(Unit))))):=v11++([x5]);cond (jA bp (ℓ x1) (ℓ x1) (ℓ x1)) (let v13:List ((Int)×((Int)×((Int)×((Int)×(Unit))))):=List.drop bp.toNat (List.take (ℓ x1:Int).toNat x1);cond (small (ℓ v12+ℓ v13)) (some ((v12++v13),0)) none) none) none) none) none
def fc.Cp(x1:aO)(x5:cv)(a8:aO)(bp:Int):Option (aO×(Int)):=fc.wo N x1 x5 a8 bp
def fc.m5(N:Nat)(wb:fc.HO)(pM:fc.je)(x1:aO)(x5:cv)(a8:aO)(bp:Int):Option (aO×(Int)):=
 cond (aT bp (ℓ x1)) (cond (a7 bp (ℓ x1)) (cond (aT (γ x1 bp.toNat aQ).1 x5.1) (pM x1 x5 a8 (W .i64 (bp+1))) (wb x1 x5 a8 bp)) none) (wb x1 x5 a8 bp)
def fc.oU(N:Nat):Nat→fc.je
 |0,_,_,_,_=>none
 |n+1,x1,x5,a8,bp=>fc.m5 N (fc.Cp N) (fc.oU N n) x1 x5 a8 bp
def fc.Cs(N:Nat)(uN:fc.je)(x1:aO)(x5:cv):Option (aO×(Int)):=
 uN x1 x5 ([]) 0
def fc.JW(x1:aO)(x5:cv):Option (aO×(Int)):=fc.Cs N (fc.oU N N) x1 x5
def fc.b(DS:fc.O5)(a0:aB)(a1:aO)(a2:cv):Option (aO×(Int)):=
 (Cd N a0 a1).bind λr1=>cond (!r1) (some ([],1)) ((eC N ([a2])).bind λr2=>cond (!r2) (some ([],1)) ((m0 N a0 a2.2.1).bind λr3=>cond (aM r3 0) (some ([],3)) (cond (!aM r3 1) (some ([],7)) ((nZ N a1 a2.1).bind λr4=>cond (r4.2) (some ([],4)) (cond (aM a2.2.2.1 1) ((mG N a1 a2.2.1).bind λr5=>cond (!aM r5 0) (some ([],4)) (DS a1 a2)) (DS a1 a2))))))
def fc(a0:aB)(a1:aO)(a2:cv):Option (aO×(Int)):=fc.b N (fc.JW N) a0 a1 a2
def Ee(a0:aO)(a1:Int):Option (cv×(Bool)):=
 (eC N a0).bind λr1=>cond (!r1) (some (aQ,false)) ((nZ N a0 a1).bind λr2=>some (r2.1,r2.2))
def Re(a0:aV)(a1:Int):Option Bool:=
 (Ee N a0.2.2.1.2.1 a1).bind λr1=>some r1.2
abbrev om.c3:=(List Int)→Int→Option (List Int)
def om.gm(N:Nat)(eJ:om.c3)(x0:List Int)(x3:Int):Option (List Int):=
 cond (aT 0 x3) (let v2:Int:=W .i64 (x3-1);cond (a7 v2 (ℓ x0)) (cond (aM (γ x0 v2.toNat 0) 0) (eJ x0 (W .i64 (x3-1))) (cond (jA 0 x3 x3 (ℓ x0)) (some (List.drop (0:Int).toNat (List.take x3.toNat x0))) none)) none) (cond (jA 0 x3 x3 (ℓ x0)) (some (List.drop (0:Int).toNat (List.take x3.toNat x0))) none)
def om.l2(N:Nat):Nat→om.c3
 |0,_,_=>none
 |n+1,x0,x3=>om.gm N (om.l2 N n) x0 x3
def om.b(N:Nat)(jd:om.c3)(a0:List Int):Option (List Int):=
 jd a0 (ℓ a0:Int)
def om(a0:List Int):Option (List Int):=om.b N (om.l2 N N) a0
def F55(a0:Int):Option (List Int):=
 cond (aT 32 0) none ((om N ([(mX .and .u64 a0 4294967295),(shr .u64 a0 32)])).bind λr3=>some r3)
def WW(a0:Bool)(a1:List Int):Option aH:=
 (om N a1).bind λr1=>cond (a0) (some (aT 0 (ℓ r1:Int),(r1,()))) (some (false,(r1,())))
def kF(a0:Int):Option aH:=
 let v1:Int:=W .u64 a0;cond (aT a0 0) ((F55 N (W .u64 (0-v1))).bind λr3=>(WW N (aT a0 0) r3).bind λr4=>some r4) ((F55 N v1).bind λr5=>(WW N (aT a0 0) r5).bind λr6=>some r6)
def Vt(a0:aH):Option aH:=
 (WW N (!a0.1) a0.2.1).bind λr1=>some r1
def Cu(a0 a1:Int)(a2 a3:Int)(a4:aH):Option bJ:=
 (Vt N a4).bind λr1=>some ([(a0,(a1,(r1,()))),(a2,(a3,(a4,())))])
def F56(N:Nat)(a0:List Int)(a1:Int):Option Int:=
 cond (aT a1 (ℓ a0)) (cond (a7 a1 (ℓ a0)) (some (γ a0 a1.toNat 0)) none) (some 0)
abbrev vW.YL:=(List Int)→(List Int)→(List Int)→Int→Int→Option (List Int)
abbrev vW.bT:=(List Int)→(List Int)→(List Int)→Int→Int→Option (List Int)
def vW.T7(cB:vW.bT)(x0 x1 x5:List Int)(x6 x7:Int):Option (List Int):=
 (F56 N x0 x7).bind λr3=>(F56 N x1 x7).bind λr4=>let v6:Int:=W .u64 (x6+(W .u64 (r3+r4)));let v7:Int:=mX .and .u64 v6 4294967295;cond (small (ℓ x5+ℓ ([v7]))) (cond (aT 32 0) none (cB x0 x1 (x5++([v7])) (shr .u64 v6 32) (W .i64 (x7+1)))) none
def vW.j6(cB:vW.bT)(x0 x1 x5:List Int)(x6 x7:Int):Option (List Int):=vW.T7 N cB x0 x1 x5 x6 x7
def vW.ew(N:Nat)(LJ:vW.YL)(cB:vW.bT)(x0 x1 x5:List Int)(x6 x7:Int):Option (List Int):=
 cond (aT x7 (ℓ x0)) (LJ x0 x1 x5 x6 x7) (cond (aT x7 (ℓ x1)) (LJ x0 x1 x5 x6 x7) (cond (aT 0 x6) (LJ x0 x1 x5 x6 x7) (some x5)))
def vW.l4(N:Nat):Nat→vW.bT
 |0,_,_,_,_,_=>none
 |n+1,x0,x1,x5,x6,x7=>vW.ew N (vW.j6 N (vW.l4 N n)) (vW.l4 N n) x0 x1 x5 x6 x7
def vW.b(N:Nat)(fN:vW.bT)(a0 a1:List Int):Option (List Int):=
 fN a0 a1 ([]) 0 0
def vW(a0 a1:List Int):Option (List Int):=vW.b N (vW.l4 N N) a0 a1
abbrev Eb.jL:=(List Int)→(List Int)→Int→Option Int
def Eb.vX(N:Nat)(ll:Eb.jL)(x0 x1:List Int)(x5:Int):Option Int:=
 cond (cY 0 x5) (cond (a7 x5 (ℓ x0)) (cond (a7 x5 (ℓ x1)) (cond (aT (γ x0 x5.toNat 0) (γ x1 x5.toNat 0)) (some (-1)) (cond (a7 x5 (ℓ x0)) (cond (a7 x5 (ℓ x1)) (cond (aT (γ x1 x5.toNat 0) (γ x0 x5.toNat 0)) (some 1) (ll x0 x1 (W .i64 (x5-1)))) none) none)) none) none) (some 0)
def Eb.l6(N:Nat):Nat→Eb.jL
 |0,_,_,_=>none
 |n+1,x0,x1,x5=>Eb.vX N (Eb.l6 N n) x0 x1 x5
def Eb.b(N:Nat)(xF:Eb.jL)(a0 a1:List Int):Option Int:=
 cond (!aM (ℓ a0) (ℓ a1)) (cond (aT (ℓ a0) (ℓ a1)) (some (-1)) (some 1)) (xF a0 a1 (W .i64 ((ℓ a0:Int)-1)))
def Eb(a0 a1:List Int):Option Int:=Eb.b N (Eb.l6 N N) a0 a1
abbrev EO.bT:=(List Int)→(List Int)→(List Int)→Int→Int→Option (List Int)
def EO.ew(cB:EO.bT)(x0 x1 x5:List Int)(x6 x7:Int):Option (List Int):=
 cond (aT x7 (ℓ x0)) (cond (a7 x7 (ℓ x0)) ((F56 N x1 x7).bind λr2=>let v3:Int:=W .u64 (r2+x6);cond (aT (γ x0 x7.toNat 0) v3) (let v5:Int:=W .u64 ((W .u64 ((γ x0 x7.toNat 0)+4294967296))-v3);cond (small (ℓ x5+ℓ ([v5]))) (cB x0 x1 (x5++([v5])) 1 (W .i64 (x7+1))) none) (let v8:Int:=W .u64 ((γ x0 x7.toNat 0)-v3);cond (small (ℓ x5+ℓ ([v8]))) (cB x0 x1 (x5++([v8])) 0 (W .i64 (x7+1))) none)) none) (some x5)
def EO.l4(N:Nat):Nat→EO.bT
 |0,_,_,_,_,_=>none
 |n+1,x0,x1,x5,x6,x7=>EO.ew N (EO.l4 N n) x0 x1 x5 x6 x7
def EO.b(N:Nat)(fN:EO.bT)(a0 a1:List Int):Option (List Int):=
 fN a0 a1 ([]) 0 0
def EO(a0 a1:List Int):Option (List Int):=EO.b N (EO.l4 N N) a0 a1
def AZ(a0 a1:aH):Option aH:=
 cond (ti .bool a0.1 a1.1) ((vW N a0.2.1 a1.2.1).bind λr1=>(WW N a0.1 r1).bind λr2=>some r2) ((Eb N a0.2.1 a1.2.1).bind λr3=>cond (cY 0 r3) ((EO N a0.2.1 a1.2.1).bind λr4=>(WW N a0.1 r4).bind λr5=>some r5) ((EO N a1.2.1 a0.2.1).bind λr6=>(WW N a1.1 r6).bind λr7=>some r7))
def NJ(a0:aH):Option ((Int)×(Bool)):=
 cond (aT 2 (ℓ a0.2.1)) (some (0,false)) ((F56 N a0.2.1 0).bind λr1=>(F56 N a0.2.1 1).bind λr2=>cond (aT 32 0) none (let v4:Int:=mX .or .u64 r1 (W .u64 (shl .u64 r2 32));cond (a0.1) (cond (aT 9223372036854775808 v4) (some (0,false)) (some ((W .i64 (W .u64 (0-v4))),true))) (cond (aT 9223372036854775807 v4) (some (0,false)) (some ((W .i64 v4),true)))))
def QO(a0:aH):Option ((Int)×(Bool)):=
 (NJ N a0).bind λr1=>cond (!r1.2) (some (0,false)) (cond (aM r1.1 (-9223372036854775808)) (some (0,false)) (some (r1.1,true)))
abbrev cw.sx:=aC→aC→aC→Int→Int→Int→Int→Bool→aH→Int→Option (aC×(Bool))
abbrev cw.OZ:=aC→aC→aC→Int→Int→Int→Int→Bool→Option (aC×(Bool))
abbrev cw.fk:=aC→aC→aC→Int→Int→Int→Option (aC×(Bool))
abbrev cw.bT:=aC→aC→aC→Int→Int→Option (aC×(Bool))
def cw.Bf(cB:cw.bT)(eQ:cw.fk)(mV:cw.sx)(x0 x1 x6:aC)(x7 x8:Int)(x9 bn:Int)(a8:Bool)(bp:aH)(cq:Int):Option (aC×(Bool)):=
 cond (aT cq (ℓ x1)) (cond (a7 cq (ℓ x1)) (cond (aM (γ x1 cq.toNat bW).1 x8) (cond (a7 cq (ℓ x1)) (cond (aM (γ x1 cq.toNat bW).2.1 x9) (cond (a7 cq (ℓ x1)) ((kF N (γ x1 cq.toNat bW).2.2.1).bind λr6=>(AZ N bp r6).bind λr7=>mV x0 x1 x6 x7 x8 x9 bn true r7 (W .i64 (cq+1))) none) (mV x0 x1 x6 x7 x8 x9 bn a8 bp (W .i64 (cq+1)))) none) (mV x0 x1 x6 x7 x8 x9 bn a8 bp (W .i64 (cq+1)))) none) (cond (a8) ((kF N bn).bind λqc=>(AZ N bp qc).bind λqd=>(QO N qd).bind λtG=>cond (!tG.2) (some ([],false)) (cond (!aM tG.1 0) (cond (small (ℓ x6+ℓ ([(x8,(x9,(tG.1,())))]))) (eQ x0 x1 (x6++([(x8,(x9,(tG.1,())))])) x7 x8 (W .i64 (x9+1))) none) (eQ x0 x1 x6 x7 x8 (W .i64 (x9+1))))) (cond (!aM bn 0) (cond (small (ℓ x6+ℓ ([(x8,(x9,(bn,())))]))) (eQ x0 x1 (x6++([(x8,(x9,(bn,())))])) x7 x8 (W .i64 (x9+1))) none) (eQ x0 x1 x6 x7 x8 (W .i64 (x9+1)))))
def cw.yc(N:Nat)(cB:cw.bT)(eQ:cw.fk):Nat→cw.sx
 |0,_,_,_,_,_,_,_,_,_,_=>none
 |n+1,x0,x1,x6,x7,x8,x9,bn,a8,bp,cq=>cw.Bf N cB eQ (cw.yc N cB eQ n) x0 x1 x6 x7 x8 x9 bn a8 bp cq
def cw.A5(N:Nat)(O6:cw.sx)(cB:cw.bT)(eQ:cw.fk)(x0 x1 x6:aC)(x7 x8:Int)(x9 bn:Int)(a8:Bool):Option (aC×(Bool)):=
 O6 x0 x1 x6 x7 x8 x9 bn a8 (false,pQ) 0
def cw.KR(cB:cw.bT)(eQ:cw.fk)(x0 x1 x6:aC)(x7 x8:Int)(x9 bn:Int)(a8:Bool):Option (aC×(Bool)):=cw.A5 N (cw.yc N cB eQ N) cB eQ x0 x1 x6 x7 x8 x9 bn a8
def cw.rL(N:Nat)(wa:cw.OZ)(cB:cw.bT)(eQ:cw.fk)(x0 x1 x6:aC)(x7 x8 x9:Int):Option (aC×(Bool)):=
 cond (aT x9 6) (cond (aT x7 (ℓ x0)) (cond (a7 x7 (ℓ x0)) (cond (aM (γ x0 x7.toNat bW).1 x8) (cond (a7 x7 (ℓ x0)) (cond (aM (γ x0 x7.toNat bW).2.1 x9) (cond (a7 x7 (ℓ x0)) (wa x0 x1 x6 (W .i64 (x7+1)) x8 x9 (γ x0 x7.toNat bW).2.2.1 false) none) (wa x0 x1 x6 x7 x8 x9 0 false)) none) (wa x0 x1 x6 x7 x8 x9 0 false)) none) (wa x0 x1 x6 x7 x8 x9 0 false)) (cB x0 x1 x6 x7 (W .i64 (x8+1)))
def cw.l7(N:Nat)(cB:cw.bT):Nat→cw.fk
 |0,_,_,_,_,_,_=>none
 |n+1,x0,x1,x6,x7,x8,x9=>cw.rL N (cw.KR N cB (cw.l7 N cB n)) cB (cw.l7 N cB n) x0 x1 x6 x7 x8 x9
def cw.ew(N:Nat)(vN:cw.fk)(cB:cw.bT)(x0 x1 x6:aC)(x7 x8:Int):Option (aC×(Bool)):=
 cond (cY x8 24) (vN x0 x1 x6 x7 x8 0) (some (x6,true))
def cw.l4(N:Nat):Nat→cw.bT
 |0,_,_,_,_,_=>none
 |n+1,x0,x1,x6,x7,x8=>cw.ew N (cw.l7 N (cw.l4 N n) N) (cw.l4 N n) x0 x1 x6 x7 x8
def cw.b(N:Nat)(fN:cw.bT)(a0 a1:aC):Option (aC×(Bool)):=
 fN a0 a1 ([]) 0 0
def cw(a0 a1:aC):Option (aC×(Bool)):=cw.b N (cw.l4 N N) a0 a1
abbrev nG.dd:=Int→Int→Int→bJ→aH→Bool→Int→Option ((Int)×(Bool))
def nG.lD(cX:nG.dd)(x0 x1 x2:Int)(x3:bJ)(bn:aH)(a8:Bool)(bp:Int):Option ((Int)×(Bool)):=
 cond (aT bp (ℓ x3)) (cond (a7 bp (ℓ x3)) (cond (aM (γ x3 bp.toNat (0,(0,((false,pQ),())))).1 x1) (cond (a7 bp (ℓ x3)) (cond (aM (γ x3 bp.toNat (0,(0,((false,pQ),())))).2.1 x2) (cond (a7 bp (ℓ x3)) ((AZ N bn (γ x3 bp.toNat (0,(0,((false,pQ),())))).2.2.1).bind λr2=>cX x0 x1 x2 x3 r2 true (W .i64 (bp+1))) none) (cX x0 x1 x2 x3 bn a8 (W .i64 (bp+1)))) none) (cX x0 x1 x2 x3 bn a8 (W .i64 (bp+1)))) none) (cond (!a8) (some (x0,true)) ((kF N x0).bind λr6=>(AZ N bn r6).bind λr7=>(NJ N r7).bind λr8=>some (r8.1,r8.2)))
def nG.l3(N:Nat):Nat→nG.dd
 |0,_,_,_,_,_,_,_=>none
 |n+1,x0,x1,x2,x3,bn,a8,bp=>nG.lD N (nG.l3 N n) x0 x1 x2 x3 bn a8 bp
def nG.b(N:Nat)(mL:nG.dd)(a0 a1 a2:Int)(a3:bJ):Option ((Int)×(Bool)):=
 mL a0 a1 a2 a3 (false,pQ) false 0
def nG(a0 a1 a2:Int)(a3:bJ):Option ((Int)×(Bool)):=nG.b N (nG.l3 N N) a0 a1 a2 a3
abbrev dk.OZ:=aC→bJ→aC→Int→Int→Int→Int→Option (aC×(Bool))
abbrev dk.fk:=aC→bJ→aC→Int→Int→Int→Option (aC×(Bool))
abbrev dk.bT:=aC→bJ→aC→Int→Int→Option (aC×(Bool))
def dk.A5(cB:dk.bT)(eQ:dk.fk)(x0:aC)(x1:bJ)(x6:aC)(x7 x8:Int)(x9 bn:Int):Option (aC×(Bool)):=
 (nG N bn x8 x9 x1).bind λr5=>cond (!r5.2) (some ([],false)) (cond (!aM r5.1 0) (cond (small (ℓ x6+ℓ ([(x8,(x9,(r5.1,())))]))) (eQ x0 x1 (x6++([(x8,(x9,(r5.1,())))])) x7 x8 (W .i64 (x9+1))) none) (eQ x0 x1 x6 x7 x8 (W .i64 (x9+1))))
def dk.KR(cB:dk.bT)(eQ:dk.fk)(x0:aC)(x1:bJ)(x6:aC)(x7 x8:Int)(x9 bn:Int):Option (aC×(Bool)):=dk.A5 N cB eQ x0 x1 x6 x7 x8 x9 bn
def dk.rL(N:Nat)(wa:dk.OZ)(cB:dk.bT)(eQ:dk.fk)(x0:aC)(x1:bJ)(x6:aC)(x7 x8 x9:Int):Option (aC×(Bool)):=
 cond (cY x9 24) (cond (aT x7 (ℓ x0)) (cond (a7 x7 (ℓ x0)) (cond (aM (γ x0 x7.toNat bW).1 x8) (cond (a7 x7 (ℓ x0)) (cond (aM (γ x0 x7.toNat bW).2.1 x9) (cond (a7 x7 (ℓ x0)) (wa x0 x1 x6 (W .i64 (x7+1)) x8 x9 (γ x0 x7.toNat bW).2.2.1) none) (wa x0 x1 x6 x7 x8 x9 0)) none) (wa x0 x1 x6 x7 x8 x9 0)) none) (wa x0 x1 x6 x7 x8 x9 0)) (cB x0 x1 x6 x7 (W .i64 (x8+1)))
def dk.l7(N:Nat)(cB:dk.bT):Nat→dk.fk
 |0,_,_,_,_,_,_=>none
 |n+1,x0,x1,x6,x7,x8,x9=>dk.rL N (dk.KR N cB (dk.l7 N cB n)) cB (dk.l7 N cB n) x0 x1 x6 x7 x8 x9
def dk.ew(N:Nat)(vN:dk.fk)(cB:dk.bT)(x0:aC)(x1:bJ)(x6:aC)(x7 x8:Int):Option (aC×(Bool)):=
 cond (cY x8 7) (vN x0 x1 x6 x7 x8 0) (some (x6,true))
def dk.l4(N:Nat):Nat→dk.bT
 |0,_,_,_,_,_=>none
 |n+1,x0,x1,x6,x7,x8=>dk.ew N (dk.l7 N (dk.l4 N n) N) (dk.l4 N n) x0 x1 x6 x7 x8
def dk.b(N:Nat)(fN:dk.bT)(a0:aC)(a1:bJ):Option (aC×(Bool)):=
 fN a0 a1 ([]) 0 1
def dk(a0:aC)(a1:bJ):Option (aC×(Bool)):=dk.b N (dk.l4 N N) a0 a1
def Bu(a0:aq)(a1:aC)(a2:bJ):Option (aq×(Int)):=
 (cw N a0.2.2.2.1 a1).bind λr1=>cond (!r1.2) (some ((bM,(dh,(cf,(cf,(dW,(eu,())))))),2)) ((dk N a0.2.2.1 a2).bind λr2=>cond (!r2.2) (some ((bM,(dh,(cf,(cf,(dW,(eu,())))))),2)) (some ((a0.1,(a0.2.1,(r2.1,(r1.1,a0.2.2.2.2)))),0)))
def OI(a0:aV)(a1 a2:Int)(a3 a4 a5:Int):Option (aV×eP):=
 (kF N a5).bind λr1=>(Cu N a1 a2 a3 a4 r1).bind λr2=>(Bu N a0.2.2.1 cf r2).bind λr3=>some ((a0.1,(a0.2.1,(r3.1,a0.2.2.2))),(r3.2,ct))
def QE(N:Nat)(a0 a1:Int):Option Bool:=
 cond (aM a0 1) (some (aM a1 0)) (cond (aM a0 2) (some (aM a1 0)) (cond (aM a0 3) (some (aM a1 0)) (cond (aM a0 4) (some (aM a1 0)) (cond (aM a0 5) (cond (cY 1 a1) (some (cY a1 24)) (some false)) (cond (aM a0 6) (cond (cY 1 a1) (some (cY a1 12)) (some false)) (cond (aM a0 7) (cond (cY 1 a1) (some (cY a1 12)) (some false)) (some false)))))))
abbrev B9.c3:=aC→Int→Option Bool
def B9.gm(eJ:B9.c3)(x0:aC)(x3:Int):Option Bool:=
 cond (aT x3 (ℓ x0)) (cond (a7 x3 (ℓ x0)) (cond (a7 x3 (ℓ x0)) ((QE N (γ x0 x3.toNat bW).1 (γ x0 x3.toNat bW).2.1).bind λr2=>cond (!r2) (some false) (cond (a7 x3 (ℓ x0)) (cond (aM (γ x0 x3.toNat bW).2.2.1 0) (some false) (cond (aT 0 x3) (cond (a7 x3 (ℓ x0)) (let v3:Int:=W .i64 (x3-1);cond (a7 v3 (ℓ x0)) (cond (aT (γ x0 x3.toNat bW).1 (γ x0 v3.toNat bW).1) (some false) (cond (a7 x3 (ℓ x0)) (let v4:Int:=W .i64 (x3-1);cond (a7 v4 (ℓ x0)) (cond (aM (γ x0 x3.toNat bW).1 (γ x0 v4.toNat bW).1) (cond (a7 x3 (ℓ x0)) (let v5:Int:=W .i64 (x3-1);cond (a7 v5 (ℓ x0)) (cond (cY (γ x0 x3.toNat bW).2.1 (γ x0 v5.toNat bW).2.1) (some false) (eJ x0 (W .i64 (x3+1)))) none) none) (eJ x0 (W .i64 (x3+1)))) none) none)) none) none) (eJ x0 (W .i64 (x3+1))))) none)) none) none) (some true)
def B9.l2(N:Nat):Nat→B9.c3
 |0,_,_=>none
 |n+1,x0,x3=>B9.gm N (B9.l2 N n) x0 x3
def B9.b(N:Nat)(jd:B9.c3)(a0:aC):Option Bool:=
 jd a0 0
def B9(a0:aC):Option Bool:=B9.b N (B9.l2 N N) a0
abbrev zB.c3:=aC→Int→Option Bool
def zB.gm(N:Nat)(eJ:zB.c3)(x0:aC)(x3:Int):Option Bool:=
 cond (aT x3 (ℓ x0)) (cond (a7 x3 (ℓ x0)) (cond (aT (γ x0 x3.toNat bW).1 0) (some false) (cond (aT 24 (γ x0 x3.toNat bW).1) (some false) (cond (aT (γ x0 x3.toNat bW).2.1 0) (some false) (cond (cY 6 (γ x0 x3.toNat bW).2.1) (some false) (cond (aM (γ x0 x3.toNat bW).2.2.1 0) (some false) (cond (aM (γ x0 x3.toNat bW).2.2.1 (-9223372036854775808)) (some false) (cond (aT 0 x3) (let v2:Int:=W .i64 (x3-1);cond (a7 v2 (ℓ x0)) (cond (aT (γ x0 x3.toNat bW).1 (γ x0 v2.toNat bW).1) (some false) (let v3:Int:=W .i64 (x3-1);cond (a7 v3 (ℓ x0)) (cond (aM (γ x0 x3.toNat bW).1 (γ x0 v3.toNat bW).1) (let v4:Int:=W .i64 (x3-1);cond (a7 v4 (ℓ x0)) (cond (cY (γ x0 x3.toNat bW).2.1 (γ x0 v4.toNat bW).2.1) (some false) (eJ x0 (W .i64 (x3+1)))) none) (eJ x0 (W .i64 (x3+1)))) none)) none) (eJ x0 (W .i64 (x3+1)))))))))) none) (some true)
def zB.l2(N:Nat):Nat→zB.c3
 |0,_,_=>none
 |n+1,x0,x3=>zB.gm N (zB.l2 N n) x0 x3
def zB.b(N:Nat)(jd:zB.c3)(a0:aC):Option Bool:=
 jd a0 0
def zB(a0:aC):Option Bool:=zB.b N (zB.l2 N N) a0
abbrev pv.cc:=aC→Int→aH→aH→Int→Option aH
def pv.e8(bX:pv.cc)(x0:aC)(x1:Int)(x4 x5:aH)(x6:Int):Option aH:=
 cond (aT x6 (ℓ x0)) (cond (a7 x6 (ℓ x0)) (cond (aM (γ x0 x6.toNat bW).2.1 x1) (cond (a7 x6 (ℓ x0)) ((kF N (γ x0 x6.toNat bW).2.2.1).bind λr3=>(AZ N x5 r3).bind λr4=>bX x0 x1 x4 r4 (W .i64 (x6+1))) none) (bX x0 x1 x4 x5 (W .i64 (x6+1)))) none) (some x5)
def pv.l5(N:Nat):Nat→pv.cc
 |0,_,_,_,_,_=>none
 |n+1,x0,x1,x4,x5,x6=>pv.e8 N (pv.l5 N n) x0 x1 x4 x5 x6
def pv.b(ga:pv.cc)(a0:aC)(a1:Int):Option aH:=
 (zB N a0).bind λr1=>cond (!r1) (some (false,pQ)) (ga a0 a1 (false,pQ) (false,pQ) 0)
def pv(a0:aC)(a1:Int):Option aH:=pv.b N (pv.l5 N N) a0 a1
def Sj(N:Nat)(a0:aH):Option Int:=
 cond (aM (ℓ a0.2.1) 0) (some 0) (cond (a0.1) (some (-1)) (some 1))
abbrev Eh.c3:=aC→Int→Option Bool
def Eh.gm(eJ:Eh.c3)(x0:aC)(x3:Int):Option Bool:=
 cond (aT x3 6) ((pv N x0 x3).bind λr2=>(Sj N r2).bind λr3=>cond (!aM r3 0) (some false) (eJ x0 (W .i64 (x3+1)))) ((zB N x0).bind λr5=>some r5)
def Eh.l2(N:Nat):Nat→Eh.c3
 |0,_,_=>none
 |n+1,x0,x3=>Eh.gm N (Eh.l2 N n) x0 x3
def Eh.b(N:Nat)(jd:Eh.c3)(a0:aC):Option Bool:=
 jd a0 0
def Eh(a0:aC):Option Bool:=Eh.b N (Eh.l2 N N) a0
def Vu(N:Nat)(a0:Int):Option Bool:=
 cond (cY 1 a0) (some (cY a0 1000000000000)) (some false)
def QH(a0:gu):Option Bool:=
 cond (cY 1 a0.1) (cond (cY a0.1 1099511627776) (cond (cY 1 a0.2.1) (cond (cY a0.2.1 24) (cond (cY 0 a0.2.2.1) (cond (aT a0.2.2.1 6) (cond (aM a0.2.2.2.1 1) (cond (cY 1 a0.2.2.2.2.1) (cond (cY a0.2.2.2.2.1 1000000000) ((Vu N a0.2.2.2.2.2.1).bind λr1=>some r1) (some false)) (some false)) (cond (aM a0.2.2.2.1 2) (cond (cY 1 a0.2.2.2.2.1) (cond (cY a0.2.2.2.2.1 1000000000) ((Vu N a0.2.2.2.2.2.1).bind λr2=>some r2) (some false)) (some false)) (some false))) (some false)) (some false)) (some false)) (some false)) (some false)) (some false)
abbrev zC.bT:=bC→Int→Option Bool
def zC.ew(cB:zC.bT)(x0:bC)(x3:Int):Option Bool:=
 cond (aT x3 (ℓ x0)) (cond (a7 x3 (ℓ x0)) ((QH N (γ x0 x3.toNat fu)).bind λr2=>cond (!r2) (some false) (cond (aT 0 x3) (cond (a7 x3 (ℓ x0)) (let v3:Int:=W .i64 (x3-1);cond (a7 v3 (ℓ x0)) (cond (cY (γ x0 x3.toNat fu).1 (γ x0 v3.toNat fu).1) (some false) (cB x0 (W .i64 (x3+1)))) none) none) (cB x0 (W .i64 (x3+1))))) none) (some true)
def zC.l4(N:Nat):Nat→zC.bT
 |0,_,_=>none
 |n+1,x0,x3=>zC.ew N (zC.l4 N n) x0 x3
def zC.b(N:Nat)(fN:zC.bT)(a0:bC):Option Bool:=
 cond (aT 32 (ℓ a0)) (some false) (fN a0 0)
def zC(a0:bC):Option Bool:=zC.b N (zC.l4 N N) a0
abbrev Du.cc:=aC→aH→aH→Int→Option aH
def Du.e8(bX:Du.cc)(x0:aC)(x2 x3:aH)(x4:Int):Option aH:=
 cond (aT x4 (ℓ x0)) (cond (a7 x4 (ℓ x0)) ((kF N (γ x0 x4.toNat bW).2.2.1).bind λr3=>(AZ N x3 r3).bind λr4=>bX x0 x2 r4 (W .i64 (x4+1))) none) (some x3)
def Du.l5(N:Nat):Nat→Du.cc
 |0,_,_,_,_=>none
 |n+1,x0,x2,x3,x4=>Du.e8 N (Du.l5 N n) x0 x2 x3 x4
def Du.b(ga:Du.cc)(a0:aC):Option aH:=
 (B9 N a0).bind λr1=>cond (!r1) (some (false,pQ)) (ga a0 (false,pQ) (false,pQ) 0)
def Du(a0:aC):Option aH:=Du.b N (Du.l5 N N) a0
def F78(a0:aq)(a1:Int):Option Bool:=
 (Ee N a0.2.1 a1).bind λr1=>cond (r1.2) (some true) (some (aM a1 0))
def Sn(a0:aB)(a1:Int):Option Int:=
 (nY N a0).bind λr1=>cond (!r1) (some 0) ((m0 N a0 a1).bind λr2=>some r2)
abbrev fY.sv:=ae→aq→Int→Option Bool
abbrev fY.HL:=ae→aq→Int→Option Bool
abbrev fY.jF:=ae→aq→Int→Option Bool
abbrev fY.jL:=ae→aq→Int→Option Bool
def fY.wm(HH:fY.sv)(x2:ae)(x3:aq)(x9:Int):Option Bool:=
 cond (aT x9 (ℓ x3.2.2.2.2.2.1)) (cond (a7 x9 (ℓ x3.2.2.2.2.2.1)) ((F78 N x3 (γ x3.2.2.2.2.2.1 x9.toNat fu).2.1).bind λVh=>cond (!Vh) (some false) (cond (a7 x9 (ℓ x3.2.2.2.2.2.1)) (cond (cY (ℓ x2.1) (γ x3.2.2.2.2.2.1 x9.toNat fu).2.2.1) (some false) (HH x2 x3 (W .i64 (x9+1)))) none)) none) (some true)
def fY.xq(N:Nat):Nat→fY.sv
 |0,_,_,_=>none
 |n+1,x2,x3,x9=>fY.wm N (fY.xq N n) x2 x3 x9
def fY.Ny(HI:fY.sv)(Ta:fY.HL)(x2:ae)(x3:aq)(x8:Int):Option Bool:=
 cond (aT x8 (ℓ x3.2.2.2.2.1)) (cond (a7 x8 (ℓ x3.2.2.2.2.1)) ((Vu N (γ x3.2.2.2.2.1 x8.toNat 0)).bind λL8=>cond (!L8) (some false) (Ta x2 x3 (W .i64 (x8+1)))) none) (HI x2 x3 0)
def fY.Nx(N:Nat):Nat→fY.HL
 |0,_,_,_=>none
 |n+1,x2,x3,x8=>fY.Ny N (fY.xq N N) (fY.Nx N n) x2 x3 x8
def fY.pZ(YG:fY.HL)(lX:fY.jF)(x2:ae)(x3:aq)(x7:Int):Option Bool:=
 cond (aT x7 (ℓ x3.2.2.2.1)) (cond (a7 x7 (ℓ x3.2.2.2.1)) ((F78 N x3 (γ x3.2.2.2.1 x7.toNat bW).1).bind λS7=>cond (!S7) (some false) (cond (a7 x7 (ℓ x3.2.2.2.1)) (cond (cY (ℓ x2.1) (γ x3.2.2.2.1 x7.toNat bW).2.1) (some false) (lX x2 x3 (W .i64 (x7+1)))) none)) none) (YG x2 x3 0)
def fY.qA(N:Nat):Nat→fY.jF
 |0,_,_,_=>none
 |n+1,x2,x3,x7=>fY.pZ N (fY.Nx N N) (fY.qA N n) x2 x3 x7
def fY.vX(xH:fY.jF)(ll:fY.jL)(x2:ae)(x3:aq)(x5:Int):Option Bool:=
 cond (aT x5 (ℓ x3.2.2.1)) (cond (a7 x5 (ℓ x3.2.2.1)) (cond (aM (γ x3.2.2.1 x5.toNat bW).1 5) ((F78 N x3 (γ x3.2.2.1 x5.toNat bW).2.1).bind λr9=>cond (!r9) (some false) (cond (aM (γ x3.2.2.1 x5.toNat bW).1 6) ((Sn N x3.1 (γ x3.2.2.1 x5.toNat bW).2.1).bind λnV=>cond (aM nV 0) (some false) (ll x2 x3 (W .i64 (x5+1)))) (cond (aM (γ x3.2.2.1 x5.toNat bW).1 7) ((Sn N x3.1 (γ x3.2.2.1 x5.toNat bW).2.1).bind λqd=>cond (aM qd 0) (some false) (ll x2 x3 (W .i64 (x5+1)))) (ll x2 x3 (W .i64 (x5+1)))))) (cond (aM (γ x3.2.2.1 x5.toNat bW).1 6) ((Sn N x3.1 (γ x3.2.2.1 x5.toNat bW).2.1).bind λzG=>cond (aM zG 0) (some false) (ll x2 x3 (W .i64 (x5+1)))) (cond (aM (γ x3.2.2.1 x5.toNat bW).1 7) ((Sn N x3.1 (γ x3.2.2.1 x5.toNat bW).2.1).bind λBC=>cond (aM BC 0) (some false) (ll x2 x3 (W .i64 (x5+1)))) (ll x2 x3 (W .i64 (x5+1)))))) none) (xH x2 x3 0)
def fY.l6(N:Nat):Nat→fY.jL
 |0,_,_,_=>none
 |n+1,x2,x3,x5=>fY.vX N (fY.qA N N) (fY.l6 N n) x2 x3 x5
def fY.b(xF:fY.jL)(a0:ae)(a1:aq):Option Bool:=
 (zm N a0).bind λr1=>cond (!r1) (some false) ((Cd N a1.1 a1.2.1).bind λr2=>cond (!r2) (some false) ((B9 N a1.2.2.1).bind λr3=>cond (!r3) (some false) ((Eh N a1.2.2.2.1).bind λr4=>cond (!r4) (some false) ((zC N a1.2.2.2.2.2.1).bind λr5=>cond (!r5) (some false) (cond (!aM (ℓ a1.2.2.2.2.1) (ℓ a0.1)) (some false) ((Du N a1.2.2.1).bind λr6=>(Sj N r6).bind λr7=>cond (!aM r7 0) (some false) (xF a0 a1 0)))))))
def fY(a0:ae)(a1:aq):Option Bool:=fY.b N (fY.l6 N N) a0 a1
abbrev ka.bT:=aC→Int→Int→Int→Option Int
def ka.ew(N:Nat)(cB:ka.bT)(x0:aC)(x1 x2 x7:Int):Option Int:=
 cond (aT x7 (ℓ x0)) (cond (a7 x7 (ℓ x0)) (cond (aM (γ x0 x7.toNat bW).1 x1) (cond (a7 x7 (ℓ x0)) (cond (aM (γ x0 x7.toNat bW).2.1 x2) (cond (a7 x7 (ℓ x0)) (some (γ x0 x7.toNat bW).2.2.1) none) (cB x0 x1 x2 (W .i64 (x7+1)))) none) (cB x0 x1 x2 (W .i64 (x7+1)))) none) (some 0)
def ka.l4(N:Nat):Nat→ka.bT
 |0,_,_,_,_=>none
 |n+1,x0,x1,x2,x7=>ka.ew N (ka.l4 N n) x0 x1 x2 x7
def ka.b(fN:ka.bT)(a0:aC)(a1 a2:Int):Option Int:=
 (B9 N a0).bind λr1=>cond (!r1) (some 0) (fN a0 a1 a2 0)
def ka(a0:aC)(a1 a2:Int):Option Int:=ka.b N (ka.l4 N N) a0 a1 a2
def Si(a0 a1:aH):Option aH:=
 (Vt N a1).bind λr1=>(AZ N a0 r1).bind λr2=>some r2
abbrev yW.cc:=aC→Int→aB→Int→Option aB
def yW.e8(N:Nat)(bX:yW.cc)(x0:aC)(x1:Int)(x5:aB)(x6:Int):Option aB:=
 cond (aT x6 (ℓ x0)) (cond (a7 x6 (ℓ x0)) (cond (aM (γ x0 x6.toNat bW).1 x1) (cond (a7 x6 (ℓ x0)) (cond (a7 x6 (ℓ x0)) (cond (small (ℓ x5+ℓ ([((γ x0 x6.toNat bW).2.1,((γ x0 x6.toNat bW).2.2.1,()))]))) (bX x0 x1 (x5++([((γ x0 x6.toNat bW).2.1,((γ x0 x6.toNat bW).2.2.1,()))])) (W .i64 (x6+1))) none) none) none) (bX x0 x1 x5 (W .i64 (x6+1)))) none) (some x5)
def yW.l5(N:Nat):Nat→yW.cc
 |0,_,_,_,_=>none
 |n+1,x0,x1,x5,x6=>yW.e8 N (yW.l5 N n) x0 x1 x5 x6
def yW.b(ga:yW.cc)(a0:aC)(a1:Int):Option aB:=
 (zB N a0).bind λr1=>cond (!r1) (some ([])) (ga a0 a1 ([]) 0)
def yW(a0:aC)(a1:Int):Option aB:=yW.b N (yW.l5 N N) a0 a1
abbrev g9.fk:=bC→Int→aC→Int→eP→Int→Option aC
abbrev g9.dd:=bC→Int→aC→Int→Option aC
def g9.rL(N:Nat)(cX:g9.dd)(eQ:g9.fk)(x0:bC)(x1:Int)(x5:aC)(x6:Int)(x7:eP)(x8:Int):Option aC:=
 cond (aT x8 (ℓ x0)) (cond (a7 x8 (ℓ x0)) (cond (!aM (γ x0 x8.toNat fu).2.1 x1) (eQ x0 x1 x5 x6 x7 (W .i64 (x8+1))) (cond (a7 x8 (ℓ x0)) (cond (!aM (γ x0 x8.toNat fu).2.2.1 x6) (eQ x0 x1 x5 x6 x7 (W .i64 (x8+1))) (cond (a7 x8 (ℓ x0)) (cond (aM (γ x0 x8.toNat fu).2.2.2.1 1) (cond (a7 x8 (ℓ x0)) (eQ x0 x1 x5 x6 (x7.1,((W .i64 (x7.2.1+((γ x0 x8.toNat fu).2.2.2.2.1))),x7.2.2)) (W .i64 (x8+1))) none) (cond (a7 x8 (ℓ x0)) (eQ x0 x1 x5 x6 (x7.1,(x7.2.1,((W .i64 (x7.2.2.1+((γ x0 x8.toNat fu).2.2.2.2.1))),x7.2.2.2))) (W .i64 (x8+1))) none)) none)) none)) none) (cond (aT 0 x7.2.1) (cond (small (ℓ x5+ℓ ([x7]))) (cX x0 x1 (x5++([x7])) (W .i64 (x6+1))) none) (cond (aT 0 x7.2.2.1) (cond (small (ℓ x5+ℓ ([x7]))) (cX x0 x1 (x5++([x7])) (W .i64 (x6+1))) none) (cX x0 x1 x5 (W .i64 (x6+1)))))
def g9.l7(N:Nat)(cX:g9.dd):Nat→g9.fk
 |0,_,_,_,_,_,_=>none
 |n+1,x0,x1,x5,x6,x7,x8=>g9.rL N cX (g9.l7 N cX n) x0 x1 x5 x6 x7 x8
def g9.lD(N:Nat)(vN:g9.fk)(cX:g9.dd)(x0:bC)(x1:Int)(x5:aC)(x6:Int):Option aC:=
 cond (aT x6 6) (vN x0 x1 x5 x6 (x6,ct) 0) (some x5)
def g9.l3(N:Nat):Nat→g9.dd
 |0,_,_,_,_=>none
 |n+1,x0,x1,x5,x6=>g9.lD N (g9.l7 N (g9.l3 N n) N) (g9.l3 N n) x0 x1 x5 x6
def g9.b(N:Nat)(mL:g9.dd)(a0:bC)(a1:Int):Option aC:=
 mL a0 a1 ([]) 0
def g9(a0:bC)(a1:Int):Option aC:=g9.b N (g9.l3 N N) a0 a1
abbrev Ba.bT:=aB→ae→Int→Option Bool
def Ba.ew(N:Nat)(cB:Ba.bT)(x1:aB)(x2:ae)(x5:Int):Option Bool:=
 cond (aT x5 (ℓ x1)) (cond (a7 x5 (ℓ x1)) (cond (aT (γ x1 x5.toNat ct).1 0) (some false) (cond (a7 x5 (ℓ x1)) (cond (cY (ℓ x2.1) (γ x1 x5.toNat ct).1) (some false) (cond (a7 x5 (ℓ x1)) (cond (aM (γ x1 x5.toNat ct).2.1 0) (some false) (cond (a7 x5 (ℓ x1)) (cond (aM (γ x1 x5.toNat ct).2.1 (-9223372036854775808)) (some false) (cond (aT 0 x5) (cond (a7 x5 (ℓ x1)) (let v3:Int:=W .i64 (x5-1);cond (a7 v3 (ℓ x1)) (cond (cY (γ x1 x5.toNat ct).1 (γ x1 v3.toNat ct).1) (some false) (cB x1 x2 (W .i64 (x5+1)))) none) none) (cB x1 x2 (W .i64 (x5+1))))) none)) none)) none)) none) (some true)
def Ba.l4(N:Nat):Nat→Ba.bT
 |0,_,_,_=>none
 |n+1,x1,x2,x5=>Ba.ew N (Ba.l4 N n) x1 x2 x5
def Ba.b(fN:Ba.bT)(a0:ae)(a1:aB):Option Bool:=
 (zm N a0).bind λr1=>cond (!r1) (some false) (fN a1 a0 0)
def Ba(a0:ae)(a1:aB):Option Bool:=Ba.b N (Ba.l4 N N) a0 a1
abbrev qC.cc:=aC→ae→Int→Int→Option Bool
def qC.e8(N:Nat)(bX:qC.cc)(x1:aC)(x2:ae)(x5 x6:Int):Option Bool:=
 cond (aT x6 (ℓ x1)) (cond (a7 x6 (ℓ x1)) (cond (aT (γ x1 x6.toNat bW).1 0) (some false) (cond (cY (ℓ x2.1) (γ x1 x6.toNat bW).1) (some false) (cond (aT (γ x1 x6.toNat bW).2.1 0) (some false) (cond (aT x5 (γ x1 x6.toNat bW).2.1) (some false) (cond (aT (γ x1 x6.toNat bW).2.2.1 0) (some false) (cond (aT x5 (γ x1 x6.toNat bW).2.2.1) (some false) (cond (aM (γ x1 x6.toNat bW).2.1 0) (cond (aM (γ x1 x6.toNat bW).2.2.1 0) (some false) (cond (aT 0 x6) (let v3:Int:=W .i64 (x6-1);cond (a7 v3 (ℓ x1)) (cond (cY (γ x1 x6.toNat bW).1 (γ x1 v3.toNat bW).1) (some false) (bX x1 x2 x5 (W .i64 (x6+1)))) none) (bX x1 x2 x5 (W .i64 (x6+1))))) (cond (aT 0 x6) (let v6:Int:=W .i64 (x6-1);cond (a7 v6 (ℓ x1)) (cond (cY (γ x1 x6.toNat bW).1 (γ x1 v6.toNat bW).1) (some false) (bX x1 x2 x5 (W .i64 (x6+1)))) none) (bX x1 x2 x5 (W .i64 (x6+1))))))))))) none) (some true)
def qC.l5(N:Nat):Nat→qC.cc
 |0,_,_,_,_=>none
 |n+1,x1,x2,x5,x6=>qC.e8 N (qC.l5 N n) x1 x2 x5 x6
def qC.b(ga:qC.cc)(a0:ae)(a1:aC):Option Bool:=
 (zm N a0).bind λr1=>cond (!r1) (some false) (ga a1 a0 33000000000 0)
def qC(a0:ae)(a1:aC):Option Bool:=qC.b N (qC.l5 N N) a0 a1
def WX(a0:aH):Option aH:=
 (WW N false a0.2.1).bind λr1=>some r1
def Qd(a0 a1:aH):Option Int:=
 (Si N a0 a1).bind λr1=>(Sj N r1).bind λr2=>some r2
abbrev jt.jF:=aC→Int→aH→aH→aH→aH→Int→Option (aH×(Int))
abbrev jt.fk:=aB→aC→Int→aH→aH→aH→aH→Int→Option (aH×(Int))
def jt.pZ(lX:jt.jF)(x2:aC)(x3:Int)(x8 bn:aH)(a8 bp:aH)(cy:Int):Option (aH×(Int)):=
 cond (aT cy (ℓ x2)) (cond (a7 cy (ℓ x2)) (cond (aM (γ x2 cy.toNat bW).1 x3) (cond (a7 cy (ℓ x2)) ((kF N (γ x2 cy.toNat bW).2.1).bind λr8=>cond (a7 cy (ℓ x2)) ((kF N (γ x2 cy.toNat bW).2.2.1).bind λr9=>lX x2 x3 x8 bn r8 r9 (W .i64 (cy+1))) none) none) (lX x2 x3 x8 bn a8 bp (W .i64 (cy+1)))) none) ((AZ N bn a8).bind λqd=>(WX N qd).bind λtG=>(Si N bn bp).bind λwq=>(WX N wq).bind λzG=>(Qd N zG tG).bind λEu=>cond (aT 0 Eu) (some (zG,0)) (some (tG,0)))
def jt.qA(N:Nat):Nat→jt.jF
 |0,_,_,_,_,_,_,_=>none
 |n+1,x2,x3,x8,bn,a8,bp,cy=>jt.pZ N (jt.qA N n) x2 x3 x8 bn a8 bp cy
def jt.rL(xH:jt.jF)(eQ:jt.fk)(x1:aB)(x2:aC)(x3:Int)(x8 bn:aH)(a8 bp:aH)(cq:Int):Option (aH×(Int)):=
 cond (aT cq (ℓ x1)) (cond (a7 cq (ℓ x1)) (cond (aM (γ x1 cq.toNat ct).1 x3) (cond (a7 cq (ℓ x1)) ((kF N (γ x1 cq.toNat ct).2.1).bind λr4=>eQ x1 x2 x3 x8 r4 a8 bp (W .i64 (cq+1))) none) (eQ x1 x2 x3 x8 bn a8 bp (W .i64 (cq+1)))) none) (xH x2 x3 x8 bn a8 bp 0)
def jt.l7(N:Nat):Nat→jt.fk
 |0,_,_,_,_,_,_,_,_=>none
 |n+1,x1,x2,x3,x8,bn,a8,bp,cq=>jt.rL N (jt.qA N N) (jt.l7 N n) x1 x2 x3 x8 bn a8 bp cq
def jt.b(vN:jt.fk)(a0:ae)(a1:aB)(a2:aC)(a3:Int):Option (aH×(Int)):=
 (Ba N a0 a1).bind λr1=>cond (!r1) (some ((false,pQ),1)) ((qC N a0 a2).bind λr2=>cond (!r2) (some ((false,pQ),1)) (cond (aT a3 0) (some ((false,pQ),3)) (cond (cY (ℓ a0.1) a3) (some ((false,pQ),3)) (vN a1 a2 a3 (false,pQ) (false,pQ) (false,pQ) (false,pQ) 0))))
def jt(a0:ae)(a1:aB)(a2:aC)(a3:Int):Option (aH×(Int)):=jt.b N (jt.l7 N N) a0 a1 a2 a3
abbrev jZ.Ry:=aH→aH→aH→(List Int)→Int→Int→Int→Option aH
abbrev jZ.fk:=aH→aH→aH→(List Int)→Int→Int→Int→Option aH
abbrev jZ.dd:=aH→aH→aH→(List Int)→Int→Option aH
def jZ.NL(cX:jZ.dd)(eQ:jZ.fk)(x2 x3 x4:aH)(x5:List Int)(x6 x7 x8:Int):Option aH:=
 let v7:Int:=W .i64 (x6+x8);cond (a7 v7 (ℓ x5)) (cond (a7 x6 (ℓ x2.2.1)) ((F56 N x3.2.1 x8).bind λr8=>let v11:Int:=W .u64 (x7+(W .u64 ((γ x5 v7.toNat 0)+(W .u64 ((γ x2.2.1 x6.toNat 0)*r8)))));let v12:Int:=W .i64 (x6+x8);cond (a7 v12 (ℓ x5)) (cond (aT 32 0) none (eQ x2 x3 x4 (List.set x5 v12.toNat (mX .and .u64 v11 4294967295)) x6 (shr .u64 v11 32) (W .i64 (x8+1)))) none) none) none
def jZ.j9(cX:jZ.dd)(eQ:jZ.fk)(x2 x3 x4:aH)(x5:List Int)(x6 x7 x8:Int):Option aH:=jZ.NL N cX eQ x2 x3 x4 x5 x6 x7 x8
def jZ.rL(N:Nat)(HN:jZ.Ry)(cX:jZ.dd)(eQ:jZ.fk)(x2 x3 x4:aH)(x5:List Int)(x6 x7 x8:Int):Option aH:=
 cond (aT x8 (ℓ x3.2.1)) (HN x2 x3 x4 x5 x6 x7 x8) (cond (aT 0 x7) (HN x2 x3 x4 x5 x6 x7 x8) (cX x2 x3 x4 x5 (W .i64 (x6+1))))
def jZ.l7(N:Nat)(cX:jZ.dd):Nat→jZ.fk
 |0,_,_,_,_,_,_,_=>none
 |n+1,x2,x3,x4,x5,x6,x7,x8=>jZ.rL N (jZ.j9 N cX (jZ.l7 N cX n)) cX (jZ.l7 N cX n) x2 x3 x4 x5 x6 x7 x8
def jZ.lD(vN:jZ.fk)(cX:jZ.dd)(x2 x3 x4:aH)(x5:List Int)(x6:Int):Option aH:=
 cond (aT x6 (ℓ x2.2.1)) (vN x2 x3 x4 x5 x6 0 0) ((WW N (!(ti .bool x2.1 x3.1)) x5).bind λDR=>some DR)
def jZ.l3(N:Nat):Nat→jZ.dd
 |0,_,_,_,_,_=>none
 |n+1,x2,x3,x4,x5,x6=>jZ.lD N (jZ.l7 N (jZ.l3 N n) N) (jZ.l3 N n) x2 x3 x4 x5 x6
def jZ.b(N:Nat)(mL:jZ.dd)(a0 a1:aH):Option aH:=
 let v2:Int:=W .i64 ((W .i64 ((ℓ a0.2.1:Int)+(ℓ a1.2.1:Int)))+1);cond (iP v2 v2) (mL a0 a1 (false,pQ) (List.replicate v2.toNat 0) 0) none
def jZ(a0 a1:aH):Option aH:=jZ.b N (jZ.l3 N N) a0 a1
abbrev qD.cc:=aB→aC→ae→aH→aH→Int→Option (aH×(Int))
def qD.e8(bX:qD.cc)(x1:aB)(x2:aC)(x3:ae)(x6 x8:aH)(x9:Int):Option (aH×(Int)):=
 cond (aT x9 (ℓ x3.1)) ((jt N x3 x1 x2 x9).bind λr4=>cond (a7 x9 (ℓ x3.1)) ((kF N (γ x3.1 x9.toNat aQ).2.2.1).bind λr5=>(jZ N r4.1 r5).bind λr6=>(AZ N x8 r6).bind λr7=>bX x1 x2 x3 x6 r7 (W .i64 (x9+1))) none) (some (x8,0))
def qD.l5(N:Nat):Nat→qD.cc
 |0,_,_,_,_,_,_=>none
 |n+1,x1,x2,x3,x6,x8,x9=>qD.e8 N (qD.l5 N n) x1 x2 x3 x6 x8 x9
def qD.b(ga:qD.cc)(a0:ae)(a1:aB)(a2:aC):Option (aH×(Int)):=
 (Ba N a0 a1).bind λr1=>cond (!r1) (some ((false,pQ),1)) ((qC N a0 a2).bind λr2=>cond (!r2) (some ((false,pQ),1)) (ga a1 a2 a0 (false,pQ) (false,pQ) 0))
def qD(a0:ae)(a1:aB)(a2:aC):Option (aH×(Int)):=qD.b N (qD.l5 N N) a0 a1 a2
def XE(a0:ae)(a1:aq)(a2:Int)(a3:bC):Option aH:=
 cond (small (ℓ eu+ℓ a1.2.2.2.2.2.1)) (let v1:List ((Int)×((Int)×((Int)×((Int)×((Int)×((Int)×(Unit))))))):=eu++a1.2.2.2.2.2.1;cond (small (ℓ v1+ℓ a3)) ((yW N a1.2.2.2.1 a2).bind λr3=>(g9 N (v1++a3) a2).bind λr4=>(qD N a0 r3 r4).bind λr5=>some r5.1) none) none
def UG(a0:ae)(a1:aq)(a2 a3:Int):Option (aq×(Int)):=
 (fY N a0 a1).bind λr1=>cond (!r1) (some ((bM,(dh,(cf,(cf,(dW,(eu,())))))),1)) (cond (aT a3 1) (some ((bM,(dh,(cf,(cf,(dW,(eu,())))))),1)) ((Ee N a1.2.1 a2).bind λr2=>cond (!r2.2) (some ((bM,(dh,(cf,(cf,(dW,(eu,())))))),3)) ((Sn N a1.1 r2.1.2.1).bind λr3=>cond (!aM r3 1) (some ((bM,(dh,(cf,(cf,(dW,(eu,())))))),7)) ((ka N a1.2.2.1 5 a2).bind λr4=>(kF N r4).bind λr5=>(kF N a3).bind λr6=>(Si N r5 r6).bind λr7=>(XE N a0 a1 a2 eu).bind λr8=>(Qd N r7 r8).bind λr9=>cond (aT r9 0) (some ((bM,(dh,(cf,(cf,(dW,(eu,())))))),10)) ((kF N a3).bind λnV=>(Cu N 5 a2 1 0 nV).bind λqc=>(Bu N a1 cf qc).bind λqd=>some (qd.1,qd.2))))))
def Hi(a0:aV)(a1:Int):Option Int:=
 (Sn N a0.2.2.1.1 a1).bind λr1=>some r1
abbrev nL.fe:=Int→Int→aO→Int→Option (aO×(Int))
def nL.zo(N:Nat)(di:nL.fe)(x1 x2:Int)(bn:aO)(a8:Int):Option (aO×(Int)):=
 cond (aT a8 (ℓ bn)) (cond (a7 a8 (ℓ bn)) (cond (aM (γ bn a8.toNat aQ).1 x1) (cond (a7 a8 (ℓ bn)) (di x1 x2 (List.set bn a8.toNat ((γ bn a8.toNat aQ).1,((γ bn a8.toNat aQ).2.1,((γ bn a8.toNat aQ).2.2.1,(x2,(γ bn a8.toNat aQ).2.2.2.2))))) (W .i64 (a8+1))) none) (di x1 x2 bn (W .i64 (a8+1)))) none) (some (bn,0))
def nL.l8(N:Nat):Nat→nL.fe
 |0,_,_,_,_=>none
 |n+1,x1,x2,bn,a8=>nL.zo N (nL.l8 N n) x1 x2 bn a8
def nL.b(CG:nL.fe)(a0:aO)(a1 a2:Int):Option (aO×(Int)):=
 (eC N a0).bind λr1=>cond (!r1) (some ([],1)) (cond (aT a2 0) (some ([],1)) (cond (aT 1000000000000 a2) (some ([],1)) ((nZ N a0 a1).bind λr2=>cond (!r2.2) (some ([],3)) (cond (small (ℓ dh+ℓ a0)) (CG a1 a2 (dh++a0) 0) none))))
def nL(a0:aO)(a1 a2:Int):Option (aO×(Int)):=nL.b N (nL.l8 N N) a0 a1 a2
def aaV(a0:gu)(a1:Int):Option (aH×(Int)):=
 (QH N a0).bind λr1=>cond (!r1) (some ((false,pQ),1)) ((Vu N a1).bind λr2=>cond (!r2) (some ((false,pQ),1)) (let v3:Int:=W .i64 (a0.2.2.2.2.2.1-a1);cond (aM a0.2.2.2.1 2) (let v4:Int:=W .i64 (a1-a0.2.2.2.2.2.1);cond (aT v4 0) (some ((false,pQ),0)) ((kF N a0.2.2.2.2.1).bind λr5=>(kF N v4).bind λr6=>(jZ N r5 r6).bind λr7=>some (r7,0))) (cond (aT v3 0) (some ((false,pQ),0)) ((kF N a0.2.2.2.2.1).bind λr8=>(kF N v3).bind λr9=>(jZ N r8 r9).bind λnV=>some (nV,0)))))
def XF(a0:ae)(a1:aq)(a2:gu):Option Int:=
 (fY N a0 a1).bind λr1=>cond (!r1) (some 1) ((QH N a2).bind λr2=>cond (!r2) (some 1) ((Ee N a1.2.1 a2.2.1).bind λr3=>cond (!r3.2) (some 3) ((Sn N a1.1 r3.1.2.1).bind λr4=>cond (!aM r4 1) (some 7) (cond (cY (ℓ a0.1) a2.2.2.1) (some 3) (cond (small (ℓ eu+ℓ a1.2.2.2.2.2.1)) (let v5:List ((Int)×((Int)×((Int)×((Int)×((Int)×((Int)×(Unit))))))):=eu++a1.2.2.2.2.2.1;cond (small (ℓ v5+ℓ ([a2]))) ((yW N a1.2.2.2.1 a2.2.1).bind λr7=>(g9 N (v5++([a2])) a2.2.1).bind λr8=>(jt N a0 r7 r8 a2.2.2.1).bind λr9=>(kF N r3.1.2.2.2.1).bind λnV=>(Qd N r9.1 nV).bind λqc=>cond (aT 0 qc) (some 9) (cond (a7 a2.2.2.1 (ℓ a1.2.2.2.2.1)) ((aaV N a2 (γ a1.2.2.2.2.1 a2.2.2.1.toNat 0)).bind λqd=>(ka N a1.2.2.1 5 a2.2.1).bind λtG=>(kF N tG).bind λwq=>(Si N wq qd.1).bind λzG=>(XE N a0 a1 a2.2.1 ([a2])).bind λEu=>(Qd N zG Eu).bind λBC=>cond (aT BC 0) (some 10) (some 0)) none)) none) none)))))
def UE(N:Nat)(a0 a1:gu):Option Bool:=
 cond (!aM a0.2.2.2.2.2.1 a1.2.2.2.2.2.1) (some (ti .bool (aT a1.2.2.2.2.2.1 a0.2.2.2.2.2.1) (aM a0.2.2.2.1 1))) (some (aT a0.1 a1.1))
abbrev dF.O5:=bC→Int→Int→bC→Int→Int→Option bC
abbrev dF.oG:=bC→Int→Int→bC→Int→Int→Option bC
abbrev dF.cc:=bC→Int→Int→bC→Int→Option bC
def dF.Cs(N:Nat)(bX:dF.cc)(x0:bC)(x1 x2:Int)(x7:bC)(x8 x9:Int):Option bC:=
 cond (jA 0 x9 (ℓ x7) (ℓ x7)) (let v9:List ((Int)×((Int)×((Int)×((Int)×((Int)×((Int)×(Unit))))))):=List.drop (0:Int).toNat (List.take x9.toNat x7);cond (small (ℓ v9)) (cond (a7 x8 (ℓ x0)) (cond (small (ℓ v9+ℓ ([γ x0 x8.toNat fu]))) (let v10:List ((Int)×((Int)×((Int)×((Int)×((Int)×((Int)×(Unit))))))):=v9++([γ x0 x8.toNat fu]);cond (jA x9 (ℓ x7) (ℓ x7) (ℓ x7)) (let v11:List ((Int)×((Int)×((Int)×((Int)×((Int)×((Int)×(Unit))))))):=List.drop x9.toNat (List.take (ℓ x7:Int).toNat x7);cond (small (ℓ v10+ℓ v11)) (bX x0 x1 x2 (v10++v11) (W .i64 (x8+1))) none) none) none) none) none) none
def dF.JW(bX:dF.cc)(x0:bC)(x1 x2:Int)(x7:bC)(x8 x9:Int):Option bC:=dF.Cs N bX x0 x1 x2 x7 x8 x9
def dF.zA(DS:dF.O5)(bX:dF.cc)(uO:dF.oG)(x0:bC)(x1 x2:Int)(x7:bC)(x8 x9:Int):Option bC:=
 cond (aT x9 (ℓ x7)) (cond (a7 x9 (ℓ x7)) (cond (a7 x8 (ℓ x0)) ((UE N (γ x7 x9.toNat fu) (γ x0 x8.toNat fu)).bind λr6=>cond (r6) (uO x0 x1 x2 x7 x8 (W .i64 (x9+1))) (DS x0 x1 x2 x7 x8 x9)) none) none) (DS x0 x1 x2 x7 x8 x9)
def dF.l9(N:Nat)(bX:dF.cc):Nat→dF.oG
 |0,_,_,_,_,_,_=>none
 |n+1,x0,x1,x2,x7,x8,x9=>dF.zA N (dF.JW N bX) bX (dF.l9 N bX n) x0 x1 x2 x7 x8 x9
def dF.e8(N:Nat)(CH:dF.oG)(bX:dF.cc)(x0:bC)(x1 x2:Int)(x7:bC)(x8:Int):Option bC:=
 cond (aT x8 (ℓ x0)) (cond (a7 x8 (ℓ x0)) (cond (!aM (γ x0 x8.toNat fu).2.2.1 x1) (bX x0 x1 x2 x7 (W .i64 (x8+1))) (cond (a7 x8 (ℓ x0)) (cond (!aM (γ x0 x8.toNat fu).2.2.2.1 x2) (bX x0 x1 x2 x7 (W .i64 (x8+1))) (CH x0 x1 x2 x7 x8 0)) none)) none) (some x7)
def dF.l5(N:Nat):Nat→dF.cc
 |0,_,_,_,_,_=>none
 |n+1,x0,x1,x2,x7,x8=>dF.e8 N (dF.l9 N (dF.l5 N n) N) (dF.l5 N n) x0 x1 x2 x7 x8
def dF.b(ga:dF.cc)(a0:bC)(a1 a2:Int):Option bC:=
 (zC N a0).bind λr1=>cond (!r1) (some ([])) (ga a0 a1 a2 ([]) 0)
def dF(a0:bC)(a1 a2:Int):Option bC:=dF.b N (dF.l5 N N) a0 a1 a2
abbrev cm.nT:=bC→Int→bO→bC→Int→Option (bC×bO×(Int)×(Int))
abbrev cm.an4:=bC→Int→bO→Option (bC×bO×(Int)×(Int))
abbrev cm.xI:=gu→bC→Int→bO→bC→Int→Int→Int→Option (bC×bO×(Int)×(Int))
abbrev cm.HO:=gu→bC→Int→bO→bC→Int→Int→tB→Option (bC×bO×(Int)×(Int))
abbrev cm.YM:=gu→bC→Int→bO→bC→Int→Option (bC×bO×(Int)×(Int))
abbrev cm.fk:=gu→bC→Int→bO→bC→Int→Option (bC×bO×(Int)×(Int))
def cm.yE(N:Nat)(od:cm.nT)(x8:bC)(x9:Int)(bn:bO)(dO:bC)(dx:Int):Option (bC×bO×(Int)×(Int)):=
 cond (aT dx (ℓ x8)) (cond (a7 dx (ℓ x8)) (cond (aT 0 (γ x8 dx.toNat fu).2.2.2.2.1) (cond (a7 dx (ℓ x8)) (cond (small (ℓ dO+ℓ ([γ x8 dx.toNat fu]))) (od x8 x9 bn (dO++([γ x8 dx.toNat fu])) (W .i64 (dx+1))) none) none) (od x8 x9 bn dO (W .i64 (dx+1)))) none) (some (dO,bn,x9,0))
def cm.xX(N:Nat):Nat→cm.nT
 |0,_,_,_,_,_=>none
 |n+1,x8,x9,bn,dO,dx=>cm.yE N (cm.xX N n) x8 x9 bn dO dx
def cm.aa4(N:Nat)(HM:cm.nT)(x8:bC)(x9:Int)(bn:bO):Option (bC×bO×(Int)×(Int)):=
 HM x8 x9 bn ([]) 0
def cm.j22(x8:bC)(x9:Int)(bn:bO):Option (bC×bO×(Int)×(Int)):=cm.aa4 N (cm.xX N N) x8 x9 bn
def cm.En(N:Nat)(eQ:cm.fk)(HQ:cm.xI)(x3:gu)(x8:bC)(x9:Int)(bn:bO)(a8:bC)(bp cq cG:Int):Option (bC×bO×(Int)×(Int)):=
 cond (aT cG (ℓ x8)) (cond (a7 cG (ℓ x8)) (cond (a7 bp (ℓ a8)) (cond (aM (γ x8 cG.toNat fu).1 (γ a8 bp.toNat fu).1) (cond (a7 cG (ℓ x8)) (cond (a7 cG (ℓ x8)) (HQ x3 (List.set x8 cG.toNat ((γ x8 cG.toNat fu).1,((γ x8 cG.toNat fu).2.1,((γ x8 cG.toNat fu).2.2.1,((γ x8 cG.toNat fu).2.2.2.1,((W .i64 ((γ x8 cG.toNat fu).2.2.2.2.1-cq)),(γ x8 cG.toNat fu).2.2.2.2.2)))))) x9 bn a8 bp cq (W .i64 (cG+1))) none) none) (HQ x3 x8 x9 bn a8 bp cq (W .i64 (cG+1)))) none) none) (eQ x3 x8 x9 bn a8 (W .i64 (bp+1)))
def cm.Ig(N:Nat)(eQ:cm.fk):Nat→cm.xI
 |0,_,_,_,_,_,_,_,_=>none
 |n+1,x3,x8,x9,bn,a8,bp,cq,cG=>cm.En N eQ (cm.Ig N eQ n) x3 x8 x9 bn a8 bp cq cG
def cm.wo(N:Nat)(O7:cm.xI)(eQ:cm.fk)(x3:gu)(x8:bC)(x9:Int)(bn:bO)(a8:bC)(bp cq:Int)(cy:tB):Option (bC×bO×(Int)×(Int)):=
 cond (small (ℓ bn+ℓ ([cy]))) (O7 x3 x8 (W .i64 (x9-cq)) (bn++([cy])) a8 bp cq 0) none
def cm.Cp(eQ:cm.fk)(x3:gu)(x8:bC)(x9:Int)(bn:bO)(a8:bC)(bp cq:Int)(cy:tB):Option (bC×bO×(Int)×(Int)):=cm.wo N (cm.Ig N eQ N) eQ x3 x8 x9 bn a8 bp cq cy
def cm.Lk(N:Nat)(wb:cm.HO)(eQ:cm.fk)(x3:gu)(x8:bC)(x9:Int)(bn:bO)(a8:bC)(bp:Int):Option (bC×bO×(Int)×(Int)):=
 cond (a7 bp (ℓ a8)) (cond (aM (γ a8 bp.toNat fu).2.1 x3.2.1) (eQ x3 x8 x9 bn a8 (W .i64 (bp+1))) (cond (a7 bp (ℓ a8)) (let Zn:Int:=mn x9 (γ a8 bp.toNat fu).2.2.2.2.1;cond (a7 bp (ℓ a8)) (cond (a7 bp (ℓ a8)) (cond (aM x3.2.2.2.1 2) (cond (a7 bp (ℓ a8)) (wb x3 x8 x9 bn a8 bp Zn ((γ a8 bp.toNat fu).2.1,(x3.2.1,(x3.2.2.1,(Zn,((γ a8 bp.toNat fu).2.2.2.2.2.1,())))))) none) (wb x3 x8 x9 bn a8 bp Zn (x3.2.1,((γ a8 bp.toNat fu).2.1,(x3.2.2.1,(Zn,((γ a8 bp.toNat fu).2.2.2.2.2.1,()))))))) none) none) none)) none
def cm.Q5(eQ:cm.fk)(x3:gu)(x8:bC)(x9:Int)(bn:bO)(a8:bC)(bp:Int):Option (bC×bO×(Int)×(Int)):=cm.Lk N (cm.Cp N eQ) eQ x3 x8 x9 bn a8 bp
def cm.rL(N:Nat)(O8:cm.an4)(HS:cm.YM)(eQ:cm.fk)(x3:gu)(x8:bC)(x9:Int)(bn:bO)(a8:bC)(bp:Int):Option (bC×bO×(Int)×(Int)):=
 cond (aT bp (ℓ a8)) (cond (aT 0 x9) (cond (aM x3.2.2.2.1 1) (cond (a7 bp (ℓ a8)) (cond (aT x3.2.2.2.2.2.1 (γ a8 bp.toNat fu).2.2.2.2.2.1) (O8 x8 x9 bn) (cond (aM x3.2.2.2.1 2) (cond (a7 bp (ℓ a8)) (cond (aT (γ a8 bp.toNat fu).2.2.2.2.2.1 x3.2.2.2.2.2.1) (O8 x8 x9 bn) (HS x3 x8 x9 bn a8 bp)) none) (HS x3 x8 x9 bn a8 bp))) none) (cond (aM x3.2.2.2.1 2) (cond (a7 bp (ℓ a8)) (cond (aT (γ a8 bp.toNat fu).2.2.2.2.2.1 x3.2.2.2.2.2.1) (O8 x8 x9 bn) (HS x3 x8 x9 bn a8 bp)) none) (HS x3 x8 x9 bn a8 bp))) (O8 x8 x9 bn)) (O8 x8 x9 bn)
def cm.l7(N:Nat):Nat→cm.fk
 |0,_,_,_,_,_,_=>none
 |n+1,x3,x8,x9,bn,a8,bp=>cm.rL N (cm.j22 N) (cm.Q5 N (cm.l7 N n)) (cm.l7 N n) x3 x8 x9 bn a8 bp
def cm.b(vN:cm.fk)(a0:bC)(a1:gu):Option (bC×bO×(Int)×(Int)):=
 (zC N a0).bind λr1=>cond (!r1) (some ([],[],0,1)) ((QH N a1).bind λr2=>cond (!r2) (some ([],[],0,1)) (cond (small (ℓ eu+ℓ a0)) ((dF N a0 a1.2.2.1 (W .i64 (3-a1.2.2.2.1))).bind λr5=>vN a1 (eu++a0) a1.2.2.2.2.1 ([]) r5 0) none))
def cm(a0:bC)(a1:gu):Option (bC×bO×(Int)×(Int)):=cm.b N (cm.l7 N N) a0 a1
def Xp(a0:tB):Option Bool:=
 cond (cY 0 a0.1) (cond (cY a0.1 24) (cond (cY 0 a0.2.1) (cond (cY a0.2.1 24) (cond (!aM a0.1 a0.2.1) (cond (cY 0 a0.2.2.1) (cond (aT a0.2.2.1 6) (cond (cY 1 a0.2.2.2.1) (cond (cY a0.2.2.2.1 1000000000) ((Vu N a0.2.2.2.2.1).bind λr1=>some r1) (some false)) (some false)) (some false)) (some false)) (some false)) (some false)) (some false)) (some false)) (some false)
def K4(N:Nat)(a0:Int):Option ((Int)×(Int)):=
 cond (aM a0 0) (some (2,0)) (some (5,a0))
def QT(a0:tB)(a1:Int):Option (bJ×(Int)):=
 (Xp N a0).bind λr1=>cond (!r1) (some ([],1)) ((Vu N a1).bind λr2=>cond (!r2) (some ([],1)) ((kF N (W .i64 (a1-a0.2.2.2.2.1))).bind λr4=>(kF N a0.2.2.2.1).bind λr5=>(jZ N r4 r5).bind λr6=>(Sj N r6).bind λr7=>cond (aM r7 0) (some ([],0)) ((K4 N a0.1).bind λr8=>(K4 N a0.2.1).bind λr9=>(Vt N r6).bind λnV=>some ([(r8.1,(r8.2,(r6,()))),(r9.1,(r9.2,(nV,())))],0))))
abbrev gw.xJ:=bO→ae→aq→aq→aC→bJ→Int→Option (aq×(Int))
abbrev gw.bT:=bO→ae→aq→aq→Int→Option (aq×(Int))
def gw.zr(BE:gw.xJ)(x2:bO)(x3:ae)(x4 x6:aq)(x9:aC)(bn:bJ)(a8:Int):Option (aq×(Int)):=
 cond (aT a8 (ℓ x2)) (cond (a7 a8 (ℓ x2)) ((F78 N x4 (γ x2 a8.toNat np).1).bind λr6=>cond (!r6) (some ((bM,(dh,(cf,(cf,(dW,(eu,())))))),3)) ((F78 N x4 (γ x2 a8.toNat np).2.1).bind λr7=>cond (!r7) (some ((bM,(dh,(cf,(cf,(dW,(eu,())))))),3)) (cond (cY (ℓ x3.1) (γ x2 a8.toNat np).2.2.1) (some ((bM,(dh,(cf,(cf,(dW,(eu,())))))),3)) (let v8:Int:=W .i64 (0-((γ x2 a8.toNat np).2.2.2.1));cond (small (ℓ x9+ℓ ([((γ x2 a8.toNat np).1,((γ x2 a8.toNat np).2.2.1,((γ x2 a8.toNat np).2.2.2.1,()))),((γ x2 a8.toNat np).2.1,((γ x2 a8.toNat np).2.2.1,(v8,())))]))) (cond (a7 (γ x2 a8.toNat np).2.2.1 (ℓ x4.2.2.2.2.1)) ((QT N (γ x2 a8.toNat np) (γ x4.2.2.2.2.1 (γ x2 a8.toNat np).2.2.1.toNat 0)).bind λnV=>cond (small (ℓ bn+ℓ nV.1)) (BE x2 x3 x4 x6 (x9++([((γ x2 a8.toNat np).1,((γ x2 a8.toNat np).2.2.1,((γ x2 a8.toNat np).2.2.2.1,()))),((γ x2 a8.toNat np).2.1,((γ x2 a8.toNat np).2.2.1,(v8,())))])) (bn++nV.1) (W .i64 (a8+1))) none) none) none)))) none) ((Bu N x4 x9 bn).bind λtG=>some (tG.1,tG.2))
def gw.Co(N:Nat):Nat→gw.xJ
 |0,_,_,_,_,_,_,_=>none
 |n+1,x2,x3,x4,x6,x9,bn,a8=>gw.zr N (gw.Co N n) x2 x3 x4 x6 x9 bn a8
def gw.ew(O9:gw.xJ)(cB:gw.bT)(x2:bO)(x3:ae)(x4 x6:aq)(x8:Int):Option (aq×(Int)):=
 cond (aT x8 (ℓ x2)) (cond (a7 x8 (ℓ x2)) ((Xp N (γ x2 x8.toNat np)).bind λr3=>cond (!r3) (some ((bM,(dh,(cf,(cf,(dW,(eu,())))))),1)) (cB x2 x3 x4 x6 (W .i64 (x8+1)))) none) (O9 x2 x3 x4 x6 ([]) ([]) 0)
def gw.l4(N:Nat):Nat→gw.bT
 |0,_,_,_,_,_=>none
 |n+1,x2,x3,x4,x6,x8=>gw.ew N (gw.Co N N) (gw.l4 N n) x2 x3 x4 x6 x8
def gw.b(fN:gw.bT)(a0:ae)(a1:aq)(a2:bO):Option (aq×(Int)):=
 (fY N a0 a1).bind λr1=>cond (!r1) (some ((bM,(dh,(cf,(cf,(dW,(eu,())))))),1)) (cond (aT 200 (ℓ a2)) (some ((bM,(dh,(cf,(cf,(dW,(eu,())))))),1)) (fN a2 a0 a1 (bM,(dh,(cf,(cf,(dW,(eu,())))))) 0))
def gw(a0:ae)(a1:aq)(a2:bO):Option (aq×(Int)):=gw.b N (gw.l4 N N) a0 a1 a2
abbrev ju.YM:=ae→aq→gu→aq→bC→bO→Int→Option (aq×bO×(Int)×(Int))
abbrev ju.Rx:=ae→aq→gu→aq→Option (aq×bO×(Int)×(Int))
def ju.Lk(x3:ae)(x4:aq)(x5:gu)(x6:aq)(bp:bC)(cq:bO)(cy:Int):Option (aq×bO×(Int)×(Int)):=
 (gw N x3 x4 cq).bind λr6=>cond (!aM r6.2 0) (some ((bM,(dh,(cf,(cf,(dW,(eu,())))))),ED,0,r6.2)) (cond (aT 0 cy) (cond (small (ℓ bp+ℓ ([(x5.1,(x5.2.1,(x5.2.2.1,(x5.2.2.2.1,(cy,x5.2.2.2.2.2)))))]))) (some ((r6.1.1,(r6.1.2.1,(r6.1.2.2.1,(r6.1.2.2.2.1,(r6.1.2.2.2.2.1,((bp++([(x5.1,(x5.2.1,(x5.2.2.1,(x5.2.2.2.1,(cy,x5.2.2.2.2.2)))))])),r6.1.2.2.2.2.2.2)))))),cq,cy,0)) none) (some ((r6.1.1,(r6.1.2.1,(r6.1.2.2.1,(r6.1.2.2.2.1,(r6.1.2.2.2.2.1,(bp,r6.1.2.2.2.2.2.2)))))),cq,cy,0)))
def ju.Q5(x3:ae)(x4:aq)(x5:gu)(x6:aq)(bp:bC)(cq:bO)(cy:Int):Option (aq×bO×(Int)×(Int)):=ju.Lk N x3 x4 x5 x6 bp cq cy
def ju.Qc(HS:ju.YM)(x3:ae)(x4:aq)(x5:gu)(x6:aq):Option (aq×bO×(Int)×(Int)):=
 (cm N x4.2.2.2.2.2.1 x5).bind λr4=>cond (aT 0 r4.2.2.1) (cond (aM (ℓ r4.1) 32) (some ((bM,(dh,(cf,(cf,(dW,(eu,())))))),ED,0,5)) (HS x3 x4 x5 x6 r4.1 r4.2.1 r4.2.2.1)) (HS x3 x4 x5 x6 r4.1 r4.2.1 r4.2.2.1)
def ju.j7(x3:ae)(x4:aq)(x5:gu)(x6:aq):Option (aq×bO×(Int)×(Int)):=ju.Qc N (ju.Q5 N) x3 x4 x5 x6
def ju.b(CE:ju.Rx)(a0:ae)(a1:aq)(a2:gu):Option (aq×bO×(Int)×(Int)):=
 (XF N a0 a1 a2).bind λr1=>cond (!aM r1 0) (some ((bM,(dh,(cf,(cf,(dW,(eu,())))))),ED,0,r1)) (cond (aT 0 (ℓ a1.2.2.2.2.2.1)) (let v2:Int:=W .i64 ((ℓ a1.2.2.2.2.2.1:Int)-1);cond (a7 v2 (ℓ a1.2.2.2.2.2.1)) (cond (cY a2.1 (γ a1.2.2.2.2.2.1 v2.toNat fu).1) (some ((bM,(dh,(cf,(cf,(dW,(eu,())))))),ED,0,1)) (CE a0 a1 a2 (bM,(dh,(cf,(cf,(dW,(eu,())))))))) none) (CE a0 a1 a2 (bM,(dh,(cf,(cf,(dW,(eu,()))))))))
def ju(a0:ae)(a1:aq)(a2:gu):Option (aq×bO×(Int)×(Int)):=ju.b N (ju.j7 N) a0 a1 a2
abbrev nN.cc:=bC→Int→Int→bC→Int→Option (bC×(Int))
def nN.e8(N:Nat)(bX:nN.cc)(x0:bC)(x1 x2:Int)(x8:bC)(x9:Int):Option (bC×(Int)):=
 cond (aT x9 (ℓ x0)) (cond (a7 x9 (ℓ x0)) (cond (!aM (γ x0 x9.toNat fu).1 x2) (cond (a7 x9 (ℓ x0)) (cond (small (ℓ x8+ℓ ([γ x0 x9.toNat fu]))) (bX x0 x1 x2 (x8++([γ x0 x9.toNat fu])) (W .i64 (x9+1))) none) none) (cond (a7 x9 (ℓ x0)) (cond (!aM (γ x0 x9.toNat fu).2.1 x1) (cond (a7 x9 (ℓ x0)) (cond (small (ℓ x8+ℓ ([γ x0 x9.toNat fu]))) (bX x0 x1 x2 (x8++([γ x0 x9.toNat fu])) (W .i64 (x9+1))) none) none) (bX x0 x1 x2 x8 (W .i64 (x9+1)))) none)) none) (cond (aM (ℓ x8) (ℓ x0)) (some ([],3)) (some (x8,0)))
def nN.l5(N:Nat):Nat→nN.cc
 |0,_,_,_,_,_=>none
 |n+1,x0,x1,x2,x8,x9=>nN.e8 N (nN.l5 N n) x0 x1 x2 x8 x9
def nN.b(ga:nN.cc)(a0:bC)(a1 a2:Int):Option (bC×(Int)):=
 (zC N a0).bind λr1=>cond (!r1) (some ([],1)) (ga a0 a1 a2 ([]) 0)
def nN(a0:bC)(a1 a2:Int):Option (bC×(Int)):=nN.b N (nN.l5 N N) a0 a1 a2
abbrev nO.jL:=aC→Int→bJ→aH→Int→Option (bJ×(Int))
def nO.vX(ll:nO.jL)(x0:aC)(x1:Int)(bn:bJ)(a8:aH)(bp:Int):Option (bJ×(Int)):=
 cond (aT bp (ℓ x0)) (cond (a7 bp (ℓ x0)) (cond (!aM (γ x0 bp.toNat bW).2.1 x1) (ll x0 x1 bn a8 (W .i64 (bp+1))) ((Sj N a8).bind λr9=>cond (aM r9 0) (ll x0 x1 bn a8 (W .i64 (bp+1))) (cond (a7 bp (ℓ x0)) ((K4 N (γ x0 bp.toNat bW).1).bind λqc=>cond (a7 bp (ℓ x0)) ((kF N (γ x0 bp.toNat bW).2.2.1).bind λqd=>(jZ N qd a8).bind λtG=>cond (small (ℓ bn+ℓ ([(qc.1,(qc.2,(tG,())))]))) (ll x0 x1 (bn++([(qc.1,(qc.2,(tG,())))])) a8 (W .i64 (bp+1))) none) none) none))) none) (some (bn,0))
def nO.l6(N:Nat):Nat→nO.jL
 |0,_,_,_,_,_=>none
 |n+1,x0,x1,bn,a8,bp=>nO.vX N (nO.l6 N n) x0 x1 bn a8 bp
def nO.b(xF:nO.jL)(a0:aC)(a1 a2 a3:Int):Option (bJ×(Int)):=
 (zB N a0).bind λr1=>cond (!r1) (some ([],1)) ((Vu N a2).bind λr2=>cond (!r2) (some ([],1)) ((Vu N a3).bind λr3=>cond (!r3) (some ([],1)) ((kF N a3).bind λr4=>(kF N a2).bind λr5=>(Si N r4 r5).bind λr6=>xF a0 a1 ([]) r6 0)))
def nO(a0:aC)(a1 a2 a3:Int):Option (bJ×(Int)):=nO.b N (nO.l6 N N) a0 a1 a2 a3
def UF(a0:ae)(a1:aq)(a2 a3:Int):Option (aq×bJ×(Int)):=
 (fY N a0 a1).bind λr1=>cond (!r1) (some ((bM,(dh,(cf,(cf,(dW,(eu,())))))),([]:List ((Int)×((Int)×(((Bool)×((List Int)×(Unit)))×(Unit))))),1)) ((Vu N a3).bind λr2=>cond (!r2) (some ((bM,(dh,(cf,(cf,(dW,(eu,())))))),([]:List ((Int)×((Int)×(((Bool)×((List Int)×(Unit)))×(Unit))))),1)) (cond (aT a2 0) (some ((bM,(dh,(cf,(cf,(dW,(eu,())))))),([]:List ((Int)×((Int)×(((Bool)×((List Int)×(Unit)))×(Unit))))),3)) (cond (cY (ℓ a0.1) a2) (some ((bM,(dh,(cf,(cf,(dW,(eu,())))))),([]:List ((Int)×((Int)×(((Bool)×((List Int)×(Unit)))×(Unit))))),3)) (cond (a7 a2 (ℓ a1.2.2.2.2.1)) ((nO N a1.2.2.2.1 a2 (γ a1.2.2.2.2.1 a2.toNat 0) a3).bind λr3=>(Bu N a1 cf r3.1).bind λr4=>cond (!aM r4.2 0) (some ((bM,(dh,(cf,(cf,(dW,(eu,())))))),([]:List ((Int)×((Int)×(((Bool)×((List Int)×(Unit)))×(Unit))))),r4.2)) (cond (small (ℓ dW+ℓ a1.2.2.2.2.1)) (let v5:List Int:=dW++a1.2.2.2.2.1;cond (a7 a2 (ℓ v5)) (some ((r4.1.1,(r4.1.2.1,(r4.1.2.2.1,(r4.1.2.2.2.1,((List.set v5 a2.toNat a3),r4.1.2.2.2.2.2))))),r3.1,0)) none) none)) none))))
abbrev qE.c3:=aB→Int→Option Bool
def qE.gm(N:Nat)(eJ:qE.c3)(x0:aB)(x3:Int):Option Bool:=
 cond (aT x3 (ℓ x0)) (cond (a7 x3 (ℓ x0)) (cond (aT (γ x0 x3.toNat ct).1 1) (some false) (cond (a7 x3 (ℓ x0)) (cond (aT 24 (γ x0 x3.toNat ct).1) (some false) (cond (a7 x3 (ℓ x0)) (cond (aM (γ x0 x3.toNat ct).2.1 0) (some false) (cond (aT 0 x3) (cond (a7 x3 (ℓ x0)) (let v2:Int:=W .i64 (x3-1);cond (a7 v2 (ℓ x0)) (cond (cY (γ x0 x3.toNat ct).1 (γ x0 v2.toNat ct).1) (some false) (eJ x0 (W .i64 (x3+1)))) none) none) (eJ x0 (W .i64 (x3+1))))) none)) none)) none) (some true)
def qE.l2(N:Nat):Nat→qE.c3
 |0,_,_=>none
 |n+1,x0,x3=>qE.gm N (qE.l2 N n) x0 x3
def qE.b(N:Nat)(jd:qE.c3)(a0:aB):Option Bool:=
 jd a0 0
def qE(a0:aB):Option Bool:=qE.b N (qE.l2 N N) a0
abbrev eS.xK:=aB→bJ→aB→Int→aH→Int→Option (aB×(Int))
abbrev eS.oG:=aB→bJ→aB→Int→aH→Int→Option (aB×(Int))
abbrev eS.cc:=aB→bJ→aB→Int→Option (aB×(Int))
def eS.GY(bX:eS.cc)(DT:eS.xK)(x0:aB)(x1:bJ)(x6:aB)(x7:Int)(x8:aH)(bn:Int):Option (aB×(Int)):=
 cond (aT bn (ℓ x1)) (cond (a7 bn (ℓ x1)) (cond (aM (γ x1 bn.toNat (0,(0,((false,pQ),())))).1 5) (cond (a7 bn (ℓ x1)) (cond (aM (γ x1 bn.toNat (0,(0,((false,pQ),())))).2.1 x7) (cond (a7 bn (ℓ x1)) ((AZ N x8 (γ x1 bn.toNat (0,(0,((false,pQ),())))).2.2.1).bind λr8=>DT x0 x1 x6 x7 r8 (W .i64 (bn+1))) none) (DT x0 x1 x6 x7 x8 (W .i64 (bn+1)))) none) (DT x0 x1 x6 x7 x8 (W .i64 (bn+1)))) none) ((NJ N x8).bind λqd=>cond (!qd.2) (some ([],2)) (cond (!aM qd.1 0) (cond (small (ℓ x6+ℓ ([(x7,(qd.1,()))]))) (bX x0 x1 (x6++([(x7,(qd.1,()))])) (W .i64 (x7+1))) none) (bX x0 x1 x6 (W .i64 (x7+1)))))
def eS.JK(N:Nat)(bX:eS.cc):Nat→eS.xK
 |0,_,_,_,_,_,_=>none
 |n+1,x0,x1,x6,x7,x8,bn=>eS.GY N bX (eS.JK N bX n) x0 x1 x6 x7 x8 bn
def eS.zA(Pb:eS.xK)(bX:eS.cc)(uO:eS.oG)(x0:aB)(x1:bJ)(x6:aB)(x7:Int)(x8:aH)(x9:Int):Option (aB×(Int)):=
 cond (aT x9 (ℓ x0)) (cond (a7 x9 (ℓ x0)) (cond (aM (γ x0 x9.toNat ct).1 x7) (cond (a7 x9 (ℓ x0)) ((kF N (γ x0 x9.toNat ct).2.1).bind λr4=>uO x0 x1 x6 x7 r4 (W .i64 (x9+1))) none) (uO x0 x1 x6 x7 x8 (W .i64 (x9+1)))) none) (Pb x0 x1 x6 x7 x8 0)
def eS.l9(N:Nat)(bX:eS.cc):Nat→eS.oG
 |0,_,_,_,_,_,_=>none
 |n+1,x0,x1,x6,x7,x8,x9=>eS.zA N (eS.JK N bX N) bX (eS.l9 N bX n) x0 x1 x6 x7 x8 x9
def eS.e8(N:Nat)(CH:eS.oG)(bX:eS.cc)(x0:aB)(x1:bJ)(x6:aB)(x7:Int):Option (aB×(Int)):=
 cond (cY x7 24) (CH x0 x1 x6 x7 (false,pQ) 0) (some (x6,0))
def eS.l5(N:Nat):Nat→eS.cc
 |0,_,_,_,_=>none
 |n+1,x0,x1,x6,x7=>eS.e8 N (eS.l9 N (eS.l5 N n) N) (eS.l5 N n) x0 x1 x6 x7
def eS.b(ga:eS.cc)(a0:aB)(a1:bJ):Option (aB×(Int)):=
 (qE N a0).bind λr1=>cond (!r1) (some ([],1)) (ga a0 a1 ([]) 1)
def eS(a0:aB)(a1:bJ):Option (aB×(Int)):=eS.b N (eS.l5 N N) a0 a1
def US(a0:aV)(a1:Int):Option ((Int)×(Bool)):=
 (kF N a0.1).bind λr1=>(kF N a1).bind λr2=>(AZ N r1 r2).bind λr3=>(NJ N r3).bind λr4=>some (r4.1,r4.2)
def UC(N:Nat)(a0 a1:Int):Option ((Int)×(Bool)):=
 cond (aM a0 0) (cond (aM a1 1) (some (1,true)) (cond (aM a0 1) (cond (aM a1 11) (some (2,true)) (cond (aM a0 2) (cond (aM a1 12) (some (1,true)) (cond (aM a0 2) (cond (aM a1 13) (some (3,true)) (cond (aM a0 3) (cond (aM a1 21) (some (4,true)) (some (0,false))) (some (0,false)))) (cond (aM a0 3) (cond (aM a1 21) (some (4,true)) (some (0,false))) (some (0,false))))) (cond (aM a0 2) (cond (aM a1 13) (some (3,true)) (cond (aM a0 3) (cond (aM a1 21) (some (4,true)) (some (0,false))) (some (0,false)))) (cond (aM a0 3) (cond (aM a1 21) (some (4,true)) (some (0,false))) (some (0,false)))))) (cond (aM a0 2) (cond (aM a1 12) (some (1,true)) (cond (aM a0 2) (cond (aM a1 13) (some (3,true)) (cond (aM a0 3) (cond (aM a1 21) (some (4,true)) (some (0,false))) (some (0,false)))) (cond (aM a0 3) (cond (aM a1 21) (some (4,true)) (some (0,false))) (some (0,false))))) (cond (aM a0 2) (cond (aM a1 13) (some (3,true)) (cond (aM a0 3) (cond (aM a1 21) (some (4,true)) (some (0,false))) (some (0,false)))) (cond (aM a0 3) (cond (aM a1 21) (some (4,true)) (some (0,false))) (some (0,false))))))) (cond (aM a0 1) (cond (aM a1 11) (some (2,true)) (cond (aM a0 2) (cond (aM a1 12) (some (1,true)) (cond (aM a0 2) (cond (aM a1 13) (some (3,true)) (cond (aM a0 3) (cond (aM a1 21) (some (4,true)) (some (0,false))) (some (0,false)))) (cond (aM a0 3) (cond (aM a1 21) (some (4,true)) (some (0,false))) (some (0,false))))) (cond (aM a0 2) (cond (aM a1 13) (some (3,true)) (cond (aM a0 3) (cond (aM a1 21) (some (4,true)) (some (0,false))) (some (0,false)))) (cond (aM a0 3) (cond (aM a1 21) (some (4,true)) (some (0,false))) (some (0,false)))))) (cond (aM a0 2) (cond (aM a1 12) (some (1,true)) (cond (aM a0 2) (cond (aM a1 13) (some (3,true)) (cond (aM a0 3) (cond (aM a1 21) (some (4,true)) (some (0,false))) (some (0,false)))) (cond (aM a0 3) (cond (aM a1 21) (some (4,true)) (some (0,false))) (some (0,false))))) (cond (aM a0 2) (cond (aM a1 13) (some (3,true)) (cond (aM a0 3) (cond (aM a1 21) (some (4,true)) (some (0,false))) (some (0,false)))) (cond (aM a0 3) (cond (aM a1 21) (some (4,true)) (some (0,false))) (some (0,false))))))
abbrev lW.xJ:=Int→Int→aB→Int→Option (aB×(Int))
def lW.zr(N:Nat)(BE:lW.xJ)(x1 x9:Int)(a8:aB)(bp:Int):Option (aB×(Int)):=
 cond (aT bp (ℓ a8)) (cond (a7 bp (ℓ a8)) (cond (aM (γ a8 bp.toNat ct).1 x1) (cond (a7 bp (ℓ a8)) (BE x1 x9 (List.set a8 bp.toNat ((γ a8 bp.toNat ct).1,(x9,(γ a8 bp.toNat ct).2.2))) (W .i64 (bp+1))) none) (BE x1 x9 a8 (W .i64 (bp+1)))) none) (some (a8,0))
def lW.Co(N:Nat):Nat→lW.xJ
 |0,_,_,_,_=>none
 |n+1,x1,x9,a8,bp=>lW.zr N (lW.Co N n) x1 x9 a8 bp
def lW.b(O9:lW.xJ)(a0:aB)(a1 a2:Int):Option (aB×(Int)):=
 (nY N a0).bind λr1=>cond (!r1) (some ([],1)) ((m0 N a0 a1).bind λr2=>cond (aM r2 0) (some ([],3)) ((UC N r2 a2).bind λr3=>cond (!r3.2) (some ([],8)) (cond (small (ℓ bM+ℓ a0)) (O9 a1 r3.1 (bM++a0) 0) none)))
def lW(a0:aB)(a1 a2:Int):Option (aB×(Int)):=lW.b N (lW.Co N N) a0 a1 a2
abbrev sf.cc:=aO→Int→(List Int)→Int→Option (List Int)
def sf.e8(N:Nat)(bX:sf.cc)(x0:aO)(x1:Int)(x5:List Int)(x6:Int):Option (List Int):=
 cond (aT x6 (ℓ x0)) (cond (a7 x6 (ℓ x0)) (cond (aM (γ x0 x6.toNat aQ).2.1 x1) (cond (a7 x6 (ℓ x0)) (cond (small (ℓ x5+ℓ ([(γ x0 x6.toNat aQ).1]))) (bX x0 x1 (x5++([(γ x0 x6.toNat aQ).1])) (W .i64 (x6+1))) none) none) (bX x0 x1 x5 (W .i64 (x6+1)))) none) (some x5)
def sf.l5(N:Nat):Nat→sf.cc
 |0,_,_,_,_=>none
 |n+1,x0,x1,x5,x6=>sf.e8 N (sf.l5 N n) x0 x1 x5 x6
def sf.b(ga:sf.cc)(a0:aO)(a1:Int):Option (List Int):=
 (eC N a0).bind λr1=>cond (!r1) (some ([])) (ga a0 a1 ([]) 0)
def sf(a0:aO)(a1:Int):Option (List Int):=sf.b N (sf.l5 N N) a0 a1
abbrev fQ.oG:=bC→(List Int)→bC→Int→Bool→Int→Option bC
abbrev fQ.cc:=bC→(List Int)→bC→Int→Option bC
def fQ.zA(N:Nat)(bX:fQ.cc)(uO:fQ.oG)(x0:bC)(x1:List Int)(x5:bC)(x6:Int)(x7:Bool)(x8:Int):Option bC:=
 cond (aT x8 (ℓ x1)) (cond (x7) (uO x0 x1 x5 x6 true (W .i64 (x8+1))) (cond (a7 x8 (ℓ x1)) (cond (a7 x6 (ℓ x0)) (uO x0 x1 x5 x6 (aM (γ x1 x8.toNat 0) (γ x0 x6.toNat fu).2.1) (W .i64 (x8+1))) none) none)) (cond (!x7) (cond (a7 x6 (ℓ x0)) (cond (small (ℓ x5+ℓ ([γ x0 x6.toNat fu]))) (bX x0 x1 (x5++([γ x0 x6.toNat fu])) (W .i64 (x6+1))) none) none) (bX x0 x1 x5 (W .i64 (x6+1))))
def fQ.l9(N:Nat)(bX:fQ.cc):Nat→fQ.oG
 |0,_,_,_,_,_,_=>none
 |n+1,x0,x1,x5,x6,x7,x8=>fQ.zA N bX (fQ.l9 N bX n) x0 x1 x5 x6 x7 x8
def fQ.e8(N:Nat)(CH:fQ.oG)(bX:fQ.cc)(x0:bC)(x1:List Int)(x5:bC)(x6:Int):Option bC:=
 cond (aT x6 (ℓ x0)) (CH x0 x1 x5 x6 false 0) (some x5)
def fQ.l5(N:Nat):Nat→fQ.cc
 |0,_,_,_,_=>none
 |n+1,x0,x1,x5,x6=>fQ.e8 N (fQ.l9 N (fQ.l5 N n) N) (fQ.l5 N n) x0 x1 x5 x6
def fQ.b(ga:fQ.cc)(a0:bC)(a1:List Int):Option bC:=
 (zC N a0).bind λr1=>cond (!r1) (some ([])) (ga a0 a1 ([]) 0)
def fQ(a0:bC)(a1:List Int):Option bC:=fQ.b N (fQ.l5 N N) a0 a1
def Li(a0:ae)(a1:aq)(a2:Int):Option (aq×(Int)):=
 (fY N a0 a1).bind λr1=>cond (!r1) (some ((bM,(dh,(cf,(cf,(dW,(eu,())))))),1)) ((Sn N a1.1 a2).bind λr2=>cond (aM r2 0) (some ((bM,(dh,(cf,(cf,(dW,(eu,())))))),3)) ((sf N a1.2.1 a2).bind λr3=>(fQ N a1.2.2.2.2.2.1 r3).bind λr4=>some ((a1.1,(a1.2.1,(a1.2.2.1,(a1.2.2.2.1,(a1.2.2.2.2.1,(r4,a1.2.2.2.2.2.2)))))),0)))
def Xc(N:Nat)(a0:cv):Option Bool:=
 cond (cY 1 a0.1) (cond (cY a0.1 1099511627776) (cond (cY 1 a0.2.1) (cond (cY a0.2.1 1099511627776) (cond (cY 1 a0.2.2.1) (cond (cY a0.2.2.1 12) (cond (cY (-1152921504606846976) a0.2.2.2.1) (some (cY a0.2.2.2.1 1152921504606846976)) (some false)) (some false)) (some false)) (some false)) (some false)) (some false)) (some false)
abbrev eF.oG:=aO→Int→Int→Option Bool
abbrev eF.LG:=aO→Int→Option Bool
abbrev eF.bT:=aO→Int→Option Bool
def eF.zA(N:Nat)(cB:eF.bT)(uO:eF.oG)(x0:aO)(x3 x4:Int):Option Bool:=
 cond (aT x4 x3) (cond (a7 x4 (ℓ x0)) (cond (a7 x3 (ℓ x0)) (cond (aM (γ x0 x4.toNat aQ).2.2.1 (γ x0 x3.toNat aQ).2.2.1) (cond (a7 x4 (ℓ x0)) (cond (a7 x3 (ℓ x0)) (cond (aM (γ x0 x4.toNat aQ).2.1 (γ x0 x3.toNat aQ).2.1) (some false) (uO x0 x3 (W .i64 (x4+1)))) none) none) (uO x0 x3 (W .i64 (x4+1)))) none) none) (cB x0 (W .i64 (x3+1)))
def eF.l9(N:Nat)(cB:eF.bT):Nat→eF.oG
 |0,_,_,_=>none
 |n+1,x0,x3,x4=>eF.zA N cB (eF.l9 N cB n) x0 x3 x4
def eF.JC(N:Nat)(CH:eF.oG)(cB:eF.bT)(x0:aO)(x3:Int):Option Bool:=
 CH x0 x3 0
def eF.j8(cB:eF.bT)(x0:aO)(x3:Int):Option Bool:=eF.JC N (eF.l9 N cB N) cB x0 x3
def eF.ew(BD:eF.LG)(cB:eF.bT)(x0:aO)(x3:Int):Option Bool:=
 cond (aT x3 (ℓ x0)) (cond (a7 x3 (ℓ x0)) ((Xc N (γ x0 x3.toNat aQ)).bind λr2=>cond (!r2) (some false) (cond (aT 0 x3) (cond (a7 x3 (ℓ x0)) (let v3:Int:=W .i64 (x3-1);cond (a7 v3 (ℓ x0)) (cond (cY (γ x0 x3.toNat aQ).1 (γ x0 v3.toNat aQ).1) (some false) (BD x0 x3)) none) none) (BD x0 x3))) none) (some true)
def eF.l4(N:Nat):Nat→eF.bT
 |0,_,_=>none
 |n+1,x0,x3=>eF.ew N (eF.j8 N (eF.l4 N n)) (eF.l4 N n) x0 x3
def eF.b(N:Nat)(fN:eF.bT)(a0:aO):Option Bool:=
 cond (aT 40 (ℓ a0)) (some false) (fN a0 0)
def eF(a0:aO):Option Bool:=eF.b N (eF.l4 N N) a0
abbrev pG.cc:=aO→Int→aO→Int→Option aO
def pG.e8(N:Nat)(bX:pG.cc)(x0:aO)(x1:Int)(x5:aO)(x6:Int):Option aO:=
 cond (aT x6 (ℓ x0)) (cond (a7 x6 (ℓ x0)) (cond (!aM (γ x0 x6.toNat aQ).2.2.1 x1) (cond (a7 x6 (ℓ x0)) (cond (small (ℓ x5+ℓ ([γ x0 x6.toNat aQ]))) (bX x0 x1 (x5++([γ x0 x6.toNat aQ])) (W .i64 (x6+1))) none) none) (bX x0 x1 x5 (W .i64 (x6+1)))) none) (some x5)
def pG.l5(N:Nat):Nat→pG.cc
 |0,_,_,_,_=>none
 |n+1,x0,x1,x5,x6=>pG.e8 N (pG.l5 N n) x0 x1 x5 x6
def pG.b(ga:pG.cc)(a0:aO)(a1:Int):Option aO:=
 (eF N a0).bind λr1=>cond (!r1) (some ([])) (ga a0 a1 ([]) 0)
def pG(a0:aO)(a1:Int):Option aO:=pG.b N (pG.l5 N N) a0 a1
def abl(N:Nat)(a0:aV)(a1:Int):Option Bool:=
 cond (aM a1 14) (cond (aM a0.2.2.2.1.2.1 1) (some (aT a0.1 a0.2.2.2.1.2.2.1)) (some false)) (cond (aM a1 15) (cond (aM a0.2.2.2.1.2.1 1) (some (cY a0.2.2.2.1.2.2.1 a0.1)) (some false)) (cond (aM a1 19) (cond (aM a0.2.2.2.1.2.1 3) (some (aT a0.1 a0.2.2.2.1.2.2.1)) (some false)) (cond (aM a1 20) (cond (aM a0.2.2.2.1.2.1 3) (some (cY a0.2.2.2.1.2.2.1 a0.1)) (some false)) (some (aM a0.2.2.2.1.2.1 2)))))
def Ll(a0:aq)(a1:Int):Option Int:=
 (Sn N a0.1 a1).bind λr1=>some r1
abbrev Eo.cc:=aB→Bool→ae→aH→aH→Int→Option (aH×(Int))
def Eo.e8(bX:Eo.cc)(x1:aB)(x2:Bool)(x3:ae)(x6 x8:aH)(x9:Int):Option (aH×(Int)):=
 cond (aT x9 (ℓ x1)) (cond (a7 x9 (ℓ x1)) (cond (a7 (γ x1 x9.toNat ct).1 (ℓ x3.1)) (cond (x2) (cond (a7 x9 (ℓ x1)) (cond (a7 (γ x1 x9.toNat ct).1 (ℓ x3.1)) (cond (a7 x9 (ℓ x1)) ((kF N (γ x1 x9.toNat ct).2.1).bind λr3=>(WX N r3).bind λr4=>(kF N (γ x3.1 (γ x1 x9.toNat ct).1.toNat aQ).2.2.2.1).bind λr5=>(jZ N r4 r5).bind λr6=>(AZ N x8 r6).bind λr7=>bX x1 x2 x3 x6 r7 (W .i64 (x9+1))) none) none) none) (cond (a7 x9 (ℓ x1)) ((kF N (γ x1 x9.toNat ct).2.1).bind λr9=>(WX N r9).bind λnV=>(kF N (γ x3.1 (γ x1 x9.toNat ct).1.toNat aQ).2.2.1).bind λqc=>(jZ N nV qc).bind λqd=>(AZ N x8 qd).bind λtG=>bX x1 x2 x3 x6 tG (W .i64 (x9+1))) none)) none) none) (some (x8,0))
def Eo.l5(N:Nat):Nat→Eo.cc
 |0,_,_,_,_,_,_=>none
 |n+1,x1,x2,x3,x6,x8,x9=>Eo.e8 N (Eo.l5 N n) x1 x2 x3 x6 x8 x9
def Eo.b(ga:Eo.cc)(a0:ae)(a1:aB)(a2:Bool):Option (aH×(Int)):=
 (Ba N a0 a1).bind λr1=>cond (!r1) (some ((false,pQ),1)) (ga a1 a2 a0 (false,pQ) (false,pQ) 0)
def Eo(a0:ae)(a1:aB)(a2:Bool):Option (aH×(Int)):=Eo.b N (Eo.l5 N N) a0 a1 a2
def aid(a0:ae)(a1:aB):Option (aH×(Int)):=
 (Eo N a0 a1 false).bind λr1=>some (r1.1,r1.2)
def Q7(a0:aq)(a1:Int):Option Int:=
 (ka N a0.2.2.1 5 a1).bind λr1=>some r1
def aa5(a0:ae)(a1:aq)(a2 a3 a4:Int):Option Int:=
 (fY N a0 a1).bind λr1=>cond (!r1) (some 1) ((Ee N a1.2.1 a4).bind λr2=>cond (!r2.2) (some 3) ((Ll N a1 a2).bind λr3=>cond (aM r3 0) (some 3) ((Ll N a1 a3).bind λr4=>cond (aM r4 0) (some 3) (cond (!aM r2.1.2.1 a2) (some 8) (cond (!aM r2.1.2.2.1 2) (some 8) ((Ll N a1 a3).bind λr5=>cond (!aM r5 1) (some 7) ((yW N a1.2.2.2.1 a4).bind λr6=>(aid N a0 r6).bind λr7=>(Q7 N a1 a4).bind λr8=>(kF N r8).bind λr9=>(Qd N r9 r7.1).bind λnV=>cond (aT nV 0) (some 10) (some 0))))))))
abbrev nM.je:=Int→Int→aO→Int→Option (aO×(Int))
def nM.m5(N:Nat)(pM:nM.je)(x2 x3:Int)(cq:aO)(cy:Int):Option (aO×(Int)):=
 cond (aT cy (ℓ cq)) (cond (a7 cy (ℓ cq)) (cond (aM (γ cq cy.toNat aQ).1 x2) (cond (a7 cy (ℓ cq)) (pM x2 x3 (List.set cq cy.toNat ((γ cq cy.toNat aQ).1,(x3,(γ cq cy.toNat aQ).2.2))) (W .i64 (cy+1))) none) (pM x2 x3 cq (W .i64 (cy+1)))) none) (some (cq,0))
def nM.oU(N:Nat):Nat→nM.je
 |0,_,_,_,_=>none
 |n+1,x2,x3,cq,cy=>nM.m5 N (nM.oU N n) x2 x3 cq cy
def nM.b(uN:nM.je)(a0:aB)(a1:aO)(a2 a3:Int):Option (aO×(Int)):=
 (Cd N a0 a1).bind λr1=>cond (!r1) (some ([],1)) ((nZ N a1 a2).bind λr2=>(m0 N a0 a3).bind λr3=>cond (!r2.2) (some ([],3)) (cond (aM r3 0) (some ([],3)) (cond (!aM r2.1.2.2.1 2) (some ([],8)) (cond (!aM r3 1) (some ([],7)) (cond (small (ℓ dh+ℓ a1)) (uN a2 a3 (dh++a1) 0) none)))))
def nM(a0:aB)(a1:aO)(a2 a3:Int):Option (aO×(Int)):=nM.b N (nM.oU N N) a0 a1 a2 a3
def UH(a0:ae)(a1:aq)(a2 a3 a4:Int):Option (aq×(Int)):=
 (aa5 N a0 a1 a2 a3 a4).bind λr1=>cond (!aM r1 0) (some ((bM,(dh,(cf,(cf,(dW,(eu,())))))),r1)) ((nM N a1.1 a1.2.1 a4 a3).bind λr2=>cond (!aM r2.2 0) (some ((bM,(dh,(cf,(cf,(dW,(eu,())))))),r2.2)) (some ((a1.1,(r2.1,a1.2.2)),0)))
def F40(a0:ae)(a1:aB):Option (aH×(Int)):=
 (Eo N a0 a1 true).bind λr1=>some (r1.1,r1.2)
def abi(a0:ae)(a1:aq)(a2:Int):Option ((Int)×(Int)):=
 (fY N a0 a1).bind λr1=>cond (!r1) (some (0,1)) ((Ee N a1.2.1 a2).bind λr2=>cond (!r2.2) (some (0,3)) ((yW N a1.2.2.2.1 a2).bind λr3=>(F40 N a0 r3).bind λr4=>(Q7 N a1 a2).bind λr5=>cond (cY r5 0) (some (0,0)) ((NJ N r4.1).bind λr6=>cond (r6.2) (cond (aT r6.1 r5) (some (r6.1,0)) (some (r5,0))) (some (r5,0)))))
abbrev m6.cc:=aC→Int→Int→aC→Int→Option aC
def m6.e8(N:Nat)(bX:m6.cc)(x0:aC)(x1 x2:Int)(x7:aC)(x8:Int):Option aC:=
 cond (aT x8 (ℓ x0)) (cond (a7 x8 (ℓ x0)) (cond (aM (γ x0 x8.toNat bW).1 x1) (cond (a7 x8 (ℓ x0)) (cond (a7 x8 (ℓ x0)) (let v3:Int:=W .i64 (0-((γ x0 x8.toNat bW).2.2.1));cond (a7 x8 (ℓ x0)) (cond (a7 x8 (ℓ x0)) (cond (small (ℓ x7+ℓ ([(x1,((γ x0 x8.toNat bW).2.1,(v3,()))),(x2,((γ x0 x8.toNat bW).2.1,((γ x0 x8.toNat bW).2.2.1,())))]))) (bX x0 x1 x2 (x7++([(x1,((γ x0 x8.toNat bW).2.1,(v3,()))),(x2,((γ x0 x8.toNat bW).2.1,((γ x0 x8.toNat bW).2.2.1,())))])) (W .i64 (x8+1))) none) none) none) none) none) (bX x0 x1 x2 x7 (W .i64 (x8+1)))) none) (some x7)
def m6.l5(N:Nat):Nat→m6.cc
 |0,_,_,_,_,_=>none
 |n+1,x0,x1,x2,x7,x8=>m6.e8 N (m6.l5 N n) x0 x1 x2 x7 x8
def m6.b(ga:m6.cc)(a0:aC)(a1 a2:Int):Option aC:=
 (zB N a0).bind λr1=>cond (!r1) (some ([])) (cond (aM a1 a2) (some ([])) (cond (aT a1 0) (some ([])) (cond (aT 24 a1) (some ([])) (cond (aT a2 0) (some ([])) (cond (aT 24 a2) (some ([])) (ga a0 a1 a2 ([]) 0))))))
def m6(a0:aC)(a1 a2:Int):Option aC:=m6.b N (m6.l5 N N) a0 a1 a2
abbrev gy.HO:=Int→ae→aq→aq→aC→bJ→Int→cv→Option (aq×(Int))
abbrev gy.fe:=Int→ae→aq→aq→aC→bJ→Int→Option (aq×(Int))
def gy.wo(di:gy.fe)(x2:Int)(x3:ae)(x4 x6:aq)(x8:aC)(x9:bJ)(bn:Int)(a8:cv):Option (aq×(Int)):=
 (Q7 N x4 a8.1).bind λnV=>cond (aT nV 0) ((kF N nV).bind λqc=>(Vt N qc).bind λqd=>(Cu N 2 0 5 a8.1 qd).bind λtG=>cond (small (ℓ x9+ℓ tG)) ((m6 N x4.2.2.2.1 a8.1 0).bind λzG=>cond (small (ℓ x8+ℓ zG)) (di x2 x3 x4 x6 (x8++zG) (x9++tG) (W .i64 (bn+1))) none) none) ((m6 N x4.2.2.2.1 a8.1 0).bind λDR=>cond (small (ℓ x8+ℓ DR)) (di x2 x3 x4 x6 (x8++DR) x9 (W .i64 (bn+1))) none)
def gy.Cp(di:gy.fe)(x2:Int)(x3:ae)(x4 x6:aq)(x8:aC)(x9:bJ)(bn:Int)(a8:cv):Option (aq×(Int)):=gy.wo N di x2 x3 x4 x6 x8 x9 bn a8
def gy.zo(wb:gy.HO)(di:gy.fe)(x2:Int)(x3:ae)(x4 x6:aq)(x8:aC)(x9:bJ)(bn:Int):Option (aq×(Int)):=
 cond (aT bn (ℓ x4.2.1)) (cond (a7 bn (ℓ x4.2.1)) (cond (!aM (γ x4.2.1 bn.toNat aQ).2.1 x2) (di x2 x3 x4 x6 x8 x9 (W .i64 (bn+1))) (cond (aM (γ x4.2.1 bn.toNat aQ).2.2.1 2) ((abi N x3 x4 (γ x4.2.1 bn.toNat aQ).1).bind λr5=>(kF N r5.1).bind λr6=>(Cu N 5 (γ x4.2.1 bn.toNat aQ).1 2 0 r6).bind λr7=>cond (small (ℓ x9+ℓ r7)) (wb x2 x3 x4 x6 x8 (x9++r7) bn (γ x4.2.1 bn.toNat aQ)) none) (wb x2 x3 x4 x6 x8 x9 bn (γ x4.2.1 bn.toNat aQ)))) none) ((Bu N x4 x8 x9).bind λS7=>some (S7.1,S7.2))
def gy.l8(N:Nat):Nat→gy.fe
 |0,_,_,_,_,_,_,_=>none
 |n+1,x2,x3,x4,x6,x8,x9,bn=>gy.zo N (gy.Cp N (gy.l8 N n)) (gy.l8 N n) x2 x3 x4 x6 x8 x9 bn
def gy.b(CG:gy.fe)(a0:ae)(a1:aq)(a2:Int):Option (aq×(Int)):=
 (fY N a0 a1).bind λr1=>cond (!r1) (some ((bM,(dh,(cf,(cf,(dW,(eu,())))))),1)) ((Ll N a1 a2).bind λr2=>cond (aM r2 0) (some ((bM,(dh,(cf,(cf,(dW,(eu,())))))),3)) (CG a2 a0 a1 (bM,(dh,(cf,(cf,(dW,(eu,())))))) ([]) ([]) 0))
def gy(a0:ae)(a1:aq)(a2:Int):Option (aq×(Int)):=gy.b N (gy.l8 N N) a0 a1 a2
abbrev Dx.bT:=aC→Int→Int→Int→Option Int
def Dx.ew(N:Nat)(cB:Dx.bT)(x0:aC)(x1 x2 x7:Int):Option Int:=
 cond (aT x7 (ℓ x0)) (cond (a7 x7 (ℓ x0)) (cond (aM (γ x0 x7.toNat bW).1 x1) (cond (a7 x7 (ℓ x0)) (cond (aM (γ x0 x7.toNat bW).2.1 x2) (cond (a7 x7 (ℓ x0)) (some (γ x0 x7.toNat bW).2.2.1) none) (cB x0 x1 x2 (W .i64 (x7+1)))) none) (cB x0 x1 x2 (W .i64 (x7+1)))) none) (some 0)
def Dx.l4(N:Nat):Nat→Dx.bT
 |0,_,_,_,_=>none
 |n+1,x0,x1,x2,x7=>Dx.ew N (Dx.l4 N n) x0 x1 x2 x7
def Dx.b(fN:Dx.bT)(a0:aC)(a1 a2:Int):Option Int:=
 (zB N a0).bind λr1=>cond (!r1) (some 0) (fN a0 a1 a2 0)
def Dx(a0:aC)(a1 a2:Int):Option Int:=Dx.b N (Dx.l4 N N) a0 a1 a2
abbrev sd.cc:=ae→aq→pD→Int→Option (pD×(Int))
def sd.e8(bX:sd.cc)(x2:ae)(x3:aq)(x6:pD)(x7:Int):Option (pD×(Int)):=
 cond (aT x7 (ℓ x2.1)) (cond (a7 x7 (ℓ x2.1)) (cond (a7 (γ x2.1 x7.toNat aQ).1 (ℓ x6)) ((Dx N x3.2.2.2.1 0 x7).bind λr4=>(kF N r4).bind λr5=>cond (a7 x7 (ℓ x3.2.2.2.2.1)) ((kF N (γ x3.2.2.2.2.1 x7.toNat 0)).bind λr6=>(jZ N r5 r6).bind λr7=>(AZ N (γ x6 (γ x2.1 x7.toNat aQ).1.toNat (false,pQ)) r7).bind λr8=>cond (a7 (γ x2.1 x7.toNat aQ).1 (ℓ x6)) (bX x2 x3 (List.set x6 (γ x2.1 x7.toNat aQ).1.toNat r8) (W .i64 (x7+1))) none) none) none) none) (some (x6,0))
def sd.l5(N:Nat):Nat→sd.cc
 |0,_,_,_,_=>none
 |n+1,x2,x3,x6,x7=>sd.e8 N (sd.l5 N n) x2 x3 x6 x7
def sd.b(ga:sd.cc)(a0:ae)(a1:aq):Option (pD×(Int)):=
 (fY N a0 a1).bind λr1=>cond (!r1) (some ([],1)) (cond (iP 4 4) (ga a0 a1 (List.replicate (4:Int).toNat (false,pQ)) 0) none)
def sd(a0:ae)(a1:aq):Option (pD×(Int)):=sd.b N (sd.l5 N N) a0 a1
abbrev pz.cc:=Int→ae→(List Int)→Int→Option (List Int)
def pz.e8(N:Nat)(bX:pz.cc)(x1:Int)(x2:ae)(x5:List Int)(x6:Int):Option (List Int):=
 cond (aT x6 (ℓ x2.1)) (cond (a7 x6 (ℓ x2.1)) (cond (aM (γ x2.1 x6.toNat aQ).1 x1) (cond (small (ℓ x5+ℓ ([x6]))) (bX x1 x2 (x5++([x6])) (W .i64 (x6+1))) none) (bX x1 x2 x5 (W .i64 (x6+1)))) none) (some x5)
def pz.l5(N:Nat):Nat→pz.cc
 |0,_,_,_,_=>none
 |n+1,x1,x2,x5,x6=>pz.e8 N (pz.l5 N n) x1 x2 x5 x6
def pz.b(ga:pz.cc)(a0:ae)(a1:Int):Option (List Int):=
 (zm N a0).bind λr1=>cond (!r1) (some ([])) (ga a1 a0 ([]) 0)
def pz(a0:ae)(a1:Int):Option (List Int):=pz.b N (pz.l5 N N) a0 a1
abbrev pX.bT:=(List Int)→(List Int)→Int→Int→Option ((List Int)×(Int))
def pX.ew(cB:pX.bT)(x0 x4:List Int)(x5 x6:Int):Option ((List Int)×(Int)):=
 cond (cY 0 x6) (cond (aT 32 0) none (cond (a7 x6 (ℓ x0)) (let v5:Int:=mX .or .u64 (W .u64 (shl .u64 x5 32)) (γ x0 x6.toNat 0);cond (aT 1 0) none (cond (a7 x6 (ℓ x4)) (cB x0 (List.set x4 x6.toNat (shr .u64 v5 1)) (mX .and .u64 v5 1) (W .i64 (x6-1))) none)) none)) ((om N x4).bind λnV=>some (nV,x5))
def pX.l4(N:Nat):Nat→pX.bT
 |0,_,_,_,_=>none
 |n+1,x0,x4,x5,x6=>pX.ew N (pX.l4 N n) x0 x4 x5 x6
def pX.b(N:Nat)(fN:pX.bT)(a0:List Int):Option ((List Int)×(Int)):=
 cond (iP (ℓ a0) (ℓ a0)) (fN a0 (List.replicate (ℓ a0:Int).toNat 0) 0 (W .i64 ((ℓ a0:Int)-1))) none
def pX(a0:List Int):Option ((List Int)×(Int)):=pX.b N (pX.l4 N N) a0
abbrev iE.oG:=aH→aH→aH→aH→(List Int)→aH→aH→Int→Option (aH×aH)
abbrev iE.dd:=aH→aH→aH→aH→(List Int)→(List Int)→Option (aH×aH)
def iE.zA(uO:iE.oG)(x2 x3:aH)(x4 x5:aH)(x6:List Int)(bn a8:aH)(bp:Int):Option (aH×aH):=
 cond (cY 0 bp) ((AZ N bn bn).bind λr6=>(AZ N a8 a8).bind λr7=>cond (a7 bp (ℓ x6)) (cond (aM (γ x6 bp.toNat 0) 1) ((kF N 1).bind λr8=>(AZ N r7 r8).bind λr9=>(Qd N r9 x3).bind λnV=>cond (cY 0 nV) ((Si N r9 x3).bind λqc=>(kF N 1).bind λqd=>(AZ N r6 qd).bind λtG=>uO x2 x3 x4 x5 x6 tG qc (W .i64 (bp-1))) (uO x2 x3 x4 x5 x6 r6 r9 (W .i64 (bp-1)))) ((Qd N r7 x3).bind λEu=>cond (cY 0 Eu) ((Si N r7 x3).bind λBC=>(kF N 1).bind λDR=>(AZ N r6 DR).bind λPd=>uO x2 x3 x4 x5 x6 Pd BC (W .i64 (bp-1))) (uO x2 x3 x4 x5 x6 r6 r7 (W .i64 (bp-1))))) none) (cond (!x2.1) (some (bn,a8)) ((Sj N a8).bind λQf=>cond (aM Qf 0) ((Vt N bn).bind λL4=>some (L4,a8)) ((Vt N bn).bind λL8=>(kF N 1).bind λL9=>(Si N L8 L9).bind λDQ=>(Si N x3 a8).bind λVh=>some (DQ,Vh))))
def iE.l9(N:Nat):Nat→iE.oG
 |0,_,_,_,_,_,_,_,_=>none
 |n+1,x2,x3,x4,x5,x6,bn,a8,bp=>iE.zA N (iE.l9 N n) x2 x3 x4 x5 x6 bn a8 bp
def iE.lD(CH:iE.oG)(cX:iE.dd)(x2 x3:aH)(x4 x5:aH)(x6 x7:List Int):Option (aH×aH):=
 cond (aT 0 (ℓ x7)) ((pX N x7).bind λr2=>cond (small (ℓ x6+ℓ ([r2.2]))) (cX x2 x3 x4 x5 (x6++([r2.2])) r2.1) none) (CH x2 x3 x4 x5 x6 (false,pQ) (false,pQ) (W .i64 ((ℓ x6:Int)-1)))
def iE.l3(N:Nat):Nat→iE.dd
 |0,_,_,_,_,_,_=>none
 |n+1,x2,x3,x4,x5,x6,x7=>iE.lD N (iE.l9 N N) (iE.l3 N n) x2 x3 x4 x5 x6 x7
def iE.b(N:Nat)(mL:iE.dd)(a0 a1:aH):Option (aH×aH):=
 mL a0 a1 (false,pQ) (false,pQ) ([]) a0.2.1
def iE(a0 a1:aH):Option (aH×aH):=iE.b N (iE.l3 N N) a0 a1
abbrev jf.HO:=Int→ae→aq→pD→aO→Int→(List Int)→Int→Option (aO×(Int))
abbrev jf.jL:=Int→ae→aq→pD→aO→Int→Option (aO×(Int))
def jf.wo(ll:jf.jL)(x2:Int)(x3:ae)(x4:aq)(x8:pD)(bn:aO)(a8:Int)(bp:List Int)(dO:Int):Option (aO×(Int)):=
 cond (aM dO 0) (ll x2 x3 x4 x8 bn (W .i64 (a8+1))) (cond (a7 0 (ℓ bp)) (cond (a7 a8 (ℓ x8)) ((Sj N (γ x8 a8.toNat (false,pQ))).bind λwq=>cond (aT 0 wq) (cond (small (ℓ bn+ℓ ([(x2,(γ bp (0:Int).toNat 0,(2,(dO,()))))]))) (ll (W .i64 (x2+1)) x3 x4 x8 (bn++([(x2,(γ bp (0:Int).toNat 0,(2,(dO,()))))])) (W .i64 (a8+1))) none) (cond (small (ℓ bn+ℓ ([(x2,(γ bp (0:Int).toNat 0,(1,(dO,()))))]))) (ll (W .i64 (x2+1)) x3 x4 x8 (bn++([(x2,(γ bp (0:Int).toNat 0,(1,(dO,()))))])) (W .i64 (a8+1))) none)) none) none)
def jf.Cp(ll:jf.jL)(x2:Int)(x3:ae)(x4:aq)(x8:pD)(bn:aO)(a8:Int)(bp:List Int)(dO:Int):Option (aO×(Int)):=jf.wo N ll x2 x3 x4 x8 bn a8 bp dO
def jf.vX(wb:jf.HO)(ll:jf.jL)(x2:Int)(x3:ae)(x4:aq)(x8:pD)(bn:aO)(a8:Int):Option (aO×(Int)):=
 cond (aT a8 4) ((pz N x3 a8).bind λr3=>cond (a7 a8 (ℓ x8)) ((WX N (γ x8 a8.toNat (false,pQ))).bind λr4=>cond (aM (ℓ r3) 0) (ll x2 x3 x4 x8 bn (W .i64 (a8+1))) ((kF N x3.2.2.2.2.2.2.1).bind λr6=>(Qd N r4 r6).bind λr7=>cond (cY r7 0) (ll x2 x3 x4 x8 bn (W .i64 (a8+1))) (cond (a7 0 (ℓ r3)) (cond (a7 (γ r3 (0:Int).toNat 0) (ℓ x4.2.2.2.2.1)) ((kF N (γ x4.2.2.2.2.1 (γ r3 (0:Int).toNat 0).toNat 0)).bind λr9=>(iE N r4 r9).bind λnV=>(NJ N nV.1).bind λqc=>cond (!qc.2) (wb x2 x3 x4 x8 bn a8 r3 1000000000) (cond (aT 1000000000 qc.1) (wb x2 x3 x4 x8 bn a8 r3 1000000000) (wb x2 x3 x4 x8 bn a8 r3 qc.1))) none) none))) none) (some (bn,0))
def jf.l6(N:Nat):Nat→jf.jL
 |0,_,_,_,_,_,_=>none
 |n+1,x2,x3,x4,x8,bn,a8=>jf.vX N (jf.Cp N (jf.l6 N n)) (jf.l6 N n) x2 x3 x4 x8 bn a8
def jf.b(xF:jf.jL)(a0:ae)(a1:aq)(a2:Int):Option (aO×(Int)):=
 (sd N a0 a1).bind λr1=>cond (!aM r1.2 0) (some ([],1)) (cond (aT a2 1) (some ([],1)) (cond (aT 1099511627772 a2) (some ([],1)) (xF a2 a0 a1 r1.1 ([]) 0)))
def jf(a0:ae)(a1:aq)(a2:Int):Option (aO×(Int)):=jf.b N (jf.l6 N N) a0 a1 a2
def aaP(N:Nat)(a0:cv):Option Bool:=
 cond (cY 1 a0.1) (cond (cY a0.1 1099511627776) (cond (cY 0 a0.2.1) (cond (aT a0.2.1 6) (cond (aM a0.2.2.1 1) (cond (cY 1 a0.2.2.2.1) (some (cY a0.2.2.2.1 1000000000)) (some false)) (cond (aM a0.2.2.1 2) (cond (cY 1 a0.2.2.2.1) (some (cY a0.2.2.2.1 1000000000)) (some false)) (some false))) (some false)) (some false)) (some false)) (some false)
abbrev p5.an5:=Int→ae→aq→cv→aq→cv→tB→Option (aq×cv×(Int))
def p5.aaW(x4:Int)(x6:ae)(x7:aq)(x8:cv)(bp:aq)(cq:cv)(dx:tB):Option (aq×cv×(Int)):=
 (gw N x6 x7 ([dx])).bind λr6=>cond (!aM r6.2 0) (some ((bM,(dh,(cf,(cf,(dW,(eu,())))))),aQ,r6.2)) (some (r6.1,(x8.1,(x8.2.1,(x8.2.2.1,((W .i64 (x8.2.2.2.1-x4)),x8.2.2.2.2)))),0))
def p5.j14(x4:Int)(x6:ae)(x7:aq)(x8:cv)(bp:aq)(cq:cv)(dx:tB):Option (aq×cv×(Int)):=p5.aaW N x4 x6 x7 x8 bp cq dx
def p5.b(af9:p5.an5)(a0:ae)(a1:aq)(a2:cv)(a3 a4 a5:Int):Option (aq×cv×(Int)):=
 (fY N a0 a1).bind λr1=>cond (!r1) (some ((bM,(dh,(cf,(cf,(dW,(eu,())))))),aQ,1)) ((aaP N a2).bind λr2=>cond (!r2) (some ((bM,(dh,(cf,(cf,(dW,(eu,())))))),aQ,1)) (cond (aT a4 1) (some ((bM,(dh,(cf,(cf,(dW,(eu,())))))),aQ,1)) (cond (aT 1000000000 a4) (some ((bM,(dh,(cf,(cf,(dW,(eu,())))))),aQ,1)) (cond (aT a5 1) (some ((bM,(dh,(cf,(cf,(dW,(eu,())))))),aQ,1)) (cond (aT 1000000000000 a5) (some ((bM,(dh,(cf,(cf,(dW,(eu,())))))),aQ,1)) (cond (aT a2.2.2.2.1 a4) (some ((bM,(dh,(cf,(cf,(dW,(eu,())))))),aQ,9)) (cond (aT a3 1) (some ((bM,(dh,(cf,(cf,(dW,(eu,())))))),aQ,1)) (cond (aT 24 a3) (some ((bM,(dh,(cf,(cf,(dW,(eu,())))))),aQ,1)) ((XF N a0 a1 (a2.1,(a3,(a2.2.1,((W .i64 (3-a2.2.2.1)),(a4,(a5,()))))))).bind λr4=>cond (!aM r4 0) (some ((bM,(dh,(cf,(cf,(dW,(eu,())))))),aQ,r4)) (cond (aM a2.2.2.1 2) (af9 a4 a0 a1 a2 (bM,(dh,(cf,(cf,(dW,(eu,())))))) aQ (a3,(0,(a2.2.1,(a4,(a5,())))))) (af9 a4 a0 a1 a2 (bM,(dh,(cf,(cf,(dW,(eu,())))))) aQ (0,(a3,(a2.2.1,(a4,(a5,()))))))))))))))))
def p5(a0:ae)(a1:aq)(a2:cv)(a3 a4 a5:Int):Option (aq×cv×(Int)):=p5.b N (p5.j14 N) a0 a1 a2 a3 a4 a5
abbrev nR.cc:=ae→aV→ia→aV→eP→aO→Bool→Int→Int→Option (aV×eP)
def nR.e8(bX:nR.cc)(x3:ae)(x4:aV)(x5:ia)(x6:aV)(x7:eP)(x8:aO)(x9:Bool)(bn a8:Int):Option (aV×eP):=
 cond (aT a8 (ℓ x4.2.2.2.1.2.2.2.2.1)) (cond (a7 a8 (ℓ x4.2.2.2.1.2.2.2.2.1)) (cond (aM (γ x4.2.2.2.1.2.2.2.2.1 a8.toNat aQ).1 x5.2.2.2.2.2.1) ((p5 N x3 x4.2.2.1 (γ x4.2.2.2.1.2.2.2.2.1 a8.toNat aQ) x5.2.2.1 x5.2.2.2.2.2.2.1 x5.2.2.2.2.2.2.2.1).bind λr2=>cond (!aM r2.2.2 0) ((fp N r2.2.2).bind λr3=>some (x4,r3)) (cond (aT 0 r2.2.1.2.2.2.1) (cond (small (ℓ x8+ℓ ([r2.2.1]))) (bX x3 (x4.1,(x4.2.1,(r2.1,x4.2.2.2))) x5 x6 x7 (x8++([r2.2.1])) true r2.2.1.2.2.2.1 (W .i64 (a8+1))) none) (bX x3 (x4.1,(x4.2.1,(r2.1,x4.2.2.2))) x5 x6 x7 x8 true r2.2.1.2.2.2.1 (W .i64 (a8+1))))) (cond (aT 0 (γ x4.2.2.2.1.2.2.2.2.1 a8.toNat aQ).2.2.2.1) (cond (small (ℓ x8+ℓ ([γ x4.2.2.2.1.2.2.2.2.1 a8.toNat aQ]))) (bX x3 x4 x5 x6 x7 (x8++([γ x4.2.2.2.1.2.2.2.2.1 a8.toNat aQ])) x9 bn (W .i64 (a8+1))) none) (bX x3 x4 x5 x6 x7 x8 x9 bn (W .i64 (a8+1))))) none) (cond (!x9) ((fp N 3).bind λnV=>some (x4,nV)) (some ((x4.1,(x4.2.1,(x4.2.2.1,((x4.2.2.2.1.1,(x4.2.2.2.1.2.1,(x4.2.2.2.1.2.2.1,(x4.2.2.2.1.2.2.2.1,(x8,x4.2.2.2.1.2.2.2.2.2))))),x4.2.2.2.2)))),(0,(0,(bn,()))))))
def nR.l5(N:Nat):Nat→nR.cc
 |0,_,_,_,_,_,_,_,_,_=>none
 |n+1,x3,x4,x5,x6,x7,x8,x9,bn,a8=>nR.e8 N (nR.l5 N n) x3 x4 x5 x6 x7 x8 x9 bn a8
def nR.b(N:Nat)(ga:nR.cc)(a0:ae)(a1:aV)(a2:ia):Option (aV×eP):=
 ga a0 a1 a2 (0,(0,((bM,(dh,(cf,(cf,(dW,(eu,())))))),((0,(0,(0,(0,(dh,(([]:List ((Int)×((List ((Int)×((Int)×(Unit))))×((Int)×((Int)×((Int)×((Int)×(Unit)))))))),(dh,(dW,(bM,(bM,())))))))))),((0,(0,(ED,(0,())))),()))))) bW ([]) false 0 0
def nR(a0:ae)(a1:aV)(a2:ia):Option (aV×eP):=nR.b N (nR.l5 N N) a0 a1 a2
abbrev Hc.bT:=Int→aH→Int→Option Int
def Hc.ew(cB:Hc.bT)(x1:Int)(x2:aH)(x5:Int):Option Int:=
 cond (aT x5 3) ((kF N x5).bind λr3=>(kF N x1).bind λr4=>(jZ N r3 r4).bind λr5=>(Qd N r5 x2).bind λr6=>cond (aT r6 0) (cB x1 x2 (W .i64 (x5+1))) (some x5)) (some x5)
def Hc.l4(N:Nat):Nat→Hc.bT
 |0,_,_,_=>none
 |n+1,x1,x2,x5=>Hc.ew N (Hc.l4 N n) x1 x2 x5
def Hc.b(fN:Hc.bT)(a0:aH)(a1:Int):Option Int:=
 (Sj N a0).bind λr1=>cond (cY r1 0) (some 0) (cond (aT a1 1) (some 0) (fN a1 a0 1))
def Hc(a0:aH)(a1:Int):Option Int:=Hc.b N (Hc.l4 N N) a0 a1
abbrev p3.bT:=(List Int)→Int→Option Bool
def p3.ew(N:Nat)(cB:p3.bT)(x1:List Int)(x5:Int):Option Bool:=
 cond (aT x5 (ℓ x1)) (cond (a7 x5 (ℓ x1)) (cond (aT (γ x1 x5.toNat 0) 0) (some true) (cB x1 (W .i64 (x5+1)))) none) (some false)
def p3.l4(N:Nat):Nat→p3.bT
 |0,_,_=>none
 |n+1,x1,x5=>p3.ew N (p3.l4 N n) x1 x5
def p3.b(N:Nat)(fN:p3.bT)(a0:Int)(a1:List Int):Option Bool:=
 cond (aT a0 0) (some true) (cond (aT 64 (ℓ a1)) (some true) (fN a1 0))
def p3(a0:Int)(a1:List Int):Option Bool:=p3.b N (p3.l4 N N) a0 a1
abbrev pW.dd:=(List Int)→aH→aH→Int→Option aH
def pW.lD(cX:pW.dd)(x0:List Int)(x2 x3:aH)(x4:Int):Option aH:=
 cond (aT x4 (ℓ x0)) (cond (a7 x4 (ℓ x0)) ((kF N (γ x0 x4.toNat 0)).bind λr2=>(AZ N x3 r2).bind λr3=>cX x0 x2 r3 (W .i64 (x4+1))) none) (some x3)
def pW.l3(N:Nat):Nat→pW.dd
 |0,_,_,_,_=>none
 |n+1,x0,x2,x3,x4=>pW.lD N (pW.l3 N n) x0 x2 x3 x4
def pW.b(N:Nat)(mL:pW.dd)(a0:List Int):Option aH:=
 mL a0 (false,pQ) (false,pQ) 0
def pW(a0:List Int):Option aH:=pW.b N (pW.l3 N N) a0
abbrev fy.LG:=(List Int)→(List Int)→Int→Int→Option (List Int)
abbrev fy.jL:=(List Int)→(List Int)→Int→Int→Option (List Int)
abbrev fy.dd:=(List Int)→(List Int)→Int→Option (List Int)
def fy.JC(N:Nat)(cX:fy.dd)(x0 x3:List Int)(x4 x5:Int):Option (List Int):=
 cond (jA 0 x5 (ℓ x3) (ℓ x3)) (let v5:List Int:=List.drop (0:Int).toNat (List.take x5.toNat x3);cond (small (ℓ v5)) (cond (small (ℓ v5+ℓ ([x4]))) (let v6:List Int:=v5++([x4]);cond (jA x5 (ℓ x3) (ℓ x3) (ℓ x3)) (let v7:List Int:=List.drop x5.toNat (List.take (ℓ x3:Int).toNat x3);cond (small (ℓ v6+ℓ v7)) (cX x0 (v6++v7) (W .i64 (x4+1))) none) none) none) none) none
def fy.j8(cX:fy.dd)(x0 x3:List Int)(x4 x5:Int):Option (List Int):=fy.JC N cX x0 x3 x4 x5
def fy.vX(N:Nat)(BD:fy.LG)(cX:fy.dd)(ll:fy.jL)(x0 x3:List Int)(x4 x5:Int):Option (List Int):=
 cond (aT x5 (ℓ x3)) (cond (a7 x5 (ℓ x3)) (cond (a7 (γ x3 x5.toNat 0) (ℓ x0)) (cond (a7 x4 (ℓ x0)) (cond (cY (γ x0 x4.toNat 0) (γ x0 (γ x3 x5.toNat 0).toNat 0)) (ll x0 x3 x4 (W .i64 (x5+1))) (BD x0 x3 x4 x5)) none) none) none) (BD x0 x3 x4 x5)
def fy.l6(N:Nat)(cX:fy.dd):Nat→fy.jL
 |0,_,_,_,_=>none
 |n+1,x0,x3,x4,x5=>fy.vX N (fy.j8 N cX) cX (fy.l6 N cX n) x0 x3 x4 x5
def fy.lD(N:Nat)(xF:fy.jL)(cX:fy.dd)(x0 x3:List Int)(x4:Int):Option (List Int):=
 cond (aT x4 (ℓ x0)) (xF x0 x3 x4 0) (some x3)
def fy.l3(N:Nat):Nat→fy.dd
 |0,_,_,_=>none
 |n+1,x0,x3,x4=>fy.lD N (fy.l6 N (fy.l3 N n) N) (fy.l3 N n) x0 x3 x4
def fy.b(N:Nat)(mL:fy.dd)(a0:List Int):Option (List Int):=
 mL a0 ([]) 0
def fy(a0:List Int):Option (List Int):=fy.b N (fy.l3 N N) a0
abbrev pA.sv:=(List Int)→Int→(List Int)→Int→Option ((List Int)×(Int))
abbrev pA.xK:=Int→(List Int)→aH→(List Int)→(List Int)→Int→Int→Option ((List Int)×(Int))
abbrev pA.YL:=Int→(List Int)→aH→Option ((List Int)×(Int))
def pA.wm(N:Nat)(HH:pA.sv)(x9:List Int)(a8:Int)(cG:List Int)(dO:Int):Option ((List Int)×(Int)):=
 cond (aT dO (ℓ cG)) (cond (aT 0 a8) (cond (a7 dO (ℓ cG)) (cond (a7 (γ cG dO.toNat 0) (ℓ x9)) (cond (a7 (γ cG dO.toNat 0) (ℓ x9)) (HH (List.set x9 (γ cG dO.toNat 0).toNat (W .i64 ((γ x9 (γ cG dO.toNat 0).toNat 0)+1))) (W .i64 (a8-1)) cG (W .i64 (dO+1))) none) none) none) (some (x9,0))) (some (x9,0))
def pA.xq(N:Nat):Nat→pA.sv
 |0,_,_,_,_=>none
 |n+1,x9,a8,cG,dO=>pA.wm N (pA.xq N n) x9 a8 cG dO
def pA.GY(HI:pA.sv)(DT:pA.xK)(x0:Int)(x1:List Int)(x6:aH)(x9 bn:List Int)(a8 bp:Int):Option ((List Int)×(Int)):=
 cond (aT bp (ℓ x1)) ((kF N x0).bind λnV=>cond (a7 bp (ℓ x1)) ((kF N (γ x1 bp.toNat 0)).bind λqc=>(jZ N nV qc).bind λqd=>(iE N qd x6).bind λtG=>(NJ N tG.1).bind λwq=>cond (a7 bp (ℓ x9)) (let Vx:List Int:=List.set x9 bp.toNat wq.1;(NJ N tG.2).bind λEu=>cond (a7 bp (ℓ bn)) (cond (a7 bp (ℓ Vx)) (DT x0 x1 x6 Vx (List.set bn bp.toNat Eu.1) (W .i64 (a8-(γ Vx bp.toNat 0))) (W .i64 (bp+1))) none) none) none) none) ((fy N bn).bind λO4=>HI x9 a8 O4 0)
def pA.JK(N:Nat):Nat→pA.xK
 |0,_,_,_,_,_,_,_=>none
 |n+1,x0,x1,x6,x9,bn,a8,bp=>pA.GY N (pA.xq N N) (pA.JK N n) x0 x1 x6 x9 bn a8 bp
def pA.T7(Pb:pA.xK)(x0:Int)(x1:List Int)(x6:aH):Option ((List Int)×(Int)):=
 (NJ N x6).bind λr5=>cond (!r5.2) (some ([],2)) (cond (iP (ℓ x1) (ℓ x1)) (let v6:List Int:=List.replicate (ℓ x1:Int).toNat 0;cond (iP (ℓ x1) (ℓ x1)) ((Sj N x6).bind λr8=>cond (aM r8 0) (some (v6,0)) (Pb x0 x1 x6 v6 (List.replicate (ℓ x1:Int).toNat 0) x0 0)) none) none)
def pA.j6(x0:Int)(x1:List Int)(x6:aH):Option ((List Int)×(Int)):=pA.T7 N (pA.JK N N) x0 x1 x6
def pA.b(LJ:pA.YL)(a0:Int)(a1:List Int):Option ((List Int)×(Int)):=
 (p3 N a0 a1).bind λr1=>cond (r1) (some ([],1)) ((pW N a1).bind λr2=>(Sj N r2).bind λr3=>cond (aM r3 0) (cond (!aM a0 0) (some ([],1)) (LJ a0 a1 r2)) (LJ a0 a1 r2))
def pA(a0:Int)(a1:List Int):Option ((List Int)×(Int)):=pA.b N (pA.j6 N) a0 a1
abbrev GZ.cc:=Int→Int→(List Int)→Int→Option ((List Int)×(Int))
def GZ.e8(bX:GZ.cc)(x0 x1:Int)(x6:List Int)(x7:Int):Option ((List Int)×(Int)):=
 cond (aT x7 x1) (cond (a7 x7 (ℓ x6)) (bX x0 x1 (List.set x6 x7.toNat 1) (W .i64 (x7+1))) none) ((pA N x0 x6).bind λr5=>some (r5.1,r5.2))
def GZ.l5(N:Nat):Nat→GZ.cc
 |0,_,_,_,_=>none
 |n+1,x0,x1,x6,x7=>GZ.e8 N (GZ.l5 N n) x0 x1 x6 x7
def GZ.b(N:Nat)(ga:GZ.cc)(a0 a1:Int):Option ((List Int)×(Int)):=
 cond (aT a0 0) (some ([],1)) (cond (aT a1 1) (some ([],1)) (cond (aT 64 a1) (some ([],1)) (cond (iP a1 a1) (ga a0 a1 (List.replicate a1.toNat 0) 0) none)))
def GZ(a0 a1:Int):Option ((List Int)×(Int)):=GZ.b N (GZ.l5 N N) a0 a1
abbrev ei.an6:=Int→ae→aB→aN→Int→aB→Int→Int→eE→aB→Int→(List Int)→Option (aN×(Int))
abbrev ei.O1:=Int→ae→aB→aN→Int→aB→Int→Int→eE→aB→Int→Int→Option (aN×(Int))
abbrev ei.nT:=Int→ae→aB→aN→Int→aB→Int→Int→eE→aB→Int→Option (aN×(Int))
abbrev ei.uP:=Int→ae→aB→aN→Int→aB→Int→Int→Option (aN×(Int))
abbrev ei.je:=Int→ae→aB→aN→Int→aB→aH→Int→Option (aN×(Int))
abbrev ei.fe:=Int→ae→aB→aN→Int→Option (aN×(Int))
def ei.aif(N:Nat)(di:ei.fe)(mW:ei.uP)(od:ei.nT)(x2:Int)(x3:ae)(x8:aB)(x9:aN)(bn:Int)(a8:aB)(cy cG:Int)(dO:eE)(vO:aB)(dx:Int)(nW:List Int):Option (aN×(Int)):=
 cond (a7 cG (ℓ nW)) (cond (!aM (γ nW cG.toNat 0) 0) (cond (a7 dx (ℓ a8)) (cond (a7 cG (ℓ nW)) (cond (small (ℓ vO+ℓ ([((γ a8 dx.toNat ct).1,(γ nW cG.toNat 0,()))]))) (od x2 x3 x8 x9 bn a8 cy cG (dO.1,(bM,dO.2.2)) (vO++([((γ a8 dx.toNat ct).1,(γ nW cG.toNat 0,()))])) (W .i64 (dx+1))) none) none) none) (od x2 x3 x8 x9 bn a8 cy cG dO vO (W .i64 (dx+1)))) none
def ei.j32(di:ei.fe)(mW:ei.uP)(od:ei.nT)(x2:Int)(x3:ae)(x8:aB)(x9:aN)(bn:Int)(a8:aB)(cy cG:Int)(dO:eE)(vO:aB)(dx:Int)(nW:List Int):Option (aN×(Int)):=ei.aif N di mW od x2 x3 x8 x9 bn a8 cy cG dO vO dx nW
def ei.Ep(aga:ei.an6)(di:ei.fe)(mW:ei.uP)(od:ei.nT)(x2:Int)(x3:ae)(x8:aB)(x9:aN)(bn:Int)(a8:aB)(cy cG:Int)(dO:eE)(vO:aB)(dx lE:Int):Option (aN×(Int)):=
 (GZ N lE cy).bind λEu=>cond (a7 dx (ℓ a8)) (cond (aT (γ a8 dx.toNat ct).2.1 0) (cond (a7 cG (ℓ Eu.1)) (cond (a7 cG (ℓ Eu.1)) (aga x2 x3 x8 x9 bn a8 cy cG dO vO dx (List.set Eu.1 cG.toNat (W .i64 (0-(γ Eu.1 cG.toNat 0))))) none) none) (aga x2 x3 x8 x9 bn a8 cy cG dO vO dx Eu.1)) none
def ei.L1(di:ei.fe)(mW:ei.uP)(od:ei.nT)(x2:Int)(x3:ae)(x8:aB)(x9:aN)(bn:Int)(a8:aB)(cy cG:Int)(dO:eE)(vO:aB)(dx lE:Int):Option (aN×(Int)):=ei.Ep N (ei.j32 N di mW od) di mW od x2 x3 x8 x9 bn a8 cy cG dO vO dx lE
def ei.yE(DP:ei.O1)(di:ei.fe)(mW:ei.uP)(od:ei.nT)(x2:Int)(x3:ae)(x8:aB)(x9:aN)(bn:Int)(a8:aB)(cy cG:Int)(dO:eE)(vO:aB)(dx:Int):Option (aN×(Int)):=
 cond (aT dx (ℓ a8)) (cond (a7 dx (ℓ a8)) (cond (aT (γ a8 dx.toNat ct).2.1 0) (DP x2 x3 x8 x9 bn a8 cy cG dO vO dx (W .i64 (0-((γ a8 dx.toNat ct).2.1)))) (DP x2 x3 x8 x9 bn a8 cy cG dO vO dx (γ a8 dx.toNat ct).2.1)) none) (cond (aM (ℓ vO) 0) (mW x2 x3 x8 x9 bn a8 cy (W .i64 (cG+1))) ((F40 N x3 vO).bind λL8=>(Vt N L8.1).bind λL9=>(NJ N L9).bind λDQ=>cond (!DQ.2) (some ([],2)) (cond (small (ℓ x9+ℓ ([(dO.1,(vO,(DQ.1,dO.2.2.2)))]))) (mW (W .i64 (x2+1)) x3 x8 (x9++([(dO.1,(vO,(DQ.1,dO.2.2.2)))])) bn a8 cy (W .i64 (cG+1))) none)))
def ei.xX(N:Nat)(di:ei.fe)(mW:ei.uP):Nat→ei.nT
 |0,_,_,_,_,_,_,_,_,_,_,_=>none
 |n+1,x2,x3,x8,x9,bn,a8,cy,cG,dO,vO,dx=>ei.yE N (ei.L1 N di mW (ei.xX N di mW n)) di mW (ei.xX N di mW n) x2 x3 x8 x9 bn a8 cy cG dO vO dx
def ei.OB(N:Nat)(HM:ei.nT)(di:ei.fe)(mW:ei.uP)(x2:Int)(x3:ae)(x8:aB)(x9:aN)(bn:Int)(a8:aB)(cy cG:Int):Option (aN×(Int)):=
 cond (aT cG cy) (HM x2 x3 x8 x9 bn a8 cy cG (x2,(bM,(0,(1,ct)))) bM 0) (di x2 x3 x8 x9 (W .i64 (bn+1)))
def ei.IT(N:Nat)(di:ei.fe):Nat→ei.uP
 |0,_,_,_,_,_,_,_,_=>none
 |n+1,x2,x3,x8,x9,bn,a8,cy,cG=>ei.OB N (ei.xX N di (ei.IT N di n) N) di (ei.IT N di n) x2 x3 x8 x9 bn a8 cy cG
def ei.m5(YN:ei.uP)(di:ei.fe)(pM:ei.je)(x2:Int)(x3:ae)(x8:aB)(x9:aN)(bn:Int)(a8:aB)(bp:aH)(cq:Int):Option (aN×(Int)):=
 cond (aT cq (ℓ x8)) (cond (a7 cq (ℓ x8)) (cond (a7 (γ x8 cq.toNat ct).1 (ℓ x3.1)) (cond (aM (γ x3.1 (γ x8 cq.toNat ct).1.toNat aQ).1 bn) (cond (a7 cq (ℓ x8)) (cond (small (ℓ a8+ℓ ([γ x8 cq.toNat ct]))) (cond (a7 cq (ℓ x8)) ((kF N (γ x8 cq.toNat ct).2.1).bind λr6=>(WX N r6).bind λr7=>(AZ N bp r7).bind λr8=>pM x2 x3 x8 x9 bn (a8++([γ x8 cq.toNat ct])) r8 (W .i64 (cq+1))) none) none) none) (pM x2 x3 x8 x9 bn a8 bp (W .i64 (cq+1)))) none) none) ((Hc N bp x3.2.2.2.2.2.1).bind λqc=>YN x2 x3 x8 x9 bn a8 qc 0)
def ei.oU(N:Nat)(di:ei.fe):Nat→ei.je
 |0,_,_,_,_,_,_,_,_=>none
 |n+1,x2,x3,x8,x9,bn,a8,bp,cq=>ei.m5 N (ei.IT N di N) di (ei.oU N di n) x2 x3 x8 x9 bn a8 bp cq
def ei.zo(N:Nat)(uN:ei.je)(di:ei.fe)(x2:Int)(x3:ae)(x8:aB)(x9:aN)(bn:Int):Option (aN×(Int)):=
 cond (aT bn 4) (uN x2 x3 x8 x9 bn ([]) (false,pQ) 0) (some (x9,0))
def ei.l8(N:Nat):Nat→ei.fe
 |0,_,_,_,_,_=>none
 |n+1,x2,x3,x8,x9,bn=>ei.zo N (ei.oU N (ei.l8 N n) N) (ei.l8 N n) x2 x3 x8 x9 bn
def ei.b(CG:ei.fe)(a0:ae)(a1:aq)(a2:Int):Option (aN×(Int)):=
 (fY N a0 a1).bind λr1=>cond (!r1) (some ([],1)) (cond (aT a2 1) (some ([],1)) (cond (aT 1099511627764 a2) (some ([],1)) ((yW N a1.2.2.2.1 0).bind λr2=>cond (aM (ℓ r2) 0) (some ([],3)) (CG a2 a0 r2 ([]) 0))))
def ei(a0:ae)(a1:aq)(a2:Int):Option (aN×(Int)):=ei.b N (ei.l8 N N) a0 a1 a2
abbrev sh.cc:=aq→(List Int)→Int→Option ((List Int)×(Int))
def sh.e8(bX:sh.cc)(x3:aq)(x6:List Int)(x7:Int):Option ((List Int)×(Int)):=
 cond (aT x7 (ℓ x3.1)) (cond (a7 x7 (ℓ x3.1)) (cond (aM (γ x3.1 x7.toNat ct).2.1 1) (cond (a7 x7 (ℓ x3.1)) ((ka N x3.2.2.1 6 (γ x3.1 x7.toNat ct).1).bind λr3=>cond (aT 0 r3) (cond (a7 x7 (ℓ x3.1)) (cond (small (ℓ x6+ℓ ([(γ x3.1 x7.toNat ct).1]))) (bX x3 (x6++([(γ x3.1 x7.toNat ct).1])) (W .i64 (x7+1))) none) none) (bX x3 x6 (W .i64 (x7+1)))) none) (bX x3 x6 (W .i64 (x7+1)))) none) (some (x6,0))
def sh.l5(N:Nat):Nat→sh.cc
 |0,_,_,_=>none
 |n+1,x3,x6,x7=>sh.e8 N (sh.l5 N n) x3 x6 x7
def sh.b(ga:sh.cc)(a0:ae)(a1:aq):Option ((List Int)×(Int)):=
 (fY N a0 a1).bind λr1=>cond (!r1) (some ([],1)) (ga a1 ([]) 0)
def sh(a0:ae)(a1:aq):Option ((List Int)×(Int)):=sh.b N (sh.l5 N N) a0 a1
abbrev uS.Ry:=aN→ae→Int→eE→Option Bool
abbrev uS.bT:=aN→ae→Int→Option Bool
def uS.NL(N:Nat)(cB:uS.bT)(x1:aN)(x2:ae)(x5:Int)(x6:eE):Option Bool:=
 cond (aM x6.2.2.2.1 1) (cond (!aM x6.2.2.2.2.1 0) (some false) (cond (!aM x6.2.2.2.2.2.1 0) (some false) (cB x1 x2 (W .i64 (x5+1))))) (cond (aM x6.2.2.2.1 3) (cond (!aM x6.2.2.2.2.1 0) (some false) (cond (!aM x6.2.2.2.2.2.1 0) (some false) (cB x1 x2 (W .i64 (x5+1))))) (cond (aM x6.2.2.2.1 2) (cond (aT x6.2.2.2.2.1 1) (some false) (cond (aT 12 x6.2.2.2.2.1) (some false) (cond (aT x6.2.2.2.2.2.1 (-1152921504606846976)) (some false) (cond (aT 1152921504606846976 x6.2.2.2.2.2.1) (some false) (cB x1 x2 (W .i64 (x5+1))))))) (some false)))
def uS.j9(cB:uS.bT)(x1:aN)(x2:ae)(x5:Int)(x6:eE):Option Bool:=uS.NL N cB x1 x2 x5 x6
def uS.ew(HN:uS.Ry)(cB:uS.bT)(x1:aN)(x2:ae)(x5:Int):Option Bool:=
 cond (aT x5 (ℓ x1)) (cond (a7 x5 (ℓ x1)) (cond (aT (γ x1 x5.toNat (0,(bM,aQ))).1 1) (some false) (cond (aT 1099511627776 (γ x1 x5.toNat (0,(bM,aQ))).1) (some false) (cond (aT 0 x5) (let v3:Int:=W .i64 (x5-1);cond (a7 v3 (ℓ x1)) (cond (cY (γ x1 x5.toNat (0,(bM,aQ))).1 (γ x1 v3.toNat (0,(bM,aQ))).1) (some false) (cond (aM (ℓ (γ x1 x5.toNat (0,(bM,aQ))).2.1:Int) 0) (some false) ((Ba N x2 (γ x1 x5.toNat (0,(bM,aQ))).2.1).bind λr4=>cond (!r4) (some false) (cond (aT 0 (γ x1 x5.toNat (0,(bM,aQ))).2.2.1) (some false) (HN x1 x2 x5 (γ x1 x5.toNat (0,(bM,aQ)))))))) none) (cond (aM (ℓ (γ x1 x5.toNat (0,(bM,aQ))).2.1:Int) 0) (some false) ((Ba N x2 (γ x1 x5.toNat (0,(bM,aQ))).2.1).bind λr9=>cond (!r9) (some false) (cond (aT 0 (γ x1 x5.toNat (0,(bM,aQ))).2.2.1) (some false) (HN x1 x2 x5 (γ x1 x5.toNat (0,(bM,aQ)))))))))) none) (some true)
def uS.l4(N:Nat):Nat→uS.bT
 |0,_,_,_=>none
 |n+1,x1,x2,x5=>uS.ew N (uS.j9 N (uS.l4 N n)) (uS.l4 N n) x1 x2 x5
def uS.b(fN:uS.bT)(a0:ae)(a1:aN):Option Bool:=
 (zm N a0).bind λr1=>cond (!r1) (some false) (cond (aT 12 (ℓ a1)) (some false) (fN a1 a0 0))
def uS(a0:ae)(a1:aN):Option Bool:=uS.b N (uS.l4 N N) a0 a1
abbrev E1.c3:=aN→Int→eE→Int→Option (eE×(Bool))
def E1.gm(N:Nat)(eJ:E1.c3)(x0:aN)(x1:Int)(x4:eE)(x6:Int):Option (eE×(Bool)):=
 cond (aT x6 (ℓ x0)) (cond (a7 x6 (ℓ x0)) (cond (aM (γ x0 x6.toNat (0,(bM,aQ))).1 x1) (cond (a7 x6 (ℓ x0)) (some (γ x0 x6.toNat (0,(bM,aQ)),true)) none) (eJ x0 x1 x4 (W .i64 (x6+1)))) none) (some ((0,(bM,aQ)),false))
def E1.l2(N:Nat):Nat→E1.c3
 |0,_,_,_,_=>none
 |n+1,x0,x1,x4,x6=>E1.gm N (E1.l2 N n) x0 x1 x4 x6
def E1.b(N:Nat)(jd:E1.c3)(a0:aN)(a1:Int):Option (eE×(Bool)):=
 jd a0 a1 (0,(bM,aQ)) 0
def E1(a0:aN)(a1:Int):Option (eE×(Bool)):=E1.b N (E1.l2 N N) a0 a1
abbrev eT.jF:=aB→aB→aB→Int→aH→Int→Option (aB×(Bool))
abbrev eT.fk:=aB→aB→aB→Int→aH→Int→Option (aB×(Bool))
abbrev eT.dd:=aB→aB→aB→Int→Option (aB×(Bool))
def eT.pZ(cX:eT.dd)(lX:eT.jF)(x0 x1 x6:aB)(x7:Int)(x8:aH)(bn:Int):Option (aB×(Bool)):=
 cond (aT bn (ℓ x1)) (cond (a7 bn (ℓ x1)) (cond (aM (γ x1 bn.toNat ct).1 x7) (cond (a7 bn (ℓ x1)) ((kF N (γ x1 bn.toNat ct).2.1).bind λr8=>(AZ N x8 r8).bind λr9=>lX x0 x1 x6 x7 r9 (W .i64 (bn+1))) none) (lX x0 x1 x6 x7 x8 (W .i64 (bn+1)))) none) ((QO N x8).bind λqd=>cond (!qd.2) (some ([],false)) (cond (!aM qd.1 0) (cond (small (ℓ x6+ℓ ([(x7,(qd.1,()))]))) (cX x0 x1 (x6++([(x7,(qd.1,()))])) (W .i64 (x7+1))) none) (cX x0 x1 x6 (W .i64 (x7+1)))))
def eT.qA(N:Nat)(cX:eT.dd):Nat→eT.jF
 |0,_,_,_,_,_,_=>none
 |n+1,x0,x1,x6,x7,x8,bn=>eT.pZ N cX (eT.qA N cX n) x0 x1 x6 x7 x8 bn
def eT.rL(xH:eT.jF)(cX:eT.dd)(eQ:eT.fk)(x0 x1 x6:aB)(x7:Int)(x8:aH)(x9:Int):Option (aB×(Bool)):=
 cond (aT x9 (ℓ x0)) (cond (a7 x9 (ℓ x0)) (cond (aM (γ x0 x9.toNat ct).1 x7) (cond (a7 x9 (ℓ x0)) ((kF N (γ x0 x9.toNat ct).2.1).bind λr3=>(AZ N x8 r3).bind λr4=>eQ x0 x1 x6 x7 r4 (W .i64 (x9+1))) none) (eQ x0 x1 x6 x7 x8 (W .i64 (x9+1)))) none) (xH x0 x1 x6 x7 x8 0)
def eT.l7(N:Nat)(cX:eT.dd):Nat→eT.fk
 |0,_,_,_,_,_,_=>none
 |n+1,x0,x1,x6,x7,x8,x9=>eT.rL N (eT.qA N cX N) cX (eT.l7 N cX n) x0 x1 x6 x7 x8 x9
def eT.lD(N:Nat)(vN:eT.fk)(cX:eT.dd)(x0 x1 x6:aB)(x7:Int):Option (aB×(Bool)):=
 cond (aT x7 6) (vN x0 x1 x6 x7 (false,pQ) 0) (some (x6,true))
def eT.l3(N:Nat):Nat→eT.dd
 |0,_,_,_,_=>none
 |n+1,x0,x1,x6,x7=>eT.lD N (eT.l7 N (eT.l3 N n) N) (eT.l3 N n) x0 x1 x6 x7
def eT.b(N:Nat)(mL:eT.dd)(a0 a1:aB):Option (aB×(Bool)):=
 mL a0 a1 ([]) 0
def eT(a0 a1:aB):Option (aB×(Bool)):=eT.b N (eT.l3 N N) a0 a1
def aie(a0:bC)(a1:Int):Option aC:=
 (zC N a0).bind λr1=>cond (!r1) (some ([])) ((g9 N a0 a1).bind λr2=>some r2)
abbrev lh.je:=aO→ae→aq→cv→eE→Int→Int→Option Int
abbrev lh.att:=aN→aO→ae→aq→cv→Option Int
def lh.m5(pM:lh.je)(x3:aO)(x5:ae)(x6:aq)(x9:cv)(bp:eE)(cy cG:Int):Option Int:=
 cond (aT cG (ℓ x3)) (cond (a7 cG (ℓ x3)) (cond (aM (γ x3 cG.toNat aQ).2.2.1 x9.2.2.1) (cond (a7 cG (ℓ x3)) (cond (aM (γ x3 cG.toNat aQ).2.1 x9.2.1) (some 4) (pM x3 x5 x6 x9 bp cy (W .i64 (cG+1)))) none) (pM x3 x5 x6 x9 bp cy (W .i64 (cG+1)))) none) (cond (aM (ℓ x3) 40) (some 5) ((kF N x9.2.2.2.1).bind λtG=>(kF N 4).bind λwq=>(kF N bp.2.2.1).bind λzG=>(jZ N wq zG).bind λEu=>(Qd N tG Eu).bind λBC=>cond (aT BC 0) (some 11) ((yW N x6.2.2.2.1 cy).bind λDR=>(eT N DR bp.2.1).bind λPd=>cond (!Pd.2) (some 2) ((aie N x6.2.2.2.2.2.1 cy).bind λO4=>(qD N x5 Pd.1 O4).bind λS7=>(Q7 N x6 cy).bind λQf=>(kF N Qf).bind λL4=>(kF N x9.2.2.2.1).bind λL8=>(Si N L4 L8).bind λL9=>(Qd N L9 S7.1).bind λDQ=>cond (aT DQ 0) (some 10) (some 0)))))
def lh.oU(N:Nat):Nat→lh.je
 |0,_,_,_,_,_,_,_=>none
 |n+1,x3,x5,x6,x9,bp,cy,cG=>lh.m5 N (lh.oU N n) x3 x5 x6 x9 bp cy cG
def lh.j3b(uN:lh.je)(x2:aN)(x3:aO)(x5:ae)(x6:aq)(x9:cv):Option Int:=
 (Ll N x6 x9.2.2.1).bind λr7=>cond (aM r7 0) (some 3) (cond (!aM r7 1) (some 7) ((E1 N x2 x9.2.1).bind λr8=>(mG N x6.2.1 x9.2.2.1).bind λr9=>cond (!r8.2) (some 3) (cond (!aM r8.1.2.2.2.1 1) (some 3) (cond (aM r9 0) (some 3) (uN x3 x5 x6 x9 r8.1 r9 0)))))
def lh.j3(x2:aN)(x3:aO)(x5:ae)(x6:aq)(x9:cv):Option Int:=lh.j3b N (lh.oU N N) x2 x3 x5 x6 x9
def lh.b(an7:lh.att)(a0:ae)(a1:aq)(a2:aN)(a3:aO)(a4:cv):Option Int:=
 (fY N a0 a1).bind λr1=>cond (!r1) (some 1) ((uS N a0 a2).bind λr2=>cond (!r2) (some 1) ((eF N a3).bind λr3=>cond (!r3) (some 1) ((Xc N a4).bind λr4=>cond (!r4) (some 1) (cond (aT 0 (ℓ a3)) (let v5:Int:=W .i64 ((ℓ a3:Int)-1);cond (a7 v5 (ℓ a3)) (cond (cY a4.1 (γ a3 v5.toNat aQ).1) (some 1) (an7 a2 a3 a0 a1 a4)) none) (an7 a2 a3 a0 a1 a4)))))
def lh(a0:ae)(a1:aq)(a2:aN)(a3:aO)(a4:cv):Option Int:=lh.b N (lh.j3 N) a0 a1 a2 a3 a4
def aa7(a0:ae)(a1:aq)(a2:aN)(a3:aO)(a4:cv):Option (aO×(Int)):=
 (lh N a0 a1 a2 a3 a4).bind λr1=>cond (!aM r1 0) (some ([],r1)) (cond (small (ℓ dh+ℓ a3)) (let v2:List ((Int)×((Int)×((Int)×((Int)×(Unit))))):=dh++a3;cond (small (ℓ v2+ℓ ([a4]))) (some ((v2++([a4])),0)) none) none)
abbrev sq.jL:=aO→Int→cv→cv→Bool→Int→Option (cv×(Bool))
def sq.vX(N:Nat)(ll:sq.jL)(x0:aO)(x1:Int)(x4 x6:cv)(x7:Bool)(x8:Int):Option (cv×(Bool)):=
 cond (aT x8 (ℓ x0)) (cond (a7 x8 (ℓ x0)) (cond (aM (γ x0 x8.toNat aQ).2.1 x1) (cond (!x7) (cond (a7 x8 (ℓ x0)) (ll x0 x1 x4 (γ x0 x8.toNat aQ) true (W .i64 (x8+1))) none) (cond (a7 x8 (ℓ x0)) (cond (aT x6.2.2.2.1 (γ x0 x8.toNat aQ).2.2.2.1) (cond (a7 x8 (ℓ x0)) (ll x0 x1 x4 (γ x0 x8.toNat aQ) true (W .i64 (x8+1))) none) (ll x0 x1 x4 x6 x7 (W .i64 (x8+1)))) none)) (ll x0 x1 x4 x6 x7 (W .i64 (x8+1)))) none) (some (x6,x7))
def sq.l6(N:Nat):Nat→sq.jL
 |0,_,_,_,_,_,_=>none
 |n+1,x0,x1,x4,x6,x7,x8=>sq.vX N (sq.l6 N n) x0 x1 x4 x6 x7 x8
def sq.b(xF:sq.jL)(a0:aO)(a1:Int):Option (cv×(Bool)):=
 (eF N a0).bind λr1=>cond (!r1) (some (aQ,false)) (xF a0 a1 aQ aQ false 0)
def sq(a0:aO)(a1:Int):Option (cv×(Bool)):=sq.b N (sq.l6 N N) a0 a1
abbrev fH.sv:=aN→aO→aq→aq→aC→bJ→aN→Int→eE→cv→Int→Int→Option (aq×aN×(Int))
abbrev fH.fk:=aN→aO→aq→aq→aC→bJ→aN→Int→Option (aq×aN×(Int))
def fH.wm(eQ:fH.fk)(HH:fH.sv)(x2:aN)(x3:aO)(x5 x8:aq)(a8:aC)(bp:bJ)(cq:aN)(cy:Int)(cG:eE)(dO:cv)(lE nW:Int):Option (aq×aN×(Int)):=
 cond (aT nW (ℓ cG.2.1)) (cond (a7 nW (ℓ cG.2.1)) (cond (a7 nW (ℓ cG.2.1)) (let Zn:Int:=W .i64 (0-((γ cG.2.1 nW.toNat ct).2.1));cond (a7 nW (ℓ cG.2.1)) (cond (a7 nW (ℓ cG.2.1)) (cond (small (ℓ a8+ℓ ([(0,((γ cG.2.1 nW.toNat ct).1,(Zn,()))),(lE,((γ cG.2.1 nW.toNat ct).1,((γ cG.2.1 nW.toNat ct).2.1,())))]))) (HH x2 x3 x5 x8 (a8++([(0,((γ cG.2.1 nW.toNat ct).1,(Zn,()))),(lE,((γ cG.2.1 nW.toNat ct).1,((γ cG.2.1 nW.toNat ct).2.1,())))])) bp cq cy cG dO lE (W .i64 (nW+1))) none) none) none) none) none) ((kF N dO.2.2.2.1).bind λBC=>(Cu N 5 lE 2 0 BC).bind λDR=>cond (small (ℓ bp+ℓ DR)) (cond (small (ℓ cq+ℓ ([cG]))) (eQ x2 x3 x5 x8 a8 (bp++DR) (cq++([cG])) (W .i64 (cy+1))) none) none)
def fH.xq(N:Nat)(eQ:fH.fk):Nat→fH.sv
 |0,_,_,_,_,_,_,_,_,_,_,_,_=>none
 |n+1,x2,x3,x5,x8,a8,bp,cq,cy,cG,dO,lE,nW=>fH.wm N eQ (fH.xq N eQ n) x2 x3 x5 x8 a8 bp cq cy cG dO lE nW
def fH.rL(HI:fH.sv)(eQ:fH.fk)(x2:aN)(x3:aO)(x5 x8:aq)(a8:aC)(bp:bJ)(cq:aN)(cy:Int):Option (aq×aN×(Int)):=
 cond (aT cy (ℓ x2)) (cond (a7 cy (ℓ x2)) (cond (small (ℓ bM+ℓ (γ x2 cy.toNat (0,(bM,aQ))).2.1)) (let v5:List ((Int)×((Int)×(Unit))):=bM++((γ x2 cy.toNat (0,(bM,aQ))).2.1);cond (!aM (γ x2 cy.toNat (0,(bM,aQ))).2.2.2.1 1) (cond (small (ℓ cq+ℓ ([((γ x2 cy.toNat (0,(bM,aQ))).1,(v5,(γ x2 cy.toNat (0,(bM,aQ))).2.2))]))) (eQ x2 x3 x5 x8 a8 bp (cq++([((γ x2 cy.toNat (0,(bM,aQ))).1,(v5,(γ x2 cy.toNat (0,(bM,aQ))).2.2))])) (W .i64 (cy+1))) none) ((sq N x3 (γ x2 cy.toNat (0,(bM,aQ))).1).bind λr8=>cond (!r8.2) (cond (small (ℓ cq+ℓ ([((γ x2 cy.toNat (0,(bM,aQ))).1,(v5,((γ x2 cy.toNat (0,(bM,aQ))).2.2.1,(3,(γ x2 cy.toNat (0,(bM,aQ))).2.2.2.2))))]))) (eQ x2 x3 x5 x8 a8 bp (cq++([((γ x2 cy.toNat (0,(bM,aQ))).1,(v5,((γ x2 cy.toNat (0,(bM,aQ))).2.2.1,(3,(γ x2 cy.toNat (0,(bM,aQ))).2.2.2.2))))])) (W .i64 (cy+1))) none) ((mG N x5.2.1 r8.1.2.2.1).bind λqc=>cond (aM qc 0) (some ((bM,(dh,(cf,(cf,(dW,(eu,())))))),[],3)) ((Ll N x5 r8.1.2.2.1).bind λqd=>cond (aM qd 0) (some ((bM,(dh,(cf,(cf,(dW,(eu,())))))),[],3)) (HI x2 x3 x5 x8 a8 bp cq cy ((γ x2 cy.toNat (0,(bM,aQ))).1,(v5,((γ x2 cy.toNat (0,(bM,aQ))).2.2.1,(2,(r8.1.2.2.1,(r8.1.2.2.2.1,(γ x2 cy.toNat (0,(bM,aQ))).2.2.2.2.2.2)))))) r8.1 qc 0))))) none) none) ((Bu N x5 a8 bp).bind λQf=>cond (!aM Qf.2 0) (some ((bM,(dh,(cf,(cf,(dW,(eu,())))))),[],Qf.2)) (some (Qf.1,cq,0)))
def fH.l7(N:Nat):Nat→fH.fk
 |0,_,_,_,_,_,_,_,_=>none
 |n+1,x2,x3,x5,x8,a8,bp,cq,cy=>fH.rL N (fH.xq N (fH.l7 N n) N) (fH.l7 N n) x2 x3 x5 x8 a8 bp cq cy
def fH.b(vN:fH.fk)(a0:ae)(a1:aq)(a2:aN)(a3:aO):Option (aq×aN×(Int)):=
 (fY N a0 a1).bind λr1=>cond (!r1) (some ((bM,(dh,(cf,(cf,(dW,(eu,())))))),[],1)) ((uS N a0 a2).bind λr2=>cond (!r2) (some ((bM,(dh,(cf,(cf,(dW,(eu,())))))),[],1)) ((eF N a3).bind λr3=>cond (!r3) (some ((bM,(dh,(cf,(cf,(dW,(eu,())))))),[],1)) (vN a2 a3 a1 (bM,(dh,(cf,(cf,(dW,(eu,())))))) ([]) ([]) ([]) 0)))
def fH(a0:ae)(a1:aq)(a2:aN)(a3:aO):Option (aq×aN×(Int)):=fH.b N (fH.l7 N N) a0 a1 a2 a3
abbrev pI.c3:=aB→Int→Option Bool
def pI.gm(N:Nat)(eJ:pI.c3)(x0:aB)(x3:Int):Option Bool:=
 cond (aT x3 (ℓ x0)) (cond (a7 x3 (ℓ x0)) (cond (aT (γ x0 x3.toNat ct).1 1) (some false) (cond (a7 x3 (ℓ x0)) (cond (aT 12 (γ x0 x3.toNat ct).1) (some false) (cond (a7 x3 (ℓ x0)) (cond (aT (γ x0 x3.toNat ct).2.1 1) (some false) (cond (a7 x3 (ℓ x0)) (cond (aT 4 (γ x0 x3.toNat ct).2.1) (some false) (cond (aT 0 x3) (cond (a7 x3 (ℓ x0)) (let v2:Int:=W .i64 (x3-1);cond (a7 v2 (ℓ x0)) (cond (cY (γ x0 x3.toNat ct).1 (γ x0 v2.toNat ct).1) (some false) (eJ x0 (W .i64 (x3+1)))) none) none) (eJ x0 (W .i64 (x3+1))))) none)) none)) none)) none) (some true)
def pI.l2(N:Nat):Nat→pI.c3
 |0,_,_=>none
 |n+1,x0,x3=>pI.gm N (pI.l2 N n) x0 x3
def pI.b(N:Nat)(jd:pI.c3)(a0:aB):Option Bool:=
 jd a0 0
def pI(a0:aB):Option Bool:=pI.b N (pI.l2 N N) a0
abbrev sj.c3:=(List Int)→Int→Option Bool
def sj.gm(N:Nat)(eJ:sj.c3)(x0:List Int)(x3:Int):Option Bool:=
 cond (aT x3 (ℓ x0)) (cond (a7 x3 (ℓ x0)) (cond (aT (γ x0 x3.toNat 0) 1) (some false) (cond (a7 x3 (ℓ x0)) (cond (aT 12 (γ x0 x3.toNat 0)) (some false) (cond (aT 0 x3) (cond (a7 x3 (ℓ x0)) (let v2:Int:=W .i64 (x3-1);cond (a7 v2 (ℓ x0)) (cond (cY (γ x0 x3.toNat 0) (γ x0 v2.toNat 0)) (some false) (eJ x0 (W .i64 (x3+1)))) none) none) (eJ x0 (W .i64 (x3+1))))) none)) none) (some true)
def sj.l2(N:Nat):Nat→sj.c3
 |0,_,_=>none
 |n+1,x0,x3=>sj.gm N (sj.l2 N n) x0 x3
def sj.b(N:Nat)(jd:sj.c3)(a0:List Int):Option Bool:=
 jd a0 0
def sj(a0:List Int):Option Bool:=sj.b N (sj.l2 N N) a0
abbrev jD.jF:=Int→aN→Int→Int→Option Int
abbrev jD.dd:=Int→aN→aO→Int→Int→Option Int
def jD.pZ(N:Nat)(lX:jD.jF)(x0:Int)(x1:aN)(x7 bp:Int):Option Int:=
 cond (aT bp (ℓ x1)) (cond (a7 bp (ℓ x1)) (cond (aM (γ x1 bp.toNat (0,(bM,aQ))).2.2.2.1 2) (cond (a7 bp (ℓ x1)) (cond (aM (γ x1 bp.toNat (0,(bM,aQ))).2.2.2.2.1 x0) (lX x0 x1 4 (W .i64 (bp+1))) (lX x0 x1 x7 (W .i64 (bp+1)))) none) (lX x0 x1 x7 (W .i64 (bp+1)))) none) (some x7)
def jD.qA(N:Nat):Nat→jD.jF
 |0,_,_,_,_=>none
 |n+1,x0,x1,x7,bp=>jD.pZ N (jD.qA N n) x0 x1 x7 bp
def jD.lD(xH:jD.jF)(cX:jD.dd)(x0:Int)(x1:aN)(x2:aO)(x7 x8:Int):Option Int:=
 cond (aT x8 (ℓ x2)) (cond (a7 x8 (ℓ x2)) (cond (!aM (γ x2 x8.toNat aQ).2.2.1 x0) (cX x0 x1 x2 x7 (W .i64 (x8+1))) (cond (a7 x8 (ℓ x2)) ((E1 N x1 (γ x2 x8.toNat aQ).2.1).bind λr3=>cond (r3.2) (cond (a7 x8 (ℓ x2)) (cond (cY r3.1.2.2.1 (γ x2 x8.toNat aQ).2.2.2.1) (cX x0 x1 x2 (mx x7 3) (W .i64 (x8+1))) (cX x0 x1 x2 (mx x7 2) (W .i64 (x8+1)))) none) (cX x0 x1 x2 (mx x7 2) (W .i64 (x8+1)))) none)) none) (xH x0 x1 x7 0)
def jD.l3(N:Nat):Nat→jD.dd
 |0,_,_,_,_,_=>none
 |n+1,x0,x1,x2,x7,x8=>jD.lD N (jD.qA N N) (jD.l3 N n) x0 x1 x2 x7 x8
def jD.b(N:Nat)(mL:jD.dd)(a0:Int)(a1:aN)(a2:aO):Option Int:=
 mL a0 a1 a2 1 0
def jD(a0:Int)(a1:aN)(a2:aO):Option Int:=jD.b N (jD.l3 N N) a0 a1 a2
abbrev dm.xI:=aB→(List Int)→aN→aO→aB→Int→Int→Bool→Int→Option (aB×(Int))
abbrev dm.xK:=aB→(List Int)→aN→aO→aB→Int→Int→Bool→Int→Option (aB×(Int))
abbrev dm.oG:=aB→(List Int)→aN→aO→aB→Int→Int→Bool→Int→Option (aB×(Int))
abbrev dm.cc:=aB→(List Int)→aN→aO→aB→Int→Option (aB×(Int))
def dm.En(bX:dm.cc)(HQ:dm.xI)(x1:aB)(x2:List Int)(x3:aN)(x4:aO)(bp:aB)(cq cy:Int)(cG:Bool)(lE:Int):Option (aB×(Int)):=
 cond (aT lE (ℓ x4)) (cond (cG) (HQ x1 x2 x3 x4 bp cq cy true (W .i64 (lE+1))) (cond (a7 lE (ℓ x4)) (HQ x1 x2 x3 x4 bp cq cy (aM (γ x4 lE.toNat aQ).2.2.1 cq) (W .i64 (lE+1))) none)) (cond (cG) ((jD N cq x3 x4).bind λzG=>let YK:Int:=mx cy zG;cond (small (ℓ bp+ℓ ([(cq,(YK,()))]))) (bX x1 x2 x3 x4 (bp++([(cq,(YK,()))])) (W .i64 (cq+1))) none) (bX x1 x2 x3 x4 bp (W .i64 (cq+1))))
def dm.Ig(N:Nat)(bX:dm.cc):Nat→dm.xI
 |0,_,_,_,_,_,_,_,_,_=>none
 |n+1,x1,x2,x3,x4,bp,cq,cy,cG,lE=>dm.En N bX (dm.Ig N bX n) x1 x2 x3 x4 bp cq cy cG lE
def dm.GY(N:Nat)(O7:dm.xI)(bX:dm.cc)(DT:dm.xK)(x1:aB)(x2:List Int)(x3:aN)(x4:aO)(bp:aB)(cq cy:Int)(cG:Bool)(dx:Int):Option (aB×(Int)):=
 cond (aT dx (ℓ x2)) (cond (cG) (DT x1 x2 x3 x4 bp cq cy true (W .i64 (dx+1))) (cond (a7 dx (ℓ x2)) (DT x1 x2 x3 x4 bp cq cy (aM (γ x2 dx.toNat 0) cq) (W .i64 (dx+1))) none)) (O7 x1 x2 x3 x4 bp cq cy cG 0)
def dm.JK(N:Nat)(bX:dm.cc):Nat→dm.xK
 |0,_,_,_,_,_,_,_,_,_=>none
 |n+1,x1,x2,x3,x4,bp,cq,cy,cG,dx=>dm.GY N (dm.Ig N bX N) bX (dm.JK N bX n) x1 x2 x3 x4 bp cq cy cG dx
def dm.zA(N:Nat)(Pb:dm.xK)(bX:dm.cc)(uO:dm.oG)(x1:aB)(x2:List Int)(x3:aN)(x4:aO)(bp:aB)(cq cy:Int)(cG:Bool)(dO:Int):Option (aB×(Int)):=
 cond (aT dO (ℓ x1)) (cond (a7 dO (ℓ x1)) (cond (aM (γ x1 dO.toNat ct).1 cq) (cond (a7 dO (ℓ x1)) (uO x1 x2 x3 x4 bp cq (γ x1 dO.toNat ct).2.1 true (W .i64 (dO+1))) none) (uO x1 x2 x3 x4 bp cq cy cG (W .i64 (dO+1)))) none) (Pb x1 x2 x3 x4 bp cq cy cG 0)
def dm.l9(N:Nat)(bX:dm.cc):Nat→dm.oG
 |0,_,_,_,_,_,_,_,_,_=>none
 |n+1,x1,x2,x3,x4,bp,cq,cy,cG,dO=>dm.zA N (dm.JK N bX N) bX (dm.l9 N bX n) x1 x2 x3 x4 bp cq cy cG dO
def dm.e8(N:Nat)(CH:dm.oG)(bX:dm.cc)(x1:aB)(x2:List Int)(x3:aN)(x4:aO)(bp:aB)(cq:Int):Option (aB×(Int)):=
 cond (cY cq 12) (CH x1 x2 x3 x4 bp cq 0 false 0) (some (bp,0))
def dm.l5(N:Nat):Nat→dm.cc
 |0,_,_,_,_,_,_=>none
 |n+1,x1,x2,x3,x4,bp,cq=>dm.e8 N (dm.l9 N (dm.l5 N n) N) (dm.l5 N n) x1 x2 x3 x4 bp cq
def dm.b(ga:dm.cc)(a0:ae)(a1:aB)(a2:List Int)(a3:aN)(a4:aO):Option (aB×(Int)):=
 (pI N a1).bind λr1=>cond (!r1) (some ([],1)) ((sj N a2).bind λr2=>cond (!r2) (some ([],1)) ((uS N a0 a3).bind λr3=>cond (!r3) (some ([],1)) ((eF N a4).bind λr4=>cond (!r4) (some ([],1)) (ga a1 a2 a3 a4 ([]) 1))))
def dm(a0:ae)(a1:aB)(a2:List Int)(a3:aN)(a4:aO):Option (aB×(Int)):=dm.b N (dm.l5 N N) a0 a1 a2 a3 a4
def Lo(a0:bO)(a1:aq)(a2 a3 a4:Int):Option bO:=
 (ka N a1.2.2.1 a3 a4).bind λr1=>cond (aT 0 r1) (cond (small (ℓ a0+ℓ ([(a2,(a3,(a4,(r1,(0,())))))]))) (some (a0++([(a2,(a3,(a4,(r1,(0,())))))]))) none) (some a0)
def XW(N:Nat)(a0:Int):Option Bool:=
 cond (aM a0 1) (some true) (some (aM a0 2))
abbrev sl.bT:=aB→Int→Int→Option Int
def sl.ew(N:Nat)(cB:sl.bT)(x0:aB)(x1 x5:Int):Option Int:=
 cond (aT x5 (ℓ x0)) (cond (a7 x5 (ℓ x0)) (cond (aM (γ x0 x5.toNat ct).1 x1) (cond (a7 x5 (ℓ x0)) (some (γ x0 x5.toNat ct).2.1) none) (cB x0 x1 (W .i64 (x5+1)))) none) (some 1)
def sl.l4(N:Nat):Nat→sl.bT
 |0,_,_,_=>none
 |n+1,x0,x1,x5=>sl.ew N (sl.l4 N n) x0 x1 x5
def sl.b(fN:sl.bT)(a0:aB)(a1:Int):Option Int:=
 (pI N a0).bind λr1=>cond (!r1) (some 0) (fN a0 a1 0)
def sl(a0:aB)(a1:Int):Option Int:=sl.b N (sl.l4 N N) a0 a1
abbrev sm.cc:=aB→Int→Int→aq→(List Int)→Int→Option ((List Int)×(Int))
def sm.e8(bX:sm.cc)(x2:aB)(x3 x4:Int)(x6:aq)(bp:List Int)(cq:Int):Option ((List Int)×(Int)):=
 cond (aT cq (ℓ x6.1)) (cond (a7 cq (ℓ x6.1)) ((XW N (γ x6.1 cq.toNat ct).2.1).bind λr4=>cond (r4) (cond (!aM (γ x6.1 cq.toNat ct).1 x3) ((ka N x6.2.2.1 6 (γ x6.1 cq.toNat ct).1).bind λr5=>cond (aT 0 r5) ((sl N x2 (γ x6.1 cq.toNat ct).1).bind λr6=>cond (aM r6 x4) (cond (small (ℓ bp+ℓ ([(γ x6.1 cq.toNat ct).1]))) (bX x2 x3 x4 x6 (bp++([(γ x6.1 cq.toNat ct).1])) (W .i64 (cq+1))) none) (bX x2 x3 x4 x6 bp (W .i64 (cq+1)))) (bX x2 x3 x4 x6 bp (W .i64 (cq+1)))) (bX x2 x3 x4 x6 bp (W .i64 (cq+1)))) (bX x2 x3 x4 x6 bp (W .i64 (cq+1)))) none) (some (bp,0))
def sm.l5(N:Nat):Nat→sm.cc
 |0,_,_,_,_,_,_=>none
 |n+1,x2,x3,x4,x6,bp,cq=>sm.e8 N (sm.l5 N n) x2 x3 x4 x6 bp cq
def sm.b(ga:sm.cc)(a0:ae)(a1:aq)(a2:aB)(a3 a4:Int):Option ((List Int)×(Int)):=
 (fY N a0 a1).bind λr1=>cond (!r1) (some ([],1)) ((pI N a2).bind λr2=>cond (!r2) (some ([],1)) (ga a2 a3 a4 a1 ([]) 0))
def sm(a0:ae)(a1:aq)(a2:aB)(a3 a4:Int):Option ((List Int)×(Int)):=sm.b N (sm.l5 N N) a0 a1 a2 a3 a4
abbrev cH.HF:=Int→aB→aB→ae→aq→bO→Int→(List Int)→Int→Option (bO×(Int))
abbrev cH.YO:=Int→aB→aq→bO→Int→Option (bO×(Int))
abbrev cH.uP:=Int→aB→ae→aq→bO→Int→Option (bO×(Int))
abbrev cH.jF:=Int→aB→aB→ae→aq→bO→Int→Option (bO×(Int))
abbrev cH.Ry:=Int→aB→aB→ae→aq→bO→Option (bO×(Int))
def cH.KW(lX:cH.jF)(S8:cH.HF)(x2:Int)(x3 x4:aB)(x5:ae)(x6:aq)(bp:bO)(cy:Int)(cG:List Int)(dx:Int):Option (bO×(Int)):=
 cond (aT dx (ℓ cG)) (cond (a7 dx (ℓ cG)) ((Lo N bp x6 (W .i64 ((W .i64 (4+cy))-1)) 6 (γ cG dx.toNat 0)).bind λzG=>S8 x2 x3 x4 x5 x6 zG cy cG (W .i64 (dx+1))) none) (lX x2 x3 x4 x5 x6 bp (W .i64 (cy+1)))
def cH.LZ(N:Nat)(lX:cH.jF):Nat→cH.HF
 |0,_,_,_,_,_,_,_,_,_=>none
 |n+1,x2,x3,x4,x5,x6,bp,cy,cG,dx=>cH.KW N lX (cH.LZ N lX n) x2 x3 x4 x5 x6 bp cy cG dx
def cH.abb(Tc:cH.YO)(x2:Int)(x4:aB)(x6:aq)(bp:bO)(Vi:Int):Option (bO×(Int)):=
 cond (aT Vi (ℓ x4)) (cond (a7 Vi (ℓ x4)) ((Ee N x6.2.1 (γ x4 Vi.toNat ct).1).bind λTb=>cond (a7 Vi (ℓ x4)) (cond (a7 Vi (ℓ x4)) ((ka N x6.2.2.1 5 (γ x4 Vi.toNat ct).1).bind λr32=>let v33:Int:=mn (γ x4 Vi.toNat ct).2.1 r32;cond (Tb.2) (cond (!aM Tb.1.2.1 x2) (cond (aT 0 v33) (cond (small (ℓ bp+ℓ ([(9,(5,(Tb.1.1,(v33,(0,())))))]))) (Tc x2 x4 x6 (bp++([(9,(5,(Tb.1.1,(v33,(0,())))))])) (W .i64 (Vi+1))) none) (Tc x2 x4 x6 bp (W .i64 (Vi+1)))) (Tc x2 x4 x6 bp (W .i64 (Vi+1)))) (Tc x2 x4 x6 bp (W .i64 (Vi+1)))) none) none) none) (some (bp,0))
def cH.l30(N:Nat):Nat→cH.YO
 |0,_,_,_,_,_=>none
 |n+1,x2,x4,x6,bp,Vi=>cH.abb N (cH.l30 N n) x2 x4 x6 bp Vi
def cH.OB(an8:cH.YO)(mW:cH.uP)(x2:Int)(x4:aB)(x5:ae)(x6:aq)(bp:bO)(lE:Int):Option (bO×(Int)):=
 cond (aT lE (ℓ x6.1)) (cond (a7 lE (ℓ x6.1)) ((XW N (γ x6.1 lE.toNat ct).2.1).bind λPd=>cond (!Pd) (mW x2 x4 x5 x6 bp (W .i64 (lE+1))) (cond (aM (γ x6.1 lE.toNat ct).1 x2) (mW x2 x4 x5 x6 bp (W .i64 (lE+1))) ((kF N x5.2.2.1).bind λQf=>(ka N x6.2.2.1 6 (γ x6.1 lE.toNat ct).1).bind λL4=>(kF N L4).bind λL8=>(jZ N Qf L8).bind λL9=>(NJ N L9).bind λDQ=>cond (!DQ.2) (some ([],2)) (cond (aT 0 DQ.1) (cond (small (ℓ bp+ℓ ([(8,(7,((γ x6.1 lE.toNat ct).1,(DQ.1,(0,())))))]))) (mW x2 x4 x5 x6 (bp++([(8,(7,((γ x6.1 lE.toNat ct).1,(DQ.1,(0,())))))])) (W .i64 (lE+1))) none) (mW x2 x4 x5 x6 bp (W .i64 (lE+1))))))) none) (an8 x2 x4 x6 bp 0)
def cH.IT(N:Nat):Nat→cH.uP
 |0,_,_,_,_,_,_=>none
 |n+1,x2,x4,x5,x6,bp,lE=>cH.OB N (cH.l30 N N) (cH.IT N n) x2 x4 x5 x6 bp lE
def cH.pZ(YD:cH.HF)(YN:cH.uP)(lX:cH.jF)(x2:Int)(x3 x4:aB)(x5:ae)(x6:aq)(bp:bO)(cy:Int):Option (bO×(Int)):=
 cond (cY cy 4) ((sm N x5 x6 x3 x2 cy).bind λqc=>YD x2 x3 x4 x5 x6 bp cy qc.1 0) (YN x2 x4 x5 x6 bp 0)
def cH.qA(N:Nat):Nat→cH.jF
 |0,_,_,_,_,_,_,_=>none
 |n+1,x2,x3,x4,x5,x6,bp,cy=>cH.pZ N (cH.LZ N (cH.qA N n) N) (cH.IT N N) (cH.qA N n) x2 x3 x4 x5 x6 bp cy
def cH.NL(xH:cH.jF)(x2:Int)(x3 x4:aB)(x5:ae)(x6:aq)(bp:bO):Option (bO×(Int)):=
 (Lo N bp x6 2 6 x2).bind λr8=>(Lo N r8 x6 3 3 0).bind λr9=>xH x2 x3 x4 x5 x6 r9 1
def cH.j9(x2:Int)(x3 x4:aB)(x5:ae)(x6:aq)(bp:bO):Option (bO×(Int)):=cH.NL N (cH.qA N N) x2 x3 x4 x5 x6 bp
def cH.b(HN:cH.Ry)(a0:ae)(a1:aq)(a2:Int)(a3 a4:aB):Option (bO×(Int)):=
 (fY N a0 a1).bind λr1=>cond (!r1) (some ([],1)) ((pI N a3).bind λr2=>cond (!r2) (some ([],1)) ((qE N a4).bind λr3=>cond (!r3) (some ([],1)) ((Sn N a1.1 a2).bind λr4=>cond (aM r4 0) (some ([],3)) ((mG N a1.2.1 a2).bind λr5=>cond (!aM r5 0) ((Lo N ([]) a1 1 5 r5).bind λr6=>HN a2 a3 a4 a0 a1 r6) (HN a2 a3 a4 a0 a1 ([]))))))
def cH(a0:ae)(a1:aq)(a2:Int)(a3 a4:aB):Option (bO×(Int)):=cH.b N (cH.j9 N) a0 a1 a2 a3 a4
def abc(a0:ae)(a1:aq):Option ((Int)×(Int)):=
 (fY N a0 a1).bind λr1=>cond (!r1) (some (0,1)) ((ka N a1.2.2.1 2 0).bind λr2=>cond (aM r2 (-9223372036854775808)) (some (0,2)) (some ((mx (W .i64 (0-r2)) 0),0)))
abbrev so.bT:=bO→Int→Option Bool
def so.ew(cB:so.bT)(x0:bO)(x3:Int):Option Bool:=
 cond (aT x3 (ℓ x0)) (cond (a7 x3 (ℓ x0)) (cond (aT (γ x0 x3.toNat np).1 1) (some false) (cond (aT 9 (γ x0 x3.toNat np).1) (some false) ((QE N (γ x0 x3.toNat np).2.1 (γ x0 x3.toNat np).2.2.1).bind λr2=>cond (!r2) (some false) (cond (aT (γ x0 x3.toNat np).2.2.2.1 1) (some false) (cond (aT (γ x0 x3.toNat np).2.2.2.2.1 0) (some false) (cond (aT (γ x0 x3.toNat np).2.2.2.1 (γ x0 x3.toNat np).2.2.2.2.1) (some false) (cond (aT 0 x3) (let v3:Int:=W .i64 (x3-1);cond (a7 v3 (ℓ x0)) (cond (aT (γ x0 x3.toNat np).1 (γ x0 v3.toNat np).1) (some false) (let v4:Int:=W .i64 (x3-1);cond (a7 v4 (ℓ x0)) (cond (aM (γ x0 x3.toNat np).1 (γ x0 v4.toNat np).1) (let v5:Int:=W .i64 (x3-1);cond (a7 v5 (ℓ x0)) (cond (!aM (γ x0 x3.toNat np).2.1 (γ x0 v5.toNat np).2.1) (some false) (let v6:Int:=W .i64 (x3-1);cond (a7 v6 (ℓ x0)) (cond (cY (γ x0 x3.toNat np).2.2.1 (γ x0 v6.toNat np).2.2.1) (some false) (cB x0 (W .i64 (x3+1)))) none)) none) (cB x0 (W .i64 (x3+1)))) none)) none) (cB x0 (W .i64 (x3+1)))))))))) none) (some true)
def so.l4(N:Nat):Nat→so.bT
 |0,_,_=>none
 |n+1,x0,x3=>so.ew N (so.l4 N n) x0 x3
def so.b(N:Nat)(fN:so.bT)(a0:bO):Option Bool:=
 cond (aT 64 (ℓ a0)) (some false) (fN a0 0)
def so(a0:bO):Option Bool:=so.b N (so.l4 N N) a0
abbrev dw.xI:=bO→Int→Int→Int→(List Int)→Int→Option (bO×(Int)×(Int))
abbrev dw.O5:=bO→Int→Int→Int→(List Int)→Option (bO×(Int)×(Int))
abbrev dw.fe:=bO→Int→Int→Int→(List Int)→Option (bO×(Int)×(Int))
abbrev dw.cc:=bO→Int→Int→Option (bO×(Int)×(Int))
def dw.En(N:Nat)(bX:dw.cc)(HQ:dw.xI)(x7:bO)(x8 x9 bn:Int)(cy:List Int)(dO:Int):Option (bO×(Int)×(Int)):=
 cond (aT dO bn) (let v13:Int:=W .i64 (dO-x9);cond (a7 v13 (ℓ cy)) (cond (a7 dO (ℓ x7)) (let Vx:Int:=W .i64 (dO-x9);cond (a7 Vx (ℓ cy)) (HQ (List.set x7 dO.toNat ((γ x7 dO.toNat np).1,((γ x7 dO.toNat np).2.1,((γ x7 dO.toNat np).2.2.1,((γ x7 dO.toNat np).2.2.2.1,(γ cy v13.toNat 0,(γ x7 dO.toNat np).2.2.2.2.2)))))) (W .i64 (x8-(γ cy Vx.toNat 0))) x9 bn cy (W .i64 (dO+1))) none) none) none) (bX x7 x8 bn)
def dw.Ig(N:Nat)(bX:dw.cc):Nat→dw.xI
 |0,_,_,_,_,_,_=>none
 |n+1,x7,x8,x9,bn,cy,dO=>dw.En N bX (dw.Ig N bX n) x7 x8 x9 bn cy dO
def dw.Cs(O7:dw.xI)(bX:dw.cc)(x7:bO)(x8 x9 bn:Int)(a8:List Int):Option (bO×(Int)×(Int)):=
 (pW N a8).bind λr8=>(NJ N r8).bind λr9=>cond (!r9.2) (some ([],0,2)) ((pA N (mn r9.1 x8) a8).bind λqc=>cond (!aM qc.2 0) (some ([],0,qc.2)) (O7 x7 x8 x9 bn qc.1 x9))
def dw.JW(bX:dw.cc)(x7:bO)(x8 x9 bn:Int)(a8:List Int):Option (bO×(Int)×(Int)):=dw.Cs N (dw.Ig N bX N) bX x7 x8 x9 bn a8
def dw.zo(N:Nat)(DS:dw.O5)(bX:dw.cc)(di:dw.fe)(x7:bO)(x8 x9 bn:Int)(a8:List Int):Option (bO×(Int)×(Int)):=
 cond (aT bn (ℓ x7)) (cond (a7 bn (ℓ x7)) (cond (a7 x9 (ℓ x7)) (cond (aM (γ x7 bn.toNat np).1 (γ x7 x9.toNat np).1) (cond (a7 bn (ℓ x7)) (cond (small (ℓ a8+ℓ ([(γ x7 bn.toNat np).2.2.2.1]))) (di x7 x8 x9 (W .i64 (bn+1)) (a8++([(γ x7 bn.toNat np).2.2.2.1]))) none) none) (DS x7 x8 x9 bn a8)) none) none) (DS x7 x8 x9 bn a8)
def dw.l8(N:Nat)(bX:dw.cc):Nat→dw.fe
 |0,_,_,_,_,_=>none
 |n+1,x7,x8,x9,bn,a8=>dw.zo N (dw.JW N bX) bX (dw.l8 N bX n) x7 x8 x9 bn a8
def dw.e8(N:Nat)(CG:dw.fe)(bX:dw.cc)(x7:bO)(x8 x9:Int):Option (bO×(Int)×(Int)):=
 cond (aT x9 (ℓ x7)) (CG x7 x8 x9 x9 ([])) (some (x7,x8,0))
def dw.l5(N:Nat):Nat→dw.cc
 |0,_,_,_=>none
 |n+1,x7,x8,x9=>dw.e8 N (dw.l8 N (dw.l5 N n) N) (dw.l5 N n) x7 x8 x9
def dw.b(ga:dw.cc)(a0:bO)(a1:Int):Option (bO×(Int)×(Int)):=
 (so N a0).bind λr1=>cond (!r1) (some ([],0,1)) (cond (aT a1 0) (some ([],0,1)) (cond (small (ℓ ED+ℓ a0)) (ga (ED++a0) a1 0) none))
def dw(a0:bO)(a1:Int):Option (bO×(Int)×(Int)):=dw.b N (dw.l5 N N) a0 a1
def abd(a0:ae)(a1:aq):Option ((Int)×(Int)):=
 (fY N a0 a1).bind λr1=>cond (!r1) (some (0,1)) ((ka N a1.2.2.1 2 0).bind λr2=>some ((mx r2 0),0))
abbrev iz.an9:=aq→aq→dG→bJ→dG→bO→Int→Int→Int→Option (aq×dG×(Int))
abbrev iz.sx:=Int→ae→aq→aq→dG→bO→Int→bJ→dG→bO→Int→Option (aq×dG×(Int))
def iz.abf(x6 bn:aq)(a8:dG)(lE:bJ)(nW:dG)(HT:bO)(x21 x23 x24:Int):Option (aq×dG×(Int)):=
 (kF N x21).bind λBC=>(Cu N 2 0 x23 x24 BC).bind λDR=>cond (small (ℓ lE+ℓ DR)) ((Bu N x6 cf (lE++DR)).bind λO4=>cond (!aM O4.2 0) (some ((bM,(dh,(cf,(cf,(dW,(eu,())))))),(0,(0,(ED,(0,())))),O4.2)) (some (O4.1,(nW.1,(nW.2.1,(HT,nW.2.2.2))),0))) none
def iz.j26(x6 bn:aq)(a8:dG)(lE:bJ)(nW:dG)(HT:bO)(x21 x23 x24:Int):Option (aq×dG×(Int)):=iz.abf N x6 bn a8 lE nW HT x21 x23 x24
def iz.Bf(agb:iz.an9)(mV:iz.sx)(x2:Int)(x5:ae)(x6 bn:aq)(a8:dG)(cq:bO)(dx:Int)(lE:bJ)(nW:dG)(HT:bO)(xG:Int):Option (aq×dG×(Int)):=
 cond (aT xG (ℓ cq)) (cond (a7 xG (ℓ cq)) (cond (aT 0 (γ cq xG.toNat np).2.2.2.2.1) (cond (a7 xG (ℓ cq)) (cond (small (ℓ HT+ℓ ([γ cq xG.toNat np]))) (cond (a7 xG (ℓ cq)) (cond (a7 xG (ℓ cq)) (cond (a7 xG (ℓ cq)) ((kF N (γ cq xG.toNat np).2.2.2.2.1).bind λr6=>(Cu N (γ cq xG.toNat np).2.1 (γ cq xG.toNat np).2.2.1 2 0 r6).bind λr7=>cond (small (ℓ lE+ℓ r7)) (mV x2 x5 x6 bn a8 cq dx (lE++r7) (nW.1,(nW.2.1,(ED,nW.2.2.2))) (HT++([γ cq xG.toNat np])) (W .i64 (xG+1))) none) none) none) none) none) none) (mV x2 x5 x6 bn a8 cq dx lE nW HT (W .i64 (xG+1)))) none) ((kF N dx).bind λqc=>(Cu N 4 0 2 0 qc).bind λqd=>cond (small (ℓ lE+ℓ qd)) (let v13:List ((Int)×((Int)×(((Bool)×((List Int)×(Unit)))×(Unit)))):=lE++qd;(abd N x5 x6).bind λwq=>(mG N x6.2.1 x2).bind λzG=>cond (!aM zG 0) (agb x6 bn a8 v13 nW HT wq.1 5 zG) (agb x6 bn a8 v13 nW HT wq.1 6 x2)) none)
def iz.yc(N:Nat):Nat→iz.sx
 |0,_,_,_,_,_,_,_,_,_,_,_=>none
 |n+1,x2,x5,x6,bn,a8,cq,dx,lE,nW,HT,xG=>iz.Bf N (iz.j26 N) (iz.yc N n) x2 x5 x6 bn a8 cq dx lE nW HT xG
def iz.b(O6:iz.sx)(a0:ae)(a1:aq)(a2:Int)(a3 a4:aB):Option (aq×dG×(Int)):=
 (cH N a0 a1 a2 a3 a4).bind λr1=>cond (aM r1.2 1) (some ((bM,(dh,(cf,(cf,(dW,(eu,())))))),(0,(0,(ED,(0,())))),r1.2)) (cond (aM r1.2 3) (some ((bM,(dh,(cf,(cf,(dW,(eu,())))))),(0,(0,(ED,(0,())))),r1.2)) ((abc N a0 a1).bind λr2=>cond (!aM r2.2 0) (some ((bM,(dh,(cf,(cf,(dW,(eu,())))))),(0,(0,(ED,(0,())))),r2.2)) (cond (!aM r1.2 0) (some ((bM,(dh,(cf,(cf,(dW,(eu,())))))),(0,(0,(ED,(0,())))),r1.2)) ((dw N r1.1 r2.1).bind λr3=>cond (!aM r3.2.2 0) (some ((bM,(dh,(cf,(cf,(dW,(eu,())))))),(0,(0,(ED,(0,())))),r3.2.2)) (O6 a2 a0 a1 (bM,(dh,(cf,(cf,(dW,(eu,())))))) (0,(0,(ED,(0,())))) r3.1 r3.2.1 ([]) (a2,(r2.1,(ED,(r3.2.1,())))) ED 0)))))
def iz(a0:ae)(a1:aq)(a2:Int)(a3 a4:aB):Option (aq×dG×(Int)):=iz.b N (iz.yc N N) a0 a1 a2 a3 a4
abbrev eI.BF:=(List Int)→(List Int)→(List Int)→Int→Int→(List Int)→Int→Option ((List Int)×(Int)×(Int))
abbrev eI.jF:=(List Int)→(List Int)→(List Int)→Int→Int→(List Int)→Bool→Int→Option ((List Int)×(Int)×(Int))
abbrev eI.fe:=(List Int)→(List Int)→(List Int)→Int→Int→Option ((List Int)×(Int)×(Int))
def eI.QZ(N:Nat)(di:eI.fe)(DU:eI.BF)(x1 x2 a8:List Int)(bp cq:Int)(dx:List Int)(nW:Int):Option ((List Int)×(Int)×(Int)):=
 cond (aT nW (ℓ x1)) (cond (a7 nW (ℓ dx)) (cond (a7 nW (ℓ x2)) (cond (a7 nW (ℓ a8)) (let YK:Int:=mn (γ dx nW.toNat 0) (W .i64 ((γ x2 nW.toNat 0)-(γ a8 nW.toNat 0)));cond (a7 nW (ℓ a8)) (cond (a7 nW (ℓ a8)) (DU x1 x2 (List.set a8 nW.toNat (W .i64 ((γ a8 nW.toNat 0)+YK))) (W .i64 (bp-YK)) cq dx (W .i64 (nW+1))) none) none) none) none) none) (di x1 x2 a8 bp (W .i64 (cq+1)))
def eI.Oh(N:Nat)(di:eI.fe):Nat→eI.BF
 |0,_,_,_,_,_,_,_=>none
 |n+1,x1,x2,a8,bp,cq,dx,nW=>eI.QZ N di (eI.Oh N di n) x1 x2 a8 bp cq dx nW
def eI.pZ(YP:eI.BF)(di:eI.fe)(lX:eI.jF)(x1 x2 a8:List Int)(bp cq:Int)(cy:List Int)(cG:Bool)(dO:Int):Option ((List Int)×(Int)×(Int)):=
 cond (aT dO (ℓ x1)) (cond (a7 dO (ℓ x1)) (cond (aT 0 (γ x1 dO.toNat 0)) (cond (a7 dO (ℓ a8)) (cond (a7 dO (ℓ x2)) (cond (aT (γ a8 dO.toNat 0) (γ x2 dO.toNat 0)) (cond (a7 dO (ℓ x1)) (cond (a7 dO (ℓ cy)) (lX x1 x2 a8 bp cq (List.set cy dO.toNat (γ x1 dO.toNat 0)) true (W .i64 (dO+1))) none) none) (lX x1 x2 a8 bp cq cy cG (W .i64 (dO+1)))) none) none) (lX x1 x2 a8 bp cq cy cG (W .i64 (dO+1)))) none) (cond (aM bp 0) (some (a8,bp,0)) (cond (!cG) (some (a8,bp,0)) ((pA N bp cy).bind λtG=>YP x1 x2 a8 bp cq tG.1 0)))
def eI.qA(N:Nat)(di:eI.fe):Nat→eI.jF
 |0,_,_,_,_,_,_,_,_=>none
 |n+1,x1,x2,a8,bp,cq,cy,cG,dO=>eI.pZ N (eI.Oh N di N) di (eI.qA N di n) x1 x2 a8 bp cq cy cG dO
def eI.zo(N:Nat)(xH:eI.jF)(di:eI.fe)(x1 x2 a8:List Int)(bp cq:Int):Option ((List Int)×(Int)×(Int)):=
 cond (cY cq (ℓ x1)) (cond (iP (ℓ x1) (ℓ x1)) (xH x1 x2 a8 bp cq (List.replicate (ℓ x1:Int).toNat 0) false 0) none) (some (a8,bp,0))
def eI.l8(N:Nat):Nat→eI.fe
 |0,_,_,_,_,_=>none
 |n+1,x1,x2,a8,bp,cq=>eI.zo N (eI.qA N (eI.l8 N n) N) (eI.l8 N n) x1 x2 a8 bp cq
def eI.b(CG:eI.fe)(a0:Int)(a1 a2:List Int):Option ((List Int)×(Int)×(Int)):=
 (p3 N a0 a1).bind λr1=>cond (r1) (some ([],0,1)) (cond (!aM (ℓ a2) (ℓ a1)) (some ([],0,1)) ((p3 N 0 a2).bind λr2=>cond (r2) (some ([],0,1)) ((pW N a1).bind λr3=>(NJ N r3).bind λr4=>cond (!r4.2) (some ([],0,2)) (cond (iP (ℓ a1) (ℓ a1)) (CG a1 a2 (List.replicate (ℓ a1:Int).toNat 0) a0 0) none))))
def eI(a0:Int)(a1 a2:List Int):Option ((List Int)×(Int)×(Int)):=eI.b N (eI.l8 N N) a0 a1 a2
abbrev fA.qb:=Int→Int→(List Int)→(List Int)→aC→Int→Option (aC×(Int))
abbrev fA.xJ:=Int→aq→Int→(List Int)→(List Int)→Int→Option (aC×(Int))
def fA.Bo(N:Nat)(pL:fA.qb)(x2 x8:Int)(x9 cq:List Int)(dO:aC)(dx:Int):Option (aC×(Int)):=
 cond (aT dx (ℓ cq)) (cond (a7 dx (ℓ cq)) (cond (aT x8 0) (let v17:Int:=W .i64 (0-(γ cq dx.toNat 0));cond (!aM v17 0) (cond (a7 dx (ℓ x9)) (cond (small (ℓ dO+ℓ ([(γ x9 dx.toNat 0,(x2,(v17,())))]))) (pL x2 x8 x9 cq (dO++([(γ x9 dx.toNat 0,(x2,(v17,())))])) (W .i64 (dx+1))) none) none) (pL x2 x8 x9 cq dO (W .i64 (dx+1)))) (cond (!aM (γ cq dx.toNat 0) 0) (cond (a7 dx (ℓ x9)) (cond (small (ℓ dO+ℓ ([(γ x9 dx.toNat 0,(x2,(γ cq dx.toNat 0,())))]))) (pL x2 x8 x9 cq (dO++([(γ x9 dx.toNat 0,(x2,(γ cq dx.toNat 0,())))])) (W .i64 (dx+1))) none) none) (pL x2 x8 x9 cq dO (W .i64 (dx+1))))) none) (some (dO,0))
def fA.yF(N:Nat):Nat→fA.qb
 |0,_,_,_,_,_,_=>none
 |n+1,x2,x8,x9,cq,dO,dx=>fA.Bo N (fA.yF N n) x2 x8 x9 cq dO dx
def fA.zr(O0:fA.qb)(BE:fA.xJ)(x2:Int)(x4:aq)(x8:Int)(x9 bn:List Int)(a8:Int):Option (aC×(Int)):=
 cond (aT a8 (ℓ x4.2.2.2.1)) (cond (a7 a8 (ℓ x4.2.2.2.1)) (cond (!aM (γ x4.2.2.2.1 a8.toNat bW).1 0) (cond (aM (γ x4.2.2.2.1 a8.toNat bW).2.1 x2) (cond (!(ti .bool (aT 0 (γ x4.2.2.2.1 a8.toNat bW).2.2.1) (aT 0 x8))) (cond (small (ℓ x9+ℓ ([(γ x4.2.2.2.1 a8.toNat bW).1]))) (let v6:Int:=mx (γ x4.2.2.2.1 a8.toNat bW).2.2.1 (W .i64 (0-((γ x4.2.2.2.1 a8.toNat bW).2.2.1)));cond (small (ℓ bn+ℓ ([v6]))) (BE x2 x4 x8 (x9++([(γ x4.2.2.2.1 a8.toNat bW).1])) (bn++([v6])) (W .i64 (a8+1))) none) none) (BE x2 x4 x8 x9 bn (W .i64 (a8+1)))) (BE x2 x4 x8 x9 bn (W .i64 (a8+1)))) (BE x2 x4 x8 x9 bn (W .i64 (a8+1)))) none) ((eI N (mx x8 (W .i64 (0-x8))) bn bn).bind λwq=>cond (!aM wq.2.2 0) (some ([],wq.2.2)) (O0 x2 x8 x9 wq.1 ([(0,(x2,((W .i64 (0-x8)),())))]) 0))
def fA.Co(N:Nat):Nat→fA.xJ
 |0,_,_,_,_,_,_=>none
 |n+1,x2,x4,x8,x9,bn,a8=>fA.zr N (fA.yF N N) (fA.Co N n) x2 x4 x8 x9 bn a8
def fA.b(O9:fA.xJ)(a0:ae)(a1:aq)(a2:Int):Option (aC×(Int)):=
 (fY N a0 a1).bind λr1=>cond (!r1) (some ([],1)) (cond (aT a2 0) (some ([],3)) (cond (cY (ℓ a0.1) a2) (some ([],3)) ((Dx N a1.2.2.2.1 0 a2).bind λr2=>cond (aM r2 0) (some ([],0)) (O9 a2 a1 r2 ([]) ([]) 0))))
def fA(a0:ae)(a1:aq)(a2:Int):Option (aC×(Int)):=fA.b N (fA.Co N N) a0 a1 a2
abbrev nQ.cc:=ae→aq→aq→aC→Int→Option (aq×(Int))
def nQ.e8(bX:nQ.cc)(x2:ae)(x3 x4:aq)(x6:aC)(x7:Int):Option (aq×(Int)):=
 cond (aT x7 (ℓ x2.1)) ((fA N x2 x3 x7).bind λr3=>cond (!aM r3.2 0) (some ((bM,(dh,(cf,(cf,(dW,(eu,())))))),r3.2)) (cond (small (ℓ x6+ℓ r3.1)) (bX x2 x3 x4 (x6++r3.1) (W .i64 (x7+1))) none)) ((Bu N x3 x6 ([]:List ((Int)×((Int)×(((Bool)×((List Int)×(Unit)))×(Unit)))))).bind λr6=>some (r6.1,r6.2))
def nQ.l5(N:Nat):Nat→nQ.cc
 |0,_,_,_,_,_=>none
 |n+1,x2,x3,x4,x6,x7=>nQ.e8 N (nQ.l5 N n) x2 x3 x4 x6 x7
def nQ.b(ga:nQ.cc)(a0:ae)(a1:aq):Option (aq×(Int)):=
 (fY N a0 a1).bind λr1=>cond (!r1) (some ((bM,(dh,(cf,(cf,(dW,(eu,())))))),1)) (ga a0 a1 (bM,(dh,(cf,(cf,(dW,(eu,())))))) ([]) 0)
def nQ(a0:ae)(a1:aq):Option (aq×(Int)):=nQ.b N (nQ.l5 N N) a0 a1
abbrev nS.YQ:=aV→aV→eP→aN→Int→Int→Option (aV×eP)
def nS.abk(N:Nat)(agc:nS.YQ)(x4 x6:aV)(x7:eP)(cy:aN)(dO dx:Int):Option (aV×eP):=
 cond (aT dx (ℓ cy)) (cond (a7 dx (ℓ cy)) (cond (aM (γ cy dx.toNat (0,(bM,aQ))).2.2.2.1 2) (agc x4 x6 x7 cy (W .i64 (dO+1)) (W .i64 (dx+1))) (agc x4 x6 x7 cy dO (W .i64 (dx+1)))) none) (some (x4,(0,(dO,(0,())))))
def nS.l41(N:Nat):Nat→nS.YQ
 |0,_,_,_,_,_,_=>none
 |n+1,x4,x6,x7,cy,dO,dx=>nS.abk N (nS.l41 N n) x4 x6 x7 cy dO dx
def nS.b(aoa:nS.YQ)(a0:ae)(a1:aV)(a2:ia):Option (aV×eP):=
 cond (aM a2.1 14) ((UH N a0 a1.2.2.1 a1.2.2.2.1.1 a2.2.1 a2.2.2.1).bind λr1=>(fp N r1.2).bind λr2=>some ((a1.1,(a1.2.1,(r1.1,a1.2.2.2))),r2)) (cond (aM a2.1 15) ((gy N a0 a1.2.2.1 a1.2.2.2.1.1).bind λr3=>(fp N r3.2).bind λr4=>some ((a1.1,(a1.2.1,(r3.1,((a1.2.2.2.1.1,(2,(0,a1.2.2.2.1.2.2.2))),a1.2.2.2.2)))),r4)) (cond (aM a2.1 16) ((jf N a0 a1.2.2.1 a1.2.1).bind λr5=>some ((a1.1,((W .i64 (a1.2.1+(ℓ r5.1:Int))),(a1.2.2.1,((a1.2.2.2.1.1,(a1.2.2.2.1.2.1,(a1.2.2.2.1.2.2.1,(a1.2.2.2.1.2.2.2.1,(r5.1,a1.2.2.2.1.2.2.2.2.2))))),a1.2.2.2.2)))),(r5.2,((ℓ r5.1:Int),(0,()))))) (cond (aM a2.1 17) ((nR N a0 a1 a2).bind λr7=>some (r7.1,r7.2)) (cond (aM a2.1 18) (cond (aM a1.2.2.2.1.2.2.2.1 3) ((fp N 5).bind λr8=>some (a1,r8)) ((ei N a0 a1.2.2.1 a1.2.1).bind λr9=>cond (!aM r9.2 0) ((fp N r9.2).bind λnV=>some (a1,nV)) ((US N a1 a0.2.2.2.2.1).bind λqc=>cond (!qc.2) ((fp N 2).bind λqd=>some (a1,qd)) ((sh N a0 a1.2.2.1).bind λwq=>some ((a1.1,((W .i64 (a1.2.1+(ℓ r9.1:Int))),(a1.2.2.1,((a1.2.2.2.1.1,(3,(qc.1,((W .i64 (a1.2.2.2.1.2.2.2.1+1)),(dh,(r9.1,(dh,(wq.1,a1.2.2.2.1.2.2.2.2.2.2.2.2)))))))),a1.2.2.2.2)))),(0,((ℓ r9.1:Int),(0,())))))))) (cond (aM a2.1 19) ((aa7 N a0 a1.2.2.1 a1.2.2.2.1.2.2.2.2.2.1 a1.2.2.2.1.2.2.2.2.2.2.1 (a1.2.1,(a2.2.2.2.2.2.1,(a2.2.1,(a2.2.2.2.2.2.2.2.1,()))))).bind λEu=>let v17:Int:=W .i64 (a1.2.1+1);some ((a1.1,(v17,(a1.2.2.1,((a1.2.2.2.1.1,(a1.2.2.2.1.2.1,(a1.2.2.2.1.2.2.1,(a1.2.2.2.1.2.2.2.1,(a1.2.2.2.1.2.2.2.2.1,(a1.2.2.2.1.2.2.2.2.2.1,(Eu.1,a1.2.2.2.1.2.2.2.2.2.2.2))))))),a1.2.2.2.2)))),(Eu.2,((W .i64 (v17-1)),(0,()))))) (cond (aM a2.1 20) ((fH N a0 a1.2.2.1 a1.2.2.2.1.2.2.2.2.2.1 a1.2.2.2.1.2.2.2.2.2.2.1).bind λPd=>cond (!aM Pd.2.2 0) ((fp N Pd.2.2).bind λO4=>some (a1,O4)) ((dm N a0 a1.2.2.2.1.2.2.2.2.2.2.2.2.1 a1.2.2.2.1.2.2.2.2.2.2.2.1 Pd.2.1 a1.2.2.2.1.2.2.2.2.2.2.1).bind λS7=>aoa (a1.1,(a1.2.1,(Pd.1,((a1.2.2.2.1.1,(2,(0,(a1.2.2.2.1.2.2.2.1,(a1.2.2.2.1.2.2.2.2.1,(Pd.2.1,(a1.2.2.2.1.2.2.2.2.2.2.1,(a1.2.2.2.1.2.2.2.2.2.2.2.1,(S7.1,a1.2.2.2.1.2.2.2.2.2.2.2.2.2))))))))),a1.2.2.2.2)))) (0,(0,((bM,(dh,(cf,(cf,(dW,(eu,())))))),((0,(0,(0,(0,(dh,(([]:List ((Int)×((List ((Int)×((Int)×(Unit))))×((Int)×((Int)×((Int)×((Int)×(Unit)))))))),(dh,(dW,(bM,(bM,())))))))))),((0,(0,(ED,(0,())))),()))))) bW Pd.2.1 0 0)) (cond (aM a2.1 21) ((iz N a0 a1.2.2.1 a1.2.2.2.1.1 a1.2.2.2.1.2.2.2.2.2.2.2.2.1 a1.2.2.2.1.2.2.2.2.2.2.2.2.2.1).bind λDQ=>cond (!aM DQ.2.2 0) ((fp N DQ.2.2).bind λVh=>some (a1,Vh)) ((nQ N a0 DQ.1).bind λr28=>cond (!aM r28.2 0) ((fp N r28.2).bind λVf=>some (a1,Vf)) ((lW N r28.1.1 a1.2.2.2.1.1 a2.1).bind λVz=>some ((a1.1,(a1.2.1,((Vz.1,r28.1.2),((0,(0,(0,(0,(dh,(([]:List ((Int)×((List ((Int)×((Int)×(Unit))))×((Int)×((Int)×((Int)×((Int)×(Unit)))))))),(dh,(dW,(bM,(bM,())))))))))),(DQ.2.1,a1.2.2.2.2.2))))),(Vz.2,(0,(DQ.2.1.2.1,()))))))) ((fp N 0).bind λTb=>some (a1,Tb)))))))))
def nS(a0:ae)(a1:aV)(a2:ia):Option (aV×eP):=nS.b N (nS.l41 N N) a0 a1 a2
abbrev p6.O1:=ae→aV→ia→aV→eP→Option (aV×eP)
def p6.Ep(x3:ae)(x4:aV)(x5:ia)(x6:aV)(x7:eP):Option (aV×eP):=
 (abl N x4 x5.1).bind λVh=>cond (!Vh) ((fp N 6).bind λr28=>some (x4,r28)) ((nS N x3 x4 x5).bind λVf=>some (Vf.1,Vf.2))
def p6.L1(x3:ae)(x4:aV)(x5:ia)(x6:aV)(x7:eP):Option (aV×eP):=p6.Ep N x3 x4 x5 x6 x7
def p6.b(DP:p6.O1)(a0:ae)(a1:aV)(a2:ia):Option (aV×eP):=
 cond (aM a2.1 11) ((lW N a1.2.2.1.1 a2.2.1 a2.1).bind λr1=>cond (aM r1.2 0) (cond (aM a2.1 11) ((Li N a0 (r1.1,a1.2.2.1.2) a2.2.1).bind λr2=>cond (aM a1.2.2.2.1.2.1 3) ((pG N a1.2.2.2.1.2.2.2.2.2.2.1 a2.2.1).bind λr3=>(fp N r1.2).bind λr4=>some ((a1.1,(a1.2.1,(r2.1,((a1.2.2.2.1.1,(a1.2.2.2.1.2.1,(a1.2.2.2.1.2.2.1,(a1.2.2.2.1.2.2.2.1,(a1.2.2.2.1.2.2.2.2.1,(a1.2.2.2.1.2.2.2.2.2.1,(r3,a1.2.2.2.1.2.2.2.2.2.2.2))))))),a1.2.2.2.2)))),r4)) ((fp N r1.2).bind λr5=>some ((a1.1,(a1.2.1,(r2.1,a1.2.2.2))),r5))) ((fp N r1.2).bind λr6=>some ((a1.1,(a1.2.1,((r1.1,a1.2.2.1.2),a1.2.2.2))),r6))) ((fp N r1.2).bind λr7=>some ((a1.1,(a1.2.1,((r1.1,a1.2.2.1.2),a1.2.2.2))),r7))) (cond (aM a2.1 12) ((lW N a1.2.2.1.1 a2.2.1 a2.1).bind λr8=>cond (aM r8.2 0) (cond (aM a2.1 11) ((Li N a0 (r8.1,a1.2.2.1.2) a2.2.1).bind λr9=>cond (aM a1.2.2.2.1.2.1 3) ((pG N a1.2.2.2.1.2.2.2.2.2.2.1 a2.2.1).bind λnV=>(fp N r8.2).bind λqc=>some ((a1.1,(a1.2.1,(r9.1,((a1.2.2.2.1.1,(a1.2.2.2.1.2.1,(a1.2.2.2.1.2.2.1,(a1.2.2.2.1.2.2.2.1,(a1.2.2.2.1.2.2.2.2.1,(a1.2.2.2.1.2.2.2.2.2.1,(nV,a1.2.2.2.1.2.2.2.2.2.2.2))))))),a1.2.2.2.2)))),qc)) ((fp N r8.2).bind λqd=>some ((a1.1,(a1.2.1,(r9.1,a1.2.2.2))),qd))) ((fp N r8.2).bind λtG=>some ((a1.1,(a1.2.1,((r8.1,a1.2.2.1.2),a1.2.2.2))),tG))) ((fp N r8.2).bind λwq=>some ((a1.1,(a1.2.1,((r8.1,a1.2.2.1.2),a1.2.2.2))),wq))) (cond (aM a2.1 13) ((Hi N a1 a2.2.1).bind λzG=>cond (aM zG 0) ((fp N 3).bind λEu=>some (a1,Eu)) (cond (!aM a1.2.2.2.1.2.1 0) ((fp N 6).bind λBC=>some (a1,BC)) ((lW N a1.2.2.1.1 a2.2.1 a2.1).bind λDR=>cond (!aM DR.2 0) ((fp N DR.2).bind λPd=>some ((a1.1,(a1.2.1,((DR.1,a1.2.2.1.2),a1.2.2.2))),Pd)) ((US N (a1.1,(a1.2.1,((DR.1,a1.2.2.1.2),a1.2.2.2))) a0.2.2.2.1).bind λO4=>cond (!O4.2) ((fp N 2).bind λS7=>some ((a1.1,(a1.2.1,((DR.1,a1.2.2.1.2),a1.2.2.2))),S7)) (some ((a1.1,(a1.2.1,((DR.1,a1.2.2.1.2),((a2.2.1,(1,(O4.1,(0,(dh,(([]:List ((Int)×((List ((Int)×((Int)×(Unit))))×((Int)×((Int)×((Int)×((Int)×(Unit)))))))),(dh,(dW,(bM,(bM,())))))))))),a1.2.2.2.2)))),bW)))))) (cond (aM a2.1 19) ((Hi N a1 a2.2.1).bind λQf=>cond (aM Qf 0) ((fp N 3).bind λL4=>some (a1,L4)) ((Hi N a1 a2.2.1).bind λL8=>cond (!aM L8 1) ((fp N 7).bind λL9=>some (a1,L9)) (DP a0 a1 a2 (0,(0,((bM,(dh,(cf,(cf,(dW,(eu,())))))),((0,(0,(0,(0,(dh,(([]:List ((Int)×((List ((Int)×((Int)×(Unit))))×((Int)×((Int)×((Int)×((Int)×(Unit)))))))),(dh,(dW,(bM,(bM,())))))))))),((0,(0,(ED,(0,())))),()))))) bW))) (DP a0 a1 a2 (0,(0,((bM,(dh,(cf,(cf,(dW,(eu,())))))),((0,(0,(0,(0,(dh,(([]:List ((Int)×((List ((Int)×((Int)×(Unit))))×((Int)×((Int)×((Int)×((Int)×(Unit)))))))),(dh,(dW,(bM,(bM,())))))))))),((0,(0,(ED,(0,())))),()))))) bW))))
def p6(a0:ae)(a1:aV)(a2:ia):Option (aV×eP):=p6.b N (p6.L1 N) a0 a1 a2
def UU(a0:ae)(a1:aV)(a2:ia):Option (aV×eP):=
 cond (aM a2.1 1) ((iw N a1.2.2.1.1 a2.2.1).bind λr1=>(fp N r1.2).bind λr2=>some ((a1.1,(a1.2.1,((r1.1,a1.2.2.1.2),a1.2.2.2))),r2)) (cond (aM a2.1 2) ((fc N a1.2.2.1.1 a1.2.2.1.2.1 (a2.2.2.1,(a2.2.1,(a2.2.2.2.2.1,(0,()))))).bind λr3=>(fp N r3.2).bind λr4=>some ((a1.1,(a1.2.1,((a1.2.2.1.1,(r3.1,a1.2.2.1.2.2)),a1.2.2.2))),r4)) (cond (aM a2.1 3) ((Re N a1 a2.2.2.1).bind λr5=>cond (!r5) ((fp N 3).bind λr6=>some (a1,r6)) ((OI N a1 1 0 5 a2.2.2.1 a2.2.2.2.2.2.2.1).bind λr7=>some (r7.1,r7.2))) (cond (aM a2.1 4) ((UG N a0 a1.2.2.1 a2.2.2.1 a2.2.2.2.2.2.2.1).bind λr8=>(fp N r8.2).bind λr9=>some ((a1.1,(a1.2.1,(r8.1,a1.2.2.2))),r9)) (cond (aM a2.1 5) ((Hi N a1 a2.2.1).bind λnV=>cond (aM nV 0) ((fp N 3).bind λqc=>some (a1,qc)) ((Hi N a1 a2.2.1).bind λqd=>cond (!aM qd 1) ((fp N 7).bind λtG=>some (a1,tG)) ((OI N a1 1 0 6 a2.2.1 a2.2.2.2.2.2.2.1).bind λwq=>some (wq.1,wq.2)))) (cond (aM a2.1 22) ((Hi N a1 a2.2.1).bind λzG=>cond (aM zG 0) ((fp N 3).bind λEu=>some (a1,Eu)) ((ka N a1.2.2.1.2.2.1 7 a2.2.1).bind λBC=>(kF N BC).bind λDR=>(Vt N DR).bind λPd=>(kF N a2.2.2.2.2.2.2.1).bind λO4=>(Qd N O4 Pd).bind λS7=>cond (aT 0 S7) ((fp N 9).bind λQf=>some (a1,Qf)) ((OI N a1 1 0 7 a2.2.1 a2.2.2.2.2.2.2.1).bind λL4=>some (L4.1,L4.2)))) (cond (aM a2.1 6) ((nL N a1.2.2.1.2.1 a2.2.2.1 a2.2.2.2.2.2.2.1).bind λL8=>(fp N L8.2).bind λL9=>some ((a1.1,(a1.2.1,((a1.2.2.1.1,(L8.1,a1.2.2.1.2.2)),a1.2.2.2))),L9)) (cond (aM a2.1 7) ((ju N a0 a1.2.2.1 (a1.2.1,(a2.2.2.1,(a2.2.2.2.1,(a2.2.2.2.2.1,(a2.2.2.2.2.2.2.1,(a2.2.2.2.2.2.2.2.1,()))))))).bind λDQ=>let v27:Int:=W .i64 (a1.2.1+1);some ((a1.1,(v27,(DQ.1,a1.2.2.2))),(DQ.2.2.2,((W .i64 (v27-1)),((W .i64 (a2.2.2.2.2.2.2.1-DQ.2.2.1)),()))))) (cond (aM a2.1 8) ((Re N a1 a2.2.2.1).bind λVz=>cond (!Vz) ((fp N 3).bind λTb=>some (a1,Tb)) ((nN N a1.2.2.1.2.2.2.2.2.1 a2.2.2.1 a2.2.2.2.2.2.1).bind λr32=>(fp N r32.2).bind λr33=>some ((a1.1,(a1.2.1,((a1.2.2.1.1,(a1.2.2.1.2.1,(a1.2.2.1.2.2.1,(a1.2.2.1.2.2.2.1,(a1.2.2.1.2.2.2.2.1,(r32.1,a1.2.2.1.2.2.2.2.2.2)))))),a1.2.2.2))),r33))) (cond (aM a2.1 9) ((UF N a0 a1.2.2.1 a2.2.2.2.1 a2.2.2.2.2.2.2.2.1).bind λr34=>cond (aM r34.2.2 0) (cond (!aM a1.2.2.2.1.2.1 0) ((eS N a1.2.2.2.1.2.2.2.2.2.2.2.2.2.1 r34.2.1).bind λr35=>(fp N r35.2).bind λr36=>some ((a1.1,(a1.2.1,(r34.1,((a1.2.2.2.1.1,(a1.2.2.2.1.2.1,(a1.2.2.2.1.2.2.1,(a1.2.2.2.1.2.2.2.1,(a1.2.2.2.1.2.2.2.2.1,(a1.2.2.2.1.2.2.2.2.2.1,(a1.2.2.2.1.2.2.2.2.2.2.1,(a1.2.2.2.1.2.2.2.2.2.2.2.1,(a1.2.2.2.1.2.2.2.2.2.2.2.2.1,(r35.1,a1.2.2.2.1.2.2.2.2.2.2.2.2.2.2)))))))))),a1.2.2.2.2)))),r36)) ((fp N r34.2.2).bind λr37=>some ((a1.1,(a1.2.1,(r34.1,a1.2.2.2))),r37))) ((fp N r34.2.2).bind λr38=>some ((a1.1,(a1.2.1,(r34.1,a1.2.2.2))),r38))) (cond (aM a2.1 10) ((US N a1 a2.2.2.2.2.2.2.1).bind λr39=>cond (!r39.2) ((fp N 2).bind λr40=>some (a1,r40)) (some ((r39.1,a1.2),bW))) ((p6 N a0 a1 a2).bind λr41=>some (r41.1,r41.2))))))))))))
def F72(a0:ae)(a1:aV)(a2:ia):Option (aV×eP):=
 (zm N a0).bind λr1=>cond (!r1) (some (a1,(1,ct))) ((se N a2).bind λr2=>cond (!r2) (some (a1,(1,ct))) ((UU N a0 a1 a2).bind λr3=>cond (!aM r3.2.1 0) (some (a1,(r3.2.1,ct))) (some (r3.1,r3.2))))
abbrev HD.jL:=jK→ae→aV→aV→aC→Int→Option (aV×aC)
def HD.vX(ll:HD.jL)(x1:jK)(x2:ae)(x4 x6:aV)(x8:aC)(x9:Int):Option (aV×aC):=
 cond (aT x9 (ℓ x1)) (cond (a7 x9 (ℓ x1)) ((F72 N x2 x6 (γ x1 x9.toNat zz8)).bind λr3=>cond (small (ℓ x8+ℓ ([r3.2]))) (ll x1 x2 x4 r3.1 (x8++([r3.2])) (W .i64 (x9+1))) none) none) (some (x6,x8))
def HD.l6(N:Nat):Nat→HD.jL
 |0,_,_,_,_,_,_=>none
 |n+1,x1,x2,x4,x6,x8,x9=>HD.vX N (HD.l6 N n) x1 x2 x4 x6 x8 x9
def HD.b(xF:HD.jL)(a0:ae)(a1:jK):Option (aV×aC):=
 (F71 N a0).bind λr1=>cond (!aM r1.2 0) (some ((0,(0,((bM,(dh,(cf,(cf,(dW,(eu,())))))),((0,(0,(0,(0,(dh,(([]:List ((Int)×((List ((Int)×((Int)×(Unit))))×((Int)×((Int)×((Int)×((Int)×(Unit)))))))),(dh,(dW,(bM,(bM,())))))))))),((0,(0,(ED,(0,())))),()))))),[])) (xF a1 a0 (0,(0,((bM,(dh,(cf,(cf,(dW,(eu,())))))),((0,(0,(0,(0,(dh,(([]:List ((Int)×((List ((Int)×((Int)×(Unit))))×((Int)×((Int)×((Int)×((Int)×(Unit)))))))),(dh,(dW,(bM,(bM,())))))))))),((0,(0,(ED,(0,())))),()))))) r1.1 ([]) 0)
def HD(a0:ae)(a1:jK):Option (aV×aC):=HD.b N (HD.l6 N N) a0 a1
def F11(a0:bb)(a1:ae)(a2:Int):Option (aV×bb):=
 (E0 N a0 a1 a2).bind λr1=>(tD N r1.2 2).bind λr2=>let v3:Int:=W .i64 (1+r2.1);cond (small (ℓ r1.1+ℓ ([(11,(v3,fu)),(13,(v3,fu))]))) (let v4:List ((Int)×((Int)×((Int)×((Int)×((Int)×((Int)×((Int)×((Int)×(Unit))))))))):=r1.1++([(11,(v3,fu)),(13,(v3,fu))]);(Em N r2.2 a1).bind λr5=>cond (small (ℓ v4+ℓ r5.1)) (let v6:List ((Int)×((Int)×((Int)×((Int)×((Int)×((Int)×((Int)×((Int)×(Unit))))))))):=v4++r5.1;cond (small (ℓ v6+ℓ ([(10,(0,(0,(0,(0,(0,(2,(0,())))))))),(15,zz7)]))) (let v7:List ((Int)×((Int)×((Int)×((Int)×((Int)×((Int)×((Int)×((Int)×(Unit))))))))):=v6++([(10,(0,(0,(0,(0,(0,(2,(0,())))))))),(15,zz7)]);(Em N r5.2 a1).bind λr8=>cond (small (ℓ v7+ℓ r8.1)) ((HD N a1 (v7++r8.1)).bind λnV=>some (nV.1,r8.2)) none) none) none) none
abbrev F6.nT:=ae→aN→Int→Int→Int→Int→Int→Int→Int→Option Bool
abbrev F6.BF:=ae→aN→Int→Int→Int→Int→Int→Int→Option Bool
abbrev F6.sx:=ae→aN→Int→Option Bool
abbrev F6.YR:=ae→aN→Int→Option Bool
def F6.yE(N:Nat)(mV:F6.sx)(DU:F6.BF)(od:F6.nT)(x4:ae)(x6:aN)(x9 bn:Int)(a8 bp:Int)(cq cy cG:Int):Option Bool:=
 cond (a7 cy (ℓ x6)) (cond (aT cG (ℓ (γ x6 cy.toNat (0,(bM,aQ))).2.1:Int)) (cond (a7 cy (ℓ x6)) (cond (a7 cG (ℓ (γ x6 cy.toNat (0,(bM,aQ))).2.1)) (cond (aM (γ (γ x6 cy.toNat (0,(bM,aQ))).2.1 cG.toNat ct).1 x9) (cond (a7 cy (ℓ x6)) (cond (a7 cG (ℓ (γ x6 cy.toNat (0,(bM,aQ))).2.1)) (cond (a7 cy (ℓ x6)) (cond (a7 cG (ℓ (γ x6 cy.toNat (0,(bM,aQ))).2.1)) (let Zn:Int:=mx (γ (γ x6 cy.toNat (0,(bM,aQ))).2.1 cG.toNat ct).2.1 (W .i64 (0-((γ (γ x6 cy.toNat (0,(bM,aQ))).2.1 cG.toNat ct).2.1)));od x4 x6 x9 (mn bn Zn) (mx a8 Zn) (W .i64 (bp+1)) cq cy (W .i64 (cG+1))) none) none) none) none) (od x4 x6 x9 bn a8 bp cq cy (W .i64 (cG+1)))) none) none) (DU x4 x6 x9 bn a8 bp cq (W .i64 (cy+1)))) none
def F6.xX(N:Nat)(mV:F6.sx)(DU:F6.BF):Nat→F6.nT
 |0,_,_,_,_,_,_,_,_,_=>none
 |n+1,x4,x6,x9,bn,a8,bp,cq,cy,cG=>F6.yE N mV DU (F6.xX N mV DU n) x4 x6 x9 bn a8 bp cq cy cG
def F6.QZ(N:Nat)(HM:F6.nT)(mV:F6.sx)(DU:F6.BF)(x4:ae)(x6:aN)(x9 bn:Int)(a8 bp:Int)(cq cy:Int):Option Bool:=
 cond (aT cy (ℓ x6)) (cond (a7 cy (ℓ x6)) (cond (a7 0 (ℓ (γ x6 cy.toNat (0,(bM,aQ))).2.1)) (cond (a7 (γ (γ x6 cy.toNat (0,(bM,aQ))).2.1 (0:Int).toNat ct).1 (ℓ x4.1)) (cond (a7 x9 (ℓ x4.1)) (cond (!aM (γ x4.1 (γ (γ x6 cy.toNat (0,(bM,aQ))).2.1 (0:Int).toNat ct).1.toNat aQ).1 (γ x4.1 x9.toNat aQ).1) (DU x4 x6 x9 bn a8 bp cq (W .i64 (cy+1))) (HM x4 x6 x9 bn a8 bp (W .i64 (cq+1)) cy 0)) none) none) none) none) (cond (aT 3 cq) (some false) (cond (aT 0 bp) (cond (aT bp cq) (cond (aT 1 a8) (some false) (cond (aT 1 (W .i64 (a8-bn))) (some false) (mV x4 x6 (W .i64 (x9+1))))) (cond (aT 1 (W .i64 (a8-bn))) (some false) (mV x4 x6 (W .i64 (x9+1))))) (mV x4 x6 (W .i64 (x9+1)))))
def F6.Oh(N:Nat)(mV:F6.sx):Nat→F6.BF
 |0,_,_,_,_,_,_,_,_=>none
 |n+1,x4,x6,x9,bn,a8,bp,cq,cy=>F6.QZ N (F6.xX N mV (F6.Oh N mV n) N) mV (F6.Oh N mV n) x4 x6 x9 bn a8 bp cq cy
def F6.Bf(N:Nat)(YP:F6.BF)(mV:F6.sx)(x4:ae)(x6:aN)(x9:Int):Option Bool:=
 cond (aT x9 (ℓ x4.1)) (YP x4 x6 x9 4611686018427387904 0 0 0 0) (some true)
def F6.yc(N:Nat):Nat→F6.sx
 |0,_,_,_=>none
 |n+1,x4,x6,x9=>F6.Bf N (F6.Oh N (F6.yc N n) N) (F6.yc N n) x4 x6 x9
def F6.aiq(N:Nat)(O6:F6.sx)(aob:F6.YR)(x4:ae)(x6:aN)(x8:Int):Option Bool:=
 cond (aT x8 (ℓ x6)) (cond (a7 x8 (ℓ x6)) (cond (aM (ℓ (γ x6 x8.toNat (0,(bM,aQ))).2.1:Int) 0) (some false) (cond (a7 x8 (ℓ x6)) (cond (a7 0 (ℓ (γ x6 x8.toNat (0,(bM,aQ))).2.1)) (cond (aT (γ (γ x6 x8.toNat (0,(bM,aQ))).2.1 (0:Int).toNat ct).1 0) (some false) (cond (a7 x8 (ℓ x6)) (cond (a7 0 (ℓ (γ x6 x8.toNat (0,(bM,aQ))).2.1)) (cond (cY (ℓ x4.1) (γ (γ x6 x8.toNat (0,(bM,aQ))).2.1 (0:Int).toNat ct).1) (some false) (aob x4 x6 (W .i64 (x8+1)))) none) none)) none) none)) none) (O6 x4 x6 0)
def F6.l10(N:Nat):Nat→F6.YR
 |0,_,_,_=>none
 |n+1,x4,x6,x8=>F6.aiq N (F6.yc N N) (F6.l10 N n) x4 x6 x8
def F6.b(aoc:F6.YR)(a0:List Int):Option Bool:=
 (F7 N).bind λr1=>cond (!r1) (some false) ((F9 N a0).bind λr2=>(vK N r2).bind λr3=>(F11 N r3.2 r3.1 20).bind λr4=>(dN N r3.1 r4.1.2.2.1 r4.1.2.1).bind λr5=>cond (!aM r5.2 0) (some (aM (ℓ r5.1) 0)) (aoc r3.1 r5.1 0))
def F6(a0:List Int):Option Bool:=F6.b N (F6.l10 N N) a0
end
end VM.F
