/- A part of the proof of BookAtOnce of layer 18: the functions as equations between values, printed by a program. -/
import Derived.Test.YthkjjlcblhbifaaGreatVm0
set_option linter.all false
open List renaming length→ℓ, getD→γ
namespace VM.F
open Go VM
set_option maxRecDepth 100000
noncomputable section
variable (N:Nat)
abbrev mu:Ty:=(.pair .str (.pair (.int .u64) .unit))
abbrev kN:Ty:=(.pair (.int .i64) (.pair (.int .i64) .unit))
abbrev eP:Ty:=(.pair (.int .i64) (.pair (.int .u64) .unit))
abbrev dk:Ty:=(.pair .bool (.pair (.slice (.int .u64)) .unit))
abbrev dF:Ty:=(.pair (.slice (.int .u64)) (.pair (.int .i64) .unit))
abbrev jZ:Ty:=(.pair (.int .i64) kN)
abbrev wa:Ty:=(.pair (.int .i64) (.pair (.int .i64) (.pair .bool (.pair (.int .u8) .unit))))
abbrev fc:Ty:=(.pair (.int .i64) jZ)
abbrev sQ:Ty:=(.pair (.int .i64) (.pair (.int .i64) (.pair eP .unit)))
abbrev p9:Ty:=(.pair (.int .i64) fc)
abbrev sR:Ty:=(.pair (.int .i64) (.pair (.int .i64) (.pair dk .unit)))
abbrev nh:Ty:=(.pair (.int .i64) p9)
abbrev me:Ty:=(.pair (.int .i64) (.pair (.int .i64) nh))
abbrev jW:Ty:=(.pair (.int .i64) (.pair (.slice kN) fc))
abbrev iq:Ty:=(.pair (.int .i64) (.pair (.int .i64) (.pair (.slice p9) (.pair (.int .i64) .unit))))
abbrev aA:Ty:=(.pair (.slice fc) nh)
abbrev aK:Ty:=(.pair (.slice kN) (.pair (.slice fc) (.pair (.slice jZ) (.pair (.slice jZ) (.pair (.slice (.int .i64)) (.pair (.slice nh) .unit))))))
abbrev sL:Ty:=(.pair (.int .i64) (.pair (.int .i64) (.pair (.int .i64) (.pair (.int .i64) (.pair (.slice fc) (.pair (.slice jW) (.pair (.slice fc) (.pair (.slice (.int .i64)) (.pair (.slice kN) (.pair (.slice kN) .unit))))))))))
abbrev dL:Ty:=(.pair (.int .i64) (.pair (.int .i64) (.pair aK (.pair sL (.pair iq .unit)))))
abbrev nj:Ty:=(.pair aA (.pair dL (.pair (.int .i64) .unit)))
abbrev Ql:=Ty.den mu
abbrev Qm:=List (Ty.den mu)
abbrev Bx:=Ty.den kN
abbrev aE:=List (Ty.den kN)
abbrev bS:=Ty.den eP
abbrev kq:=List (Ty.den eP)
abbrev aL:=Ty.den dk
abbrev p6:=List (Ty.den dk)
abbrev aG:=Ty.den dF
abbrev awi:=List (Ty.den dF)
abbrev dd:=Ty.den jZ
abbrev au:=List (Ty.den jZ)
abbrev abv:=Ty.den wa
abbrev abw:=List (Ty.den wa)
abbrev cF:=Ty.den fc
abbrev aO:=List (Ty.den fc)
abbrev tB:=Ty.den sQ
abbrev c5:=List (Ty.den sQ)
abbrev ir:=Ty.den p9
abbrev bf:=List (Ty.den p9)
abbrev akR:=Ty.den sR
abbrev bO:=List (Ty.den sR)
abbrev fZ:=Ty.den nh
abbrev aY:=List (Ty.den nh)
abbrev ix:=Ty.den me
abbrev di:=List (Ty.den me)
abbrev jc:=Ty.den jW
abbrev bI:=List (Ty.den jW)
abbrev ei:=Ty.den iq
abbrev aqu:=List (Ty.den iq)
abbrev ae:=Ty.den aA
abbrev aqv:=List (Ty.den aA)
abbrev an:=Ty.den aK
abbrev awj:=List (Ty.den aK)
abbrev aok:=Ty.den sL
abbrev aol:=List (Ty.den sL)
abbrev aQ:=Ty.den dL
abbrev auE:=List (Ty.den dL)
abbrev cX:=Ty.den nj
abbrev auF:=List (Ty.den nj)
def F15(N:Nat):Option (ae×an):=
 some (([(0,(100,(2,(0,()))))],(5,(0,(0,(0,(1,(0,()))))))),([(1,(1,()))],([(1,(1,(1,(0,())))),(2,(1,(2,(0,()))))],([(1,(0,((-5),()))),(3,(0,(5,())))],(bq,([100],([(1,(2,(0,(1,(4,(1,()))))))],())))))))
def Xq(N:Nat)(a0 a1 a2:Int):Option Bool:=
 cond (du a1 a0) (some (du a0 a2)) (some false)
abbrev Ch.bN:=ae→aO→Int→Int→Option Bool
def Ch.dQ(cG:Ch.bN)(x1:ae)(a7:aO)(bo cf:Int):Option Bool:=
 cond (aX cf bo) (cond (bb cf (ℓ a7)) ((Xq N (γ a7 cf.toNat ba).1 0 3).bind λr3=>cond (!r3) (some false) ((Xq N (γ a7 cf.toNat ba).2.1 1 1000000000000).bind λr4=>cond (!r4) (some false) ((Xq N (γ a7 cf.toNat ba).2.2.1 0 1000000000).bind λr5=>cond (!r5) (some false) ((Xq N (γ a7 cf.toNat ba).2.2.2.1 0 1000000000).bind λr6=>cond (!r6) (some false) (cG x1 a7 bo (W .i64 (cf+1))))))) none) (cond (du 0 x1.2.1) ((Xq N x1.2.2.1 0 4).bind λr8=>cond (r8) ((Xq N x1.2.2.2.1 0 1000000).bind λr9=>cond (r9) ((Xq N x1.2.2.2.2.1 0 1000000).bind λkM=>cond (kM) ((Xq N x1.2.2.2.2.2.1 1 4611686018427387904).bind λnL=>cond (nL) (some (du 0 x1.2.2.2.2.2.2.1)) (some false)) (some false)) (some false)) (some false)) (some false))
def Ch.l4(N:Nat):Nat→Ch.bN
 |0,_,_,_,_=>none
 |n+1,x1,a7,bo,cf=>Ch.dQ N (Ch.l4 N n) x1 a7 bo cf
def Ch.b(ff:Ch.bN)(a0:ae):Option Bool:=
 (Xq N (ℓ a0.1) 1 6).bind λr1=>cond (!r1) (some false) (ff a0 a0.1 (ℓ a0.1) 0)
def Ch(a0:ae):Option Bool:=Ch.b N (Ch.l4 N N) a0
abbrev wJ.fb:=an→an→(List Int)→aO→Int→Int→Option (an×(Int))
abbrev wJ.Ta:=ae→an→an→(List Int)→Option (an×(Int))
def wJ.oJ(N:Nat)(eZ:wJ.fb)(x2 x4:an)(MW:List Int)(x24:aO)(x25 Qn:Int):Option (an×(Int)):=
 cond (aX Qn x25) (cond (bb Qn (ℓ x24)) (cond (small (ℓ MW+ℓ ([(γ x24 Qn.toNat ba).2.1]))) (eZ x2 (x4.1,(x4.2.1,(x4.2.2.1,(x4.2.2.2.1,(db,x4.2.2.2.2.2))))) (MW++([(γ x24 Qn.toNat ba).2.1])) x24 x25 (W .i64 (Qn+1))) none) none) (some ((x4.1,(x4.2.1,(x4.2.2.1,(x4.2.2.2.1,(MW,x4.2.2.2.2.2))))),0))
def wJ.l7(N:Nat):Nat→wJ.fb
 |0,_,_,_,_,_,_=>none
 |n+1,x2,x4,MW,x24,x25,Qn=>wJ.oJ N (wJ.l7 N n) x2 x4 MW x24 x25 Qn
def wJ.OL(N:Nat)(sS:wJ.fb)(x1:ae)(x2 x4:an)(MW:List Int):Option (an×(Int)):=
 sS x2 x4 MW x1.1 (ℓ x1.1) 0
def wJ.j6(x1:ae)(x2 x4:an)(MW:List Int):Option (an×(Int)):=wJ.OL N (wJ.l7 N N) x1 x2 x4 MW
def wJ.b(E9:wJ.Ta)(a0:ae):Option (an×(Int)):=
 (Ch N a0).bind λr1=>cond (!r1) (some ((cc,(cT,(bq,(bq,(db,(dq,())))))),1)) (cond (!aN a0.2.1 0) (E9 a0 (cc,(cT,(bq,(bq,(db,(dq,())))))) (cc,(cT,([(1,(0,((W .i64 (0-a0.2.1)),()))),(3,(0,(a0.2.1,())))],(bq,(db,(dq,())))))) db) (E9 a0 (cc,(cT,(bq,(bq,(db,(dq,())))))) (cc,(cT,(bq,(bq,(db,(dq,())))))) db))
def wJ(a0:ae):Option (an×(Int)):=wJ.b N (wJ.j6 N) a0
abbrev D2.cY:=aE→aE→Int→Int→Option Bool
def D2.fM(N:Nat)(dS:D2.cY)(x0 x5:aE)(x6 x7:Int):Option Bool:=
 cond (aX x7 x6) (cond (bb x7 (ℓ x5)) (cond (aX (γ x5 x7.toNat c8).1 1) (some false) (cond (aX 12 (γ x5 x7.toNat c8).1) (some false) (cond (aX (γ x5 x7.toNat c8).2.1 1) (some false) (cond (aX 4 (γ x5 x7.toNat c8).2.1) (some false) (cond (aX 0 x7) (let v2:Int:=W .i64 (x7-1);cond (bb v2 (ℓ x0)) (cond (du (γ x5 x7.toNat c8).1 (γ x0 v2.toNat c8).1) (some false) (dS x0 x5 x6 (W .i64 (x7+1)))) none) (dS x0 x5 x6 (W .i64 (x7+1)))))))) none) (some true)
def D2.l2(N:Nat):Nat→D2.cY
 |0,_,_,_,_=>none
 |n+1,x0,x5,x6,x7=>D2.fM N (D2.l2 N n) x0 x5 x6 x7
def D2.b(N:Nat)(gT:D2.cY)(a0:aE):Option Bool:=
 gT a0 a0 (ℓ a0) 0
def D2(a0:aE):Option Bool:=D2.b N (D2.l2 N N) a0
abbrev zS.dM:=aO→(List Bool)→aO→Int→Int→Option Bool
def zS.nr(N:Nat)(dt:zS.dM)(x0:aO)(x3:List Bool)(x6:aO)(x7 x8:Int):Option Bool:=
 cond (aX x8 x7) (cond (bb x8 (ℓ x6)) (cond (aX (γ x6 x8.toNat ba).1 1) (some false) (cond (aX 24 (γ x6 x8.toNat ba).1) (some false) (cond (aX (γ x6 x8.toNat ba).2.1 1) (some false) (cond (aX 12 (γ x6 x8.toNat ba).2.1) (some false) (cond (!aN (γ x6 x8.toNat ba).2.2.1 1) (cond (!aN (γ x6 x8.toNat ba).2.2.1 2) (some false) (cond (aX (γ x6 x8.toNat ba).2.2.2.1 0) (some false) (cond (aX 1000000000000 (γ x6 x8.toNat ba).2.2.2.1) (some false) (cond (aX 0 x8) (let v2:Int:=W .i64 (x8-1);cond (bb v2 (ℓ x0)) (cond (du (γ x6 x8.toNat ba).1 (γ x0 v2.toNat ba).1) (some false) (cond (aN (γ x6 x8.toNat ba).2.2.1 1) (cond (bb (γ x6 x8.toNat ba).2.1 13) (cond (γ x3 (γ x6 x8.toNat ba).2.1.toNat false) (some false) (cond (bb (γ x6 x8.toNat ba).2.1 13) (dt x0 (List.set x3 (γ x6 x8.toNat ba).2.1.toNat true) x6 x7 (W .i64 (x8+1))) none)) none) (dt x0 x3 x6 x7 (W .i64 (x8+1))))) none) (cond (aN (γ x6 x8.toNat ba).2.2.1 1) (cond (bb (γ x6 x8.toNat ba).2.1 13) (cond (γ x3 (γ x6 x8.toNat ba).2.1.toNat false) (some false) (cond (bb (γ x6 x8.toNat ba).2.1 13) (dt x0 (List.set x3 (γ x6 x8.toNat ba).2.1.toNat true) x6 x7 (W .i64 (x8+1))) none)) none) (dt x0 x3 x6 x7 (W .i64 (x8+1)))))))) (cond (aX (γ x6 x8.toNat ba).2.2.2.1 0) (some false) (cond (aX 1000000000000 (γ x6 x8.toNat ba).2.2.2.1) (some false) (cond (aX 0 x8) (let v7:Int:=W .i64 (x8-1);cond (bb v7 (ℓ x0)) (cond (du (γ x6 x8.toNat ba).1 (γ x0 v7.toNat ba).1) (some false) (cond (aN (γ x6 x8.toNat ba).2.2.1 1) (cond (bb (γ x6 x8.toNat ba).2.1 13) (cond (γ x3 (γ x6 x8.toNat ba).2.1.toNat false) (some false) (cond (bb (γ x6 x8.toNat ba).2.1 13) (dt x0 (List.set x3 (γ x6 x8.toNat ba).2.1.toNat true) x6 x7 (W .i64 (x8+1))) none)) none) (dt x0 x3 x6 x7 (W .i64 (x8+1))))) none) (cond (aN (γ x6 x8.toNat ba).2.2.1 1) (cond (bb (γ x6 x8.toNat ba).2.1 13) (cond (γ x3 (γ x6 x8.toNat ba).2.1.toNat false) (some false) (cond (bb (γ x6 x8.toNat ba).2.1 13) (dt x0 (List.set x3 (γ x6 x8.toNat ba).2.1.toNat true) x6 x7 (W .i64 (x8+1))) none)) none) (dt x0 x3 x6 x7 (W .i64 (x8+1)))))))))))) none) (some true)
def zS.l3(N:Nat):Nat→zS.dM
 |0,_,_,_,_,_=>none
 |n+1,x0,x3,x6,x7,x8=>zS.nr N (zS.l3 N n) x0 x3 x6 x7 x8
def zS.b(N:Nat)(oF:zS.dM)(a0:aO):Option Bool:=
 oF a0 (List.replicate 13 false) a0 (ℓ a0) 0
def zS(a0:aO):Option Bool:=zS.b N (zS.l3 N N) a0
abbrev By.bN:=Int→aE→Int→Int→Option Int
def By.dQ(N:Nat)(cG:By.bN)(x1:Int)(bh:aE)(a7 bo:Int):Option Int:=
 cond (aX bo a7) (cond (bb bo (ℓ bh)) (cond (aN (γ bh bo.toNat c8).1 x1) (some (γ bh bo.toNat c8).2.1) (cG x1 bh a7 (W .i64 (bo+1)))) none) (some 0)
def By.l4(N:Nat):Nat→By.bN
 |0,_,_,_,_=>none
 |n+1,x1,bh,a7,bo=>By.dQ N (By.l4 N n) x1 bh a7 bo
def By.b(ff:By.bN)(a0:aE)(a1:Int):Option Int:=
 (D2 N a0).bind λr1=>cond (!r1) (some 0) (ff a1 a0 (ℓ a0) 0)
def By(a0:aE)(a1:Int):Option Int:=By.b N (By.l4 N N) a0 a1
abbrev EU.bN:=aE→aO→Int→Int→Option Bool
def EU.dQ(cG:EU.bN)(x0:aE)(eu:aO)(fE gh:Int):Option Bool:=
 cond (aX gh fE) (cond (bb gh (ℓ eu)) ((By N x0 (γ eu gh.toNat ba).2.1).bind λr4=>cond (aN r4 0) (some false) (cG x0 eu fE (W .i64 (gh+1)))) none) (some true)
def EU.l4(N:Nat):Nat→EU.bN
 |0,_,_,_,_=>none
 |n+1,x0,eu,fE,gh=>EU.dQ N (EU.l4 N n) x0 eu fE gh
def EU.b(ff:EU.bN)(a0:aE)(a1:aO):Option Bool:=
 (D2 N a0).bind λr1=>cond (!r1) (some false) ((zS N a1).bind λr2=>cond (!r2) (some false) (ff a0 a1 (ℓ a1) 0))
def EU(a0:aE)(a1:aO):Option Bool:=EU.b N (EU.l4 N N) a0 a1
def F83(N:Nat)(a0 a1:Int):Option Bool:=
 cond (aN a0 1) (some (aN a1 0)) (cond (aN a0 2) (some (aN a1 0)) (cond (aN a0 3) (some (aN a1 0)) (cond (aN a0 4) (some (aN a1 0)) (cond (aN a0 5) (cond (du 1 a1) (some (du a1 24)) (some false)) (cond (aN a0 6) (cond (du 1 a1) (some (du a1 12)) (some false)) (cond (aN a0 7) (cond (du 1 a1) (some (du a1 12)) (some false)) (some false)))))))
def F84(N:Nat)(a0 a1:Int)(a2:dd):Option Int:=
 cond (!aN a0 a2.1) (some (W .i64 (a0-a2.1))) (some (W .i64 (a1-a2.2.1)))
abbrev CI.cY:=au→au→Int→Int→Option Bool
def CI.fM(dS:CI.cY)(x0 x5:au)(x6 x7:Int):Option Bool:=
 cond (aX x7 x6) (cond (bb x7 (ℓ x5)) ((F83 N (γ x5 x7.toNat bc).1 (γ x5 x7.toNat bc).2.1).bind λr2=>cond (!r2) (some false) (cond (aN (γ x5 x7.toNat bc).2.2.1 0) (some false) (cond (aX 0 x7) (let v3:Int:=W .i64 (x7-1);cond (bb v3 (ℓ x0)) ((F84 N (γ x5 x7.toNat bc).1 (γ x5 x7.toNat bc).2.1 (γ x0 v3.toNat bc)).bind λr4=>cond (du r4 0) (some false) (dS x0 x5 x6 (W .i64 (x7+1)))) none) (dS x0 x5 x6 (W .i64 (x7+1)))))) none) (some true)
def CI.l2(N:Nat):Nat→CI.cY
 |0,_,_,_,_=>none
 |n+1,x0,x5,x6,x7=>CI.fM N (CI.l2 N n) x0 x5 x6 x7
def CI.b(N:Nat)(gT:CI.cY)(a0:au):Option Bool:=
 gT a0 a0 (ℓ a0) 0
def CI(a0:au):Option Bool:=CI.b N (CI.l2 N N) a0
def OS(N:Nat)(a0:Int):Option bS:=
 cond (aX 63 0) none (some ((shr .i64 a0 63),((W .u64 a0),())))
abbrev Ae.dM:=bS→Int→Int→Int→kq→Int→Int→Option (bS×(Bool))
def Ae.nr(dt:Ae.dM)(x2:bS)(x4 x5 x6:Int)(bh:kq)(a7 bo:Int):Option (bS×(Bool)):=
 cond (aX bo a7) (cond (bb bo (ℓ bh)) ((ux N x6 (γ bh bo.toNat c8).2.1 0).bind λr2=>(ux N x5 (W .u64 (γ bh bo.toNat c8).1) r2.2).bind λr4=>cond (aX 63 0) none (dt x2 (W .i64 ((W .i64 (x4+(shr .i64 (γ bh bo.toNat c8).1 63)))+(W .i64 r4.2))) r4.1 r2.1 bh a7 (W .i64 (bo+1)))) none) (cond (aX 63 0) none (cond (!aN x4 (shr .i64 (W .i64 x5) 63)) (some (c8,false)) (some (((W .i64 x5),(x6,())),true))))
def Ae.l3(N:Nat):Nat→Ae.dM
 |0,_,_,_,_,_,_,_=>none
 |n+1,x2,x4,x5,x6,bh,a7,bo=>Ae.nr N (Ae.l3 N n) x2 x4 x5 x6 bh a7 bo
def Ae.b(N:Nat)(oF:Ae.dM)(a0:kq):Option (bS×(Bool)):=
 oF c8 0 0 0 a0 (ℓ a0) 0
def Ae(a0:kq):Option (bS×(Bool)):=Ae.b N (Ae.l3 N N) a0
abbrev D5.bJ:=bS→kq→au→Int→Int→Option bS
def D5.eo(bL:D5.bJ)(x2:bS)(x3:kq)(bo:au)(cf cZ:Int):Option bS:=
 cond (aX cZ cf) (cond (bb cZ (ℓ bo)) ((OS N (γ bo cZ.toNat bc).2.2.1).bind λr3=>cond (small (ℓ x3+ℓ ([r3]))) (bL x2 (x3++([r3])) bo cf (W .i64 (cZ+1))) none) none) ((Ae N x3).bind λr6=>some r6.1)
def D5.l5(N:Nat):Nat→D5.bJ
 |0,_,_,_,_,_=>none
 |n+1,x2,x3,bo,cf,cZ=>D5.eo N (D5.l5 N n) x2 x3 bo cf cZ
def D5.b(e8:D5.bJ)(a0:au):Option bS:=
 (CI N a0).bind λr1=>cond (!r1) (some c8) (e8 c8 ([]) a0 (ℓ a0) 0)
def D5(a0:au):Option bS:=D5.b N (D5.l5 N N) a0
def F85(N:Nat)(a0 a1:bS):Option Int:=
 cond (aX a0.1 a1.1) (some (-1)) (cond (aN a0.1 a1.1) (cond (aX a0.2.1 a1.2.1) (some (-1)) (cond (pn (.pair (.int .i64) (.pair (.int .u64) .unit)) a0 a1) (some 0) (some 1))) (cond (pn (.pair (.int .i64) (.pair (.int .u64) .unit)) a0 a1) (some 0) (some 1)))
def F32(a0:bS):Option Int:=
 (F85 N a0 c8).bind λr1=>some r1
def YT(N:Nat)(a0 a1:Int):Option Bool:=
 cond (du 0 a0) (cond (du a0 24) (cond (du 0 a1) (some (aX a1 6)) (some false)) (some false)) (some false)
def Sb(N:Nat)(a0:Int):Option Bool:=
 some (!aN a0 (-9223372036854775808))
def VW(N:Nat)(a0 a1:Int)(a2:dd):Option Int:=
 cond (!aN a0 a2.1) (some (W .i64 (a0-a2.1))) (some (W .i64 (a1-a2.2.1)))
abbrev Bu.cY:=au→au→Int→Int→Option Bool
def Bu.fM(dS:Bu.cY)(x0 x5:au)(x6 x7:Int):Option Bool:=
 cond (aX x7 x6) (cond (bb x7 (ℓ x5)) ((YT N (γ x5 x7.toNat bc).1 (γ x5 x7.toNat bc).2.1).bind λr2=>cond (!r2) (some false) (cond (aN (γ x5 x7.toNat bc).2.2.1 0) (some false) ((Sb N (γ x5 x7.toNat bc).2.2.1).bind λr3=>cond (!r3) (some false) (cond (aX 0 x7) (let v4:Int:=W .i64 (x7-1);cond (bb v4 (ℓ x0)) ((VW N (γ x5 x7.toNat bc).1 (γ x5 x7.toNat bc).2.1 (γ x0 v4.toNat bc)).bind λr5=>cond (du r5 0) (some false) (dS x0 x5 x6 (W .i64 (x7+1)))) none) (dS x0 x5 x6 (W .i64 (x7+1))))))) none) (some true)
def Bu.l2(N:Nat):Nat→Bu.cY
 |0,_,_,_,_=>none
 |n+1,x0,x5,x6,x7=>Bu.fM N (Bu.l2 N n) x0 x5 x6 x7
def Bu.b(N:Nat)(gT:Bu.cY)(a0:au):Option Bool:=
 gT a0 a0 (ℓ a0) 0
def Bu(a0:au):Option Bool:=Bu.b N (Bu.l2 N N) a0
abbrev D7.bJ:=Int→bS→kq→au→Int→Int→Option bS
def D7.eo(bL:D7.bJ)(x1:Int)(x4:bS)(x5:kq)(cZ:au)(eu fE:Int):Option bS:=
 cond (aX fE eu) (cond (bb fE (ℓ cZ)) (cond (aN (γ cZ fE.toNat bc).2.1 x1) ((OS N (γ cZ fE.toNat bc).2.2.1).bind λr3=>cond (small (ℓ x5+ℓ ([r3]))) (bL x1 x4 (x5++([r3])) cZ eu (W .i64 (fE+1))) none) (bL x1 x4 x5 cZ eu (W .i64 (fE+1)))) none) ((Ae N x5).bind λr7=>some r7.1)
def D7.l5(N:Nat):Nat→D7.bJ
 |0,_,_,_,_,_,_=>none
 |n+1,x1,x4,x5,cZ,eu,fE=>D7.eo N (D7.l5 N n) x1 x4 x5 cZ eu fE
def D7.b(e8:D7.bJ)(a0:au)(a1:Int):Option bS:=
 (Bu N a0).bind λr1=>cond (!r1) (some c8) (e8 a1 c8 ([]) a0 (ℓ a0) 0)
def D7(a0:au)(a1:Int):Option bS:=D7.b N (D7.l5 N N) a0 a1
abbrev EV.cY:=au→Int→Option Bool
def EV.fM(dS:EV.cY)(x0:au)(x4:Int):Option Bool:=
 cond (aX x4 6) ((D7 N x0 x4).bind λr2=>(F32 N r2).bind λr3=>cond (!aN r3 0) (some false) (dS x0 (W .i64 (x4+1)))) ((Bu N x0).bind λr5=>some r5)
def EV.l2(N:Nat):Nat→EV.cY
 |0,_,_=>none
 |n+1,x0,x4=>EV.fM N (EV.l2 N n) x0 x4
def EV.b(N:Nat)(gT:EV.cY)(a0:au):Option Bool:=
 gT a0 0
def EV(a0:au):Option Bool:=EV.b N (EV.l2 N N) a0
def F90(N:Nat)(a0:fZ):Option Bool:=
 cond (du 1 a0.1) (cond (du a0.1 1099511627776) (cond (du 1 a0.2.1) (cond (du a0.2.1 24) (cond (du 0 a0.2.2.1) (cond (aX a0.2.2.1 6) (cond (aN a0.2.2.2.1 1) (cond (du 1 a0.2.2.2.2.1) (cond (du a0.2.2.2.2.1 1000000000) (cond (du 1 a0.2.2.2.2.2.1) (some (du a0.2.2.2.2.2.1 1000000000000)) (some false)) (some false)) (some false)) (cond (aN a0.2.2.2.1 2) (cond (du 1 a0.2.2.2.2.1) (cond (du a0.2.2.2.2.1 1000000000) (cond (du 1 a0.2.2.2.2.2.1) (some (du a0.2.2.2.2.2.1 1000000000000)) (some false)) (some false)) (some false)) (some false))) (some false)) (some false)) (some false)) (some false)) (some false)) (some false)
abbrev CO.cY:=aY→aY→Int→Int→Option Bool
def CO.fM(dS:CO.cY)(x0 x5:aY)(x6 x7:Int):Option Bool:=
 cond (aX x7 x6) (cond (bb x7 (ℓ x5)) ((F90 N (γ x5 x7.toNat eC)).bind λr2=>cond (!r2) (some false) (cond (aX 0 x7) (let v3:Int:=W .i64 (x7-1);cond (bb v3 (ℓ x0)) (cond (du (γ x5 x7.toNat eC).1 (γ x0 v3.toNat eC).1) (some false) (dS x0 x5 x6 (W .i64 (x7+1)))) none) (dS x0 x5 x6 (W .i64 (x7+1))))) none) (some (du (ℓ x0) 32))
def CO.l2(N:Nat):Nat→CO.cY
 |0,_,_,_,_=>none
 |n+1,x0,x5,x6,x7=>CO.fM N (CO.l2 N n) x0 x5 x6 x7
def CO.b(N:Nat)(gT:CO.cY)(a0:aY):Option Bool:=
 gT a0 a0 (ℓ a0) 0
def CO(a0:aY):Option Bool:=CO.b N (CO.l2 N N) a0
abbrev D3.bN:=Int→cF→aO→Int→Int→Option (cF×(Bool))
def D3.dQ(N:Nat)(cG:D3.bN)(x1:Int)(x4:cF)(bo:aO)(cf cZ:Int):Option (cF×(Bool)):=
 cond (aX cZ cf) (cond (bb cZ (ℓ bo)) (cond (aN (γ bo cZ.toNat ba).1 x1) (some (γ bo cZ.toNat ba,true)) (cG x1 x4 bo cf (W .i64 (cZ+1)))) none) (some (ba,false))
def D3.l4(N:Nat):Nat→D3.bN
 |0,_,_,_,_,_=>none
 |n+1,x1,x4,bo,cf,cZ=>D3.dQ N (D3.l4 N n) x1 x4 bo cf cZ
def D3.b(ff:D3.bN)(a0:aO)(a1:Int):Option (cF×(Bool)):=
 (zS N a0).bind λr1=>cond (!r1) (some (ba,false)) (ff a1 ba a0 (ℓ a0) 0)
def D3(a0:aO)(a1:Int):Option (cF×(Bool)):=D3.b N (D3.l4 N N) a0 a1
def F36(a0:an)(a1:Int):Option Bool:=
 (D3 N a0.2.1 a1).bind λr1=>some r1.2
def F40(N:Nat)(a0:Int):Option Bool:=
 cond (du 1 a0) (some (du a0 1000000000000)) (some false)
def F39(a0:Int):Option Bool:=
 (F40 N a0).bind λr1=>some (!r1)
abbrev I9.cY:=(List Int)→Unit→Int→Int→Option Int
def I9.fM(dS:I9.cY)(x0:List Int)(x1:Unit)(x7 x8:Int):Option Int:=
 cond (aX x8 x7) (cond (bb x8 (ℓ x0)) ((F39 N (γ x0 x8.toNat 0)).bind λr2=>cond (r2) (some x8) (dS x0 () x7 (W .i64 (x8+1)))) none) (some (-1))
def I9.l2(N:Nat):Nat→I9.cY
 |0,_,_,_,_=>none
 |n+1,x0,x1,x7,x8=>I9.fM N (I9.l2 N n) x0 x1 x7 x8
def I9.b(N:Nat)(gT:I9.cY)(a0:List Int)(a1:Unit):Option Int:=
 gT a0 () (ℓ a0) 0
def I9(a0:List Int)(a1:Unit):Option Int:=I9.b N (I9.l2 N N) a0 a1
def F38(a0:List Int)(a1:Unit):Option Bool:=
 (I9 N a0 ()).bind λr1=>some (du 0 r1)
abbrev F9.sT:=ae→an→aY→Int→Int→Option Bool
abbrev F9.ny:=ae→an→au→Int→Int→Option Bool
abbrev F9.bN:=ae→an→au→Int→Int→Option Bool
def F9.wF(IF:F9.sT)(x2:ae)(x3:an)(s7:aY)(adS Tb:Int):Option Bool:=
 cond (aX Tb adS) (cond (bb Tb (ℓ s7)) ((F36 N x3 (γ s7 Tb.toNat eC).2.1).bind λFM=>cond (!FM) (some false) (cond (du (ℓ x2.1) (γ s7 Tb.toNat eC).2.2.1) (some false) (IF x2 x3 s7 adS (W .i64 (Tb+1))))) none) ((F38 N x3.2.2.2.2.1 ()).bind λEB=>some (!EB))
def F9.xI(N:Nat):Nat→F9.sT
 |0,_,_,_,_,_=>none
 |n+1,x2,x3,s7,adS,Tb=>F9.wF N (F9.xI N n) x2 x3 s7 adS Tb
def F9.wE(IG:F9.sT)(oS:F9.ny)(x2:ae)(x3:an)(x83:au)(x84 x85:Int):Option Bool:=
 cond (aX x85 x84) (cond (bb x85 (ℓ x83)) (cond (!aN (γ x83 x85.toNat bc).1 0) ((F36 N x3 (γ x83 x85.toNat bc).1).bind λxR=>cond (!xR) (some false) (cond (du (ℓ x2.1) (γ x83 x85.toNat bc).2.1) (some false) (oS x2 x3 x83 x84 (W .i64 (x85+1))))) (cond (du (ℓ x2.1) (γ x83 x85.toNat bc).2.1) (some false) (oS x2 x3 x83 x84 (W .i64 (x85+1))))) none) (IG x2 x3 x3.2.2.2.2.2.1 (ℓ x3.2.2.2.2.2.1) 0)
def F9.xH(N:Nat):Nat→F9.ny
 |0,_,_,_,_,_=>none
 |n+1,x2,x3,x83,x84,x85=>F9.wE N (F9.xI N N) (F9.xH N n) x2 x3 x83 x84 x85
def F9.dQ(IH:F9.ny)(cG:F9.bN)(x2:ae)(x3:an)(Jc:au)(Xb FN:Int):Option Bool:=
 cond (aX FN Xb) (cond (bb FN (ℓ Jc)) (cond (aN (γ Jc FN.toNat bc).1 5) ((F36 N x3 (γ Jc FN.toNat bc).2.1).bind λr9=>cond (!r9) (some false) (cG x2 x3 Jc Xb (W .i64 (FN+1)))) (cond (aN (γ Jc FN.toNat bc).1 6) ((By N x3.1 (γ Jc FN.toNat bc).2.1).bind λnL=>cond (aN nL 0) (some false) (cG x2 x3 Jc Xb (W .i64 (FN+1)))) (cond (aN (γ Jc FN.toNat bc).1 7) ((By N x3.1 (γ Jc FN.toNat bc).2.1).bind λp5=>cond (aN p5 0) (some false) (cG x2 x3 Jc Xb (W .i64 (FN+1)))) (cG x2 x3 Jc Xb (W .i64 (FN+1)))))) none) (IH x2 x3 x3.2.2.2.1 (ℓ x3.2.2.2.1) 0)
def F9.l4(N:Nat):Nat→F9.bN
 |0,_,_,_,_,_=>none
 |n+1,x2,x3,Jc,Xb,FN=>F9.dQ N (F9.xH N N) (F9.l4 N n) x2 x3 Jc Xb FN
def F9.b(ff:F9.bN)(a0:ae)(a1:an):Option Bool:=
 (Ch N a0).bind λr1=>cond (!r1) (some false) ((EU N a1.1 a1.2.1).bind λr2=>cond (!r2) (some false) ((CI N a1.2.2.1).bind λr3=>cond (!r3) (some false) ((D5 N a1.2.2.1).bind λr4=>(F32 N r4).bind λr5=>cond (!aN r5 0) (some false) ((EV N a1.2.2.2.1).bind λr6=>cond (!r6) (some false) ((CO N a1.2.2.2.2.2.1).bind λr7=>cond (!r7) (some false) (cond (!aN (ℓ a1.2.2.2.2.1) (ℓ a0.1)) (some false) (ff a0 a1 a1.2.2.1 (ℓ a1.2.2.1) 0)))))))
def F9(a0:ae)(a1:an):Option Bool:=F9.b N (F9.l4 N N) a0 a1
abbrev C3.cY:=ir→(List Int)→Int→Option Bool
def C3.fM(dS:C3.cY)(x1:ir)(x9:List Int)(bh:Int):Option Bool:=
 cond (aX bh 2) (cond (bb bh 2) (cond (aX (γ x9 bh.toNat 0) 0) (some false) (cond (aX 24 (γ x9 bh.toNat 0)) (some false) (dS x1 x9 (W .i64 (bh+1))))) none) (cond (!aN x1.1 x1.2.1) (cond (du 0 x1.2.2.1) (cond (aX x1.2.2.1 6) (cond (du 1 x1.2.2.2.1) (cond (du x1.2.2.2.1 1000000000) ((F40 N x1.2.2.2.2.1).bind λr4=>some r4) (some false)) (some false)) (some false)) (some false)) (some false))
def C3.l2(N:Nat):Nat→C3.cY
 |0,_,_,_=>none
 |n+1,x1,x9,bh=>C3.fM N (C3.l2 N n) x1 x9 bh
def C3.b(N:Nat)(gT:C3.cY)(a0:ir):Option Bool:=
 gT a0 (List.set (List.set (List.replicate 2 0) 0 a0.1) 1 a0.2.1) 0
def C3(a0:ir):Option Bool:=C3.b N (C3.l2 N N) a0
def F58(a0:ir):Option Bool:=
 (C3 N a0).bind λr1=>some (!r1)
abbrev sZ.cY:=bf→Unit→Int→Int→Option Int
def sZ.fM(dS:sZ.cY)(x0:bf)(x1:Unit)(x7 x8:Int):Option Int:=
 cond (aX x8 x7) (cond (bb x8 (ℓ x0)) ((F58 N (γ x0 x8.toNat eG)).bind λr2=>cond (r2) (some x8) (dS x0 () x7 (W .i64 (x8+1)))) none) (some (-1))
def sZ.l2(N:Nat):Nat→sZ.cY
 |0,_,_,_,_=>none
 |n+1,x0,x1,x7,x8=>sZ.fM N (sZ.l2 N n) x0 x1 x7 x8
def sZ.b(N:Nat)(gT:sZ.cY)(a0:bf)(a1:Unit):Option Int:=
 gT a0 () (ℓ a0) 0
def sZ(a0:bf)(a1:Unit):Option Int:=sZ.b N (sZ.l2 N N) a0 a1
def F57(a0:bf)(a1:Unit):Option Bool:=
 (sZ N a0 ()).bind λr1=>some (du 0 r1)
def VQ(N:Nat)(a0:Int):Option Int:=
 cond (aX a0 0) (some (W .u64 (0-(W .u64 a0)))) (some (W .u64 a0))
def VP(N:Nat)(a0 a1:Int):Option ((Int)×(Int)):=
 let v1:Int:=rQ .and .u64 a0 4294967295;cond (aX 32 0) none (let v2:Int:=shr .u64 a0 32;let v3:Int:=rQ .and .u64 a1 4294967295;cond (aX 32 0) none (let v4:Int:=shr .u64 a1 32;cond (aX 32 0) none (let v8:Int:=W .u64 ((W .u64 (v2*v3))+(shr .u64 (W .u64 (v1*v3)) 32));cond (aX 32 0) none (cond (aX 32 0) none (some ((W .u64 ((W .u64 ((W .u64 (v2*v4))+(shr .u64 v8 32)))+(shr .u64 (W .u64 ((rQ .and .u64 v8 4294967295)+(W .u64 (v1*v4)))) 32))),(W .u64 (a0*a1))))))))
abbrev qP.aaM:=Int→Int→bS→Option (bS×(Bool))
def qP.Xp(x1 x2:Int)(x6:bS):Option (bS×(Bool)):=
 (tg N 0 x2 0).bind λr3=>(tg N 0 x1 r3.2).bind λr4=>some (((W .i64 r4.1),(r3.1,())),true)
def qP.j7(x1 x2:Int)(x6:bS):Option (bS×(Bool)):=qP.Xp N x1 x2 x6
def qP.b(N:Nat)(JV:qP.aaM)(a0:Bool)(a1 a2:Int):Option (bS×(Bool)):=
 cond (!a0) (cond (du 9223372036854775808 a1) (some (c8,false)) (some (((W .i64 a1),(a2,())),true))) (cond (aX 9223372036854775808 a1) (some (c8,false)) (cond (aN a1 9223372036854775808) (cond (aX 0 a2) (some (c8,false)) (JV a1 a2 c8)) (JV a1 a2 c8)))
def qP(a0:Bool)(a1 a2:Int):Option (bS×(Bool)):=qP.b N (qP.j7 N) a0 a1 a2
def VV(a0 a1:Int):Option bS:=
 (VQ N a0).bind λr1=>(VQ N a1).bind λr2=>(VP N r1 r2).bind λr3=>(qP N (!(pn .bool (aX a0 0) (aX a1 0))) r3.1 r3.2).bind λr4=>some r4.1
def Wi(N:Nat)(a0:Int)(a1:bS):Option tB:=
 cond (aN a0 0) (some (2,(0,(a1,())))) (some (5,(a0,(a1,()))))
def F60(a0:ir)(a1:Int):Option (c5×(Int)):=
 (C3 N a0).bind λr1=>cond (!r1) (some ([],1)) ((F40 N a1).bind λr2=>cond (!r2) (some ([],1)) (cond (aN a1 a0.2.2.2.2.1) (some ([],0)) ((VV N a0.2.2.2.1 (W .i64 (a1-a0.2.2.2.2.1))).bind λr4=>(Wi N a0.1 r4).bind λr5=>(VV N a0.2.2.2.1 (W .i64 (a0.2.2.2.2.1-a1))).bind λr7=>(Wi N a0.2.1 r7).bind λr8=>some ([r5,r8],0))))
def F70(a0:an):Option an:=
 (ju N a0.1).bind λr1=>(ju N a0.2.1).bind λr2=>(ju N a0.2.2.1).bind λr3=>(ju N a0.2.2.2.1).bind λr4=>(ju N a0.2.2.2.2.1).bind λr5=>(ju N a0.2.2.2.2.2.1).bind λr6=>some (r1,(r2,(r3,(r4,(r5,(r6,()))))))
abbrev gX.kt:=au→Int→kq→Int→au→Int→Int→Option Bool
abbrev gX.cY:=au→Int→Option Bool
def gX.vu(dS:gX.cY)(lD:gX.kt)(x0:au)(x3:Int)(x4:kq)(x9:Int)(bo:au)(cf cZ:Int):Option Bool:=
 cond (aX cZ cf) (cond (bb cZ (ℓ bo)) (cond (aN (γ bo cZ.toNat bc).2.1 x3) ((OS N (γ bo cZ.toNat bc).2.2.1).bind λr3=>cond (small (ℓ x4+ℓ ([r3]))) (lD x0 x3 (x4++([r3])) x9 bo cf (W .i64 (cZ+1))) none) (lD x0 x3 x4 x9 bo cf (W .i64 (cZ+1)))) none) ((Ae N x4).bind λr7=>cond (!r7.2) (some false) ((F32 N r7.1).bind λr8=>cond (!aN r8 0) (some false) (dS x0 (W .i64 (x9+1)))))
def gX.l6(N:Nat)(dS:gX.cY):Nat→gX.kt
 |0,_,_,_,_,_,_,_=>none
 |n+1,x0,x3,x4,x9,bo,cf,cZ=>gX.vu N dS (gX.l6 N dS n) x0 x3 x4 x9 bo cf cZ
def gX.fM(N:Nat)(xZ:gX.kt)(dS:gX.cY)(x0:au)(x9:Int):Option Bool:=
 cond (aX x9 6) (xZ x0 x9 ([]) x9 x0 (ℓ x0) 0) (some true)
def gX.l2(N:Nat):Nat→gX.cY
 |0,_,_=>none
 |n+1,x0,x9=>gX.fM N (gX.l6 N (gX.l2 N n) N) (gX.l2 N n) x0 x9
def gX.b(N:Nat)(gT:gX.cY)(a0:au):Option Bool:=
 gT a0 0
def gX(a0:au):Option Bool:=gX.b N (gX.l2 N N) a0
def R7(N:Nat)(a0:bS):Option ((Int)×(Bool)):=
 cond (aX 63 0) none (cond (!aN a0.1 (shr .i64 (W .i64 a0.2.1) 63)) (some (0,false)) (some ((W .i64 a0.2.1),true)))
def acE(N:Nat)(a0:au):Option au:=
 cond (ja 0 (ℓ a0) (ℓ a0) (ℓ a0)) (some (List.drop (0:Int).toNat (List.take (ℓ a0:Int).toNat a0))) none
abbrev cH.aqx:=au→au→dd→Int→au→Int→Int→Option (au×(Int))
abbrev cH.ny:=au→au→dd→Int→au→Int→Int→Option (au×(Int))
abbrev cH.aaN:=au→au→dd→kq→au→Int→Int→au→Int→Int→Option (au×(Int))
abbrev cH.Kt:=au→au→au→Int→Int→Option (au×(Int))
abbrev cH.fR:=au→au→au→Int→Int→Option (au×(Int))
abbrev cH.bN:=au→au→au→Int→Int→Option (au×(Int))
def cH.akN(gK:cH.fR)(x1 x8:au)(bh:dd)(a7:Int)(Qo:au)(RH Nm:Int):Option (au×(Int)):=
 cond (aN a7 (ℓ x8)) ((qH N x8 a7 ([(bh.1,(bh.2.1,(0,())))])).bind λp5=>gK x1 p5 Qo RH (W .i64 (Nm+1))) (cond (bb a7 (ℓ x8)) ((VW N bh.1 bh.2.1 (γ x8 a7.toNat bc)).bind λwk=>cond (!aN wk 0) ((qH N x8 a7 ([(bh.1,(bh.2.1,(0,())))])).bind λwH=>gK x1 wH Qo RH (W .i64 (Nm+1))) (gK x1 x8 Qo RH (W .i64 (Nm+1)))) none)
def cH.j18(gK:cH.fR)(x1 x8:au)(bh:dd)(a7:Int)(Qo:au)(RH Nm:Int):Option (au×(Int)):=cH.akN N gK x1 x8 bh a7 Qo RH Nm
def cH.wE(aiM:cH.aqx)(gK:cH.fR)(oS:cH.ny)(x1 x8:au)(bh:dd)(a7:Int)(Qo:au)(RH Nm:Int):Option (au×(Int)):=
 cond (aX a7 (ℓ x8)) (cond (bb a7 (ℓ x8)) ((VW N bh.1 bh.2.1 (γ x8 a7.toNat bc)).bind λkM=>cond (aX 0 kM) (oS x1 x8 bh (W .i64 (a7+1)) Qo RH Nm) (aiM x1 x8 bh a7 Qo RH Nm)) none) (aiM x1 x8 bh a7 Qo RH Nm)
def cH.xH(N:Nat)(gK:cH.fR):Nat→cH.ny
 |0,_,_,_,_,_,_,_=>none
 |n+1,x1,x8,bh,a7,Qo,RH,Nm=>cH.wE N (cH.j18 N gK) gK (cH.xH N gK n) x1 x8 bh a7 Qo RH Nm
def cH.acF(Lk:cH.Kt)(aaO:cH.aaN)(x1 bo:au)(cZ:dd)(eu:kq)(B6:au)(Fa s7:Int)(MX:au)(Xc JW:Int):Option (au×(Int)):=
 cond (aX JW Xc) (cond (bb JW (ℓ MX)) (cond (aN (γ MX JW.toNat bc).1 cZ.1) (cond (aN (γ MX JW.toNat bc).2.1 cZ.2.1) ((OS N (γ MX JW.toNat bc).2.2.1).bind λEB=>cond (small (ℓ eu+ℓ ([EB]))) (aaO x1 bo cZ (eu++([EB])) B6 Fa s7 MX Xc (W .i64 (JW+1))) none) (aaO x1 bo cZ eu B6 Fa s7 MX Xc (W .i64 (JW+1)))) (aaO x1 bo cZ eu B6 Fa s7 MX Xc (W .i64 (JW+1)))) none) ((Ae N eu).bind λr28=>(R7 N r28.1).bind λFO=>cond (!FO.2) (some (bq,2)) ((Sb N FO.1).bind λTc=>cond (!Tc) (some (bq,2)) (cond (!aN FO.1 0) (cond (small (ℓ bo+ℓ ([(cZ.1,(cZ.2.1,(FO.1,())))]))) (Lk x1 (bo++([(cZ.1,(cZ.2.1,(FO.1,())))])) B6 Fa (W .i64 (s7+1))) none) (Lk x1 bo B6 Fa (W .i64 (s7+1))))))
def cH.l27(N:Nat)(Lk:cH.Kt):Nat→cH.aaN
 |0,_,_,_,_,_,_,_,_,_,_=>none
 |n+1,x1,bo,cZ,eu,B6,Fa,s7,MX,Xc,JW=>cH.acF N Lk (cH.l27 N Lk n) x1 bo cZ eu B6 Fa s7 MX Xc JW
def cH.acH(aqy:cH.aaN)(Lk:cH.Kt)(x1 bo B6:au)(Fa s7:Int):Option (au×(Int)):=
 cond (aX s7 Fa) (cond (bb s7 (ℓ B6)) ((OS N (γ B6 s7.toNat bc).2.2.1).bind λFM=>aqy x1 bo (γ B6 s7.toNat bc) ([FM]) B6 Fa s7 x1 (ℓ x1) 0) none) ((acE N bo).bind λr34=>some (r34,0))
def cH.l23(N:Nat):Nat→cH.Kt
 |0,_,_,_,_,_=>none
 |n+1,x1,bo,B6,Fa,s7=>cH.acH N (cH.l27 N (cH.l23 N n) N) (cH.l23 N n) x1 bo B6 Fa s7
def cH.lz(N:Nat)(IH:cH.ny)(aqz:cH.Kt)(gK:cH.fR)(x1 x8 Qo:au)(RH Nm:Int):Option (au×(Int)):=
 cond (aX Nm RH) (cond (bb Nm (ℓ Qo)) (IH x1 x8 (γ Qo Nm.toNat bc) 0 Qo RH Nm) none) (cond (kU 0 (ℓ x8)) (aqz x1 (List.replicate (0:Int).toNat bc) x8 (ℓ x8) 0) none)
def cH.mw(N:Nat):Nat→cH.fR
 |0,_,_,_,_,_=>none
 |n+1,x1,x8,Qo,RH,Nm=>cH.lz N (cH.xH N (cH.mw N n) N) (cH.l23 N N) (cH.mw N n) x1 x8 Qo RH Nm
def cH.dQ(sU:cH.fR)(cG:cH.bN)(x0 x1 Aj:au)(Ll Dr:Int):Option (au×(Int)):=
 cond (aX Dr Ll) (cond (bb Dr (ℓ Aj)) ((YT N (γ Aj Dr.toNat bc).1 (γ Aj Dr.toNat bc).2.1).bind λr3=>cond (!r3) (some (bq,1)) ((Sb N (γ Aj Dr.toNat bc).2.2.1).bind λr4=>cond (!r4) (some (bq,1)) (cG x0 x1 Aj Ll (W .i64 (Dr+1))))) none) ((gX N x1).bind λr6=>cond (!r6) (some (bq,1)) ((ju N x0).bind λr7=>sU x1 r7 x1 (ℓ x1) 0))
def cH.l4(N:Nat):Nat→cH.bN
 |0,_,_,_,_,_=>none
 |n+1,x0,x1,Aj,Ll,Dr=>cH.dQ N (cH.mw N N) (cH.l4 N n) x0 x1 Aj Ll Dr
def cH.b(ff:cH.bN)(a0 a1:au):Option (au×(Int)):=
 (Bu N a0).bind λr1=>cond (!r1) (some (bq,1)) (cond (aX 400 (ℓ a1)) (some (bq,1)) (ff a0 a1 a1 (ℓ a1) 0))
def cH(a0 a1:au):Option (au×(Int)):=cH.b N (cH.l4 N N) a0 a1
def akP(N:Nat)(a0:au):Option au:=
 cond (ja 0 (ℓ a0) (ℓ a0) (ℓ a0)) (some (List.drop (0:Int).toNat (List.take (ℓ a0:Int).toNat a0))) none
abbrev cI.aqA:=c5→au→tB→Int→c5→Int→Int→Option (au×(Int))
abbrev cI.II:=c5→au→tB→Int→c5→Int→Int→Option (au×(Int))
abbrev cI.IJ:=c5→au→dd→kq→au→Int→Int→c5→Int→Int→Option (au×(Int))
abbrev cI.KC:=c5→au→au→Int→Int→Option (au×(Int))
abbrev cI.ny:=c5→au→c5→Int→Int→Option (au×(Int))
abbrev cI.bJ:=au→c5→kq→c5→Int→Int→Option (au×(Int))
def cI.akQ(oS:cI.ny)(x1:c5)(a7:au)(cf:tB)(cZ:Int)(wO:c5)(JX wo:Int):Option (au×(Int)):=
 cond (aN cZ (ℓ a7)) ((qH N a7 cZ ([(cf.1,(cf.2.1,(0,())))])).bind λwk=>oS x1 wk wO JX (W .i64 (wo+1))) (cond (bb cZ (ℓ a7)) ((F84 N cf.1 cf.2.1 (γ a7 cZ.toNat bc)).bind λxR=>cond (!aN xR 0) ((qH N a7 cZ ([(cf.1,(cf.2.1,(0,())))])).bind λya=>oS x1 ya wO JX (W .i64 (wo+1))) (oS x1 a7 wO JX (W .i64 (wo+1)))) none)
def cI.j21(oS:cI.ny)(x1:c5)(a7:au)(cf:tB)(cZ:Int)(wO:c5)(JX wo:Int):Option (au×(Int)):=cI.akQ N oS x1 a7 cf cZ wO JX wo
def cI.Sm(aiO:cI.aqA)(oS:cI.ny)(aaQ:cI.II)(x1:c5)(a7:au)(cf:tB)(cZ:Int)(wO:c5)(JX wo:Int):Option (au×(Int)):=
 cond (aX cZ (ℓ a7)) (cond (bb cZ (ℓ a7)) ((F84 N cf.1 cf.2.1 (γ a7 cZ.toNat bc)).bind λoQ=>cond (aX 0 oQ) (aaQ x1 a7 cf (W .i64 (cZ+1)) wO JX wo) (aiO x1 a7 cf cZ wO JX wo)) none) (aiO x1 a7 cf cZ wO JX wo)
def cI.Wb(N:Nat)(oS:cI.ny):Nat→cI.II
 |0,_,_,_,_,_,_,_=>none
 |n+1,x1,a7,cf,cZ,wO,JX,wo=>cI.Sm N (cI.j21 N oS) oS (cI.Wb N oS n) x1 a7 cf cZ wO JX wo
def cI.Mj(Lm:cI.KC)(EC:cI.IJ)(x1:c5)(eu:au)(gh:dd)(my:kq)(B7:au)(Fb Aa:Int)(JY:c5)(Xd IK:Int):Option (au×(Int)):=
 cond (aX IK Xd) (cond (bb IK (ℓ JY)) (cond (aN (γ JY IK.toNat (0,(0,(c8,())))).1 gh.1) (cond (aN (γ JY IK.toNat (0,(0,(c8,())))).2.1 gh.2.1) (cond (small (ℓ my+ℓ ([(γ JY IK.toNat (0,(0,(c8,())))).2.2.1]))) (EC x1 eu gh (my++([(γ JY IK.toNat (0,(0,(c8,())))).2.2.1])) B7 Fb Aa JY Xd (W .i64 (IK+1))) none) (EC x1 eu gh my B7 Fb Aa JY Xd (W .i64 (IK+1)))) (EC x1 eu gh my B7 Fb Aa JY Xd (W .i64 (IK+1)))) none) ((Ae N my).bind λFO=>(R7 N FO.1).bind λTc=>cond (!FO.2) (some (bq,2)) (cond (!Tc.2) (some (bq,2)) (cond (!aN Tc.1 0) (cond (small (ℓ eu+ℓ ([(gh.1,(gh.2.1,(Tc.1,())))]))) (Lm x1 (eu++([(gh.1,(gh.2.1,(Tc.1,())))])) B7 Fb (W .i64 (Aa+1))) none) (Lm x1 eu B7 Fb (W .i64 (Aa+1))))))
def cI.O4(N:Nat)(Lm:cI.KC):Nat→cI.IJ
 |0,_,_,_,_,_,_,_,_,_,_=>none
 |n+1,x1,eu,gh,my,B7,Fb,Aa,JY,Xd,IK=>cI.Mj N Lm (cI.O4 N Lm n) x1 eu gh my B7 Fb Aa JY Xd IK
def cI.acL(aaR:cI.IJ)(Lm:cI.KC)(x1:c5)(eu B7:au)(Fb Aa:Int):Option (au×(Int)):=
 cond (aX Aa Fb) (cond (bb Aa (ℓ B7)) ((OS N (γ B7 Aa.toNat bc).2.2.1).bind λEB=>aaR x1 eu (γ B7 Aa.toNat bc) ([EB]) B7 Fb Aa x1 (ℓ x1) 0) none) ((akP N eu).bind λr34=>some (r34,0))
def cI.l26(N:Nat):Nat→cI.KC
 |0,_,_,_,_,_=>none
 |n+1,x1,eu,B7,Fb,Aa=>cI.acL N (cI.O4 N (cI.l26 N n) N) (cI.l26 N n) x1 eu B7 Fb Aa
def cI.wE(N:Nat)(aaS:cI.II)(aqB:cI.KC)(oS:cI.ny)(x1:c5)(a7:au)(wO:c5)(JX wo:Int):Option (au×(Int)):=
 cond (aX wo JX) (cond (bb wo (ℓ wO)) (aaS x1 a7 (γ wO wo.toNat (0,(0,(c8,())))) 0 wO JX wo) none) (cond (kU 0 (ℓ a7)) (aqB x1 (List.replicate (0:Int).toNat bc) a7 (ℓ a7) 0) none)
def cI.xH(N:Nat):Nat→cI.ny
 |0,_,_,_,_,_=>none
 |n+1,x1,a7,wO,JX,wo=>cI.wE N (cI.Wb N (cI.xH N n) N) (cI.l26 N N) (cI.xH N n) x1 a7 wO JX wo
def cI.eo(IH:cI.ny)(bL:cI.bJ)(x0:au)(x1:c5)(x6:kq)(x36:c5)(x37 x38:Int):Option (au×(Int)):=
 cond (aX x38 x37) (cond (bb x38 (ℓ x36)) ((F83 N (γ x36 x38.toNat (0,(0,(c8,())))).1 (γ x36 x38.toNat (0,(0,(c8,())))).2.1).bind λr4=>cond (!r4) (some (bq,1)) (cond (small (ℓ x6+ℓ ([(γ x36 x38.toNat (0,(0,(c8,())))).2.2.1]))) (bL x0 x1 (x6++([(γ x36 x38.toNat (0,(0,(c8,())))).2.2.1])) x36 x37 (W .i64 (x38+1))) none)) none) ((Ae N x6).bind λr7=>cond (!r7.2) (some (bq,1)) ((F32 N r7.1).bind λr8=>cond (!aN r8 0) (some (bq,1)) ((ju N x0).bind λr9=>IH x1 r9 x1 (ℓ x1) 0)))
def cI.l5(N:Nat):Nat→cI.bJ
 |0,_,_,_,_,_,_=>none
 |n+1,x0,x1,x6,x36,x37,x38=>cI.eo N (cI.xH N N) (cI.l5 N n) x0 x1 x6 x36 x37 x38
def cI.b(e8:cI.bJ)(a0:au)(a1:c5):Option (au×(Int)):=
 (CI N a0).bind λr1=>cond (!r1) (some (bq,1)) (cond (aX 400 (ℓ a1)) (some (bq,1)) (cond (kU 0 (ℓ a1)) (e8 a0 a1 (List.replicate (0:Int).toNat c8) a1 (ℓ a1) 0) none))
def cI(a0:au)(a1:c5):Option (au×(Int)):=cI.b N (cI.l5 N N) a0 a1
def F61(a0:an)(a1:au)(a2:c5):Option (an×(Int)):=
 (F70 N a0).bind λr1=>(cH N a0.2.2.2.1 a1).bind λr2=>cond (!aN r2.2 0) (some ((cc,(cT,(bq,(bq,(db,(dq,())))))),r2.2)) ((cI N a0.2.2.1 a2).bind λr3=>cond (!aN r3.2 0) (some ((cc,(cT,(bq,(bq,(db,(dq,())))))),r3.2)) (some ((r1.1,(r1.2.1,(r3.1,(r2.1,r1.2.2.2.2)))),0)))
abbrev tE.iN:=an→an→au→c5→bf→Int→Int→Option (an×(Int))
abbrev tE.bN:=bf→ae→an→an→bf→Int→Int→Option (an×(Int))
def tE.nD(lE:tE.iN)(x4 x6:an)(bh:au)(a7:c5)(wO:bf)(JX wo:Int):Option (an×(Int)):=
 cond (aX wo JX) (cond (bb wo (ℓ wO)) (let UX:Int:=W .i64 (0-((γ wO wo.toNat eG).2.2.2.1));cond (small (ℓ bh+ℓ ([((γ wO wo.toNat eG).1,((γ wO wo.toNat eG).2.2.1,((γ wO wo.toNat eG).2.2.2.1,()))),((γ wO wo.toNat eG).2.1,((γ wO wo.toNat eG).2.2.1,(UX,())))]))) (cond (bb (γ wO wo.toNat eG).2.2.1 (ℓ x4.2.2.2.2.1)) ((F60 N (γ wO wo.toNat eG) (γ x4.2.2.2.2.1 (γ wO wo.toNat eG).2.2.1.toNat 0)).bind λtZ=>cond (small (ℓ a7+ℓ tZ.1)) (lE x4 x6 (bh++([((γ wO wo.toNat eG).1,((γ wO wo.toNat eG).2.2.1,((γ wO wo.toNat eG).2.2.2.1,()))),((γ wO wo.toNat eG).2.1,((γ wO wo.toNat eG).2.2.1,(UX,())))])) (a7++tZ.1) wO JX (W .i64 (wo+1))) none) none) none) none) ((F61 N x4 bh a7).bind λxR=>some (xR.1,xR.2))
def tE.oH(N:Nat):Nat→tE.iN
 |0,_,_,_,_,_,_,_=>none
 |n+1,x4,x6,bh,a7,wO,JX,wo=>tE.nD N (tE.oH N n) x4 x6 bh a7 wO JX wo
def tE.dQ(uV:tE.iN)(cG:tE.bN)(x2:bf)(x3:ae)(x4 x6:an)(Aj:bf)(Ll Dr:Int):Option (an×(Int)):=
 cond (aX Dr Ll) (cond (bb Dr (ℓ Aj)) (cond (!aN (γ Aj Dr.toNat eG).1 0) ((F36 N x4 (γ Aj Dr.toNat eG).1).bind λr4=>cond (!r4) (some ((cc,(cT,(bq,(bq,(db,(dq,())))))),3)) (cond (!aN (γ Aj Dr.toNat eG).2.1 0) ((F36 N x4 (γ Aj Dr.toNat eG).2.1).bind λr5=>cond (!r5) (some ((cc,(cT,(bq,(bq,(db,(dq,())))))),3)) (cond (du (ℓ x3.1) (γ Aj Dr.toNat eG).2.2.1) (some ((cc,(cT,(bq,(bq,(db,(dq,())))))),3)) (cG x2 x3 x4 x6 Aj Ll (W .i64 (Dr+1))))) (cond (du (ℓ x3.1) (γ Aj Dr.toNat eG).2.2.1) (some ((cc,(cT,(bq,(bq,(db,(dq,())))))),3)) (cG x2 x3 x4 x6 Aj Ll (W .i64 (Dr+1)))))) (cond (!aN (γ Aj Dr.toNat eG).2.1 0) ((F36 N x4 (γ Aj Dr.toNat eG).2.1).bind λr8=>cond (!r8) (some ((cc,(cT,(bq,(bq,(db,(dq,())))))),3)) (cond (du (ℓ x3.1) (γ Aj Dr.toNat eG).2.2.1) (some ((cc,(cT,(bq,(bq,(db,(dq,())))))),3)) (cG x2 x3 x4 x6 Aj Ll (W .i64 (Dr+1))))) (cond (du (ℓ x3.1) (γ Aj Dr.toNat eG).2.2.1) (some ((cc,(cT,(bq,(bq,(db,(dq,())))))),3)) (cG x2 x3 x4 x6 Aj Ll (W .i64 (Dr+1)))))) none) (uV x4 x6 ([]) ([]) x2 (ℓ x2) 0)
def tE.l4(N:Nat):Nat→tE.bN
 |0,_,_,_,_,_,_,_=>none
 |n+1,x2,x3,x4,x6,Aj,Ll,Dr=>tE.dQ N (tE.oH N N) (tE.l4 N n) x2 x3 x4 x6 Aj Ll Dr
def tE.b(ff:tE.bN)(a0:ae)(a1:an)(a2:bf):Option (an×(Int)):=
 (F9 N a0 a1).bind λr1=>cond (!r1) (some ((cc,(cT,(bq,(bq,(db,(dq,())))))),1)) (cond (aX 200 (ℓ a2)) (some ((cc,(cT,(bq,(bq,(db,(dq,())))))),1)) ((F57 N a2 ()).bind λr2=>cond (r2) (some ((cc,(cT,(bq,(bq,(db,(dq,())))))),1)) (ff a2 a0 a1 (cc,(cT,(bq,(bq,(db,(dq,())))))) a2 (ℓ a2) 0)))
def tE(a0:ae)(a1:an)(a2:bf):Option (an×(Int)):=tE.b N (tE.l4 N N) a0 a1 a2
abbrev Ev.bJ:=Int→Int→Int→c5→au→Int→Int→Option (c5×(Int))
def Ev.eo(bL:Ev.bJ)(x1 x2 x3:Int)(bh:c5)(Qn:au)(x27 x28:Int):Option (c5×(Int)):=
 cond (aX x28 x27) (cond (bb x28 (ℓ Qn)) (cond (aN (γ Qn x28.toNat bc).2.1 x1) (cond (!aN x3 x2) ((VV N (γ Qn x28.toNat bc).2.2.1 (W .i64 (x3-x2))).bind λr6=>(Wi N (γ Qn x28.toNat bc).1 r6).bind λr7=>cond (small (ℓ bh+ℓ ([r7]))) (bL x1 x2 x3 (bh++([r7])) Qn x27 (W .i64 (x28+1))) none) (bL x1 x2 x3 bh Qn x27 (W .i64 (x28+1)))) (bL x1 x2 x3 bh Qn x27 (W .i64 (x28+1)))) none) (some (bh,0))
def Ev.l5(N:Nat):Nat→Ev.bJ
 |0,_,_,_,_,_,_,_=>none
 |n+1,x1,x2,x3,bh,Qn,x27,x28=>Ev.eo N (Ev.l5 N n) x1 x2 x3 bh Qn x27 x28
def Ev.b(e8:Ev.bJ)(a0:au)(a1 a2 a3:Int):Option (c5×(Int)):=
 (Bu N a0).bind λr1=>cond (!r1) (some ([],1)) ((F40 N a2).bind λr2=>cond (!r2) (some ([],1)) ((F40 N a3).bind λr3=>cond (!r3) (some ([],1)) (e8 a1 a2 a3 ([]) a0 (ℓ a0) 0)))
def Ev(a0:au)(a1 a2 a3:Int):Option (c5×(Int)):=Ev.b N (Ev.l5 N N) a0 a1 a2 a3
def aqC(a0:an):Option an:=
 (ju N a0.1).bind λr1=>(ju N a0.2.1).bind λr2=>(ju N a0.2.2.1).bind λr3=>(ju N a0.2.2.2.1).bind λr4=>(ju N a0.2.2.2.2.1).bind λr5=>(ju N a0.2.2.2.2.2.1).bind λr6=>some (r1,(r2,(r3,(r4,(r5,(r6,()))))))
def alf(a0:an)(a1:au)(a2:c5):Option (an×(Int)):=
 (aqC N a0).bind λr1=>(cH N a0.2.2.2.1 a1).bind λr2=>cond (!aN r2.2 0) (some ((cc,(cT,(bq,(bq,(db,(dq,())))))),r2.2)) ((cI N a0.2.2.1 a2).bind λr3=>cond (!aN r3.2 0) (some ((cc,(cT,(bq,(bq,(db,(dq,())))))),r3.2)) (some ((r1.1,(r1.2.1,(r3.1,(r2.1,(r1.2.2.2.2.1,r1.2.2.2.2.2))))),0)))
def F17(a0:ae)(a1:an)(a2 a3:Int):Option (an×c5×(Int)):=
 (F9 N a0 a1).bind λr1=>cond (!r1) (some ((cc,(cT,(bq,(bq,(db,(dq,())))))),([]:List ((Int)×((Int)×(((Int)×((Int)×(Unit)))×(Unit))))),1)) ((F40 N a3).bind λr2=>cond (!r2) (some ((cc,(cT,(bq,(bq,(db,(dq,())))))),([]:List ((Int)×((Int)×(((Int)×((Int)×(Unit)))×(Unit))))),1)) (cond (aX a2 0) (some ((cc,(cT,(bq,(bq,(db,(dq,())))))),([]:List ((Int)×((Int)×(((Int)×((Int)×(Unit)))×(Unit))))),3)) (cond (du (ℓ a0.1) a2) (some ((cc,(cT,(bq,(bq,(db,(dq,())))))),([]:List ((Int)×((Int)×(((Int)×((Int)×(Unit)))×(Unit))))),3)) (cond (bb a2 (ℓ a1.2.2.2.2.1)) ((Ev N a1.2.2.2.1 a2 (γ a1.2.2.2.2.1 a2.toNat 0) a3).bind λr3=>(alf N a1 bq r3.1).bind λr4=>cond (!aN r4.2 0) (some ((cc,(cT,(bq,(bq,(db,(dq,())))))),([]:List ((Int)×((Int)×(((Int)×((Int)×(Unit)))×(Unit))))),r4.2)) (cond (bb a2 (ℓ r4.1.2.2.2.2.1)) (some ((r4.1.1,(r4.1.2.1,(r4.1.2.2.1,(r4.1.2.2.2.1,((List.set r4.1.2.2.2.2.1 a2.toNat a3),r4.1.2.2.2.2.2))))),r3.1,0)) none)) none))))
abbrev Ec.bJ:=Int→aE→au→Int→Int→Option aE
def Ec.eo(N:Nat)(bL:Ec.bJ)(x1:Int)(x5:aE)(a7:au)(bo cf:Int):Option aE:=
 cond (aX cf bo) (cond (bb cf (ℓ a7)) (cond (aN (γ a7 cf.toNat bc).1 x1) (cond (small (ℓ x5+ℓ ([((γ a7 cf.toNat bc).2.1,((γ a7 cf.toNat bc).2.2.1,()))]))) (bL x1 (x5++([((γ a7 cf.toNat bc).2.1,((γ a7 cf.toNat bc).2.2.1,()))])) a7 bo (W .i64 (cf+1))) none) (bL x1 x5 a7 bo (W .i64 (cf+1)))) none) (some x5)
def Ec.l5(N:Nat):Nat→Ec.bJ
 |0,_,_,_,_,_=>none
 |n+1,x1,x5,a7,bo,cf=>Ec.eo N (Ec.l5 N n) x1 x5 a7 bo cf
def Ec.b(e8:Ec.bJ)(a0:au)(a1:Int):Option aE:=
 (Bu N a0).bind λr1=>cond (!r1) (some ([])) (e8 a1 ([]) a0 (ℓ a0) 0)
def Ec(a0:au)(a1:Int):Option aE:=Ec.b N (Ec.l5 N N) a0 a1
abbrev rz.lF:=aY→Int→au→Int→dd→Int→aY→Int→Int→Option au
abbrev rz.bJ:=aY→Int→au→Int→Option au
def rz.vz(N:Nat)(bL:rz.bJ)(oM:rz.lF)(x0:aY)(x1:Int)(x5:au)(x6:Int)(x7:dd)(cf:Int)(my:aY)(nF Ak:Int):Option au:=
 cond (aX Ak nF) (cond (bb Ak (ℓ my)) (cond (!aN (γ my Ak.toNat eC).2.1 x1) (oM x0 x1 x5 x6 x7 cf my nF (W .i64 (Ak+1))) (cond (!aN (γ my Ak.toNat eC).2.2.1 x6) (oM x0 x1 x5 x6 x7 cf my nF (W .i64 (Ak+1))) (cond (aN (γ my Ak.toNat eC).2.2.2.1 1) (oM x0 x1 x5 x6 (x7.1,((W .i64 (x7.2.1+((γ my Ak.toNat eC).2.2.2.2.1))),x7.2.2)) cf my nF (W .i64 (Ak+1))) (oM x0 x1 x5 x6 (x7.1,(x7.2.1,((W .i64 (x7.2.2.1+((γ my Ak.toNat eC).2.2.2.2.1))),x7.2.2.2))) cf my nF (W .i64 (Ak+1)))))) none) (cond (aX 0 (W .i64 (x7.2.1+x7.2.2.1))) (cond (small (ℓ x5+ℓ ([x7]))) (bL x0 x1 (x5++([x7])) (W .i64 (cf+1))) none) (bL x0 x1 x5 (W .i64 (cf+1))))
def rz.l9(N:Nat)(bL:rz.bJ):Nat→rz.lF
 |0,_,_,_,_,_,_,_,_,_=>none
 |n+1,x0,x1,x5,x6,x7,cf,my,nF,Ak=>rz.vz N bL (rz.l9 N bL n) x0 x1 x5 x6 x7 cf my nF Ak
def rz.eo(N:Nat)(yb:rz.lF)(bL:rz.bJ)(x0:aY)(x1:Int)(x5:au)(cf:Int):Option au:=
 cond (aX cf 6) (yb x0 x1 x5 cf (cf,c8) cf x0 (ℓ x0) 0) (some x5)
def rz.l5(N:Nat):Nat→rz.bJ
 |0,_,_,_,_=>none
 |n+1,x0,x1,x5,cf=>rz.eo N (rz.l9 N (rz.l5 N n) N) (rz.l5 N n) x0 x1 x5 cf
def rz.b(e8:rz.bJ)(a0:aY)(a1:Int):Option au:=
 (CO N a0).bind λr1=>cond (!r1) (some ([])) (e8 a0 a1 ([]) 0)
def rz(a0:aY)(a1:Int):Option au:=rz.b N (rz.l5 N N) a0 a1
abbrev pU.cY:=aE→ae→aE→Int→Int→Option Bool
def pU.fM(dS:pU.cY)(x1:aE)(x2:ae)(x7:aE)(x8 x9:Int):Option Bool:=
 cond (aX x9 x8) (cond (bb x9 (ℓ x7)) (cond (aX (γ x7 x9.toNat c8).1 0) (some false) (cond (du (ℓ x2.1) (γ x7 x9.toNat c8).1) (some false) (cond (aN (γ x7 x9.toNat c8).2.1 0) (some false) ((Sb N (γ x7 x9.toNat c8).2.1).bind λr2=>cond (!r2) (some false) (cond (aX 0 x9) (let v3:Int:=W .i64 (x9-1);cond (bb v3 (ℓ x1)) (cond (du (γ x7 x9.toNat c8).1 (γ x1 v3.toNat c8).1) (some false) (dS x1 x2 x7 x8 (W .i64 (x9+1)))) none) (dS x1 x2 x7 x8 (W .i64 (x9+1)))))))) none) ((Ch N x2).bind λr6=>some r6)
def pU.l2(N:Nat):Nat→pU.cY
 |0,_,_,_,_,_=>none
 |n+1,x1,x2,x7,x8,x9=>pU.fM N (pU.l2 N n) x1 x2 x7 x8 x9
def pU.b(N:Nat)(gT:pU.cY)(a0:ae)(a1:aE):Option Bool:=
 gT a1 a0 a1 (ℓ a1) 0
def pU(a0:ae)(a1:aE):Option Bool:=pU.b N (pU.l2 N N) a0 a1
abbrev p4.cY:=au→ae→au→Int→Int→Option Bool
def p4.fM(dS:p4.cY)(x1:au)(x2:ae)(x7:au)(x8 x9:Int):Option Bool:=
 cond (aX x9 x8) (cond (bb x9 (ℓ x7)) (cond (aX (γ x7 x9.toNat bc).1 0) (some false) (cond (du (ℓ x2.1) (γ x7 x9.toNat bc).1) (some false) (cond (aX (γ x7 x9.toNat bc).2.1 0) (some false) (cond (aX 33000000000 (γ x7 x9.toNat bc).2.1) (some false) (cond (aX (γ x7 x9.toNat bc).2.2.1 0) (some false) (cond (aX 33000000000 (γ x7 x9.toNat bc).2.2.1) (some false) (cond (aN (γ x7 x9.toNat bc).2.1 0) (cond (aN (γ x7 x9.toNat bc).2.2.1 0) (some false) (cond (aX 0 x9) (let v2:Int:=W .i64 (x9-1);cond (bb v2 (ℓ x1)) (cond (du (γ x7 x9.toNat bc).1 (γ x1 v2.toNat bc).1) (some false) (dS x1 x2 x7 x8 (W .i64 (x9+1)))) none) (dS x1 x2 x7 x8 (W .i64 (x9+1))))) (cond (aX 0 x9) (let v5:Int:=W .i64 (x9-1);cond (bb v5 (ℓ x1)) (cond (du (γ x7 x9.toNat bc).1 (γ x1 v5.toNat bc).1) (some false) (dS x1 x2 x7 x8 (W .i64 (x9+1)))) none) (dS x1 x2 x7 x8 (W .i64 (x9+1))))))))))) none) ((Ch N x2).bind λr8=>some r8)
def p4.l2(N:Nat):Nat→p4.cY
 |0,_,_,_,_,_=>none
 |n+1,x1,x2,x7,x8,x9=>p4.fM N (p4.l2 N n) x1 x2 x7 x8 x9
def p4.b(N:Nat)(gT:p4.cY)(a0:ae)(a1:au):Option Bool:=
 gT a1 a0 a1 (ℓ a1) 0
def p4(a0:ae)(a1:au):Option Bool:=p4.b N (p4.l2 N N) a0 a1
def Zq(a0 a1:bS):Option (bS×(Bool)):=
 (ux N a0.2.1 a1.2.1 0).bind λr1=>(ux N (W .u64 a0.1) (W .u64 a1.1) r1.2).bind λr4=>let v5:Int:=W .i64 r4.1;cond (pn .bool (aX a0.1 0) (aX a1.1 0)) (cond (!(pn .bool (aX v5 0) (aX a0.1 0))) (some (c8,false)) (some ((v5,(r1.1,())),true))) (some ((v5,(r1.1,())),true))
def SE(a0 a1:bS):Option (bS×(Bool)):=
 (tg N a0.2.1 a1.2.1 0).bind λr1=>(tg N (W .u64 a0.1) (W .u64 a1.1) r1.2).bind λr4=>let v5:Int:=W .i64 r4.1;cond (!(pn .bool (aX a0.1 0) (aX a1.1 0))) (cond (!(pn .bool (aX v5 0) (aX a0.1 0))) (some (c8,false)) (some ((v5,(r1.1,())),true))) (some ((v5,(r1.1,())),true))
def acX(a0:bS):Option (bS×(Bool)):=
 (SE N c8 a0).bind λr1=>some (r1.1,r1.2)
def SF(a0:bS):Option (bS×(Bool)):=
 cond (aX a0.1 0) ((acX N a0).bind λr1=>some (r1.1,r1.2)) (some (a0,true))
abbrev iV.fR:=Int→bS→Int→Int→Int→au→Int→Int→Option (bS×(Int))
abbrev iV.fb:=au→Int→bS→Int→Int→Int→aE→Int→Int→Option (bS×(Int))
def iV.lz(gK:iV.fR)(x3:Int)(x8:bS)(bh a7 bo:Int)(Jc:au)(Xb FN:Int):Option (bS×(Int)):=
 cond (aX FN Xb) (cond (bb FN (ℓ Jc)) (cond (aN (γ Jc FN.toNat bc).1 x3) (gK x3 x8 bh (γ Jc FN.toNat bc).2.1 (γ Jc FN.toNat bc).2.2.1 Jc Xb (W .i64 (FN+1))) (gK x3 x8 bh a7 bo Jc Xb (W .i64 (FN+1)))) none) ((OS N bh).bind λr9=>(OS N a7).bind λkM=>(Zq N r9 kM).bind λnL=>(OS N bh).bind λoQ=>(OS N bo).bind λp5=>(SE N oQ p5).bind λtZ=>(SF N nL.1).bind λwk=>(SF N tZ.1).bind λwH=>(F85 N wk.1 wH.1).bind λxR=>cond (aX xR 0) (some (wH.1,0)) (some (wk.1,0)))
def iV.mw(N:Nat):Nat→iV.fR
 |0,_,_,_,_,_,_,_,_=>none
 |n+1,x3,x8,bh,a7,bo,Jc,Xb,FN=>iV.lz N (iV.mw N n) x3 x8 bh a7 bo Jc Xb FN
def iV.oJ(N:Nat)(sU:iV.fR)(eZ:iV.fb)(x2:au)(x3:Int)(x8:bS)(bh a7 bo:Int)(x44:aE)(x45 x46:Int):Option (bS×(Int)):=
 cond (aX x46 x45) (cond (bb x46 (ℓ x44)) (cond (aN (γ x44 x46.toNat c8).1 x3) (eZ x2 x3 x8 (γ x44 x46.toNat c8).2.1 a7 bo x44 x45 (W .i64 (x46+1))) (eZ x2 x3 x8 bh a7 bo x44 x45 (W .i64 (x46+1)))) none) (sU x3 x8 bh a7 bo x2 (ℓ x2) 0)
def iV.l7(N:Nat):Nat→iV.fb
 |0,_,_,_,_,_,_,_,_,_=>none
 |n+1,x2,x3,x8,bh,a7,bo,x44,x45,x46=>iV.oJ N (iV.mw N N) (iV.l7 N n) x2 x3 x8 bh a7 bo x44 x45 x46
def iV.b(sS:iV.fb)(a0:ae)(a1:aE)(a2:au)(a3:Int):Option (bS×(Int)):=
 (pU N a0 a1).bind λr1=>cond (!r1) (some (c8,1)) ((p4 N a0 a2).bind λr2=>cond (!r2) (some (c8,1)) (cond (aX a3 0) (some (c8,3)) (cond (du (ℓ a0.1) a3) (some (c8,3)) (sS a2 a3 c8 0 0 0 a1 (ℓ a1) 0))))
def iV(a0:ae)(a1:aE)(a2:au)(a3:Int):Option (bS×(Int)):=iV.b N (iV.l7 N N) a0 a1 a2 a3
def acr(a0:bS):Option ((Int)×(Int)):=
 cond (du 0 a0.1) (some ((W .u64 a0.1),a0.2.1)) ((tg N 0 a0.2.1 0).bind λr2=>(tg N 0 (W .u64 a0.1) r2.2).bind λr4=>some (r4.1,r2.1))
def acZ(a0:bS)(a1:Int):Option (bS×(Bool)):=
 (acr N a0).bind λr1=>(VQ N a1).bind λr2=>(VP N r1.2 r2).bind λr3=>(VP N r1.1 r2).bind λr4=>(ux N r4.2 r3.1 0).bind λr5=>cond (!aN (W .u64 (r4.1+r5.2)) 0) (some (c8,false)) ((qP N (!(pn .bool (aX a0.1 0) (aX a1 0))) r5.1 r3.2).bind λr7=>some (r7.1,r7.2))
abbrev H8.bJ:=aE→au→ae→bS→kq→aO→Int→Int→Option (bS×(Int))
def H8.eo(bL:H8.bJ)(x1:aE)(x2:au)(x3:ae)(x6:bS)(x8:kq)(x29:aO)(Aj Ll:Int):Option (bS×(Int)):=
 cond (aX Ll Aj) (cond (bb Ll (ℓ x29)) ((iV N x3 x1 x2 Ll).bind λr4=>(acZ N r4.1 (γ x29 Ll.toNat ba).2.2.1).bind λr5=>cond (small (ℓ x8+ℓ ([r5.1]))) (bL x1 x2 x3 x6 (x8++([r5.1])) x29 Aj (W .i64 (Ll+1))) none) none) ((Ae N x8).bind λr8=>some (r8.1,0))
def H8.l5(N:Nat):Nat→H8.bJ
 |0,_,_,_,_,_,_,_,_=>none
 |n+1,x1,x2,x3,x6,x8,x29,Aj,Ll=>H8.eo N (H8.l5 N n) x1 x2 x3 x6 x8 x29 Aj Ll
def H8.b(e8:H8.bJ)(a0:ae)(a1:aE)(a2:au):Option (bS×(Int)):=
 (pU N a0 a1).bind λr1=>cond (!r1) (some (c8,1)) ((p4 N a0 a2).bind λr2=>cond (!r2) (some (c8,1)) (e8 a1 a2 a0 c8 ([]) a0.1 (ℓ a0.1) 0))
def H8(a0:ae)(a1:aE)(a2:au):Option (bS×(Int)):=H8.b N (H8.l5 N N) a0 a1 a2
def F18(a0:ae)(a1:an)(a2:Int):Option (bS×(Int)):=
 (F9 N a0 a1).bind λr1=>cond (!r1) (some (c8,1)) ((F36 N a1 a2).bind λr2=>cond (!r2) (some (c8,3)) ((Ec N a1.2.2.2.1 a2).bind λr3=>(rz N a1.2.2.2.2.2.1 a2).bind λr4=>(H8 N a0 r3 r4).bind λr5=>some (r5.1,r5.2)))
abbrev Ex.bJ:=Int→(List Int)→aO→Int→Int→Option (List Int)
def Ex.eo(N:Nat)(bL:Ex.bJ)(x1:Int)(x5:List Int)(a7:aO)(bo cf:Int):Option (List Int):=
 cond (aX cf bo) (cond (bb cf (ℓ a7)) (cond (aN (γ a7 cf.toNat ba).2.1 x1) (cond (small (ℓ x5+ℓ ([(γ a7 cf.toNat ba).1]))) (bL x1 (x5++([(γ a7 cf.toNat ba).1])) a7 bo (W .i64 (cf+1))) none) (bL x1 x5 a7 bo (W .i64 (cf+1)))) none) (some x5)
def Ex.l5(N:Nat):Nat→Ex.bJ
 |0,_,_,_,_,_=>none
 |n+1,x1,x5,a7,bo,cf=>Ex.eo N (Ex.l5 N n) x1 x5 a7 bo cf
def Ex.b(e8:Ex.bJ)(a0:aO)(a1:Int):Option (List Int):=
 (zS N a0).bind λr1=>cond (!r1) (some ([])) (e8 a1 ([]) a0 (ℓ a0) 0)
def Ex(a0:aO)(a1:Int):Option (List Int):=Ex.b N (Ex.l5 N N) a0 a1
abbrev sO.cY:=(List Int)→Int→Int→Int→Option Int
def sO.fM(N:Nat)(dS:sO.cY)(x0:List Int)(x1 x7 x8:Int):Option Int:=
 cond (aX x8 x7) (cond (bb x8 (ℓ x0)) (cond (aN x1 (γ x0 x8.toNat 0)) (some x8) (dS x0 x1 x7 (W .i64 (x8+1)))) none) (some (-1))
def sO.l2(N:Nat):Nat→sO.cY
 |0,_,_,_,_=>none
 |n+1,x0,x1,x7,x8=>sO.fM N (sO.l2 N n) x0 x1 x7 x8
def sO.b(N:Nat)(gT:sO.cY)(a0:List Int)(a1:Int):Option Int:=
 gT a0 a1 (ℓ a0) 0
def sO(a0:List Int)(a1:Int):Option Int:=sO.b N (sO.l2 N N) a0 a1
def adF(a0:List Int)(a1:Int):Option Bool:=
 (sO N a0 a1).bind λr1=>some (du 0 r1)
def aaq(a0:fZ)(a1:List Int):Option Bool:=
 (adF N a1 a0.2.1).bind λr1=>some r1
abbrev qy.cY:=aY→(((List Int)×(Unit))×(Unit))→Int→Int→Option Int
def qy.fM(dS:qy.cY)(x0:aY)(x1:((List Int)×(Unit))×(Unit))(x7 x8:Int):Option Int:=
 cond (aX x8 x7) (cond (bb x8 (ℓ x0)) ((aaq N (γ x0 x8.toNat eC) x1.1.1).bind λr2=>cond (r2) (some x8) (dS x0 ((x1.1.1,()),()) x7 (W .i64 (x8+1)))) none) (some (-1))
def qy.l2(N:Nat):Nat→qy.cY
 |0,_,_,_,_=>none
 |n+1,x0,x1,x7,x8=>qy.fM N (qy.l2 N n) x0 x1 x7 x8
def qy.b(N:Nat)(gT:qy.cY)(a0:aY)(a1:((List Int)×(Unit))×(Unit)):Option Int:=
 gT a0 ((a1.1.1,()),()) (ℓ a0) 0
def qy(a0:aY)(a1:((List Int)×(Unit))×(Unit)):Option Int:=qy.b N (qy.l2 N N) a0 a1
abbrev sP.bJ:=aY→(((List Int)×(Unit))×(Unit))→Int→Int→Option aY
def sP.eo(bL:sP.bJ)(x0:aY)(x1:((List Int)×(Unit))×(Unit))(x5 x6:Int):Option aY:=
 cond (aX x6 (ℓ x0)) (cond (bb x6 (ℓ x0)) ((aaq N (γ x0 x6.toNat eC) x1.1.1).bind λr4=>cond (!r4) (cond (bb x5 (ℓ x0)) (bL (List.set x0 x5.toNat (γ x0 x6.toNat eC)) ((x1.1.1,()),()) (W .i64 (x5+1)) (W .i64 (x6+1))) none) (bL x0 ((x1.1.1,()),()) x5 (W .i64 (x6+1)))) none) (cond (ja x5 (ℓ x0) (ℓ x0) (ℓ x0)) (let v9:List ((Int)×((Int)×((Int)×((Int)×((Int)×((Int)×(Unit))))))):=List.take x5.toNat x0++List.replicate (ℓ x0-x5.toNat) eC;cond (ja 0 x5 (ℓ v9) (ℓ v9)) (some (List.drop (0:Int).toNat (List.take x5.toNat v9))) none) none)
def sP.l5(N:Nat):Nat→sP.bJ
 |0,_,_,_,_=>none
 |n+1,x0,x1,x5,x6=>sP.eo N (sP.l5 N n) x0 x1 x5 x6
def sP.b(e8:sP.bJ)(a0:aY)(a1:((List Int)×(Unit))×(Unit)):Option aY:=
 (qy N a0 ((a1.1.1,()),())).bind λr1=>cond (aN r1 (-1)) (some a0) (e8 a0 ((a1.1.1,()),()) r1 (W .i64 (r1+1)))
def sP(a0:aY)(a1:((List Int)×(Unit))×(Unit)):Option aY:=sP.b N (sP.l5 N N) a0 a1
def F71(a0:aY)(a1:List Int):Option aY:=
 (CO N a0).bind λr1=>cond (!r1) (some dq) ((ju N a0).bind λr2=>(sP N r2 ((a1,()),())).bind λr3=>some r3)
def F19(a0:ae)(a1:an)(a2:Int):Option (an×(Int)):=
 (F9 N a0 a1).bind λr1=>cond (!r1) (some ((cc,(cT,(bq,(bq,(db,(dq,())))))),1)) ((By N a1.1 a2).bind λr2=>cond (aN r2 0) (some ((cc,(cT,(bq,(bq,(db,(dq,())))))),3)) ((F70 N a1).bind λr3=>(Ex N a1.2.1 a2).bind λr4=>(F71 N a1.2.2.2.2.2.1 r4).bind λr5=>some ((r3.1,(r3.2.1,(r3.2.2.1,(r3.2.2.2.1,(r3.2.2.2.2.1,(r5,r3.2.2.2.2.2.2)))))),0)))
abbrev CY.bN:=au→au→Int→Option Bool
def CY.dQ(N:Nat)(cG:CY.bN)(x0 x1:au)(x5:Int):Option Bool:=
 cond (aX x5 (ℓ x0)) (cond (bb x5 (ℓ x0)) (cond (bb x5 (ℓ x1)) (cond (!(pn (.pair (.int .i64) (.pair (.int .i64) (.pair (.int .i64) .unit))) (γ x0 x5.toNat bc) (γ x1 x5.toNat bc))) (some false) (cG x0 x1 (W .i64 (x5+1)))) none) none) (some true)
def CY.l4(N:Nat):Nat→CY.bN
 |0,_,_,_=>none
 |n+1,x0,x1,x5=>CY.dQ N (CY.l4 N n) x0 x1 x5
def CY.b(N:Nat)(ff:CY.bN)(a0 a1:au):Option Bool:=
 cond (!aN (ℓ a0) (ℓ a1)) (some false) (ff a0 a1 0)
def CY(a0 a1:au):Option Bool:=CY.b N (CY.l4 N N) a0 a1
abbrev CZ.bN:=(List Int)→(List Int)→Int→Option Bool
def CZ.dQ(N:Nat)(cG:CZ.bN)(x0 x1:List Int)(x5:Int):Option Bool:=
 cond (aX x5 (ℓ x0)) (cond (bb x5 (ℓ x0)) (cond (bb x5 (ℓ x1)) (cond (!aN (γ x0 x5.toNat 0) (γ x1 x5.toNat 0)) (some false) (cG x0 x1 (W .i64 (x5+1)))) none) none) (some true)
def CZ.l4(N:Nat):Nat→CZ.bN
 |0,_,_,_=>none
 |n+1,x0,x1,x5=>CZ.dQ N (CZ.l4 N n) x0 x1 x5
def CZ.b(N:Nat)(ff:CZ.bN)(a0 a1:List Int):Option Bool:=
 cond (!aN (ℓ a0) (ℓ a1)) (some false) (ff a0 a1 0)
def CZ(a0 a1:List Int):Option Bool:=CZ.b N (CZ.l4 N N) a0 a1
abbrev Af.cY:=au→Int→Option Bool
def Af.fM(N:Nat)(dS:Af.cY)(x0:au)(x3:Int):Option Bool:=
 cond (aX x3 (ℓ x0)) (cond (bb x3 (ℓ x0)) (cond (aX (γ x0 x3.toNat bc).1 0) (some false) (cond (aX 24 (γ x0 x3.toNat bc).1) (some false) (cond (aX (γ x0 x3.toNat bc).2.1 0) (some false) (cond (du 6 (γ x0 x3.toNat bc).2.1) (some false) (cond (aN (γ x0 x3.toNat bc).2.2.1 0) (some false) (cond (aN (γ x0 x3.toNat bc).2.2.1 (-9223372036854775808)) (some false) (cond (aX 0 x3) (let v2:Int:=W .i64 (x3-1);cond (bb v2 (ℓ x0)) (cond (aX (γ x0 x3.toNat bc).1 (γ x0 v2.toNat bc).1) (some false) (let v3:Int:=W .i64 (x3-1);cond (bb v3 (ℓ x0)) (cond (aN (γ x0 x3.toNat bc).1 (γ x0 v3.toNat bc).1) (let v4:Int:=W .i64 (x3-1);cond (bb v4 (ℓ x0)) (cond (du (γ x0 x3.toNat bc).2.1 (γ x0 v4.toNat bc).2.1) (some false) (dS x0 (W .i64 (x3+1)))) none) (dS x0 (W .i64 (x3+1)))) none)) none) (dS x0 (W .i64 (x3+1)))))))))) none) (some true)
def Af.l2(N:Nat):Nat→Af.cY
 |0,_,_=>none
 |n+1,x0,x3=>Af.fM N (Af.l2 N n) x0 x3
def Af.b(N:Nat)(gT:Af.cY)(a0:au):Option Bool:=
 gT a0 0
def Af(a0:au):Option Bool:=Af.b N (Af.l2 N N) a0
abbrev Cj.bN:=au→Int→Int→Int→Option Int
def Cj.dQ(N:Nat)(cG:Cj.bN)(x0:au)(x1 x2 x7:Int):Option Int:=
 cond (aX x7 (ℓ x0)) (cond (bb x7 (ℓ x0)) (cond (aN (γ x0 x7.toNat bc).1 x1) (cond (bb x7 (ℓ x0)) (cond (aN (γ x0 x7.toNat bc).2.1 x2) (cond (bb x7 (ℓ x0)) (some (γ x0 x7.toNat bc).2.2.1) none) (cG x0 x1 x2 (W .i64 (x7+1)))) none) (cG x0 x1 x2 (W .i64 (x7+1)))) none) (some 0)
def Cj.l4(N:Nat):Nat→Cj.bN
 |0,_,_,_,_=>none
 |n+1,x0,x1,x2,x7=>Cj.dQ N (Cj.l4 N n) x0 x1 x2 x7
def Cj.b(ff:Cj.bN)(a0:au)(a1 a2:Int):Option Int:=
 (Af N a0).bind λr1=>cond (!r1) (some 0) (ff a0 a1 a2 0)
def Cj(a0:au)(a1 a2:Int):Option Int:=Cj.b N (Cj.l4 N N) a0 a1 a2
def F97(N:Nat)(a0 a1:Int):Option Bool:=
 cond (aN a0 1) (some (aN a1 0)) (cond (aN a0 2) (some (aN a1 0)) (cond (aN a0 3) (some (aN a1 0)) (cond (aN a0 4) (some (aN a1 0)) (cond (aN a0 5) (cond (du 1 a1) (some (du a1 24)) (some false)) (cond (aN a0 6) (cond (du 1 a1) (some (du a1 12)) (some false)) (cond (aN a0 7) (cond (du 1 a1) (some (du a1 12)) (some false)) (some false)))))))
abbrev CJ.cY:=au→Int→Option Bool
def CJ.fM(dS:CJ.cY)(x0:au)(x3:Int):Option Bool:=
 cond (aX x3 (ℓ x0)) (cond (bb x3 (ℓ x0)) (cond (bb x3 (ℓ x0)) ((F97 N (γ x0 x3.toNat bc).1 (γ x0 x3.toNat bc).2.1).bind λr2=>cond (!r2) (some false) (cond (bb x3 (ℓ x0)) (cond (aN (γ x0 x3.toNat bc).2.2.1 0) (some false) (cond (aX 0 x3) (cond (bb x3 (ℓ x0)) (let v3:Int:=W .i64 (x3-1);cond (bb v3 (ℓ x0)) (cond (aX (γ x0 x3.toNat bc).1 (γ x0 v3.toNat bc).1) (some false) (cond (bb x3 (ℓ x0)) (let v4:Int:=W .i64 (x3-1);cond (bb v4 (ℓ x0)) (cond (aN (γ x0 x3.toNat bc).1 (γ x0 v4.toNat bc).1) (cond (bb x3 (ℓ x0)) (let v5:Int:=W .i64 (x3-1);cond (bb v5 (ℓ x0)) (cond (du (γ x0 x3.toNat bc).2.1 (γ x0 v5.toNat bc).2.1) (some false) (dS x0 (W .i64 (x3+1)))) none) none) (dS x0 (W .i64 (x3+1)))) none) none)) none) none) (dS x0 (W .i64 (x3+1))))) none)) none) none) (some true)
def CJ.l2(N:Nat):Nat→CJ.cY
 |0,_,_=>none
 |n+1,x0,x3=>CJ.fM N (CJ.l2 N n) x0 x3
def CJ.b(N:Nat)(gT:CJ.cY)(a0:au):Option Bool:=
 gT a0 0
def CJ(a0:au):Option Bool:=CJ.b N (CJ.l2 N N) a0
abbrev uY.bN:=au→Int→Int→Int→Option Int
def uY.dQ(N:Nat)(cG:uY.bN)(x0:au)(x1 x2 x7:Int):Option Int:=
 cond (aX x7 (ℓ x0)) (cond (bb x7 (ℓ x0)) (cond (aN (γ x0 x7.toNat bc).1 x1) (cond (bb x7 (ℓ x0)) (cond (aN (γ x0 x7.toNat bc).2.1 x2) (cond (bb x7 (ℓ x0)) (some (γ x0 x7.toNat bc).2.2.1) none) (cG x0 x1 x2 (W .i64 (x7+1)))) none) (cG x0 x1 x2 (W .i64 (x7+1)))) none) (some 0)
def uY.l4(N:Nat):Nat→uY.bN
 |0,_,_,_,_=>none
 |n+1,x0,x1,x2,x7=>uY.dQ N (uY.l4 N n) x0 x1 x2 x7
def uY.b(ff:uY.bN)(a0:au)(a1 a2:Int):Option Int:=
 (CJ N a0).bind λr1=>cond (!r1) (some 0) (ff a0 a1 a2 0)
def uY(a0:au)(a1 a2:Int):Option Int:=uY.b N (uY.l4 N N) a0 a1 a2
def F5:Option Bool:=
 (F15 N).bind λr1=>(wJ N r1.1).bind λr2=>(tE N r1.1 r1.2 ([(1,(2,(0,(5,(90,())))))])).bind λr3=>(F17 N r1.1 r3.1 0 110).bind λr4=>(F18 N r1.1 r3.1 2).bind λr5=>(F19 N r1.1 r1.2 1).bind λr6=>(F18 N r1.1 r1.2 9).bind λr7=>cond (aN r2.2 0) ((CY N r2.1.2.2.1 r1.2.2.2.1).bind λr8=>cond (r8) ((CZ N r2.1.2.2.2.2.1 ([100])).bind λr9=>cond (r9) (cond (aN r3.2 0) ((Cj N r3.1.2.2.2.1 1 0).bind λkM=>cond (aN kM 5) ((uY N r3.1.2.2.1 5 1).bind λnL=>cond (aN nL 50) (cond (aN r4.2.2 0) (cond (aN (ℓ r4.2.1) 2) ((uY N r4.1.2.2.1 5 1).bind λoQ=>cond (aN oQ 100) (cond (aN (ℓ r4.1.2.2.2.2.1) 1) (cond (bb 0 (ℓ r4.1.2.2.2.2.1)) (cond (aN (γ r4.1.2.2.2.2.1 (0:Int).toNat 0) 110) (cond (aN r5.2 0) (cond (aN r5.1.2.1 10) (cond (aN r6.2 0) (cond (aN (ℓ r6.1.2.2.2.2.2.1) 0) (cond (aN r7.2 3) ((F9 N r1.1 r1.2).bind λp5=>some p5) (some false)) (some false)) (some false)) (some false)) (some false)) (some false)) none) (some false)) (some false)) (some false)) (some false)) (some false)) (some false)) (some false)) (some false)) (some false)) (some false)
def F6(N:Nat)(a0:List Int):Option aG:=
 some (a0,(0,()))
def F74(N:Nat)(a0:aG):Option ((Int)×aG):=
 cond (aX a0.2.1 (ℓ a0.1)) (cond (bb a0.2.1 (ℓ a0.1)) (some (γ a0.1 a0.2.1.toNat 0,(a0.1,((W .i64 (a0.2.1+1)),a0.2.2)))) none) (some (0,(a0.1,((W .i64 (a0.2.1+1)),a0.2.2))))
def oR(a0:aG)(a1:Int):Option ((Int)×aG):=
 (F74 N a0).bind λr1=>let v2:Int:=W .u64 a1;cond (aN v2 0) none (some ((W .i64 (rem r1.1 v2)),r1.2))
def PJ(a0:aG)(a1:Int):Option ((Bool)×aG):=
 (oR N a0 a1).bind λr1=>some (aN r1.1 (W .i64 (a1-1)),r1.2)
def K2(a0:aG):Option ((Int)×aG):=
 (F74 N a0).bind λr1=>cond (aN 8 0) none (let v2:Int:=rem r1.1 8;cond (aN v2 0) (cond (aX 1 0) none (some ((W .i64 (shr .u64 r1.1 1)),r1.2))) (cond (aN v2 1) (cond (aX 3 0) none (cond (aN 1000000000000 0) none (some ((W .i64 (rem (shr .u64 r1.1 3) 1000000000000)),r1.2)))) (cond (aN v2 2) (cond (aX 3 0) none (cond (aN 2 0) none (some ((W .i64 (rem (shr .u64 r1.1 3) 2)),r1.2)))) (cond (aX 3 0) none (cond (aN 5000 0) none (some ((W .i64 (rem (shr .u64 r1.1 3) 5000)),r1.2)))))))
abbrev F7.aaT:=aG→ae→ae→aO→Int→cF→Option (ae×aG)
abbrev F7.dM:=aG→ae→ae→aO→Int→Option (ae×aG)
def F7.Zd(dt:F7.dM)(x0:aG)(x2 x3:ae)(Xe:aO)(x4:Int)(x5:cF):Option (ae×aG):=
 (PJ N x0 12).bind λtZ=>cond (tZ.1) ((K2 N tZ.2).bind λwk=>cond (aN 1000000001 0) none (let v16:Int:=rem wk.1 1000000001;(K2 N wk.2).bind λxR=>cond (aN 1000000001 0) none (let v18:Int:=rem xR.1 1000000001;cond (small (ℓ Xe+ℓ ([(x5.1,(x5.2.1,(v16,(v18,x5.2.2.2.2))))]))) (dt xR.2 x2 (cT,x3.2) (Xe++([(x5.1,(x5.2.1,(v16,(v18,x5.2.2.2.2))))])) (W .i64 (x4-1))) none))) (cond (small (ℓ Xe+ℓ ([x5]))) (dt tZ.2 x2 (cT,x3.2) (Xe++([x5])) (W .i64 (x4-1))) none)
def F7.j8(dt:F7.dM)(x0:aG)(x2 x3:ae)(Xe:aO)(x4:Int)(x5:cF):Option (ae×aG):=F7.Zd N dt x0 x2 x3 Xe x4 x5
def F7.nr(Qp:F7.aaT)(dt:F7.dM)(x0:aG)(x2 x3:ae)(Xe:aO)(x4:Int):Option (ae×aG):=
 cond (aX 0 x4) ((oR N x0 3).bind λr4=>(oR N r4.2 300).bind λr5=>(oR N r5.2 12).bind λr7=>(oR N r7.2 6).bind λr8=>(PJ N r8.2 12).bind λr9=>cond (r9.1) ((K2 N r9.2).bind λkM=>cond (aN 1000000000000 0) none (Qp kM.2 x2 x3 Xe x4 (r4.1,((W .i64 (1+(rem kM.1 1000000000000))),(r7.1,(r8.1,())))))) (Qp r9.2 x2 x3 Xe x4 (r4.1,((W .i64 (1+r5.1)),(r7.1,(r8.1,())))))) ((oR N x0 300).bind λEB=>(oR N EB.2 5).bind λNn=>(oR N Nn.2 3).bind λJd=>(oR N Jd.2 3).bind λED=>(oR N ED.2 20).bind λQq=>let v28:Int:=W .i64 (1+Qq.1);(oR N Qq.2 100).bind λFO=>(PJ N FO.2 15).bind λTc=>cond (Tc.1) ((K2 N Tc.2).bind λJe=>some ((Xe,(Je.1,(Nn.1,(Jd.1,(ED.1,(v28,(FO.1,x3.2.2.2.2.2.2.2))))))),Je.2)) (some ((Xe,(EB.1,(Nn.1,(Jd.1,(ED.1,(v28,(FO.1,x3.2.2.2.2.2.2.2))))))),Tc.2)))
def F7.l3(N:Nat):Nat→F7.dM
 |0,_,_,_,_,_=>none
 |n+1,x0,x2,x3,Xe,x4=>F7.nr N (F7.j8 N (F7.l3 N n)) (F7.l3 N n) x0 x2 x3 Xe x4
def F7.b(oF:F7.dM)(a0:aG):Option (ae×aG):=
 (oR N a0 4).bind λr1=>oF r1.2 (cT,eC) (cT,eC) cT (W .i64 (1+r1.1))
def F7(a0:aG):Option (ae×aG):=F7.b N (F7.l3 N N) a0
def Wv(a0:aG)(a1:ae)(a2:Int):Option (ix×aG):=
 cond (bb a2 (ℓ a1.1)) ((oR N a0 61).bind λr1=>(PJ N r1.2 20).bind λr6=>cond (r6.1) ((K2 N r6.2).bind λr7=>cond (aN 1000000000000 0) none (some ((9,(0,(0,(a2,(0,(0,(0,((W .i64 (1+(rem r7.1 1000000000000))),())))))))),r7.2))) (some ((9,(0,(0,(a2,(0,(0,(0,((mx 1 (mn 1000000000000 (W .i64 ((W .i64 ((γ a1.1 a2.toNat ba).2.1+r1.1))-30)))),())))))))),r6.2))) none
def ZP(a0:aG)(a1:ae):Option (ix×aG):=
 (oR N a0 (ℓ a1.1)).bind λr1=>(oR N r1.2 7).bind λr2=>let v3:Int:=W .i64 (1+r2.1);(oR N r2.2 2).bind λr4=>let v5:Int:=W .i64 (1+r4.1);(oR N r4.2 30).bind λr6=>cond (bb r1.1 (ℓ a1.1)) ((oR N r6.2 21).bind λr8=>(PJ N r8.2 30).bind λp5=>cond (p5.1) ((K2 N p5.2).bind λtZ=>cond (aN 1000000000 0) none ((K2 N tZ.2).bind λxR=>cond (aN 1000000000000 0) none (some ((7,(0,(v3,(r1.1,(v5,(0,((W .i64 (1+(rem tZ.1 1000000000))),((W .i64 (1+(rem xR.1 1000000000000))),())))))))),xR.2)))) (some ((7,(0,(v3,(r1.1,(v5,(0,((W .i64 (1+r6.1)),((mx 1 (mn 1000000000000 (W .i64 ((W .i64 ((γ a1.1 r1.1.toNat ba).2.1+r8.1))-10)))),())))))))),p5.2))) none
def F77(a0:aG)(a1:ae):Option (ix×aG):=
 (oR N a0 4).bind λr1=>let v2:Int:=W .i64 (1+r1.1);(oR N r1.2 7).bind λr3=>let v4:Int:=W .i64 (1+r3.1);(oR N r3.2 (ℓ a1.1)).bind λr5=>(oR N r5.2 36).bind λr6=>let v7:Int:=W .i64 (1+r6.1);cond (aN v7 1) (some ((v7,(v2,eC)),r6.2)) (cond (aN v7 11) (some ((v7,(v2,eC)),r6.2)) (cond (aN v7 12) (some ((v7,(v2,eC)),r6.2)) (cond (aN v7 13) (some ((v7,(v2,eC)),r6.2)) (cond (aN v7 2) ((oR N r6.2 2).bind λr8=>some ((v7,(v2,(v4,(0,((W .i64 (1+r8.1)),bc))))),r8.2)) (cond (aN v7 3) ((K2 N r6.2).bind λkM=>some ((v7,(0,(v4,(0,(0,(0,((mx kM.1 1),(0,())))))))),kM.2)) (cond (aN v7 4) ((K2 N r6.2).bind λoQ=>some ((v7,(0,(v4,(0,(0,(0,((mx oQ.1 1),(0,())))))))),oQ.2)) (cond (aN v7 5) ((K2 N r6.2).bind λtZ=>some ((v7,(v2,(0,(0,(0,(0,((mx tZ.1 1),(0,())))))))),tZ.2)) (cond (aN v7 22) ((K2 N r6.2).bind λwH=>some ((v7,(v2,(0,(0,(0,(0,((mx wH.1 1),(0,())))))))),wH.2)) (cond (aN v7 6) ((K2 N r6.2).bind λya=>cond (aN 1000000000001 0) none (some ((v7,(0,(v4,(0,(0,(0,((rem ya.1 1000000000001),(0,())))))))),ya.2))) (cond (aN v7 8) ((oR N r6.2 40).bind λQr=>some ((v7,(0,(v4,(0,(0,((W .i64 (1+Qr.1)),c8)))))),Qr.2)) (cond (aN v7 9) ((Wv N r6.2 a1 r5.1).bind λMY=>some (MY.1,MY.2)) (cond (aN v7 10) ((oR N r6.2 3).bind λEB=>some ((v7,(0,(0,(0,(0,(0,((W .i64 (1+EB.1)),(0,())))))))),EB.2)) (cond (aN v7 14) (some ((v7,(v2,(v4,eG))),r6.2)) (cond (aN v7 15) (some ((v7,Ng),r6.2)) (cond (aN v7 16) (some ((v7,Ng),r6.2)) (cond (aN v7 18) (some ((v7,Ng),r6.2)) (cond (aN v7 20) (some ((v7,Ng),r6.2)) (cond (aN v7 21) (some ((v7,Ng),r6.2)) (cond (aN v7 17) ((oR N r6.2 60).bind λJd=>(oR N Jd.2 20).bind λQq=>cond (bb r5.1 (ℓ a1.1)) (some ((v7,(0,(v4,(0,(0,((W .i64 (1+Jd.1)),((W .i64 (1+Qq.1)),((γ a1.1 r5.1.toNat ba).2.1,())))))))),Qq.2)) none) (cond (aN v7 19) ((oR N r6.2 60).bind λFO=>(oR N FO.2 80).bind λJe=>some ((v7,(v2,(0,(0,(0,((W .i64 (1+FO.1)),(0,((W .i64 (Je.1-60)),())))))))),Je.2)) ((ZP N r6.2 a1).bind λr33=>some (r33.1,r33.2))))))))))))))))))))))
abbrev gz.fR:=aG→di→Int→Option (di×aG)
abbrev gz.lF:=aG→di→Int→Option (di×aG)
abbrev gz.dM:=aG→di→Int→Option (di×aG)
def gz.lz(gK:gz.fR)(x0:aG)(x5:di)(x8:Int):Option (di×aG):=
 cond (du x8 7) ((oR N x0 3000).bind λwk=>let v16:Int:=W .i64 (200+wk.1);(oR N wk.2 200).bind λxR=>let v18:Int:=W .i64 (20+xR.1);cond (small (ℓ x5+ℓ ([(3,(0,(x8,(0,(0,(0,(v16,(0,())))))))),(6,(0,(x8,(0,(0,(0,(v18,(0,()))))))))]))) (gK xR.2 (x5++([(3,(0,(x8,(0,(0,(0,(v16,(0,())))))))),(6,(0,(x8,(0,(0,(0,(v18,(0,()))))))))])) (W .i64 (x8+1))) none) (some (x5,x0))
def gz.mw(N:Nat):Nat→gz.fR
 |0,_,_,_=>none
 |n+1,x0,x5,x8=>gz.lz N (gz.mw N n) x0 x5 x8
def gz.vz(sU:gz.fR)(oM:gz.lF)(x0:aG)(x5:di)(x7:Int):Option (di×aG):=
 cond (du x7 7) ((oR N x0 2).bind λkM=>let v11:Int:=W .i64 (1+kM.1);cond (small (ℓ x5+ℓ ([(2,(v11,(x7,(0,(2,bc)))))]))) (oM kM.2 (x5++([(2,(v11,(x7,(0,(2,bc)))))])) (W .i64 (x7+1))) none) (sU x0 x5 1)
def gz.l9(N:Nat):Nat→gz.lF
 |0,_,_,_=>none
 |n+1,x0,x5,x7=>gz.vz N (gz.mw N N) (gz.l9 N n) x0 x5 x7
def gz.nr(yb:gz.lF)(dt:gz.dM)(x0:aG)(x5:di)(x6:Int):Option (di×aG):=
 cond (du x6 4) (cond (small (ℓ x5+ℓ ([(1,(x6,eC)),(2,(x6,(x6,(0,(1,bc)))))]))) (let v2:List ((Int)×((Int)×((Int)×((Int)×((Int)×((Int)×((Int)×((Int)×(Unit))))))))):=x5++([(1,(x6,eC)),(2,(x6,(x6,(0,(1,bc)))))]);(PJ N x0 5).bind λr3=>cond (!r3.1) ((oR N r3.2 400).bind λr4=>let v5:Int:=W .i64 (1+r4.1);cond (small (ℓ v2+ℓ ([(5,(x6,(0,(0,(0,(0,(v5,(0,()))))))))]))) (dt r4.2 (v2++([(5,(x6,(0,(0,(0,(0,(v5,(0,()))))))))])) (W .i64 (x6+1))) none) (dt r3.2 v2 (W .i64 (x6+1)))) none) (yb x0 x5 5)
def gz.l3(N:Nat):Nat→gz.dM
 |0,_,_,_=>none
 |n+1,x0,x5,x6=>gz.nr N (gz.l9 N N) (gz.l3 N n) x0 x5 x6
def gz.b(N:Nat)(oF:gz.dM)(a0:aG)(a1:ae):Option (di×aG):=
 oF a0 ([]) 1
def gz(a0:aG)(a1:ae):Option (di×aG):=gz.b N (gz.l3 N N) a0 a1
abbrev E4.dM:=aG→ae→di→Int→Option (di×aG)
def E4.nr(dt:E4.dM)(x0:aG)(x4:ae)(x7:di)(x8:Int):Option (di×aG):=
 cond (aX 0 x8) ((oR N x0 8).bind λr5=>cond (aN r5.1 0) ((F77 N r5.2 x4).bind λr6=>cond (small (ℓ x7+ℓ ([r6.1]))) (dt r6.2 x4 (x7++([r6.1])) (W .i64 (x8-1))) none) (cond (aN r5.1 1) ((oR N r5.2 (ℓ x4.1)).bind λr9=>(Wv N r9.2 x4 r9.1).bind λkM=>cond (small (ℓ x7+ℓ ([kM.1]))) (dt kM.2 x4 (x7++([kM.1])) (W .i64 (x8-1))) none) ((ZP N r5.2 x4).bind λp5=>cond (small (ℓ x7+ℓ ([p5.1]))) (dt p5.2 x4 (x7++([p5.1])) (W .i64 (x8-1))) none))) (some (x7,x0))
def E4.l3(N:Nat):Nat→E4.dM
 |0,_,_,_,_=>none
 |n+1,x0,x4,x7,x8=>E4.nr N (E4.l3 N n) x0 x4 x7 x8
def E4.b(oF:E4.dM)(a0:aG)(a1:ae)(a2:Int):Option (di×aG):=
 (gz N a0 a1).bind λr1=>(oR N r1.2 (W .i64 (a2+1))).bind λr3=>oF r3.2 a1 r1.1 r3.1
def E4(a0:aG)(a1:ae)(a2:Int):Option (di×aG):=E4.b N (E4.l3 N N) a0 a1 a2
def F93(N:Nat)(a0 a1 a2:Int):Option Bool:=
 cond (du a1 a0) (some (du a0 a2)) (some false)
abbrev zP.bN:=ae→Int→Option Bool
def zP.dQ(cG:zP.bN)(x1:ae)(x3:Int):Option Bool:=
 cond (aX x3 (ℓ x1.1)) (cond (bb x3 (ℓ x1.1)) ((F93 N (γ x1.1 x3.toNat ba).1 0 3).bind λr2=>cond (!r2) (some false) ((F93 N (γ x1.1 x3.toNat ba).2.1 1 1000000000000).bind λr3=>cond (!r3) (some false) ((F93 N (γ x1.1 x3.toNat ba).2.2.1 0 1000000000).bind λr4=>cond (!r4) (some false) ((F93 N (γ x1.1 x3.toNat ba).2.2.2.1 0 1000000000).bind λr5=>cond (!r5) (some false) (cG x1 (W .i64 (x3+1))))))) none) (cond (du 0 x1.2.1) ((F93 N x1.2.2.1 0 4).bind λr7=>cond (r7) ((F93 N x1.2.2.2.1 0 1000000).bind λr8=>cond (r8) ((F93 N x1.2.2.2.2.1 0 1000000).bind λr9=>cond (r9) ((F93 N x1.2.2.2.2.2.1 1 4611686018427387904).bind λkM=>cond (kM) (some (du 0 x1.2.2.2.2.2.2.1)) (some false)) (some false)) (some false)) (some false)) (some false))
def zP.l4(N:Nat):Nat→zP.bN
 |0,_,_=>none
 |n+1,x1,x3=>zP.dQ N (zP.l4 N n) x1 x3
def zP.b(N:Nat)(ff:zP.bN)(a0:ae):Option Bool:=
 cond (aX (ℓ a0.1) 1) (some false) (cond (aX 6 (ℓ a0.1)) (some false) (ff a0 0))
def zP(a0:ae):Option Bool:=zP.b N (zP.l4 N N) a0
abbrev iX.fb:=ae→an→an→(List Int)→Int→Option (an×(Int))
abbrev iX.Ta:=ae→an→an→(List Int)→Option (an×(Int))
def iX.oJ(N:Nat)(eZ:iX.fb)(x1:ae)(x2 x4:an)(MW:List Int)(x5:Int):Option (an×(Int)):=
 cond (aX x5 (ℓ x1.1)) (cond (bb x5 (ℓ x1.1)) (cond (small (ℓ MW+ℓ ([(γ x1.1 x5.toNat ba).2.1]))) (eZ x1 x2 (x4.1,(x4.2.1,(x4.2.2.1,(x4.2.2.2.1,(db,x4.2.2.2.2.2))))) (MW++([(γ x1.1 x5.toNat ba).2.1])) (W .i64 (x5+1))) none) none) (some ((x4.1,(x4.2.1,(x4.2.2.1,(x4.2.2.2.1,(MW,x4.2.2.2.2.2))))),0))
def iX.l7(N:Nat):Nat→iX.fb
 |0,_,_,_,_,_=>none
 |n+1,x1,x2,x4,MW,x5=>iX.oJ N (iX.l7 N n) x1 x2 x4 MW x5
def iX.OL(N:Nat)(sS:iX.fb)(x1:ae)(x2 x4:an)(MW:List Int):Option (an×(Int)):=
 sS x1 x2 x4 MW 0
def iX.j6(x1:ae)(x2 x4:an)(MW:List Int):Option (an×(Int)):=iX.OL N (iX.l7 N N) x1 x2 x4 MW
def iX.b(E9:iX.Ta)(a0:ae):Option (an×(Int)):=
 (zP N a0).bind λr1=>cond (!r1) (some ((cc,(cT,(bq,(bq,(db,(dq,())))))),1)) (cond (!aN a0.2.1 0) (E9 a0 (cc,(cT,(bq,(bq,(db,(dq,())))))) (cc,(cT,([(1,(0,((W .i64 (0-a0.2.1)),()))),(3,(0,(a0.2.1,())))],(bq,(db,(dq,())))))) db) (E9 a0 (cc,(cT,(bq,(bq,(db,(dq,())))))) (cc,(cT,(bq,(bq,(db,(dq,())))))) db))
def iX(a0:ae):Option (an×(Int)):=iX.b N (iX.j6 N) a0
def F75(a0:ae):Option (aQ×(Int)):=
 (iX N a0).bind λr1=>cond (!aN r1.2 0) (some ((0,(0,((cc,(cT,(bq,(bq,(db,(dq,())))))),((0,(0,(0,(0,(cT,(([]:List ((Int)×((List ((Int)×((Int)×(Unit))))×((Int)×((Int)×((Int)×((Int)×(Unit)))))))),(cT,(db,(cc,(cc,())))))))))),((0,(0,(EG,(0,())))),()))))),r1.2)) (some ((0,(1,(r1.1,((0,(0,(0,(0,(cT,(([]:List ((Int)×((List ((Int)×((Int)×(Unit))))×((Int)×((Int)×((Int)×((Int)×(Unit)))))))),(cT,(db,(cc,(cc,())))))))))),((0,(0,(EG,(0,())))),()))))),0))
abbrev ow.dM:=aG→ae→di→Int→Option (di×aG)
def ow.nr(dt:ow.dM)(x0:aG)(x3:ae)(x5:di)(x6:Int):Option (di×aG):=
 cond (aX 0 x6) ((PJ N x0 2).bind λr3=>cond (r3.1) ((oR N r3.2 (ℓ x3.1)).bind λr4=>(Wv N r4.2 x3 r4.1).bind λr5=>cond (small (ℓ x5+ℓ ([r5.1]))) (dt r5.2 x3 (x5++([r5.1])) (W .i64 (x6-1))) none) ((F77 N r3.2 x3).bind λr8=>cond (small (ℓ x5+ℓ ([r8.1]))) (dt r8.2 x3 (x5++([r8.1])) (W .i64 (x6-1))) none)) (some (x5,x0))
def ow.l3(N:Nat):Nat→ow.dM
 |0,_,_,_,_=>none
 |n+1,x0,x3,x5,x6=>ow.nr N (ow.l3 N n) x0 x3 x5 x6
def ow.b(oF:ow.dM)(a0:aG)(a1:ae):Option (di×aG):=
 (oR N a0 3).bind λr1=>oF r1.2 a1 ([]) r1.1
def ow(a0:aG)(a1:ae):Option (di×aG):=ow.b N (ow.l3 N N) a0 a1
def ak4(N:Nat)(a0:Int):Option Bool:=
 cond (du 1 a0) (some (du a0 22)) (some false)
def ada(N:Nat)(a0:Int):Option ByteArray:=
 cond (aN a0 1) (some (strOf [77])) (cond (aN a0 11) (some (strOf [77])) (cond (aN a0 12) (some (strOf [77])) (cond (aN a0 13) (some (strOf [77])) (cond (aN a0 2) (some (strOf [77,65,83])) (cond (aN a0 3) (some (strOf [65,81])) (cond (aN a0 4) (some (strOf [65,81])) (cond (aN a0 6) (some (strOf [65,81])) (cond (aN a0 5) (some (strOf [77,81])) (cond (aN a0 22) (some (strOf [77,81])) (cond (aN a0 7) (some (strOf [65,73,83,81,80])) (cond (aN a0 8) (some (strOf [65,68])) (cond (aN a0 9) (some (strOf [73,80])) (cond (aN a0 10) (some (strOf [81])) (cond (aN a0 14) (some (strOf [77,65])) (cond (aN a0 17) (some (strOf [65,68,81,80])) (cond (aN a0 19) (some (strOf [77,68,80])) (some (strOf []))))))))))))))))))
def ak2(N:Nat)(a0:Int):Option ((Int)×(Int)):=
 cond (aN a0 6) (some (0,1000000000000)) (cond (aN a0 7) (some (1,1000000000)) (cond (aN a0 17) (some (1,1000000000)) (cond (aN a0 10) (some (1,1000000)) (some (1,9223372036854775807)))))
def ak3(N:Nat)(a0:Int):Option ((Int)×(Int)):=
 cond (aN a0 19) (some ((-1152921504606846976),1152921504606846976)) (some (1,1000000000000))
def adb(a0 a1:Int):Option ((Int)×(Int)):=
 cond (aN a1 77) (some (1,12)) (cond (aN a1 65) (some (1,24)) (cond (aN a1 73) (some (0,5)) (cond (aN a1 83) (some (1,2)) (cond (aN a1 68) (some (1,1099511627776)) (cond (aN a1 81) ((ak2 N a0).bind λr1=>some (r1.1,r1.2)) ((ak3 N a0).bind λr2=>some (r2.1,r2.2)))))))
def ade(N:Nat)(a0:ix)(a1:Int):Option Int:=
 cond (aN a1 77) (some a0.2.1) (cond (aN a1 65) (some a0.2.2.1) (cond (aN a1 73) (some a0.2.2.2.1) (cond (aN a1 83) (some a0.2.2.2.2.1) (cond (aN a1 68) (some a0.2.2.2.2.2.1) (cond (aN a1 81) (some a0.2.2.2.2.2.2.1) (some a0.2.2.2.2.2.2.2.1))))))
def adf(N:Nat)(a0:ix)(a1 a2:Int):Option ix:=
 cond (aN a1 77) (some (a0.1,(a2,a0.2.2))) (cond (aN a1 65) (some (a0.1,(a0.2.1,(a2,a0.2.2.2)))) (cond (aN a1 73) (some (a0.1,(a0.2.1,(a0.2.2.1,(a2,a0.2.2.2.2))))) (cond (aN a1 83) (some (a0.1,(a0.2.1,(a0.2.2.1,(a0.2.2.2.1,(a2,a0.2.2.2.2.2)))))) (cond (aN a1 68) (some (a0.1,(a0.2.1,(a0.2.2.1,(a0.2.2.2.1,(a0.2.2.2.2.1,(a2,a0.2.2.2.2.2.2))))))) (cond (aN a1 81) (some (a0.1,(a0.2.1,(a0.2.2.1,(a0.2.2.2.1,(a0.2.2.2.2.1,(a0.2.2.2.2.2.1,(a2,a0.2.2.2.2.2.2.2)))))))) (some (a0.1,(a0.2.1,(a0.2.2.1,(a0.2.2.2.1,(a0.2.2.2.2.1,(a0.2.2.2.2.2.1,(a0.2.2.2.2.2.2.1,(a2,a0.2.2.2.2.2.2.2.2))))))))))))))
abbrev sC.kt:=ix→ByteArray→ix→Int→Option Bool
def sC.vu(lD:sC.kt)(x1:ix)(x3:ByteArray)(x4:ix)(x5:Int):Option Bool:=
 cond (aX x5 (ByteArray.size x3:Int)) (cond (bb x5 (ByteArray.size x3)) ((adb N x1.1 ((x3.data.getD x5.toNat 0).toNat:Int)).bind λr4=>cond (bb x5 (ByteArray.size x3)) ((ade N x1 ((x3.data.getD x5.toNat 0).toNat:Int)).bind λr5=>cond (aX r5 r4.1) (some false) (cond (aX r4.2 r5) (some false) (cond (bb x5 (ByteArray.size x3)) ((adf N x4 ((x3.data.getD x5.toNat 0).toNat:Int) r5).bind λr6=>lD x1 x3 r6 (W .i64 (x5+1))) none))) none) none) (some (pn (.pair (.int .i64) (.pair (.int .i64) (.pair (.int .i64) (.pair (.int .i64) (.pair (.int .i64) (.pair (.int .i64) (.pair (.int .i64) (.pair (.int .i64) .unit)))))))) x4 x1))
def sC.l6(N:Nat):Nat→sC.kt
 |0,_,_,_,_=>none
 |n+1,x1,x3,x4,x5=>sC.vu N (sC.l6 N n) x1 x3 x4 x5
def sC.b(xZ:sC.kt)(a0:ix):Option Bool:=
 (ak4 N a0.1).bind λr1=>cond (!r1) (some false) ((ada N a0.1).bind λr2=>xZ a0 r2 (a0.1,Ng) 0)
def sC(a0:ix):Option Bool:=sC.b N (sC.l6 N N) a0
abbrev Ci.cY:=aE→Int→Option Bool
def Ci.fM(N:Nat)(dS:Ci.cY)(x0:aE)(x3:Int):Option Bool:=
 cond (aX x3 (ℓ x0)) (cond (bb x3 (ℓ x0)) (cond (aX (γ x0 x3.toNat c8).1 1) (some false) (cond (bb x3 (ℓ x0)) (cond (aX 12 (γ x0 x3.toNat c8).1) (some false) (cond (bb x3 (ℓ x0)) (cond (aX (γ x0 x3.toNat c8).2.1 1) (some false) (cond (bb x3 (ℓ x0)) (cond (aX 4 (γ x0 x3.toNat c8).2.1) (some false) (cond (aX 0 x3) (cond (bb x3 (ℓ x0)) (let v2:Int:=W .i64 (x3-1);cond (bb v2 (ℓ x0)) (cond (du (γ x0 x3.toNat c8).1 (γ x0 v2.toNat c8).1) (some false) (dS x0 (W .i64 (x3+1)))) none) none) (dS x0 (W .i64 (x3+1))))) none)) none)) none)) none) (some true)
def Ci.l2(N:Nat):Nat→Ci.cY
 |0,_,_=>none
 |n+1,x0,x3=>Ci.fM N (Ci.l2 N n) x0 x3
def Ci.b(N:Nat)(gT:Ci.cY)(a0:aE):Option Bool:=
 gT a0 0
def Ci(a0:aE):Option Bool:=Ci.b N (Ci.l2 N N) a0
abbrev Ai.cY:=aE→Int→Int→Option Int
def Ai.fM(N:Nat)(dS:Ai.cY)(x0:aE)(x1 x5:Int):Option Int:=
 cond (aX x5 (ℓ x0)) (cond (bb x5 (ℓ x0)) (cond (aN (γ x0 x5.toNat c8).1 x1) (cond (bb x5 (ℓ x0)) (some (γ x0 x5.toNat c8).2.1) none) (dS x0 x1 (W .i64 (x5+1)))) none) (some 0)
def Ai.l2(N:Nat):Nat→Ai.cY
 |0,_,_,_=>none
 |n+1,x0,x1,x5=>Ai.fM N (Ai.l2 N n) x0 x1 x5
def Ai.b(N:Nat)(gT:Ai.cY)(a0:aE)(a1:Int):Option Int:=
 gT a0 a1 0
def Ai(a0:aE)(a1:Int):Option Int:=Ai.b N (Ai.l2 N N) a0 a1
abbrev iW.MZ:=aE→Int→aE→Int→Option (aE×(Int))
abbrev iW.fb:=aE→Int→aE→Int→Option (aE×(Int))
def iW.JA(N:Nat)(x0:aE)(x1:Int)(x6:aE)(x7:Int):Option (aE×(Int)):=
 cond (ja 0 x7 (ℓ x0) (ℓ x0)) (let v6:List ((Int)×((Int)×(Unit))):=List.drop (0:Int).toNat (List.take x7.toNat x0);cond (small (ℓ x6+ℓ v6)) (let v7:List ((Int)×((Int)×(Unit))):=x6++v6;cond (small (ℓ v7+ℓ ([(x1,(1,()))]))) (let v8:List ((Int)×((Int)×(Unit))):=v7++([(x1,(1,()))]);cond (ja x7 (ℓ x0) (ℓ x0) (ℓ x0)) (let v9:List ((Int)×((Int)×(Unit))):=List.drop x7.toNat (List.take (ℓ x0:Int).toNat x0);cond (small (ℓ v8+ℓ v9)) (some ((v8++v9),0)) none) none) none) none) none
def iW.j9(x0:aE)(x1:Int)(x6:aE)(x7:Int):Option (aE×(Int)):=iW.JA N x0 x1 x6 x7
def iW.oJ(N:Nat)(B8:iW.MZ)(eZ:iW.fb)(x0:aE)(x1:Int)(x6:aE)(x7:Int):Option (aE×(Int)):=
 cond (aX x7 (ℓ x0)) (cond (bb x7 (ℓ x0)) (cond (aX (γ x0 x7.toNat c8).1 x1) (eZ x0 x1 x6 (W .i64 (x7+1))) (B8 x0 x1 x6 x7)) none) (B8 x0 x1 x6 x7)
def iW.l7(N:Nat):Nat→iW.fb
 |0,_,_,_,_=>none
 |n+1,x0,x1,x6,x7=>iW.oJ N (iW.j9 N) (iW.l7 N n) x0 x1 x6 x7
def iW.b(sS:iW.fb)(a0:aE)(a1:Int):Option (aE×(Int)):=
 (Ci N a0).bind λr1=>cond (!r1) (some ([],1)) (cond (aX a1 1) (some ([],1)) (cond (aX 12 a1) (some ([],1)) ((Ai N a0 a1).bind λr2=>cond (!aN r2 0) (some ([],4)) (sS a0 a1 ([]) 0))))
def iW(a0:aE)(a1:Int):Option (aE×(Int)):=iW.b N (iW.l7 N N) a0 a1
def gd(N:Nat)(a0:Int):Option dd:=
 some (a0,c8)
abbrev mX.jY:=aO→Int→cF→Int→Option Bool
abbrev mX.aaM:=aO→Int→cF→Option Bool
abbrev mX.cY:=aO→Int→Option Bool
def mX.D4(N:Nat)(dS:mX.cY)(gD:mX.jY)(x0:aO)(x3:Int)(x4:cF)(x5:Int):Option Bool:=
 cond (aX x5 x3) (cond (aN x4.2.2.1 1) (cond (bb x5 (ℓ x0)) (cond (aN (γ x0 x5.toNat ba).2.2.1 1) (cond (bb x5 (ℓ x0)) (cond (aN (γ x0 x5.toNat ba).2.1 x4.2.1) (some false) (gD x0 x3 x4 (W .i64 (x5+1)))) none) (gD x0 x3 x4 (W .i64 (x5+1)))) none) (gD x0 x3 x4 (W .i64 (x5+1)))) (dS x0 (W .i64 (x3+1)))
def mX.l8(N:Nat)(dS:mX.cY):Nat→mX.jY
 |0,_,_,_,_=>none
 |n+1,x0,x3,x4,x5=>mX.D4 N dS (mX.l8 N dS n) x0 x3 x4 x5
def mX.Xp(N:Nat)(IL:mX.jY)(dS:mX.cY)(x0:aO)(x3:Int)(x4:cF):Option Bool:=
 IL x0 x3 x4 0
def mX.j7(dS:mX.cY)(x0:aO)(x3:Int)(x4:cF):Option Bool:=mX.Xp N (mX.l8 N dS N) dS x0 x3 x4
def mX.fM(N:Nat)(JV:mX.aaM)(dS:mX.cY)(x0:aO)(x3:Int):Option Bool:=
 cond (aX x3 (ℓ x0)) (cond (bb x3 (ℓ x0)) (cond (aX (γ x0 x3.toNat ba).1 1) (some false) (cond (aX 24 (γ x0 x3.toNat ba).1) (some false) (cond (aX (γ x0 x3.toNat ba).2.1 1) (some false) (cond (aX 12 (γ x0 x3.toNat ba).2.1) (some false) (cond (!aN (γ x0 x3.toNat ba).2.2.1 1) (cond (!aN (γ x0 x3.toNat ba).2.2.1 2) (some false) (cond (aX (γ x0 x3.toNat ba).2.2.2.1 0) (some false) (cond (aX 1000000000000 (γ x0 x3.toNat ba).2.2.2.1) (some false) (cond (aX 0 x3) (let v2:Int:=W .i64 (x3-1);cond (bb v2 (ℓ x0)) (cond (du (γ x0 x3.toNat ba).1 (γ x0 v2.toNat ba).1) (some false) (JV x0 x3 (γ x0 x3.toNat ba))) none) (JV x0 x3 (γ x0 x3.toNat ba)))))) (cond (aX (γ x0 x3.toNat ba).2.2.2.1 0) (some false) (cond (aX 1000000000000 (γ x0 x3.toNat ba).2.2.2.1) (some false) (cond (aX 0 x3) (let v9:Int:=W .i64 (x3-1);cond (bb v9 (ℓ x0)) (cond (du (γ x0 x3.toNat ba).1 (γ x0 v9.toNat ba).1) (some false) (JV x0 x3 (γ x0 x3.toNat ba))) none) (JV x0 x3 (γ x0 x3.toNat ba)))))))))) none) (some true)
def mX.l2(N:Nat):Nat→mX.cY
 |0,_,_=>none
 |n+1,x0,x3=>mX.fM N (mX.j7 N (mX.l2 N n)) (mX.l2 N n) x0 x3
def mX.b(N:Nat)(gT:mX.cY)(a0:aO):Option Bool:=
 gT a0 0
def mX(a0:aO):Option Bool:=mX.b N (mX.l2 N N) a0
abbrev CR.bN:=aE→aO→Int→Option Bool
def CR.dQ(cG:CR.bN)(x0:aE)(x1:aO)(x5:Int):Option Bool:=
 cond (aX x5 (ℓ x1)) (cond (bb x5 (ℓ x1)) ((Ai N x0 (γ x1 x5.toNat ba).2.1).bind λr4=>cond (aN r4 0) (some false) (cG x0 x1 (W .i64 (x5+1)))) none) (some true)
def CR.l4(N:Nat):Nat→CR.bN
 |0,_,_,_=>none
 |n+1,x0,x1,x5=>CR.dQ N (CR.l4 N n) x0 x1 x5
def CR.b(ff:CR.bN)(a0:aE)(a1:aO):Option Bool:=
 (Ci N a0).bind λr1=>cond (!r1) (some false) ((mX N a1).bind λr2=>cond (!r2) (some false) (ff a0 a1 0))
def CR(a0:aE)(a1:aO):Option Bool:=CR.b N (CR.l4 N N) a0 a1
abbrev oK.cY:=aO→Int→cF→Int→Option (cF×(Bool))
def oK.fM(N:Nat)(dS:oK.cY)(x0:aO)(x1:Int)(x4:cF)(x6:Int):Option (cF×(Bool)):=
 cond (aX x6 (ℓ x0)) (cond (bb x6 (ℓ x0)) (cond (aN (γ x0 x6.toNat ba).1 x1) (cond (bb x6 (ℓ x0)) (some (γ x0 x6.toNat ba,true)) none) (dS x0 x1 x4 (W .i64 (x6+1)))) none) (some (ba,false))
def oK.l2(N:Nat):Nat→oK.cY
 |0,_,_,_,_=>none
 |n+1,x0,x1,x4,x6=>oK.fM N (oK.l2 N n) x0 x1 x4 x6
def oK.b(N:Nat)(gT:oK.cY)(a0:aO)(a1:Int):Option (cF×(Bool)):=
 gT a0 a1 ba 0
def oK(a0:aO)(a1:Int):Option (cF×(Bool)):=oK.b N (oK.l2 N N) a0 a1
abbrev m8.bN:=aO→Int→Int→Option Int
def m8.dQ(N:Nat)(cG:m8.bN)(x0:aO)(x1 x5:Int):Option Int:=
 cond (aX x5 (ℓ x0)) (cond (bb x5 (ℓ x0)) (cond (aN (γ x0 x5.toNat ba).2.1 x1) (cond (bb x5 (ℓ x0)) (cond (aN (γ x0 x5.toNat ba).2.2.1 1) (cond (bb x5 (ℓ x0)) (some (γ x0 x5.toNat ba).1) none) (cG x0 x1 (W .i64 (x5+1)))) none) (cG x0 x1 (W .i64 (x5+1)))) none) (some 0)
def m8.l4(N:Nat):Nat→m8.bN
 |0,_,_,_=>none
 |n+1,x0,x1,x5=>m8.dQ N (m8.l4 N n) x0 x1 x5
def m8.b(ff:m8.bN)(a0:aO)(a1:Int):Option Int:=
 (mX N a0).bind λr1=>cond (!r1) (some 0) (ff a0 a1 0)
def m8(a0:aO)(a1:Int):Option Int:=m8.b N (m8.l4 N N) a0 a1
abbrev fT.IM:=aO→cF→aO→Int→Option (aO×(Int))
abbrev fT.fR:=aO→cF→aO→Int→Option (aO×(Int))
abbrev fT.IN:=aO→cF→Option (aO×(Int))
def fT.wI(N:Nat)(x1:aO)(x5:cF)(a7:aO)(bo:Int):Option (aO×(Int)):=
 cond (ja 0 bo (ℓ x1) (ℓ x1)) (let v10:List ((Int)×((Int)×((Int)×((Int)×(Unit))))):=List.drop (0:Int).toNat (List.take bo.toNat x1);cond (small (ℓ a7+ℓ v10)) (let v11:List ((Int)×((Int)×((Int)×((Int)×(Unit))))):=a7++v10;cond (small (ℓ v11+ℓ ([x5]))) (let UX:List ((Int)×((Int)×((Int)×((Int)×(Unit))))):=v11++([x5]);cond (ja bo (ℓ x1) (ℓ x1) (ℓ x1)) (let v13:List ((Int)×((Int)×((Int)×((Int)×(Unit))))):=List.drop bo.toNat (List.take (ℓ x1:Int).toNat x1);cond (small (ℓ UX+ℓ v13)) (some ((UX++v13),0)) none) none) none) none) none
def fT.Da(x1:aO)(x5:cF)(a7:aO)(bo:Int):Option (aO×(Int)):=fT.wI N x1 x5 a7 bo
def fT.lz(N:Nat)(wq:fT.IM)(gK:fT.fR)(x1:aO)(x5:cF)(a7:aO)(bo:Int):Option (aO×(Int)):=
 cond (aX bo (ℓ x1)) (cond (bb bo (ℓ x1)) (cond (aX (γ x1 bo.toNat ba).1 x5.1) (gK x1 x5 a7 (W .i64 (bo+1))) (wq x1 x5 a7 bo)) none) (wq x1 x5 a7 bo)
def fT.mw(N:Nat):Nat→fT.fR
 |0,_,_,_,_=>none
 |n+1,x1,x5,a7,bo=>fT.lz N (fT.Da N) (fT.mw N n) x1 x5 a7 bo
def fT.xV(N:Nat)(sU:fT.fR)(x1:aO)(x5:cF):Option (aO×(Int)):=
 sU x1 x5 ([]) 0
def fT.E5(x1:aO)(x5:cF):Option (aO×(Int)):=fT.xV N (fT.mw N N) x1 x5
def fT.b(yc:fT.IN)(a0:aE)(a1:aO)(a2:cF):Option (aO×(Int)):=
 (CR N a0 a1).bind λr1=>cond (!r1) (some ([],1)) ((mX N ([a2])).bind λr2=>cond (!r2) (some ([],1)) ((Ai N a0 a2.2.1).bind λr3=>cond (aN r3 0) (some ([],3)) (cond (!aN r3 1) (some ([],7)) ((oK N a1 a2.1).bind λr4=>cond (r4.2) (some ([],4)) (cond (aN a2.2.2.1 1) ((m8 N a1 a2.2.1).bind λr5=>cond (!aN r5 0) (some ([],4)) (yc a1 a2)) (yc a1 a2))))))
def fT(a0:aE)(a1:aO)(a2:cF):Option (aO×(Int)):=fT.b N (fT.E5 N) a0 a1 a2
def ET(a0:aO)(a1:Int):Option (cF×(Bool)):=
 (mX N a0).bind λr1=>cond (!r1) (some (ba,false)) ((oK N a0 a1).bind λr2=>some (r2.1,r2.2))
def SQ(a0:aQ)(a1:Int):Option Bool:=
 (ET N a0.2.2.1.2.1 a1).bind λr1=>some r1.2
abbrev oY.cY:=(List Int)→Int→Option (List Int)
def oY.fM(N:Nat)(dS:oY.cY)(x0:List Int)(x3:Int):Option (List Int):=
 cond (aX 0 x3) (let v2:Int:=W .i64 (x3-1);cond (bb v2 (ℓ x0)) (cond (aN (γ x0 v2.toNat 0) 0) (dS x0 (W .i64 (x3-1))) (cond (ja 0 x3 x3 (ℓ x0)) (some (List.drop (0:Int).toNat (List.take x3.toNat x0))) none)) none) (cond (ja 0 x3 x3 (ℓ x0)) (some (List.drop (0:Int).toNat (List.take x3.toNat x0))) none)
def oY.l2(N:Nat):Nat→oY.cY
 |0,_,_=>none
 |n+1,x0,x3=>oY.fM N (oY.l2 N n) x0 x3
def oY.b(N:Nat)(gT:oY.cY)(a0:List Int):Option (List Int):=
 gT a0 (ℓ a0:Int)
def oY(a0:List Int):Option (List Int):=oY.b N (oY.l2 N N) a0
def YN(a0:Int):Option (List Int):=
 cond (aX 32 0) none ((oY N ([(rQ .and .u64 a0 4294967295),(shr .u64 a0 32)])).bind λr3=>some r3)
def He(a0:Bool)(a1:List Int):Option aL:=
 (oY N a1).bind λr1=>cond (a0) (some (aX 0 (ℓ r1:Int),(r1,()))) (some (false,(r1,())))
def eI(a0:Int):Option aL:=
 let v1:Int:=W .u64 a0;cond (aX a0 0) ((YN N (W .u64 (0-v1))).bind λr3=>(He N (aX a0 0) r3).bind λr4=>some r4) ((YN N v1).bind λr5=>(He N (aX a0 0) r5).bind λr6=>some r6)
def ES(a0:aL):Option aL:=
 (He N (!a0.1) a0.2.1).bind λr1=>some r1
def Dd(a0 a1:Int)(a2 a3:Int)(a4:aL):Option bO:=
 (ES N a4).bind λr1=>some ([(a0,(a1,(r1,()))),(a2,(a3,(a4,())))])
def L7(N:Nat)(a0:List Int)(a1:Int):Option Int:=
 cond (aX a1 (ℓ a0)) (cond (bb a1 (ℓ a0)) (some (γ a0 a1.toNat 0)) none) (some 0)
abbrev kb.Ta:=(List Int)→(List Int)→(List Int)→Int→Int→Option (List Int)
abbrev kb.bN:=(List Int)→(List Int)→(List Int)→Int→Int→Option (List Int)
def kb.OL(cG:kb.bN)(x0 x1 x5:List Int)(x6 x7:Int):Option (List Int):=
 (L7 N x0 x7).bind λr3=>(L7 N x1 x7).bind λr4=>let v6:Int:=W .u64 (x6+(W .u64 (r3+r4)));let v7:Int:=rQ .and .u64 v6 4294967295;cond (small (ℓ x5+ℓ ([v7]))) (cond (aX 32 0) none (cG x0 x1 (x5++([v7])) (shr .u64 v6 32) (W .i64 (x7+1)))) none
def kb.j6(cG:kb.bN)(x0 x1 x5:List Int)(x6 x7:Int):Option (List Int):=kb.OL N cG x0 x1 x5 x6 x7
def kb.dQ(N:Nat)(E9:kb.Ta)(cG:kb.bN)(x0 x1 x5:List Int)(x6 x7:Int):Option (List Int):=
 cond (aX x7 (ℓ x0)) (E9 x0 x1 x5 x6 x7) (cond (aX x7 (ℓ x1)) (E9 x0 x1 x5 x6 x7) (cond (aX 0 x6) (E9 x0 x1 x5 x6 x7) (some x5)))
def kb.l4(N:Nat):Nat→kb.bN
 |0,_,_,_,_,_=>none
 |n+1,x0,x1,x5,x6,x7=>kb.dQ N (kb.j6 N (kb.l4 N n)) (kb.l4 N n) x0 x1 x5 x6 x7
def kb.b(N:Nat)(ff:kb.bN)(a0 a1:List Int):Option (List Int):=
 ff a0 a1 ([]) 0 0
def kb(a0 a1:List Int):Option (List Int):=kb.b N (kb.l4 N N) a0 a1
abbrev ql.kt:=(List Int)→(List Int)→Int→Option Int
def ql.vu(N:Nat)(lD:ql.kt)(x0 x1:List Int)(x5:Int):Option Int:=
 cond (du 0 x5) (cond (bb x5 (ℓ x0)) (cond (bb x5 (ℓ x1)) (cond (aX (γ x0 x5.toNat 0) (γ x1 x5.toNat 0)) (some (-1)) (cond (bb x5 (ℓ x0)) (cond (bb x5 (ℓ x1)) (cond (aX (γ x1 x5.toNat 0) (γ x0 x5.toNat 0)) (some 1) (lD x0 x1 (W .i64 (x5-1)))) none) none)) none) none) (some 0)
def ql.l6(N:Nat):Nat→ql.kt
 |0,_,_,_=>none
 |n+1,x0,x1,x5=>ql.vu N (ql.l6 N n) x0 x1 x5
def ql.b(N:Nat)(xZ:ql.kt)(a0 a1:List Int):Option Int:=
 cond (!aN (ℓ a0) (ℓ a1)) (cond (aX (ℓ a0) (ℓ a1)) (some (-1)) (some 1)) (xZ a0 a1 (W .i64 ((ℓ a0:Int)-1)))
def ql(a0 a1:List Int):Option Int:=ql.b N (ql.l6 N N) a0 a1
abbrev qN.bN:=(List Int)→(List Int)→(List Int)→Int→Int→Option (List Int)
def qN.dQ(cG:qN.bN)(x0 x1 x5:List Int)(x6 x7:Int):Option (List Int):=
 cond (aX x7 (ℓ x0)) (cond (bb x7 (ℓ x0)) ((L7 N x1 x7).bind λr2=>let v3:Int:=W .u64 (r2+x6);cond (aX (γ x0 x7.toNat 0) v3) (let v5:Int:=W .u64 ((W .u64 ((γ x0 x7.toNat 0)+4294967296))-v3);cond (small (ℓ x5+ℓ ([v5]))) (cG x0 x1 (x5++([v5])) 1 (W .i64 (x7+1))) none) (let v8:Int:=W .u64 ((γ x0 x7.toNat 0)-v3);cond (small (ℓ x5+ℓ ([v8]))) (cG x0 x1 (x5++([v8])) 0 (W .i64 (x7+1))) none)) none) (some x5)
def qN.l4(N:Nat):Nat→qN.bN
 |0,_,_,_,_,_=>none
 |n+1,x0,x1,x5,x6,x7=>qN.dQ N (qN.l4 N n) x0 x1 x5 x6 x7
def qN.b(N:Nat)(ff:qN.bN)(a0 a1:List Int):Option (List Int):=
 ff a0 a1 ([]) 0 0
def qN(a0 a1:List Int):Option (List Int):=qN.b N (qN.l4 N N) a0 a1
def nZ(a0 a1:aL):Option aL:=
 cond (pn .bool a0.1 a1.1) ((kb N a0.2.1 a1.2.1).bind λr1=>(He N a0.1 r1).bind λr2=>some r2) ((ql N a0.2.1 a1.2.1).bind λr3=>cond (du 0 r3) ((qN N a0.2.1 a1.2.1).bind λr4=>(He N a0.1 r4).bind λr5=>some r5) ((qN N a1.2.1 a0.2.1).bind λr6=>(He N a1.1 r6).bind λr7=>some r7))
def xB(a0:aL):Option ((Int)×(Bool)):=
 cond (aX 2 (ℓ a0.2.1)) (some (0,false)) ((L7 N a0.2.1 0).bind λr1=>(L7 N a0.2.1 1).bind λr2=>cond (aX 32 0) none (let v4:Int:=rQ .or .u64 r1 (W .u64 (shl .u64 r2 32));cond (a0.1) (cond (aX 9223372036854775808 v4) (some (0,false)) (some ((W .i64 (W .u64 (0-v4))),true))) (cond (aX 9223372036854775807 v4) (some (0,false)) (some ((W .i64 v4),true)))))
def Sl(a0:aL):Option ((Int)×(Bool)):=
 (xB N a0).bind λr1=>cond (!r1.2) (some (0,false)) (cond (aN r1.1 (-9223372036854775808)) (some (0,false)) (some (r1.1,true)))
abbrev cM.IP:=au→au→au→Int→Int→Int→Int→Bool→aL→Int→Option (au×(Bool))
abbrev cM.aaV:=au→au→au→Int→Int→Int→Int→Bool→Option (au×(Bool))
abbrev cM.fb:=au→au→au→Int→Int→Int→Option (au×(Bool))
abbrev cM.bN:=au→au→au→Int→Int→Option (au×(Bool))
def cM.JJ(cG:cM.bN)(eZ:cM.fb)(Ln:cM.IP)(x0 x1 x6:au)(x7 x8:Int)(x9 bh:Int)(a7:Bool)(bo:aL)(cf:Int):Option (au×(Bool)):=
 cond (aX cf (ℓ x1)) (cond (bb cf (ℓ x1)) (cond (aN (γ x1 cf.toNat bc).1 x8) (cond (bb cf (ℓ x1)) (cond (aN (γ x1 cf.toNat bc).2.1 x9) (cond (bb cf (ℓ x1)) ((eI N (γ x1 cf.toNat bc).2.2.1).bind λr6=>(nZ N bo r6).bind λr7=>Ln x0 x1 x6 x7 x8 x9 bh true r7 (W .i64 (cf+1))) none) (Ln x0 x1 x6 x7 x8 x9 bh a7 bo (W .i64 (cf+1)))) none) (Ln x0 x1 x6 x7 x8 x9 bh a7 bo (W .i64 (cf+1)))) none) (cond (a7) ((eI N bh).bind λnL=>(nZ N bo nL).bind λoQ=>(Sl N oQ).bind λp5=>cond (!p5.2) (some ([],false)) (cond (!aN p5.1 0) (cond (small (ℓ x6+ℓ ([(x8,(x9,(p5.1,())))]))) (eZ x0 x1 (x6++([(x8,(x9,(p5.1,())))])) x7 x8 (W .i64 (x9+1))) none) (eZ x0 x1 x6 x7 x8 (W .i64 (x9+1))))) (cond (!aN bh 0) (cond (small (ℓ x6+ℓ ([(x8,(x9,(bh,())))]))) (eZ x0 x1 (x6++([(x8,(x9,(bh,())))])) x7 x8 (W .i64 (x9+1))) none) (eZ x0 x1 x6 x7 x8 (W .i64 (x9+1)))))
def cM.Kx(N:Nat)(cG:cM.bN)(eZ:cM.fb):Nat→cM.IP
 |0,_,_,_,_,_,_,_,_,_,_=>none
 |n+1,x0,x1,x6,x7,x8,x9,bh,a7,bo,cf=>cM.JJ N cG eZ (cM.Kx N cG eZ n) x0 x1 x6 x7 x8 x9 bh a7 bo cf
def cM.Mg(N:Nat)(aaW:cM.IP)(cG:cM.bN)(eZ:cM.fb)(x0 x1 x6:au)(x7 x8:Int)(x9 bh:Int)(a7:Bool):Option (au×(Bool)):=
 aaW x0 x1 x6 x7 x8 x9 bh a7 (false,qg) 0
def cM.Uk(cG:cM.bN)(eZ:cM.fb)(x0 x1 x6:au)(x7 x8:Int)(x9 bh:Int)(a7:Bool):Option (au×(Bool)):=cM.Mg N (cM.Kx N cG eZ N) cG eZ x0 x1 x6 x7 x8 x9 bh a7
def cM.oJ(N:Nat)(B9:cM.aaV)(cG:cM.bN)(eZ:cM.fb)(x0 x1 x6:au)(x7 x8 x9:Int):Option (au×(Bool)):=
 cond (aX x9 6) (cond (aX x7 (ℓ x0)) (cond (bb x7 (ℓ x0)) (cond (aN (γ x0 x7.toNat bc).1 x8) (cond (bb x7 (ℓ x0)) (cond (aN (γ x0 x7.toNat bc).2.1 x9) (cond (bb x7 (ℓ x0)) (B9 x0 x1 x6 (W .i64 (x7+1)) x8 x9 (γ x0 x7.toNat bc).2.2.1 false) none) (B9 x0 x1 x6 x7 x8 x9 0 false)) none) (B9 x0 x1 x6 x7 x8 x9 0 false)) none) (B9 x0 x1 x6 x7 x8 x9 0 false)) (cG x0 x1 x6 x7 (W .i64 (x8+1)))
def cM.l7(N:Nat)(cG:cM.bN):Nat→cM.fb
 |0,_,_,_,_,_,_=>none
 |n+1,x0,x1,x6,x7,x8,x9=>cM.oJ N (cM.Uk N cG (cM.l7 N cG n)) cG (cM.l7 N cG n) x0 x1 x6 x7 x8 x9
def cM.dQ(N:Nat)(sS:cM.fb)(cG:cM.bN)(x0 x1 x6:au)(x7 x8:Int):Option (au×(Bool)):=
 cond (du x8 24) (sS x0 x1 x6 x7 x8 0) (some (x6,true))
def cM.l4(N:Nat):Nat→cM.bN
 |0,_,_,_,_,_=>none
 |n+1,x0,x1,x6,x7,x8=>cM.dQ N (cM.l7 N (cM.l4 N n) N) (cM.l4 N n) x0 x1 x6 x7 x8
def cM.b(N:Nat)(ff:cM.bN)(a0 a1:au):Option (au×(Bool)):=
 ff a0 a1 ([]) 0 0
def cM(a0 a1:au):Option (au×(Bool)):=cM.b N (cM.l4 N N) a0 a1
abbrev oq.dM:=Int→Int→Int→bO→aL→Bool→Int→Option ((Int)×(Bool))
def oq.nr(dt:oq.dM)(x0 x1 x2:Int)(x3:bO)(bh:aL)(a7:Bool)(bo:Int):Option ((Int)×(Bool)):=
 cond (aX bo (ℓ x3)) (cond (bb bo (ℓ x3)) (cond (aN (γ x3 bo.toNat (0,(0,((false,qg),())))).1 x1) (cond (bb bo (ℓ x3)) (cond (aN (γ x3 bo.toNat (0,(0,((false,qg),())))).2.1 x2) (cond (bb bo (ℓ x3)) ((nZ N bh (γ x3 bo.toNat (0,(0,((false,qg),())))).2.2.1).bind λr2=>dt x0 x1 x2 x3 r2 true (W .i64 (bo+1))) none) (dt x0 x1 x2 x3 bh a7 (W .i64 (bo+1)))) none) (dt x0 x1 x2 x3 bh a7 (W .i64 (bo+1)))) none) (cond (!a7) (some (x0,true)) ((eI N x0).bind λr6=>(nZ N bh r6).bind λr7=>(xB N r7).bind λr8=>some (r8.1,r8.2)))
def oq.l3(N:Nat):Nat→oq.dM
 |0,_,_,_,_,_,_,_=>none
 |n+1,x0,x1,x2,x3,bh,a7,bo=>oq.nr N (oq.l3 N n) x0 x1 x2 x3 bh a7 bo
def oq.b(N:Nat)(oF:oq.dM)(a0 a1 a2:Int)(a3:bO):Option ((Int)×(Bool)):=
 oF a0 a1 a2 a3 (false,qg) false 0
def oq(a0 a1 a2:Int)(a3:bO):Option ((Int)×(Bool)):=oq.b N (oq.l3 N N) a0 a1 a2 a3
abbrev dN.aaV:=au→bO→au→Int→Int→Int→Int→Option (au×(Bool))
abbrev dN.fb:=au→bO→au→Int→Int→Int→Option (au×(Bool))
abbrev dN.bN:=au→bO→au→Int→Int→Option (au×(Bool))
def dN.Mg(cG:dN.bN)(eZ:dN.fb)(x0:au)(x1:bO)(x6:au)(x7 x8:Int)(x9 bh:Int):Option (au×(Bool)):=
 (oq N bh x8 x9 x1).bind λr5=>cond (!r5.2) (some ([],false)) (cond (!aN r5.1 0) (cond (small (ℓ x6+ℓ ([(x8,(x9,(r5.1,())))]))) (eZ x0 x1 (x6++([(x8,(x9,(r5.1,())))])) x7 x8 (W .i64 (x9+1))) none) (eZ x0 x1 x6 x7 x8 (W .i64 (x9+1))))
def dN.Uk(cG:dN.bN)(eZ:dN.fb)(x0:au)(x1:bO)(x6:au)(x7 x8:Int)(x9 bh:Int):Option (au×(Bool)):=dN.Mg N cG eZ x0 x1 x6 x7 x8 x9 bh
def dN.oJ(N:Nat)(B9:dN.aaV)(cG:dN.bN)(eZ:dN.fb)(x0:au)(x1:bO)(x6:au)(x7 x8 x9:Int):Option (au×(Bool)):=
 cond (du x9 24) (cond (aX x7 (ℓ x0)) (cond (bb x7 (ℓ x0)) (cond (aN (γ x0 x7.toNat bc).1 x8) (cond (bb x7 (ℓ x0)) (cond (aN (γ x0 x7.toNat bc).2.1 x9) (cond (bb x7 (ℓ x0)) (B9 x0 x1 x6 (W .i64 (x7+1)) x8 x9 (γ x0 x7.toNat bc).2.2.1) none) (B9 x0 x1 x6 x7 x8 x9 0)) none) (B9 x0 x1 x6 x7 x8 x9 0)) none) (B9 x0 x1 x6 x7 x8 x9 0)) (cG x0 x1 x6 x7 (W .i64 (x8+1)))
def dN.l7(N:Nat)(cG:dN.bN):Nat→dN.fb
 |0,_,_,_,_,_,_=>none
 |n+1,x0,x1,x6,x7,x8,x9=>dN.oJ N (dN.Uk N cG (dN.l7 N cG n)) cG (dN.l7 N cG n) x0 x1 x6 x7 x8 x9
def dN.dQ(N:Nat)(sS:dN.fb)(cG:dN.bN)(x0:au)(x1:bO)(x6:au)(x7 x8:Int):Option (au×(Bool)):=
 cond (du x8 7) (sS x0 x1 x6 x7 x8 0) (some (x6,true))
def dN.l4(N:Nat):Nat→dN.bN
 |0,_,_,_,_,_=>none
 |n+1,x0,x1,x6,x7,x8=>dN.dQ N (dN.l7 N (dN.l4 N n) N) (dN.l4 N n) x0 x1 x6 x7 x8
def dN.b(N:Nat)(ff:dN.bN)(a0:au)(a1:bO):Option (au×(Bool)):=
 ff a0 a1 ([]) 0 1
def dN(a0:au)(a1:bO):Option (au×(Bool)):=dN.b N (dN.l4 N N) a0 a1
def y9(a0:an)(a1:au)(a2:bO):Option (an×(Int)):=
 (cM N a0.2.2.2.1 a1).bind λr1=>cond (!r1.2) (some ((cc,(cT,(bq,(bq,(db,(dq,())))))),2)) ((dN N a0.2.2.1 a2).bind λr2=>cond (!r2.2) (some ((cc,(cT,(bq,(bq,(db,(dq,())))))),2)) (some ((a0.1,(a0.2.1,(r2.1,(r1.1,a0.2.2.2.2)))),0)))
def P1(a0:aQ)(a1 a2:Int)(a3 a4 a5:Int):Option (aQ×dd):=
 (eI N a5).bind λr1=>(Dd N a1 a2 a3 a4 r1).bind λr2=>(y9 N a0.2.2.1 bq r2).bind λr3=>some ((a0.1,(a0.2.1,(r3.1,a0.2.2.2))),(r3.2,c8))
abbrev D8.bJ:=au→Int→aL→aL→Int→Option aL
def D8.eo(bL:D8.bJ)(x0:au)(x1:Int)(x4 x5:aL)(x6:Int):Option aL:=
 cond (aX x6 (ℓ x0)) (cond (bb x6 (ℓ x0)) (cond (aN (γ x0 x6.toNat bc).2.1 x1) (cond (bb x6 (ℓ x0)) ((eI N (γ x0 x6.toNat bc).2.2.1).bind λr3=>(nZ N x5 r3).bind λr4=>bL x0 x1 x4 r4 (W .i64 (x6+1))) none) (bL x0 x1 x4 x5 (W .i64 (x6+1)))) none) (some x5)
def D8.l5(N:Nat):Nat→D8.bJ
 |0,_,_,_,_,_=>none
 |n+1,x0,x1,x4,x5,x6=>D8.eo N (D8.l5 N n) x0 x1 x4 x5 x6
def D8.b(e8:D8.bJ)(a0:au)(a1:Int):Option aL:=
 (Af N a0).bind λr1=>cond (!r1) (some (false,qg)) (e8 a0 a1 (false,qg) (false,qg) 0)
def D8(a0:au)(a1:Int):Option aL:=D8.b N (D8.l5 N N) a0 a1
def T4(N:Nat)(a0:aL):Option Int:=
 cond (aN (ℓ a0.2.1) 0) (some 0) (cond (a0.1) (some (-1)) (some 1))
abbrev EW.cY:=au→Int→Option Bool
def EW.fM(dS:EW.cY)(x0:au)(x3:Int):Option Bool:=
 cond (aX x3 6) ((D8 N x0 x3).bind λr2=>(T4 N r2).bind λr3=>cond (!aN r3 0) (some false) (dS x0 (W .i64 (x3+1)))) ((Af N x0).bind λr5=>some r5)
def EW.l2(N:Nat):Nat→EW.cY
 |0,_,_=>none
 |n+1,x0,x3=>EW.fM N (EW.l2 N n) x0 x3
def EW.b(N:Nat)(gT:EW.cY)(a0:au):Option Bool:=
 gT a0 0
def EW(a0:au):Option Bool:=EW.b N (EW.l2 N N) a0
def Xr(N:Nat)(a0:Int):Option Bool:=
 cond (du 1 a0) (some (du a0 1000000000000)) (some false)
def F99(a0:fZ):Option Bool:=
 cond (du 1 a0.1) (cond (du a0.1 1099511627776) (cond (du 1 a0.2.1) (cond (du a0.2.1 24) (cond (du 0 a0.2.2.1) (cond (aX a0.2.2.1 6) (cond (aN a0.2.2.2.1 1) (cond (du 1 a0.2.2.2.2.1) (cond (du a0.2.2.2.2.1 1000000000) ((Xr N a0.2.2.2.2.2.1).bind λr1=>some r1) (some false)) (some false)) (cond (aN a0.2.2.2.1 2) (cond (du 1 a0.2.2.2.2.1) (cond (du a0.2.2.2.2.1 1000000000) ((Xr N a0.2.2.2.2.2.1).bind λr2=>some r2) (some false)) (some false)) (some false))) (some false)) (some false)) (some false)) (some false)) (some false)) (some false)
abbrev Ah.bN:=aY→Int→Option Bool
def Ah.dQ(cG:Ah.bN)(x0:aY)(x3:Int):Option Bool:=
 cond (aX x3 (ℓ x0)) (cond (bb x3 (ℓ x0)) ((F99 N (γ x0 x3.toNat eC)).bind λr2=>cond (!r2) (some false) (cond (aX 0 x3) (cond (bb x3 (ℓ x0)) (let v3:Int:=W .i64 (x3-1);cond (bb v3 (ℓ x0)) (cond (du (γ x0 x3.toNat eC).1 (γ x0 v3.toNat eC).1) (some false) (cG x0 (W .i64 (x3+1)))) none) none) (cG x0 (W .i64 (x3+1))))) none) (some true)
def Ah.l4(N:Nat):Nat→Ah.bN
 |0,_,_=>none
 |n+1,x0,x3=>Ah.dQ N (Ah.l4 N n) x0 x3
def Ah.b(N:Nat)(ff:Ah.bN)(a0:aY):Option Bool:=
 cond (aX 32 (ℓ a0)) (some false) (ff a0 0)
def Ah(a0:aY):Option Bool:=Ah.b N (Ah.l4 N N) a0
abbrev D6.bJ:=au→aL→aL→Int→Option aL
def D6.eo(bL:D6.bJ)(x0:au)(x2 x3:aL)(x4:Int):Option aL:=
 cond (aX x4 (ℓ x0)) (cond (bb x4 (ℓ x0)) ((eI N (γ x0 x4.toNat bc).2.2.1).bind λr3=>(nZ N x3 r3).bind λr4=>bL x0 x2 r4 (W .i64 (x4+1))) none) (some x3)
def D6.l5(N:Nat):Nat→D6.bJ
 |0,_,_,_,_=>none
 |n+1,x0,x2,x3,x4=>D6.eo N (D6.l5 N n) x0 x2 x3 x4
def D6.b(e8:D6.bJ)(a0:au):Option aL:=
 (CJ N a0).bind λr1=>cond (!r1) (some (false,qg)) (e8 a0 (false,qg) (false,qg) 0)
def D6(a0:au):Option aL:=D6.b N (D6.l5 N N) a0
def F48(a0:an)(a1:Int):Option Bool:=
 (ET N a0.2.1 a1).bind λr1=>cond (r1.2) (some true) (some (aN a1 0))
def Ub(a0:aE)(a1:Int):Option Int:=
 (Ci N a0).bind λr1=>cond (!r1) (some 0) ((Ai N a0 a1).bind λr2=>some r2)
abbrev gH.sT:=ae→an→Int→Option Bool
abbrev gH.yd:=ae→an→Int→Option Bool
abbrev gH.iN:=ae→an→Int→Option Bool
abbrev gH.kt:=ae→an→Int→Option Bool
def gH.wF(IF:gH.sT)(x2:ae)(x3:an)(x9:Int):Option Bool:=
 cond (aX x9 (ℓ x3.2.2.2.2.2.1)) (cond (bb x9 (ℓ x3.2.2.2.2.2.1)) ((F48 N x3 (γ x3.2.2.2.2.2.1 x9.toNat eC).2.1).bind λQq=>cond (!Qq) (some false) (cond (bb x9 (ℓ x3.2.2.2.2.2.1)) (cond (du (ℓ x2.1) (γ x3.2.2.2.2.2.1 x9.toNat eC).2.2.1) (some false) (IF x2 x3 (W .i64 (x9+1)))) none)) none) (some true)
def gH.xI(N:Nat):Nat→gH.sT
 |0,_,_,_=>none
 |n+1,x2,x3,x9=>gH.wF N (gH.xI N n) x2 x3 x9
def gH.EY(IG:gH.sT)(Lo:gH.yd)(x2:ae)(x3:an)(x8:Int):Option Bool:=
 cond (aX x8 (ℓ x3.2.2.2.2.1)) (cond (bb x8 (ℓ x3.2.2.2.2.1)) ((Xr N (γ x3.2.2.2.2.1 x8.toNat 0)).bind λNn=>cond (!Nn) (some false) (Lo x2 x3 (W .i64 (x8+1)))) none) (IG x2 x3 0)
def gH.FB(N:Nat):Nat→gH.yd
 |0,_,_,_=>none
 |n+1,x2,x3,x8=>gH.EY N (gH.xI N N) (gH.FB N n) x2 x3 x8
def gH.nD(Qs:gH.yd)(lE:gH.iN)(x2:ae)(x3:an)(x7:Int):Option Bool:=
 cond (aX x7 (ℓ x3.2.2.2.1)) (cond (bb x7 (ℓ x3.2.2.2.1)) ((F48 N x3 (γ x3.2.2.2.1 x7.toNat bc).1).bind λFM=>cond (!FM) (some false) (cond (bb x7 (ℓ x3.2.2.2.1)) (cond (du (ℓ x2.1) (γ x3.2.2.2.1 x7.toNat bc).2.1) (some false) (lE x2 x3 (W .i64 (x7+1)))) none)) none) (Qs x2 x3 0)
def gH.oH(N:Nat):Nat→gH.iN
 |0,_,_,_=>none
 |n+1,x2,x3,x7=>gH.nD N (gH.FB N N) (gH.oH N n) x2 x3 x7
def gH.vu(uV:gH.iN)(lD:gH.kt)(x2:ae)(x3:an)(x5:Int):Option Bool:=
 cond (aX x5 (ℓ x3.2.2.1)) (cond (bb x5 (ℓ x3.2.2.1)) (cond (aN (γ x3.2.2.1 x5.toNat bc).1 5) ((F48 N x3 (γ x3.2.2.1 x5.toNat bc).2.1).bind λr9=>cond (!r9) (some false) (cond (aN (γ x3.2.2.1 x5.toNat bc).1 6) ((Ub N x3.1 (γ x3.2.2.1 x5.toNat bc).2.1).bind λkM=>cond (aN kM 0) (some false) (lD x2 x3 (W .i64 (x5+1)))) (cond (aN (γ x3.2.2.1 x5.toNat bc).1 7) ((Ub N x3.1 (γ x3.2.2.1 x5.toNat bc).2.1).bind λoQ=>cond (aN oQ 0) (some false) (lD x2 x3 (W .i64 (x5+1)))) (lD x2 x3 (W .i64 (x5+1)))))) (cond (aN (γ x3.2.2.1 x5.toNat bc).1 6) ((Ub N x3.1 (γ x3.2.2.1 x5.toNat bc).2.1).bind λwk=>cond (aN wk 0) (some false) (lD x2 x3 (W .i64 (x5+1)))) (cond (aN (γ x3.2.2.1 x5.toNat bc).1 7) ((Ub N x3.1 (γ x3.2.2.1 x5.toNat bc).2.1).bind λxR=>cond (aN xR 0) (some false) (lD x2 x3 (W .i64 (x5+1)))) (lD x2 x3 (W .i64 (x5+1)))))) none) (uV x2 x3 0)
def gH.l6(N:Nat):Nat→gH.kt
 |0,_,_,_=>none
 |n+1,x2,x3,x5=>gH.vu N (gH.oH N N) (gH.l6 N n) x2 x3 x5
def gH.b(xZ:gH.kt)(a0:ae)(a1:an):Option Bool:=
 (zP N a0).bind λr1=>cond (!r1) (some false) ((CR N a1.1 a1.2.1).bind λr2=>cond (!r2) (some false) ((CJ N a1.2.2.1).bind λr3=>cond (!r3) (some false) ((EW N a1.2.2.2.1).bind λr4=>cond (!r4) (some false) ((Ah N a1.2.2.2.2.2.1).bind λr5=>cond (!r5) (some false) (cond (!aN (ℓ a1.2.2.2.2.1) (ℓ a0.1)) (some false) ((D6 N a1.2.2.1).bind λr6=>(T4 N r6).bind λr7=>cond (!aN r7 0) (some false) (xZ a0 a1 0)))))))
def gH(a0:ae)(a1:an):Option Bool:=gH.b N (gH.l6 N N) a0 a1
def Bo(a0 a1:aL):Option aL:=
 (ES N a1).bind λr1=>(nZ N a0 r1).bind λr2=>some r2
abbrev mK.bJ:=au→Int→aE→Int→Option aE
def mK.eo(N:Nat)(bL:mK.bJ)(x0:au)(x1:Int)(x5:aE)(x6:Int):Option aE:=
 cond (aX x6 (ℓ x0)) (cond (bb x6 (ℓ x0)) (cond (aN (γ x0 x6.toNat bc).1 x1) (cond (bb x6 (ℓ x0)) (cond (bb x6 (ℓ x0)) (cond (small (ℓ x5+ℓ ([((γ x0 x6.toNat bc).2.1,((γ x0 x6.toNat bc).2.2.1,()))]))) (bL x0 x1 (x5++([((γ x0 x6.toNat bc).2.1,((γ x0 x6.toNat bc).2.2.1,()))])) (W .i64 (x6+1))) none) none) none) (bL x0 x1 x5 (W .i64 (x6+1)))) none) (some x5)
def mK.l5(N:Nat):Nat→mK.bJ
 |0,_,_,_,_=>none
 |n+1,x0,x1,x5,x6=>mK.eo N (mK.l5 N n) x0 x1 x5 x6
def mK.b(e8:mK.bJ)(a0:au)(a1:Int):Option aE:=
 (Af N a0).bind λr1=>cond (!r1) (some ([])) (e8 a0 a1 ([]) 0)
def mK(a0:au)(a1:Int):Option aE:=mK.b N (mK.l5 N N) a0 a1
abbrev iL.fb:=aY→Int→au→Int→dd→Int→Option au
abbrev iL.dM:=aY→Int→au→Int→Option au
def iL.oJ(N:Nat)(dt:iL.dM)(eZ:iL.fb)(x0:aY)(x1:Int)(x5:au)(x6:Int)(x7:dd)(x8:Int):Option au:=
 cond (aX x8 (ℓ x0)) (cond (bb x8 (ℓ x0)) (cond (!aN (γ x0 x8.toNat eC).2.1 x1) (eZ x0 x1 x5 x6 x7 (W .i64 (x8+1))) (cond (bb x8 (ℓ x0)) (cond (!aN (γ x0 x8.toNat eC).2.2.1 x6) (eZ x0 x1 x5 x6 x7 (W .i64 (x8+1))) (cond (bb x8 (ℓ x0)) (cond (aN (γ x0 x8.toNat eC).2.2.2.1 1) (cond (bb x8 (ℓ x0)) (eZ x0 x1 x5 x6 (x7.1,((W .i64 (x7.2.1+((γ x0 x8.toNat eC).2.2.2.2.1))),x7.2.2)) (W .i64 (x8+1))) none) (cond (bb x8 (ℓ x0)) (eZ x0 x1 x5 x6 (x7.1,(x7.2.1,((W .i64 (x7.2.2.1+((γ x0 x8.toNat eC).2.2.2.2.1))),x7.2.2.2))) (W .i64 (x8+1))) none)) none)) none)) none) (cond (aX 0 x7.2.1) (cond (small (ℓ x5+ℓ ([x7]))) (dt x0 x1 (x5++([x7])) (W .i64 (x6+1))) none) (cond (aX 0 x7.2.2.1) (cond (small (ℓ x5+ℓ ([x7]))) (dt x0 x1 (x5++([x7])) (W .i64 (x6+1))) none) (dt x0 x1 x5 (W .i64 (x6+1)))))
def iL.l7(N:Nat)(dt:iL.dM):Nat→iL.fb
 |0,_,_,_,_,_,_=>none
 |n+1,x0,x1,x5,x6,x7,x8=>iL.oJ N dt (iL.l7 N dt n) x0 x1 x5 x6 x7 x8
def iL.nr(N:Nat)(sS:iL.fb)(dt:iL.dM)(x0:aY)(x1:Int)(x5:au)(x6:Int):Option au:=
 cond (aX x6 6) (sS x0 x1 x5 x6 (x6,c8) 0) (some x5)
def iL.l3(N:Nat):Nat→iL.dM
 |0,_,_,_,_=>none
 |n+1,x0,x1,x5,x6=>iL.nr N (iL.l7 N (iL.l3 N n) N) (iL.l3 N n) x0 x1 x5 x6
def iL.b(N:Nat)(oF:iL.dM)(a0:aY)(a1:Int):Option au:=
 oF a0 a1 ([]) 0
def iL(a0:aY)(a1:Int):Option au:=iL.b N (iL.l3 N N) a0 a1
abbrev oi.bN:=aE→ae→Int→Option Bool
def oi.dQ(N:Nat)(cG:oi.bN)(x1:aE)(x2:ae)(x5:Int):Option Bool:=
 cond (aX x5 (ℓ x1)) (cond (bb x5 (ℓ x1)) (cond (aX (γ x1 x5.toNat c8).1 0) (some false) (cond (bb x5 (ℓ x1)) (cond (du (ℓ x2.1) (γ x1 x5.toNat c8).1) (some false) (cond (bb x5 (ℓ x1)) (cond (aN (γ x1 x5.toNat c8).2.1 0) (some false) (cond (bb x5 (ℓ x1)) (cond (aN (γ x1 x5.toNat c8).2.1 (-9223372036854775808)) (some false) (cond (aX 0 x5) (cond (bb x5 (ℓ x1)) (let v3:Int:=W .i64 (x5-1);cond (bb v3 (ℓ x1)) (cond (du (γ x1 x5.toNat c8).1 (γ x1 v3.toNat c8).1) (some false) (cG x1 x2 (W .i64 (x5+1)))) none) none) (cG x1 x2 (W .i64 (x5+1))))) none)) none)) none)) none) (some true)
def oi.l4(N:Nat):Nat→oi.bN
 |0,_,_,_=>none
 |n+1,x1,x2,x5=>oi.dQ N (oi.l4 N n) x1 x2 x5
def oi.b(ff:oi.bN)(a0:ae)(a1:aE):Option Bool:=
 (zP N a0).bind λr1=>cond (!r1) (some false) (ff a1 a0 0)
def oi(a0:ae)(a1:aE):Option Bool:=oi.b N (oi.l4 N N) a0 a1
abbrev qY.bJ:=au→ae→Int→Int→Option Bool
def qY.eo(N:Nat)(bL:qY.bJ)(x1:au)(x2:ae)(x5 x6:Int):Option Bool:=
 cond (aX x6 (ℓ x1)) (cond (bb x6 (ℓ x1)) (cond (aX (γ x1 x6.toNat bc).1 0) (some false) (cond (du (ℓ x2.1) (γ x1 x6.toNat bc).1) (some false) (cond (aX (γ x1 x6.toNat bc).2.1 0) (some false) (cond (aX x5 (γ x1 x6.toNat bc).2.1) (some false) (cond (aX (γ x1 x6.toNat bc).2.2.1 0) (some false) (cond (aX x5 (γ x1 x6.toNat bc).2.2.1) (some false) (cond (aN (γ x1 x6.toNat bc).2.1 0) (cond (aN (γ x1 x6.toNat bc).2.2.1 0) (some false) (cond (aX 0 x6) (let v3:Int:=W .i64 (x6-1);cond (bb v3 (ℓ x1)) (cond (du (γ x1 x6.toNat bc).1 (γ x1 v3.toNat bc).1) (some false) (bL x1 x2 x5 (W .i64 (x6+1)))) none) (bL x1 x2 x5 (W .i64 (x6+1))))) (cond (aX 0 x6) (let v6:Int:=W .i64 (x6-1);cond (bb v6 (ℓ x1)) (cond (du (γ x1 x6.toNat bc).1 (γ x1 v6.toNat bc).1) (some false) (bL x1 x2 x5 (W .i64 (x6+1)))) none) (bL x1 x2 x5 (W .i64 (x6+1))))))))))) none) (some true)
def qY.l5(N:Nat):Nat→qY.bJ
 |0,_,_,_,_=>none
 |n+1,x1,x2,x5,x6=>qY.eo N (qY.l5 N n) x1 x2 x5 x6
def qY.b(e8:qY.bJ)(a0:ae)(a1:au):Option Bool:=
 (zP N a0).bind λr1=>cond (!r1) (some false) (e8 a1 a0 33000000000 0)
def qY(a0:ae)(a1:au):Option Bool:=qY.b N (qY.l5 N N) a0 a1
def Hg(a0:aL):Option aL:=
 (He N false a0.2.1).bind λr1=>some r1
def y8(a0 a1:aL):Option Int:=
 (Bo N a0 a1).bind λr1=>(T4 N r1).bind λr2=>some r2
abbrev jU.iN:=au→Int→aL→aL→aL→aL→Int→Option (aL×(Int))
abbrev jU.fb:=aE→au→Int→aL→aL→aL→aL→Int→Option (aL×(Int))
def jU.nD(lE:jU.iN)(x2:au)(x3:Int)(x8 bh:aL)(a7 bo:aL)(cZ:Int):Option (aL×(Int)):=
 cond (aX cZ (ℓ x2)) (cond (bb cZ (ℓ x2)) (cond (aN (γ x2 cZ.toNat bc).1 x3) (cond (bb cZ (ℓ x2)) ((eI N (γ x2 cZ.toNat bc).2.1).bind λr8=>cond (bb cZ (ℓ x2)) ((eI N (γ x2 cZ.toNat bc).2.2.1).bind λr9=>lE x2 x3 x8 bh r8 r9 (W .i64 (cZ+1))) none) none) (lE x2 x3 x8 bh a7 bo (W .i64 (cZ+1)))) none) ((nZ N bh a7).bind λoQ=>(Hg N oQ).bind λp5=>(Bo N bh bo).bind λtZ=>(Hg N tZ).bind λwk=>(y8 N wk p5).bind λwH=>cond (aX 0 wH) (some (wk,0)) (some (p5,0)))
def jU.oH(N:Nat):Nat→jU.iN
 |0,_,_,_,_,_,_,_=>none
 |n+1,x2,x3,x8,bh,a7,bo,cZ=>jU.nD N (jU.oH N n) x2 x3 x8 bh a7 bo cZ
def jU.oJ(uV:jU.iN)(eZ:jU.fb)(x1:aE)(x2:au)(x3:Int)(x8 bh:aL)(a7 bo:aL)(cf:Int):Option (aL×(Int)):=
 cond (aX cf (ℓ x1)) (cond (bb cf (ℓ x1)) (cond (aN (γ x1 cf.toNat c8).1 x3) (cond (bb cf (ℓ x1)) ((eI N (γ x1 cf.toNat c8).2.1).bind λr4=>eZ x1 x2 x3 x8 r4 a7 bo (W .i64 (cf+1))) none) (eZ x1 x2 x3 x8 bh a7 bo (W .i64 (cf+1)))) none) (uV x2 x3 x8 bh a7 bo 0)
def jU.l7(N:Nat):Nat→jU.fb
 |0,_,_,_,_,_,_,_,_=>none
 |n+1,x1,x2,x3,x8,bh,a7,bo,cf=>jU.oJ N (jU.oH N N) (jU.l7 N n) x1 x2 x3 x8 bh a7 bo cf
def jU.b(sS:jU.fb)(a0:ae)(a1:aE)(a2:au)(a3:Int):Option (aL×(Int)):=
 (oi N a0 a1).bind λr1=>cond (!r1) (some ((false,qg),1)) ((qY N a0 a2).bind λr2=>cond (!r2) (some ((false,qg),1)) (cond (aX a3 0) (some ((false,qg),3)) (cond (du (ℓ a0.1) a3) (some ((false,qg),3)) (sS a1 a2 a3 (false,qg) (false,qg) (false,qg) (false,qg) 0))))
def jU(a0:ae)(a1:aE)(a2:au)(a3:Int):Option (aL×(Int)):=jU.b N (jU.l7 N N) a0 a1 a2 a3
abbrev et.MZ:=aL→aL→aL→(List Int)→Int→Int→Int→Option aL
abbrev et.fb:=aL→aL→aL→(List Int)→Int→Int→Int→Option aL
abbrev et.dM:=aL→aL→aL→(List Int)→Int→Option aL
def et.JA(dt:et.dM)(eZ:et.fb)(x2 x3 x4:aL)(x5:List Int)(x6 x7 x8:Int):Option aL:=
 let v7:Int:=W .i64 (x6+x8);cond (bb v7 (ℓ x5)) (cond (bb x6 (ℓ x2.2.1)) ((L7 N x3.2.1 x8).bind λr8=>let v11:Int:=W .u64 (x7+(W .u64 ((γ x5 v7.toNat 0)+(W .u64 ((γ x2.2.1 x6.toNat 0)*r8)))));let UX:Int:=W .i64 (x6+x8);cond (bb UX (ℓ x5)) (cond (aX 32 0) none (eZ x2 x3 x4 (List.set x5 UX.toNat (rQ .and .u64 v11 4294967295)) x6 (shr .u64 v11 32) (W .i64 (x8+1)))) none) none) none
def et.j9(dt:et.dM)(eZ:et.fb)(x2 x3 x4:aL)(x5:List Int)(x6 x7 x8:Int):Option aL:=et.JA N dt eZ x2 x3 x4 x5 x6 x7 x8
def et.oJ(N:Nat)(B8:et.MZ)(dt:et.dM)(eZ:et.fb)(x2 x3 x4:aL)(x5:List Int)(x6 x7 x8:Int):Option aL:=
 cond (aX x8 (ℓ x3.2.1)) (B8 x2 x3 x4 x5 x6 x7 x8) (cond (aX 0 x7) (B8 x2 x3 x4 x5 x6 x7 x8) (dt x2 x3 x4 x5 (W .i64 (x6+1))))
def et.l7(N:Nat)(dt:et.dM):Nat→et.fb
 |0,_,_,_,_,_,_,_=>none
 |n+1,x2,x3,x4,x5,x6,x7,x8=>et.oJ N (et.j9 N dt (et.l7 N dt n)) dt (et.l7 N dt n) x2 x3 x4 x5 x6 x7 x8
def et.nr(sS:et.fb)(dt:et.dM)(x2 x3 x4:aL)(x5:List Int)(x6:Int):Option aL:=
 cond (aX x6 (ℓ x2.2.1)) (sS x2 x3 x4 x5 x6 0 0) ((He N (!(pn .bool x2.1 x3.1)) x5).bind λya=>some ya)
def et.l3(N:Nat):Nat→et.dM
 |0,_,_,_,_,_=>none
 |n+1,x2,x3,x4,x5,x6=>et.nr N (et.l7 N (et.l3 N n) N) (et.l3 N n) x2 x3 x4 x5 x6
def et.b(N:Nat)(oF:et.dM)(a0 a1:aL):Option aL:=
 let v2:Int:=W .i64 ((W .i64 ((ℓ a0.2.1:Int)+(ℓ a1.2.1:Int)))+1);cond (kU v2 v2) (oF a0 a1 (false,qg) (List.replicate v2.toNat 0) 0) none
def et(a0 a1:aL):Option aL:=et.b N (et.l3 N N) a0 a1
abbrev qZ.bJ:=aE→au→ae→aL→aL→Int→Option (aL×(Int))
def qZ.eo(bL:qZ.bJ)(x1:aE)(x2:au)(x3:ae)(x6 x8:aL)(x9:Int):Option (aL×(Int)):=
 cond (aX x9 (ℓ x3.1)) ((jU N x3 x1 x2 x9).bind λr4=>cond (bb x9 (ℓ x3.1)) ((eI N (γ x3.1 x9.toNat ba).2.2.1).bind λr5=>(et N r4.1 r5).bind λr6=>(nZ N x8 r6).bind λr7=>bL x1 x2 x3 x6 r7 (W .i64 (x9+1))) none) (some (x8,0))
def qZ.l5(N:Nat):Nat→qZ.bJ
 |0,_,_,_,_,_,_=>none
 |n+1,x1,x2,x3,x6,x8,x9=>qZ.eo N (qZ.l5 N n) x1 x2 x3 x6 x8 x9
def qZ.b(e8:qZ.bJ)(a0:ae)(a1:aE)(a2:au):Option (aL×(Int)):=
 (oi N a0 a1).bind λr1=>cond (!r1) (some ((false,qg),1)) ((qY N a0 a2).bind λr2=>cond (!r2) (some ((false,qg),1)) (e8 a1 a2 a0 (false,qg) (false,qg) 0))
def qZ(a0:ae)(a1:aE)(a2:au):Option (aL×(Int)):=qZ.b N (qZ.l5 N N) a0 a1 a2
def ZL(a0:ae)(a1:an)(a2:Int)(a3:aY):Option aL:=
 cond (small (ℓ dq+ℓ a1.2.2.2.2.2.1)) (let v1:List ((Int)×((Int)×((Int)×((Int)×((Int)×((Int)×(Unit))))))):=dq++a1.2.2.2.2.2.1;cond (small (ℓ v1+ℓ a3)) ((mK N a1.2.2.2.1 a2).bind λr3=>(iL N (v1++a3) a2).bind λr4=>(qZ N a0 r3 r4).bind λr5=>some r5.1) none) none
def WB(a0:ae)(a1:an)(a2 a3:Int):Option (an×(Int)):=
 (gH N a0 a1).bind λr1=>cond (!r1) (some ((cc,(cT,(bq,(bq,(db,(dq,())))))),1)) (cond (aX a3 1) (some ((cc,(cT,(bq,(bq,(db,(dq,())))))),1)) ((ET N a1.2.1 a2).bind λr2=>cond (!r2.2) (some ((cc,(cT,(bq,(bq,(db,(dq,())))))),3)) ((Ub N a1.1 r2.1.2.1).bind λr3=>cond (!aN r3 1) (some ((cc,(cT,(bq,(bq,(db,(dq,())))))),7)) ((uY N a1.2.2.1 5 a2).bind λr4=>(eI N r4).bind λr5=>(eI N a3).bind λr6=>(Bo N r5 r6).bind λr7=>(ZL N a0 a1 a2 dq).bind λr8=>(y8 N r7 r8).bind λr9=>cond (aX r9 0) (some ((cc,(cT,(bq,(bq,(db,(dq,())))))),10)) ((eI N a3).bind λkM=>(Dd N 5 a2 1 0 kM).bind λnL=>(y9 N a1 bq nL).bind λoQ=>some (oQ.1,oQ.2))))))
def Ij(a0:aQ)(a1:Int):Option Int:=
 (Ub N a0.2.2.1.1 a1).bind λr1=>some r1
abbrev ox.jY:=Int→Int→aO→Int→Option (aO×(Int))
def ox.D4(N:Nat)(gD:ox.jY)(x1 x2:Int)(bh:aO)(a7:Int):Option (aO×(Int)):=
 cond (aX a7 (ℓ bh)) (cond (bb a7 (ℓ bh)) (cond (aN (γ bh a7.toNat ba).1 x1) (cond (bb a7 (ℓ bh)) (gD x1 x2 (List.set bh a7.toNat ((γ bh a7.toNat ba).1,((γ bh a7.toNat ba).2.1,((γ bh a7.toNat ba).2.2.1,(x2,(γ bh a7.toNat ba).2.2.2.2))))) (W .i64 (a7+1))) none) (gD x1 x2 bh (W .i64 (a7+1)))) none) (some (bh,0))
def ox.l8(N:Nat):Nat→ox.jY
 |0,_,_,_,_=>none
 |n+1,x1,x2,bh,a7=>ox.D4 N (ox.l8 N n) x1 x2 bh a7
def ox.b(IL:ox.jY)(a0:aO)(a1 a2:Int):Option (aO×(Int)):=
 (mX N a0).bind λr1=>cond (!r1) (some ([],1)) (cond (aX a2 0) (some ([],1)) (cond (aX 1000000000000 a2) (some ([],1)) ((oK N a0 a1).bind λr2=>cond (!r2.2) (some ([],3)) (cond (small (ℓ cT+ℓ a0)) (IL a1 a2 (cT++a0) 0) none))))
def ox(a0:aO)(a1 a2:Int):Option (aO×(Int)):=ox.b N (ox.l8 N N) a0 a1 a2
def ac8(a0:fZ)(a1:Int):Option (aL×(Int)):=
 (F99 N a0).bind λr1=>cond (!r1) (some ((false,qg),1)) ((Xr N a1).bind λr2=>cond (!r2) (some ((false,qg),1)) (let v3:Int:=W .i64 (a0.2.2.2.2.2.1-a1);cond (aN a0.2.2.2.1 2) (let v4:Int:=W .i64 (a1-a0.2.2.2.2.2.1);cond (aX v4 0) (some ((false,qg),0)) ((eI N a0.2.2.2.2.1).bind λr5=>(eI N v4).bind λr6=>(et N r5 r6).bind λr7=>some (r7,0))) (cond (aX v3 0) (some ((false,qg),0)) ((eI N a0.2.2.2.2.1).bind λr8=>(eI N v3).bind λr9=>(et N r8 r9).bind λkM=>some (kM,0)))))
def ZM(a0:ae)(a1:an)(a2:fZ):Option Int:=
 (gH N a0 a1).bind λr1=>cond (!r1) (some 1) ((F99 N a2).bind λr2=>cond (!r2) (some 1) ((ET N a1.2.1 a2.2.1).bind λr3=>cond (!r3.2) (some 3) ((Ub N a1.1 r3.1.2.1).bind λr4=>cond (!aN r4 1) (some 7) (cond (du (ℓ a0.1) a2.2.2.1) (some 3) (cond (small (ℓ dq+ℓ a1.2.2.2.2.2.1)) (let v5:List ((Int)×((Int)×((Int)×((Int)×((Int)×((Int)×(Unit))))))):=dq++a1.2.2.2.2.2.1;cond (small (ℓ v5+ℓ ([a2]))) ((mK N a1.2.2.2.1 a2.2.1).bind λr7=>(iL N (v5++([a2])) a2.2.1).bind λr8=>(jU N a0 r7 r8 a2.2.2.1).bind λr9=>(eI N r3.1.2.2.2.1).bind λkM=>(y8 N r9.1 kM).bind λnL=>cond (aX 0 nL) (some 9) (cond (bb a2.2.2.1 (ℓ a1.2.2.2.2.1)) ((ac8 N a2 (γ a1.2.2.2.2.1 a2.2.2.1.toNat 0)).bind λoQ=>(uY N a1.2.2.1 5 a2.2.1).bind λp5=>(eI N p5).bind λtZ=>(Bo N tZ oQ.1).bind λwk=>(ZL N a0 a1 a2.2.1 ([a2])).bind λwH=>(y8 N wk wH).bind λxR=>cond (aX xR 0) (some 10) (some 0)) none)) none) none)))))
def WA(N:Nat)(a0 a1:fZ):Option Bool:=
 cond (!aN a0.2.2.2.2.2.1 a1.2.2.2.2.2.1) (some (pn .bool (aX a1.2.2.2.2.2.1 a0.2.2.2.2.2.1) (aN a0.2.2.2.1 1))) (some (aX a0.1 a1.1))
abbrev eh.IN:=aY→Int→Int→aY→Int→Int→Option aY
abbrev eh.lF:=aY→Int→Int→aY→Int→Int→Option aY
abbrev eh.bJ:=aY→Int→Int→aY→Int→Option aY
def eh.xV(N:Nat)(bL:eh.bJ)(x0:aY)(x1 x2:Int)(x7:aY)(x8 x9:Int):Option aY:=
 cond (ja 0 x9 (ℓ x7) (ℓ x7)) (let v9:List ((Int)×((Int)×((Int)×((Int)×((Int)×((Int)×(Unit))))))):=List.drop (0:Int).toNat (List.take x9.toNat x7);cond (small (ℓ v9)) (cond (bb x8 (ℓ x0)) (cond (small (ℓ v9+ℓ ([γ x0 x8.toNat eC]))) (let v10:List ((Int)×((Int)×((Int)×((Int)×((Int)×((Int)×(Unit))))))):=v9++([γ x0 x8.toNat eC]);cond (ja x9 (ℓ x7) (ℓ x7) (ℓ x7)) (let v11:List ((Int)×((Int)×((Int)×((Int)×((Int)×((Int)×(Unit))))))):=List.drop x9.toNat (List.take (ℓ x7:Int).toNat x7);cond (small (ℓ v10+ℓ v11)) (bL x0 x1 x2 (v10++v11) (W .i64 (x8+1))) none) none) none) none) none) none
def eh.E5(bL:eh.bJ)(x0:aY)(x1 x2:Int)(x7:aY)(x8 x9:Int):Option aY:=eh.xV N bL x0 x1 x2 x7 x8 x9
def eh.vz(yc:eh.IN)(bL:eh.bJ)(oM:eh.lF)(x0:aY)(x1 x2:Int)(x7:aY)(x8 x9:Int):Option aY:=
 cond (aX x9 (ℓ x7)) (cond (bb x9 (ℓ x7)) (cond (bb x8 (ℓ x0)) ((WA N (γ x7 x9.toNat eC) (γ x0 x8.toNat eC)).bind λr6=>cond (r6) (oM x0 x1 x2 x7 x8 (W .i64 (x9+1))) (yc x0 x1 x2 x7 x8 x9)) none) none) (yc x0 x1 x2 x7 x8 x9)
def eh.l9(N:Nat)(bL:eh.bJ):Nat→eh.lF
 |0,_,_,_,_,_,_=>none
 |n+1,x0,x1,x2,x7,x8,x9=>eh.vz N (eh.E5 N bL) bL (eh.l9 N bL n) x0 x1 x2 x7 x8 x9
def eh.eo(N:Nat)(yb:eh.lF)(bL:eh.bJ)(x0:aY)(x1 x2:Int)(x7:aY)(x8:Int):Option aY:=
 cond (aX x8 (ℓ x0)) (cond (bb x8 (ℓ x0)) (cond (!aN (γ x0 x8.toNat eC).2.2.1 x1) (bL x0 x1 x2 x7 (W .i64 (x8+1))) (cond (bb x8 (ℓ x0)) (cond (!aN (γ x0 x8.toNat eC).2.2.2.1 x2) (bL x0 x1 x2 x7 (W .i64 (x8+1))) (yb x0 x1 x2 x7 x8 0)) none)) none) (some x7)
def eh.l5(N:Nat):Nat→eh.bJ
 |0,_,_,_,_,_=>none
 |n+1,x0,x1,x2,x7,x8=>eh.eo N (eh.l9 N (eh.l5 N n) N) (eh.l5 N n) x0 x1 x2 x7 x8
def eh.b(e8:eh.bJ)(a0:aY)(a1 a2:Int):Option aY:=
 (Ah N a0).bind λr1=>cond (!r1) (some ([])) (e8 a0 a1 a2 ([]) 0)
def eh(a0:aY)(a1 a2:Int):Option aY:=eh.b N (eh.l5 N N) a0 a1 a2
abbrev cv.ye:=aY→Int→bf→aY→Int→Option (aY×bf×(Int)×(Int))
abbrev cv.aqH:=aY→Int→bf→Option (aY×bf×(Int)×(Int))
abbrev cv.yf:=fZ→aY→Int→bf→aY→Int→Int→Int→Option (aY×bf×(Int)×(Int))
abbrev cv.IM:=fZ→aY→Int→bf→aY→Int→Int→ir→Option (aY×bf×(Int)×(Int))
abbrev cv.Lp:=fZ→aY→Int→bf→aY→Int→Option (aY×bf×(Int)×(Int))
abbrev cv.fb:=fZ→aY→Int→bf→aY→Int→Option (aY×bf×(Int)×(Int))
def cv.PN(N:Nat)(wu:cv.ye)(x8:aY)(x9:Int)(bh:bf)(fE:aY)(gh:Int):Option (aY×bf×(Int)×(Int)):=
 cond (aX gh (ℓ x8)) (cond (bb gh (ℓ x8)) (cond (aX 0 (γ x8 gh.toNat eC).2.2.2.2.1) (cond (bb gh (ℓ x8)) (cond (small (ℓ fE+ℓ ([γ x8 gh.toNat eC]))) (wu x8 x9 bh (fE++([γ x8 gh.toNat eC])) (W .i64 (gh+1))) none) none) (wu x8 x9 bh fE (W .i64 (gh+1)))) none) (some (fE,bh,x9,0))
def cv.Nl(N:Nat):Nat→cv.ye
 |0,_,_,_,_,_=>none
 |n+1,x8,x9,bh,fE,gh=>cv.PN N (cv.Nl N n) x8 x9 bh fE gh
def cv.adj(N:Nat)(aaX:cv.ye)(x8:aY)(x9:Int)(bh:bf):Option (aY×bf×(Int)×(Int)):=
 aaX x8 x9 bh ([]) 0
def cv.j22(x8:aY)(x9:Int)(bh:bf):Option (aY×bf×(Int)×(Int)):=cv.adj N (cv.Nl N N) x8 x9 bh
def cv.E6(N:Nat)(eZ:cv.fb)(IQ:cv.yf)(x3:fZ)(x8:aY)(x9:Int)(bh:bf)(a7:aY)(bo cf eu:Int):Option (aY×bf×(Int)×(Int)):=
 cond (aX eu (ℓ x8)) (cond (bb eu (ℓ x8)) (cond (bb bo (ℓ a7)) (cond (aN (γ x8 eu.toNat eC).1 (γ a7 bo.toNat eC).1) (cond (bb eu (ℓ x8)) (cond (bb eu (ℓ x8)) (IQ x3 (List.set x8 eu.toNat ((γ x8 eu.toNat eC).1,((γ x8 eu.toNat eC).2.1,((γ x8 eu.toNat eC).2.2.1,((γ x8 eu.toNat eC).2.2.2.1,((W .i64 ((γ x8 eu.toNat eC).2.2.2.2.1-cf)),(γ x8 eu.toNat eC).2.2.2.2.2)))))) x9 bh a7 bo cf (W .i64 (eu+1))) none) none) (IQ x3 x8 x9 bh a7 bo cf (W .i64 (eu+1)))) none) none) (eZ x3 x8 x9 bh a7 (W .i64 (bo+1)))
def cv.Ja(N:Nat)(eZ:cv.fb):Nat→cv.yf
 |0,_,_,_,_,_,_,_,_=>none
 |n+1,x3,x8,x9,bh,a7,bo,cf,eu=>cv.E6 N eZ (cv.Ja N eZ n) x3 x8 x9 bh a7 bo cf eu
def cv.wI(N:Nat)(Qt:cv.yf)(eZ:cv.fb)(x3:fZ)(x8:aY)(x9:Int)(bh:bf)(a7:aY)(bo cf:Int)(cZ:ir):Option (aY×bf×(Int)×(Int)):=
 cond (small (ℓ bh+ℓ ([cZ]))) (Qt x3 x8 (W .i64 (x9-cf)) (bh++([cZ])) a7 bo cf 0) none
def cv.Da(eZ:cv.fb)(x3:fZ)(x8:aY)(x9:Int)(bh:bf)(a7:aY)(bo cf:Int)(cZ:ir):Option (aY×bf×(Int)×(Int)):=cv.wI N (cv.Ja N eZ N) eZ x3 x8 x9 bh a7 bo cf cZ
def cv.Db(N:Nat)(wq:cv.IM)(eZ:cv.fb)(x3:fZ)(x8:aY)(x9:Int)(bh:bf)(a7:aY)(bo:Int):Option (aY×bf×(Int)×(Int)):=
 cond (bb bo (ℓ a7)) (cond (aN (γ a7 bo.toNat eC).2.1 x3.2.1) (eZ x3 x8 x9 bh a7 (W .i64 (bo+1))) (cond (bb bo (ℓ a7)) (let v14:Int:=mn x9 (γ a7 bo.toNat eC).2.2.2.2.1;cond (bb bo (ℓ a7)) (cond (bb bo (ℓ a7)) (cond (aN x3.2.2.2.1 2) (cond (bb bo (ℓ a7)) (wq x3 x8 x9 bh a7 bo v14 ((γ a7 bo.toNat eC).2.1,(x3.2.1,(x3.2.2.1,(v14,((γ a7 bo.toNat eC).2.2.2.2.2.1,())))))) none) (wq x3 x8 x9 bh a7 bo v14 (x3.2.1,((γ a7 bo.toNat eC).2.1,(x3.2.2.1,(v14,((γ a7 bo.toNat eC).2.2.2.2.2.1,()))))))) none) none) none)) none
def cv.JQ(eZ:cv.fb)(x3:fZ)(x8:aY)(x9:Int)(bh:bf)(a7:aY)(bo:Int):Option (aY×bf×(Int)×(Int)):=cv.Db N (cv.Da N eZ) eZ x3 x8 x9 bh a7 bo
def cv.oJ(N:Nat)(Qu:cv.aqH)(yg:cv.Lp)(eZ:cv.fb)(x3:fZ)(x8:aY)(x9:Int)(bh:bf)(a7:aY)(bo:Int):Option (aY×bf×(Int)×(Int)):=
 cond (aX bo (ℓ a7)) (cond (aX 0 x9) (cond (aN x3.2.2.2.1 1) (cond (bb bo (ℓ a7)) (cond (aX x3.2.2.2.2.2.1 (γ a7 bo.toNat eC).2.2.2.2.2.1) (Qu x8 x9 bh) (cond (aN x3.2.2.2.1 2) (cond (bb bo (ℓ a7)) (cond (aX (γ a7 bo.toNat eC).2.2.2.2.2.1 x3.2.2.2.2.2.1) (Qu x8 x9 bh) (yg x3 x8 x9 bh a7 bo)) none) (yg x3 x8 x9 bh a7 bo))) none) (cond (aN x3.2.2.2.1 2) (cond (bb bo (ℓ a7)) (cond (aX (γ a7 bo.toNat eC).2.2.2.2.2.1 x3.2.2.2.2.2.1) (Qu x8 x9 bh) (yg x3 x8 x9 bh a7 bo)) none) (yg x3 x8 x9 bh a7 bo))) (Qu x8 x9 bh)) (Qu x8 x9 bh)
def cv.l7(N:Nat):Nat→cv.fb
 |0,_,_,_,_,_,_=>none
 |n+1,x3,x8,x9,bh,a7,bo=>cv.oJ N (cv.j22 N) (cv.JQ N (cv.l7 N n)) (cv.l7 N n) x3 x8 x9 bh a7 bo
def cv.b(sS:cv.fb)(a0:aY)(a1:fZ):Option (aY×bf×(Int)×(Int)):=
 (Ah N a0).bind λr1=>cond (!r1) (some ([],[],0,1)) ((F99 N a1).bind λr2=>cond (!r2) (some ([],[],0,1)) (cond (small (ℓ dq+ℓ a0)) ((eh N a0 a1.2.2.1 (W .i64 (3-a1.2.2.2.1))).bind λr5=>sS a1 (dq++a0) a1.2.2.2.2.1 ([]) r5 0) none))
def cv(a0:aY)(a1:fZ):Option (aY×bf×(Int)×(Int)):=cv.b N (cv.l7 N N) a0 a1
def Zo(a0:ir):Option Bool:=
 cond (du 0 a0.1) (cond (du a0.1 24) (cond (du 0 a0.2.1) (cond (du a0.2.1 24) (cond (!aN a0.1 a0.2.1) (cond (du 0 a0.2.2.1) (cond (aX a0.2.2.1 6) (cond (du 1 a0.2.2.2.1) (cond (du a0.2.2.2.1 1000000000) ((Xr N a0.2.2.2.2.1).bind λr1=>some r1) (some false)) (some false)) (some false)) (some false)) (some false)) (some false)) (some false)) (some false)) (some false)
def Mm(N:Nat)(a0:Int):Option ((Int)×(Int)):=
 cond (aN a0 0) (some (2,0)) (some (5,a0))
def Ph(a0:ir)(a1:Int):Option (bO×(Int)):=
 (Zo N a0).bind λr1=>cond (!r1) (some ([],1)) ((Xr N a1).bind λr2=>cond (!r2) (some ([],1)) ((eI N (W .i64 (a1-a0.2.2.2.2.1))).bind λr4=>(eI N a0.2.2.2.1).bind λr5=>(et N r4 r5).bind λr6=>(T4 N r6).bind λr7=>cond (aN r7 0) (some ([],0)) ((Mm N a0.1).bind λr8=>(Mm N a0.2.1).bind λr9=>(ES N r6).bind λkM=>some ([(r8.1,(r8.2,(r6,()))),(r9.1,(r9.2,(kM,())))],0))))
abbrev nK.yh:=bf→ae→an→an→au→bO→Int→Option (an×(Int))
abbrev nK.bN:=bf→ae→an→an→Int→Option (an×(Int))
def nK.xK(Ca:nK.yh)(x2:bf)(x3:ae)(x4 x6:an)(x9:au)(bh:bO)(a7:Int):Option (an×(Int)):=
 cond (aX a7 (ℓ x2)) (cond (bb a7 (ℓ x2)) ((F48 N x4 (γ x2 a7.toNat eG).1).bind λr6=>cond (!r6) (some ((cc,(cT,(bq,(bq,(db,(dq,())))))),3)) ((F48 N x4 (γ x2 a7.toNat eG).2.1).bind λr7=>cond (!r7) (some ((cc,(cT,(bq,(bq,(db,(dq,())))))),3)) (cond (du (ℓ x3.1) (γ x2 a7.toNat eG).2.2.1) (some ((cc,(cT,(bq,(bq,(db,(dq,())))))),3)) (let v8:Int:=W .i64 (0-((γ x2 a7.toNat eG).2.2.2.1));cond (small (ℓ x9+ℓ ([((γ x2 a7.toNat eG).1,((γ x2 a7.toNat eG).2.2.1,((γ x2 a7.toNat eG).2.2.2.1,()))),((γ x2 a7.toNat eG).2.1,((γ x2 a7.toNat eG).2.2.1,(v8,())))]))) (cond (bb (γ x2 a7.toNat eG).2.2.1 (ℓ x4.2.2.2.2.1)) ((Ph N (γ x2 a7.toNat eG) (γ x4.2.2.2.2.1 (γ x2 a7.toNat eG).2.2.1.toNat 0)).bind λkM=>cond (small (ℓ bh+ℓ kM.1)) (Ca x2 x3 x4 x6 (x9++([((γ x2 a7.toNat eG).1,((γ x2 a7.toNat eG).2.2.1,((γ x2 a7.toNat eG).2.2.2.1,()))),((γ x2 a7.toNat eG).2.1,((γ x2 a7.toNat eG).2.2.1,(v8,())))])) (bh++kM.1) (W .i64 (a7+1))) none) none) none)))) none) ((y9 N x4 x9 bh).bind λp5=>some (p5.1,p5.2))
def nK.zW(N:Nat):Nat→nK.yh
 |0,_,_,_,_,_,_,_=>none
 |n+1,x2,x3,x4,x6,x9,bh,a7=>nK.xK N (nK.zW N n) x2 x3 x4 x6 x9 bh a7
def nK.dQ(Qv:nK.yh)(cG:nK.bN)(x2:bf)(x3:ae)(x4 x6:an)(x8:Int):Option (an×(Int)):=
 cond (aX x8 (ℓ x2)) (cond (bb x8 (ℓ x2)) ((Zo N (γ x2 x8.toNat eG)).bind λr3=>cond (!r3) (some ((cc,(cT,(bq,(bq,(db,(dq,())))))),1)) (cG x2 x3 x4 x6 (W .i64 (x8+1)))) none) (Qv x2 x3 x4 x6 ([]) ([]) 0)
def nK.l4(N:Nat):Nat→nK.bN
 |0,_,_,_,_,_=>none
 |n+1,x2,x3,x4,x6,x8=>nK.dQ N (nK.zW N N) (nK.l4 N n) x2 x3 x4 x6 x8
def nK.b(ff:nK.bN)(a0:ae)(a1:an)(a2:bf):Option (an×(Int)):=
 (gH N a0 a1).bind λr1=>cond (!r1) (some ((cc,(cT,(bq,(bq,(db,(dq,())))))),1)) (cond (aX 200 (ℓ a2)) (some ((cc,(cT,(bq,(bq,(db,(dq,())))))),1)) (ff a2 a0 a1 (cc,(cT,(bq,(bq,(db,(dq,())))))) 0))
def nK(a0:ae)(a1:an)(a2:bf):Option (an×(Int)):=nK.b N (nK.l4 N N) a0 a1 a2
abbrev jV.Lp:=ae→an→fZ→an→aY→bf→Int→Option (an×bf×(Int)×(Int))
abbrev jV.aaM:=ae→an→fZ→an→Option (an×bf×(Int)×(Int))
def jV.Db(x3:ae)(x4:an)(x5:fZ)(x6:an)(bo:aY)(cf:bf)(cZ:Int):Option (an×bf×(Int)×(Int)):=
 (nK N x3 x4 cf).bind λr6=>cond (!aN r6.2 0) (some ((cc,(cT,(bq,(bq,(db,(dq,())))))),EG,0,r6.2)) (cond (aX 0 cZ) (cond (small (ℓ bo+ℓ ([(x5.1,(x5.2.1,(x5.2.2.1,(x5.2.2.2.1,(cZ,x5.2.2.2.2.2)))))]))) (some ((r6.1.1,(r6.1.2.1,(r6.1.2.2.1,(r6.1.2.2.2.1,(r6.1.2.2.2.2.1,((bo++([(x5.1,(x5.2.1,(x5.2.2.1,(x5.2.2.2.1,(cZ,x5.2.2.2.2.2)))))])),r6.1.2.2.2.2.2.2)))))),cf,cZ,0)) none) (some ((r6.1.1,(r6.1.2.1,(r6.1.2.2.1,(r6.1.2.2.2.1,(r6.1.2.2.2.2.1,(bo,r6.1.2.2.2.2.2.2)))))),cf,cZ,0)))
def jV.JQ(x3:ae)(x4:an)(x5:fZ)(x6:an)(bo:aY)(cf:bf)(cZ:Int):Option (an×bf×(Int)×(Int)):=jV.Db N x3 x4 x5 x6 bo cf cZ
def jV.Xp(yg:jV.Lp)(x3:ae)(x4:an)(x5:fZ)(x6:an):Option (an×bf×(Int)×(Int)):=
 (cv N x4.2.2.2.2.2.1 x5).bind λr4=>cond (aX 0 r4.2.2.1) (cond (aN (ℓ r4.1) 32) (some ((cc,(cT,(bq,(bq,(db,(dq,())))))),EG,0,5)) (yg x3 x4 x5 x6 r4.1 r4.2.1 r4.2.2.1)) (yg x3 x4 x5 x6 r4.1 r4.2.1 r4.2.2.1)
def jV.j7(x3:ae)(x4:an)(x5:fZ)(x6:an):Option (an×bf×(Int)×(Int)):=jV.Xp N (jV.JQ N) x3 x4 x5 x6
def jV.b(JV:jV.aaM)(a0:ae)(a1:an)(a2:fZ):Option (an×bf×(Int)×(Int)):=
 (ZM N a0 a1 a2).bind λr1=>cond (!aN r1 0) (some ((cc,(cT,(bq,(bq,(db,(dq,())))))),EG,0,r1)) (cond (aX 0 (ℓ a1.2.2.2.2.2.1)) (let v2:Int:=W .i64 ((ℓ a1.2.2.2.2.2.1:Int)-1);cond (bb v2 (ℓ a1.2.2.2.2.2.1)) (cond (du a2.1 (γ a1.2.2.2.2.2.1 v2.toNat eC).1) (some ((cc,(cT,(bq,(bq,(db,(dq,())))))),EG,0,1)) (JV a0 a1 a2 (cc,(cT,(bq,(bq,(db,(dq,())))))))) none) (JV a0 a1 a2 (cc,(cT,(bq,(bq,(db,(dq,()))))))))
def jV(a0:ae)(a1:an)(a2:fZ):Option (an×bf×(Int)×(Int)):=jV.b N (jV.j7 N) a0 a1 a2
abbrev oz.bJ:=aY→Int→Int→aY→Int→Option (aY×(Int))
def oz.eo(N:Nat)(bL:oz.bJ)(x0:aY)(x1 x2:Int)(x8:aY)(x9:Int):Option (aY×(Int)):=
 cond (aX x9 (ℓ x0)) (cond (bb x9 (ℓ x0)) (cond (!aN (γ x0 x9.toNat eC).1 x2) (cond (bb x9 (ℓ x0)) (cond (small (ℓ x8+ℓ ([γ x0 x9.toNat eC]))) (bL x0 x1 x2 (x8++([γ x0 x9.toNat eC])) (W .i64 (x9+1))) none) none) (cond (bb x9 (ℓ x0)) (cond (!aN (γ x0 x9.toNat eC).2.1 x1) (cond (bb x9 (ℓ x0)) (cond (small (ℓ x8+ℓ ([γ x0 x9.toNat eC]))) (bL x0 x1 x2 (x8++([γ x0 x9.toNat eC])) (W .i64 (x9+1))) none) none) (bL x0 x1 x2 x8 (W .i64 (x9+1)))) none)) none) (cond (aN (ℓ x8) (ℓ x0)) (some ([],3)) (some (x8,0)))
def oz.l5(N:Nat):Nat→oz.bJ
 |0,_,_,_,_,_=>none
 |n+1,x0,x1,x2,x8,x9=>oz.eo N (oz.l5 N n) x0 x1 x2 x8 x9
def oz.b(e8:oz.bJ)(a0:aY)(a1 a2:Int):Option (aY×(Int)):=
 (Ah N a0).bind λr1=>cond (!r1) (some ([],1)) (e8 a0 a1 a2 ([]) 0)
def oz(a0:aY)(a1 a2:Int):Option (aY×(Int)):=oz.b N (oz.l5 N N) a0 a1 a2
abbrev oB.kt:=au→Int→bO→aL→Int→Option (bO×(Int))
def oB.vu(lD:oB.kt)(x0:au)(x1:Int)(bh:bO)(a7:aL)(bo:Int):Option (bO×(Int)):=
 cond (aX bo (ℓ x0)) (cond (bb bo (ℓ x0)) (cond (!aN (γ x0 bo.toNat bc).2.1 x1) (lD x0 x1 bh a7 (W .i64 (bo+1))) ((T4 N a7).bind λr9=>cond (aN r9 0) (lD x0 x1 bh a7 (W .i64 (bo+1))) (cond (bb bo (ℓ x0)) ((Mm N (γ x0 bo.toNat bc).1).bind λnL=>cond (bb bo (ℓ x0)) ((eI N (γ x0 bo.toNat bc).2.2.1).bind λoQ=>(et N oQ a7).bind λp5=>cond (small (ℓ bh+ℓ ([(nL.1,(nL.2,(p5,())))]))) (lD x0 x1 (bh++([(nL.1,(nL.2,(p5,())))])) a7 (W .i64 (bo+1))) none) none) none))) none) (some (bh,0))
def oB.l6(N:Nat):Nat→oB.kt
 |0,_,_,_,_,_=>none
 |n+1,x0,x1,bh,a7,bo=>oB.vu N (oB.l6 N n) x0 x1 bh a7 bo
def oB.b(xZ:oB.kt)(a0:au)(a1 a2 a3:Int):Option (bO×(Int)):=
 (Af N a0).bind λr1=>cond (!r1) (some ([],1)) ((Xr N a2).bind λr2=>cond (!r2) (some ([],1)) ((Xr N a3).bind λr3=>cond (!r3) (some ([],1)) ((eI N a3).bind λr4=>(eI N a2).bind λr5=>(Bo N r4 r5).bind λr6=>xZ a0 a1 ([]) r6 0)))
def oB(a0:au)(a1 a2 a3:Int):Option (bO×(Int)):=oB.b N (oB.l6 N N) a0 a1 a2 a3
def F52(a0:ae)(a1:an)(a2 a3:Int):Option (an×bO×(Int)):=
 (gH N a0 a1).bind λr1=>cond (!r1) (some ((cc,(cT,(bq,(bq,(db,(dq,())))))),([]:List ((Int)×((Int)×(((Bool)×((List Int)×(Unit)))×(Unit))))),1)) ((Xr N a3).bind λr2=>cond (!r2) (some ((cc,(cT,(bq,(bq,(db,(dq,())))))),([]:List ((Int)×((Int)×(((Bool)×((List Int)×(Unit)))×(Unit))))),1)) (cond (aX a2 0) (some ((cc,(cT,(bq,(bq,(db,(dq,())))))),([]:List ((Int)×((Int)×(((Bool)×((List Int)×(Unit)))×(Unit))))),3)) (cond (du (ℓ a0.1) a2) (some ((cc,(cT,(bq,(bq,(db,(dq,())))))),([]:List ((Int)×((Int)×(((Bool)×((List Int)×(Unit)))×(Unit))))),3)) (cond (bb a2 (ℓ a1.2.2.2.2.1)) ((oB N a1.2.2.2.1 a2 (γ a1.2.2.2.2.1 a2.toNat 0) a3).bind λr3=>(y9 N a1 bq r3.1).bind λr4=>cond (!aN r4.2 0) (some ((cc,(cT,(bq,(bq,(db,(dq,())))))),([]:List ((Int)×((Int)×(((Bool)×((List Int)×(Unit)))×(Unit))))),r4.2)) (cond (small (ℓ db+ℓ a1.2.2.2.2.1)) (let v5:List Int:=db++a1.2.2.2.2.1;cond (bb a2 (ℓ v5)) (some ((r4.1.1,(r4.1.2.1,(r4.1.2.2.1,(r4.1.2.2.2.1,((List.set v5 a2.toNat a3),r4.1.2.2.2.2.2))))),r3.1,0)) none) none)) none))))
abbrev q3.cY:=aE→Int→Option Bool
def q3.fM(N:Nat)(dS:q3.cY)(x0:aE)(x3:Int):Option Bool:=
 cond (aX x3 (ℓ x0)) (cond (bb x3 (ℓ x0)) (cond (aX (γ x0 x3.toNat c8).1 1) (some false) (cond (bb x3 (ℓ x0)) (cond (aX 24 (γ x0 x3.toNat c8).1) (some false) (cond (bb x3 (ℓ x0)) (cond (aN (γ x0 x3.toNat c8).2.1 0) (some false) (cond (aX 0 x3) (cond (bb x3 (ℓ x0)) (let v2:Int:=W .i64 (x3-1);cond (bb v2 (ℓ x0)) (cond (du (γ x0 x3.toNat c8).1 (γ x0 v2.toNat c8).1) (some false) (dS x0 (W .i64 (x3+1)))) none) none) (dS x0 (W .i64 (x3+1))))) none)) none)) none) (some true)
def q3.l2(N:Nat):Nat→q3.cY
 |0,_,_=>none
 |n+1,x0,x3=>q3.fM N (q3.l2 N n) x0 x3
def q3.b(N:Nat)(gT:q3.cY)(a0:aE):Option Bool:=
 gT a0 0
def q3(a0:aE):Option Bool:=q3.b N (q3.l2 N N) a0
abbrev fA.yi:=aE→bO→aE→Int→aL→Int→Option (aE×(Int))
abbrev fA.lF:=aE→bO→aE→Int→aL→Int→Option (aE×(Int))
abbrev fA.bJ:=aE→bO→aE→Int→Option (aE×(Int))
def fA.HQ(bL:fA.bJ)(EE:fA.yi)(x0:aE)(x1:bO)(x6:aE)(x7:Int)(x8:aL)(bh:Int):Option (aE×(Int)):=
 cond (aX bh (ℓ x1)) (cond (bb bh (ℓ x1)) (cond (aN (γ x1 bh.toNat (0,(0,((false,qg),())))).1 5) (cond (bb bh (ℓ x1)) (cond (aN (γ x1 bh.toNat (0,(0,((false,qg),())))).2.1 x7) (cond (bb bh (ℓ x1)) ((nZ N x8 (γ x1 bh.toNat (0,(0,((false,qg),())))).2.2.1).bind λr8=>EE x0 x1 x6 x7 r8 (W .i64 (bh+1))) none) (EE x0 x1 x6 x7 x8 (W .i64 (bh+1)))) none) (EE x0 x1 x6 x7 x8 (W .i64 (bh+1)))) none) ((xB N x8).bind λoQ=>cond (!oQ.2) (some ([],2)) (cond (!aN oQ.1 0) (cond (small (ℓ x6+ℓ ([(x7,(oQ.1,()))]))) (bL x0 x1 (x6++([(x7,(oQ.1,()))])) (W .i64 (x7+1))) none) (bL x0 x1 x6 (W .i64 (x7+1)))))
def fA.KN(N:Nat)(bL:fA.bJ):Nat→fA.yi
 |0,_,_,_,_,_,_=>none
 |n+1,x0,x1,x6,x7,x8,bh=>fA.HQ N bL (fA.KN N bL n) x0 x1 x6 x7 x8 bh
def fA.vz(Qw:fA.yi)(bL:fA.bJ)(oM:fA.lF)(x0:aE)(x1:bO)(x6:aE)(x7:Int)(x8:aL)(x9:Int):Option (aE×(Int)):=
 cond (aX x9 (ℓ x0)) (cond (bb x9 (ℓ x0)) (cond (aN (γ x0 x9.toNat c8).1 x7) (cond (bb x9 (ℓ x0)) ((eI N (γ x0 x9.toNat c8).2.1).bind λr4=>oM x0 x1 x6 x7 r4 (W .i64 (x9+1))) none) (oM x0 x1 x6 x7 x8 (W .i64 (x9+1)))) none) (Qw x0 x1 x6 x7 x8 0)
def fA.l9(N:Nat)(bL:fA.bJ):Nat→fA.lF
 |0,_,_,_,_,_,_=>none
 |n+1,x0,x1,x6,x7,x8,x9=>fA.vz N (fA.KN N bL N) bL (fA.l9 N bL n) x0 x1 x6 x7 x8 x9
def fA.eo(N:Nat)(yb:fA.lF)(bL:fA.bJ)(x0:aE)(x1:bO)(x6:aE)(x7:Int):Option (aE×(Int)):=
 cond (du x7 24) (yb x0 x1 x6 x7 (false,qg) 0) (some (x6,0))
def fA.l5(N:Nat):Nat→fA.bJ
 |0,_,_,_,_=>none
 |n+1,x0,x1,x6,x7=>fA.eo N (fA.l9 N (fA.l5 N n) N) (fA.l5 N n) x0 x1 x6 x7
def fA.b(e8:fA.bJ)(a0:aE)(a1:bO):Option (aE×(Int)):=
 (q3 N a0).bind λr1=>cond (!r1) (some ([],1)) (e8 a0 a1 ([]) 1)
def fA(a0:aE)(a1:bO):Option (aE×(Int)):=fA.b N (fA.l5 N N) a0 a1
def WO(a0:aQ)(a1:Int):Option ((Int)×(Bool)):=
 (eI N a0.1).bind λr1=>(eI N a1).bind λr2=>(nZ N r1 r2).bind λr3=>(xB N r3).bind λr4=>some (r4.1,r4.2)
def Wy(N:Nat)(a0 a1:Int):Option ((Int)×(Bool)):=
 cond (aN a0 0) (cond (aN a1 1) (some (1,true)) (cond (aN a0 1) (cond (aN a1 11) (some (2,true)) (cond (aN a0 2) (cond (aN a1 12) (some (1,true)) (cond (aN a0 2) (cond (aN a1 13) (some (3,true)) (cond (aN a0 3) (cond (aN a1 21) (some (4,true)) (some (0,false))) (some (0,false)))) (cond (aN a0 3) (cond (aN a1 21) (some (4,true)) (some (0,false))) (some (0,false))))) (cond (aN a0 2) (cond (aN a1 13) (some (3,true)) (cond (aN a0 3) (cond (aN a1 21) (some (4,true)) (some (0,false))) (some (0,false)))) (cond (aN a0 3) (cond (aN a1 21) (some (4,true)) (some (0,false))) (some (0,false)))))) (cond (aN a0 2) (cond (aN a1 12) (some (1,true)) (cond (aN a0 2) (cond (aN a1 13) (some (3,true)) (cond (aN a0 3) (cond (aN a1 21) (some (4,true)) (some (0,false))) (some (0,false)))) (cond (aN a0 3) (cond (aN a1 21) (some (4,true)) (some (0,false))) (some (0,false))))) (cond (aN a0 2) (cond (aN a1 13) (some (3,true)) (cond (aN a0 3) (cond (aN a1 21) (some (4,true)) (some (0,false))) (some (0,false)))) (cond (aN a0 3) (cond (aN a1 21) (some (4,true)) (some (0,false))) (some (0,false))))))) (cond (aN a0 1) (cond (aN a1 11) (some (2,true)) (cond (aN a0 2) (cond (aN a1 12) (some (1,true)) (cond (aN a0 2) (cond (aN a1 13) (some (3,true)) (cond (aN a0 3) (cond (aN a1 21) (some (4,true)) (some (0,false))) (some (0,false)))) (cond (aN a0 3) (cond (aN a1 21) (some (4,true)) (some (0,false))) (some (0,false))))) (cond (aN a0 2) (cond (aN a1 13) (some (3,true)) (cond (aN a0 3) (cond (aN a1 21) (some (4,true)) (some (0,false))) (some (0,false)))) (cond (aN a0 3) (cond (aN a1 21) (some (4,true)) (some (0,false))) (some (0,false)))))) (cond (aN a0 2) (cond (aN a1 12) (some (1,true)) (cond (aN a0 2) (cond (aN a1 13) (some (3,true)) (cond (aN a0 3) (cond (aN a1 21) (some (4,true)) (some (0,false))) (some (0,false)))) (cond (aN a0 3) (cond (aN a1 21) (some (4,true)) (some (0,false))) (some (0,false))))) (cond (aN a0 2) (cond (aN a1 13) (some (3,true)) (cond (aN a0 3) (cond (aN a1 21) (some (4,true)) (some (0,false))) (some (0,false)))) (cond (aN a0 3) (cond (aN a1 21) (some (4,true)) (some (0,false))) (some (0,false))))))
abbrev mM.yh:=Int→Int→aE→Int→Option (aE×(Int))
def mM.xK(N:Nat)(Ca:mM.yh)(x1 x9:Int)(a7:aE)(bo:Int):Option (aE×(Int)):=
 cond (aX bo (ℓ a7)) (cond (bb bo (ℓ a7)) (cond (aN (γ a7 bo.toNat c8).1 x1) (cond (bb bo (ℓ a7)) (Ca x1 x9 (List.set a7 bo.toNat ((γ a7 bo.toNat c8).1,(x9,(γ a7 bo.toNat c8).2.2))) (W .i64 (bo+1))) none) (Ca x1 x9 a7 (W .i64 (bo+1)))) none) (some (a7,0))
def mM.zW(N:Nat):Nat→mM.yh
 |0,_,_,_,_=>none
 |n+1,x1,x9,a7,bo=>mM.xK N (mM.zW N n) x1 x9 a7 bo
def mM.b(Qv:mM.yh)(a0:aE)(a1 a2:Int):Option (aE×(Int)):=
 (Ci N a0).bind λr1=>cond (!r1) (some ([],1)) ((Ai N a0 a1).bind λr2=>cond (aN r2 0) (some ([],3)) ((Wy N r2 a2).bind λr3=>cond (!r3.2) (some ([],8)) (cond (small (ℓ cc+ℓ a0)) (Qv a1 r3.1 (cc++a0) 0) none)))
def mM(a0:aE)(a1 a2:Int):Option (aE×(Int)):=mM.b N (mM.zW N N) a0 a1 a2
abbrev sD.bJ:=aO→Int→(List Int)→Int→Option (List Int)
def sD.eo(N:Nat)(bL:sD.bJ)(x0:aO)(x1:Int)(x5:List Int)(x6:Int):Option (List Int):=
 cond (aX x6 (ℓ x0)) (cond (bb x6 (ℓ x0)) (cond (aN (γ x0 x6.toNat ba).2.1 x1) (cond (bb x6 (ℓ x0)) (cond (small (ℓ x5+ℓ ([(γ x0 x6.toNat ba).1]))) (bL x0 x1 (x5++([(γ x0 x6.toNat ba).1])) (W .i64 (x6+1))) none) none) (bL x0 x1 x5 (W .i64 (x6+1)))) none) (some x5)
def sD.l5(N:Nat):Nat→sD.bJ
 |0,_,_,_,_=>none
 |n+1,x0,x1,x5,x6=>sD.eo N (sD.l5 N n) x0 x1 x5 x6
def sD.b(e8:sD.bJ)(a0:aO)(a1:Int):Option (List Int):=
 (mX N a0).bind λr1=>cond (!r1) (some ([])) (e8 a0 a1 ([]) 0)
def sD(a0:aO)(a1:Int):Option (List Int):=sD.b N (sD.l5 N N) a0 a1
abbrev gC.lF:=aY→(List Int)→aY→Int→Bool→Int→Option aY
abbrev gC.bJ:=aY→(List Int)→aY→Int→Option aY
def gC.vz(N:Nat)(bL:gC.bJ)(oM:gC.lF)(x0:aY)(x1:List Int)(x5:aY)(x6:Int)(x7:Bool)(x8:Int):Option aY:=
 cond (aX x8 (ℓ x1)) (cond (x7) (oM x0 x1 x5 x6 true (W .i64 (x8+1))) (cond (bb x8 (ℓ x1)) (cond (bb x6 (ℓ x0)) (oM x0 x1 x5 x6 (aN (γ x1 x8.toNat 0) (γ x0 x6.toNat eC).2.1) (W .i64 (x8+1))) none) none)) (cond (!x7) (cond (bb x6 (ℓ x0)) (cond (small (ℓ x5+ℓ ([γ x0 x6.toNat eC]))) (bL x0 x1 (x5++([γ x0 x6.toNat eC])) (W .i64 (x6+1))) none) none) (bL x0 x1 x5 (W .i64 (x6+1))))
def gC.l9(N:Nat)(bL:gC.bJ):Nat→gC.lF
 |0,_,_,_,_,_,_=>none
 |n+1,x0,x1,x5,x6,x7,x8=>gC.vz N bL (gC.l9 N bL n) x0 x1 x5 x6 x7 x8
def gC.eo(N:Nat)(yb:gC.lF)(bL:gC.bJ)(x0:aY)(x1:List Int)(x5:aY)(x6:Int):Option aY:=
 cond (aX x6 (ℓ x0)) (yb x0 x1 x5 x6 false 0) (some x5)
def gC.l5(N:Nat):Nat→gC.bJ
 |0,_,_,_,_=>none
 |n+1,x0,x1,x5,x6=>gC.eo N (gC.l9 N (gC.l5 N n) N) (gC.l5 N n) x0 x1 x5 x6
def gC.b(e8:gC.bJ)(a0:aY)(a1:List Int):Option aY:=
 (Ah N a0).bind λr1=>cond (!r1) (some ([])) (e8 a0 a1 ([]) 0)
def gC(a0:aY)(a1:List Int):Option aY:=gC.b N (gC.l5 N N) a0 a1
def F54(a0:ae)(a1:an)(a2:Int):Option (an×(Int)):=
 (gH N a0 a1).bind λr1=>cond (!r1) (some ((cc,(cT,(bq,(bq,(db,(dq,())))))),1)) ((Ub N a1.1 a2).bind λr2=>cond (aN r2 0) (some ((cc,(cT,(bq,(bq,(db,(dq,())))))),3)) ((sD N a1.2.1 a2).bind λr3=>(gC N a1.2.2.2.2.2.1 r3).bind λr4=>some ((a1.1,(a1.2.1,(a1.2.2.1,(a1.2.2.2.1,(a1.2.2.2.2.1,(r4,a1.2.2.2.2.2.2)))))),0)))
def Y3(N:Nat)(a0:cF):Option Bool:=
 cond (du 1 a0.1) (cond (du a0.1 1099511627776) (cond (du 1 a0.2.1) (cond (du a0.2.1 1099511627776) (cond (du 1 a0.2.2.1) (cond (du a0.2.2.1 12) (cond (du (-1152921504606846976) a0.2.2.2.1) (some (du a0.2.2.2.1 1152921504606846976)) (some false)) (some false)) (some false)) (some false)) (some false)) (some false)) (some false)
abbrev fe.lF:=aO→Int→Int→Option Bool
abbrev fe.aaT:=aO→Int→Option Bool
abbrev fe.bN:=aO→Int→Option Bool
def fe.vz(N:Nat)(cG:fe.bN)(oM:fe.lF)(x0:aO)(x3 x4:Int):Option Bool:=
 cond (aX x4 x3) (cond (bb x4 (ℓ x0)) (cond (bb x3 (ℓ x0)) (cond (aN (γ x0 x4.toNat ba).2.2.1 (γ x0 x3.toNat ba).2.2.1) (cond (bb x4 (ℓ x0)) (cond (bb x3 (ℓ x0)) (cond (aN (γ x0 x4.toNat ba).2.1 (γ x0 x3.toNat ba).2.1) (some false) (oM x0 x3 (W .i64 (x4+1)))) none) none) (oM x0 x3 (W .i64 (x4+1)))) none) none) (cG x0 (W .i64 (x3+1)))
def fe.l9(N:Nat)(cG:fe.bN):Nat→fe.lF
 |0,_,_,_=>none
 |n+1,x0,x3,x4=>fe.vz N cG (fe.l9 N cG n) x0 x3 x4
def fe.Zd(N:Nat)(yb:fe.lF)(cG:fe.bN)(x0:aO)(x3:Int):Option Bool:=
 yb x0 x3 0
def fe.j8(cG:fe.bN)(x0:aO)(x3:Int):Option Bool:=fe.Zd N (fe.l9 N cG N) cG x0 x3
def fe.dQ(Qp:fe.aaT)(cG:fe.bN)(x0:aO)(x3:Int):Option Bool:=
 cond (aX x3 (ℓ x0)) (cond (bb x3 (ℓ x0)) ((Y3 N (γ x0 x3.toNat ba)).bind λr2=>cond (!r2) (some false) (cond (aX 0 x3) (cond (bb x3 (ℓ x0)) (let v3:Int:=W .i64 (x3-1);cond (bb v3 (ℓ x0)) (cond (du (γ x0 x3.toNat ba).1 (γ x0 v3.toNat ba).1) (some false) (Qp x0 x3)) none) none) (Qp x0 x3))) none) (some true)
def fe.l4(N:Nat):Nat→fe.bN
 |0,_,_=>none
 |n+1,x0,x3=>fe.dQ N (fe.j8 N (fe.l4 N n)) (fe.l4 N n) x0 x3
def fe.b(N:Nat)(ff:fe.bN)(a0:aO):Option Bool:=
 cond (aX 40 (ℓ a0)) (some false) (ff a0 0)
def fe(a0:aO):Option Bool:=fe.b N (fe.l4 N N) a0
abbrev p7.bJ:=aO→Int→aO→Int→Option aO
def p7.eo(N:Nat)(bL:p7.bJ)(x0:aO)(x1:Int)(x5:aO)(x6:Int):Option aO:=
 cond (aX x6 (ℓ x0)) (cond (bb x6 (ℓ x0)) (cond (!aN (γ x0 x6.toNat ba).2.2.1 x1) (cond (bb x6 (ℓ x0)) (cond (small (ℓ x5+ℓ ([γ x0 x6.toNat ba]))) (bL x0 x1 (x5++([γ x0 x6.toNat ba])) (W .i64 (x6+1))) none) none) (bL x0 x1 x5 (W .i64 (x6+1)))) none) (some x5)
def p7.l5(N:Nat):Nat→p7.bJ
 |0,_,_,_,_=>none
 |n+1,x0,x1,x5,x6=>p7.eo N (p7.l5 N n) x0 x1 x5 x6
def p7.b(e8:p7.bJ)(a0:aO)(a1:Int):Option aO:=
 (fe N a0).bind λr1=>cond (!r1) (some ([])) (e8 a0 a1 ([]) 0)
def p7(a0:aO)(a1:Int):Option aO:=p7.b N (p7.l5 N N) a0 a1
def ady(N:Nat)(a0:aQ)(a1:Int):Option Bool:=
 cond (aN a1 14) (cond (aN a0.2.2.2.1.2.1 1) (some (aX a0.1 a0.2.2.2.1.2.2.1)) (some false)) (cond (aN a1 15) (cond (aN a0.2.2.2.1.2.1 1) (some (du a0.2.2.2.1.2.2.1 a0.1)) (some false)) (cond (aN a1 19) (cond (aN a0.2.2.2.1.2.1 3) (some (aX a0.1 a0.2.2.2.1.2.2.1)) (some false)) (cond (aN a1 20) (cond (aN a0.2.2.2.1.2.1 3) (some (du a0.2.2.2.1.2.2.1 a0.1)) (some false)) (some (aN a0.2.2.2.1.2.1 2)))))
def MF(a0:an)(a1:Int):Option Int:=
 (Ub N a0.1 a1).bind λr1=>some r1
abbrev qw.bJ:=aE→Bool→ae→aL→aL→Int→Option (aL×(Int))
def qw.eo(bL:qw.bJ)(x1:aE)(x2:Bool)(x3:ae)(x6 x8:aL)(x9:Int):Option (aL×(Int)):=
 cond (aX x9 (ℓ x1)) (cond (bb x9 (ℓ x1)) (cond (bb (γ x1 x9.toNat c8).1 (ℓ x3.1)) (cond (x2) (cond (bb x9 (ℓ x1)) (cond (bb (γ x1 x9.toNat c8).1 (ℓ x3.1)) (cond (bb x9 (ℓ x1)) ((eI N (γ x1 x9.toNat c8).2.1).bind λr3=>(Hg N r3).bind λr4=>(eI N (γ x3.1 (γ x1 x9.toNat c8).1.toNat ba).2.2.2.1).bind λr5=>(et N r4 r5).bind λr6=>(nZ N x8 r6).bind λr7=>bL x1 x2 x3 x6 r7 (W .i64 (x9+1))) none) none) none) (cond (bb x9 (ℓ x1)) ((eI N (γ x1 x9.toNat c8).2.1).bind λr9=>(Hg N r9).bind λkM=>(eI N (γ x3.1 (γ x1 x9.toNat c8).1.toNat ba).2.2.1).bind λnL=>(et N kM nL).bind λoQ=>(nZ N x8 oQ).bind λp5=>bL x1 x2 x3 x6 p5 (W .i64 (x9+1))) none)) none) none) (some (x8,0))
def qw.l5(N:Nat):Nat→qw.bJ
 |0,_,_,_,_,_,_=>none
 |n+1,x1,x2,x3,x6,x8,x9=>qw.eo N (qw.l5 N n) x1 x2 x3 x6 x8 x9
def qw.b(e8:qw.bJ)(a0:ae)(a1:aE)(a2:Bool):Option (aL×(Int)):=
 (oi N a0 a1).bind λr1=>cond (!r1) (some ((false,qg),1)) (e8 a1 a2 a0 (false,qg) (false,qg) 0)
def qw(a0:ae)(a1:aE)(a2:Bool):Option (aL×(Int)):=qw.b N (qw.l5 N N) a0 a1 a2
def ak7(a0:ae)(a1:aE):Option (aL×(Int)):=
 (qw N a0 a1 false).bind λr1=>some (r1.1,r1.2)
def SN(a0:an)(a1:Int):Option Int:=
 (uY N a0.2.2.1 5 a1).bind λr1=>some r1
def adk(a0:ae)(a1:an)(a2 a3 a4:Int):Option Int:=
 (gH N a0 a1).bind λr1=>cond (!r1) (some 1) ((ET N a1.2.1 a4).bind λr2=>cond (!r2.2) (some 3) ((MF N a1 a2).bind λr3=>cond (aN r3 0) (some 3) ((MF N a1 a3).bind λr4=>cond (aN r4 0) (some 3) (cond (!aN r2.1.2.1 a2) (some 8) (cond (!aN r2.1.2.2.1 2) (some 8) ((MF N a1 a3).bind λr5=>cond (!aN r5 1) (some 7) ((mK N a1.2.2.2.1 a4).bind λr6=>(ak7 N a0 r6).bind λr7=>(SN N a1 a4).bind λr8=>(eI N r8).bind λr9=>(y8 N r9 r7.1).bind λkM=>cond (aX kM 0) (some 10) (some 0))))))))
abbrev oy.fR:=Int→Int→aO→Int→Option (aO×(Int))
def oy.lz(N:Nat)(gK:oy.fR)(x2 x3:Int)(cf:aO)(cZ:Int):Option (aO×(Int)):=
 cond (aX cZ (ℓ cf)) (cond (bb cZ (ℓ cf)) (cond (aN (γ cf cZ.toNat ba).1 x2) (cond (bb cZ (ℓ cf)) (gK x2 x3 (List.set cf cZ.toNat ((γ cf cZ.toNat ba).1,(x3,(γ cf cZ.toNat ba).2.2))) (W .i64 (cZ+1))) none) (gK x2 x3 cf (W .i64 (cZ+1)))) none) (some (cf,0))
def oy.mw(N:Nat):Nat→oy.fR
 |0,_,_,_,_=>none
 |n+1,x2,x3,cf,cZ=>oy.lz N (oy.mw N n) x2 x3 cf cZ
def oy.b(sU:oy.fR)(a0:aE)(a1:aO)(a2 a3:Int):Option (aO×(Int)):=
 (CR N a0 a1).bind λr1=>cond (!r1) (some ([],1)) ((oK N a1 a2).bind λr2=>(Ai N a0 a3).bind λr3=>cond (!r2.2) (some ([],3)) (cond (aN r3 0) (some ([],3)) (cond (!aN r2.1.2.2.1 2) (some ([],8)) (cond (!aN r3 1) (some ([],7)) (cond (small (ℓ cT+ℓ a1)) (sU a2 a3 (cT++a1) 0) none)))))
def oy(a0:aE)(a1:aO)(a2 a3:Int):Option (aO×(Int)):=oy.b N (oy.mw N N) a0 a1 a2 a3
def WC(a0:ae)(a1:an)(a2 a3 a4:Int):Option (an×(Int)):=
 (adk N a0 a1 a2 a3 a4).bind λr1=>cond (!aN r1 0) (some ((cc,(cT,(bq,(bq,(db,(dq,())))))),r1)) ((oy N a1.1 a1.2.1 a4 a3).bind λr2=>cond (!aN r2.2 0) (some ((cc,(cT,(bq,(bq,(db,(dq,())))))),r2.2)) (some ((a1.1,(r2.1,a1.2.2)),0)))
def Z3(a0:ae)(a1:aE):Option (aL×(Int)):=
 (qw N a0 a1 true).bind λr1=>some (r1.1,r1.2)
def adv(a0:ae)(a1:an)(a2:Int):Option ((Int)×(Int)):=
 (gH N a0 a1).bind λr1=>cond (!r1) (some (0,1)) ((ET N a1.2.1 a2).bind λr2=>cond (!r2.2) (some (0,3)) ((mK N a1.2.2.2.1 a2).bind λr3=>(Z3 N a0 r3).bind λr4=>(SN N a1 a2).bind λr5=>cond (du r5 0) (some (0,0)) ((xB N r4.1).bind λr6=>cond (r6.2) (cond (aX r6.1 r5) (some (r6.1,0)) (some (r5,0))) (some (r5,0)))))
abbrev nE.bJ:=au→Int→Int→au→Int→Option au
def nE.eo(N:Nat)(bL:nE.bJ)(x0:au)(x1 x2:Int)(x7:au)(x8:Int):Option au:=
 cond (aX x8 (ℓ x0)) (cond (bb x8 (ℓ x0)) (cond (aN (γ x0 x8.toNat bc).1 x1) (cond (bb x8 (ℓ x0)) (cond (bb x8 (ℓ x0)) (let v3:Int:=W .i64 (0-((γ x0 x8.toNat bc).2.2.1));cond (bb x8 (ℓ x0)) (cond (bb x8 (ℓ x0)) (cond (small (ℓ x7+ℓ ([(x1,((γ x0 x8.toNat bc).2.1,(v3,()))),(x2,((γ x0 x8.toNat bc).2.1,((γ x0 x8.toNat bc).2.2.1,())))]))) (bL x0 x1 x2 (x7++([(x1,((γ x0 x8.toNat bc).2.1,(v3,()))),(x2,((γ x0 x8.toNat bc).2.1,((γ x0 x8.toNat bc).2.2.1,())))])) (W .i64 (x8+1))) none) none) none) none) none) (bL x0 x1 x2 x7 (W .i64 (x8+1)))) none) (some x7)
def nE.l5(N:Nat):Nat→nE.bJ
 |0,_,_,_,_,_=>none
 |n+1,x0,x1,x2,x7,x8=>nE.eo N (nE.l5 N n) x0 x1 x2 x7 x8
def nE.b(e8:nE.bJ)(a0:au)(a1 a2:Int):Option au:=
 (Af N a0).bind λr1=>cond (!r1) (some ([])) (cond (aN a1 a2) (some ([])) (cond (aX a1 0) (some ([])) (cond (aX 24 a1) (some ([])) (cond (aX a2 0) (some ([])) (cond (aX 24 a2) (some ([])) (e8 a0 a1 a2 ([]) 0))))))
def nE(a0:au)(a1 a2:Int):Option au:=nE.b N (nE.l5 N N) a0 a1 a2
abbrev gY.IM:=Int→ae→an→an→au→bO→Int→cF→Option (an×(Int))
abbrev gY.jY:=Int→ae→an→an→au→bO→Int→Option (an×(Int))
def gY.wI(gD:gY.jY)(x2:Int)(x3:ae)(x4 x6:an)(x8:au)(x9:bO)(bh:Int)(a7:cF):Option (an×(Int)):=
 (SN N x4 a7.1).bind λkM=>cond (aX kM 0) ((eI N kM).bind λnL=>(ES N nL).bind λoQ=>(Dd N 2 0 5 a7.1 oQ).bind λp5=>cond (small (ℓ x9+ℓ p5)) ((nE N x4.2.2.2.1 a7.1 0).bind λwk=>cond (small (ℓ x8+ℓ wk)) (gD x2 x3 x4 x6 (x8++wk) (x9++p5) (W .i64 (bh+1))) none) none) ((nE N x4.2.2.2.1 a7.1 0).bind λya=>cond (small (ℓ x8+ℓ ya)) (gD x2 x3 x4 x6 (x8++ya) x9 (W .i64 (bh+1))) none)
def gY.Da(gD:gY.jY)(x2:Int)(x3:ae)(x4 x6:an)(x8:au)(x9:bO)(bh:Int)(a7:cF):Option (an×(Int)):=gY.wI N gD x2 x3 x4 x6 x8 x9 bh a7
def gY.D4(wq:gY.IM)(gD:gY.jY)(x2:Int)(x3:ae)(x4 x6:an)(x8:au)(x9:bO)(bh:Int):Option (an×(Int)):=
 cond (aX bh (ℓ x4.2.1)) (cond (bb bh (ℓ x4.2.1)) (cond (!aN (γ x4.2.1 bh.toNat ba).2.1 x2) (gD x2 x3 x4 x6 x8 x9 (W .i64 (bh+1))) (cond (aN (γ x4.2.1 bh.toNat ba).2.2.1 2) ((adv N x3 x4 (γ x4.2.1 bh.toNat ba).1).bind λr5=>(eI N r5.1).bind λr6=>(Dd N 5 (γ x4.2.1 bh.toNat ba).1 2 0 r6).bind λr7=>cond (small (ℓ x9+ℓ r7)) (wq x2 x3 x4 x6 x8 (x9++r7) bh (γ x4.2.1 bh.toNat ba)) none) (wq x2 x3 x4 x6 x8 x9 bh (γ x4.2.1 bh.toNat ba)))) none) ((y9 N x4 x8 x9).bind λFM=>some (FM.1,FM.2))
def gY.l8(N:Nat):Nat→gY.jY
 |0,_,_,_,_,_,_,_=>none
 |n+1,x2,x3,x4,x6,x8,x9,bh=>gY.D4 N (gY.Da N (gY.l8 N n)) (gY.l8 N n) x2 x3 x4 x6 x8 x9 bh
def gY.b(IL:gY.jY)(a0:ae)(a1:an)(a2:Int):Option (an×(Int)):=
 (gH N a0 a1).bind λr1=>cond (!r1) (some ((cc,(cT,(bq,(bq,(db,(dq,())))))),1)) ((MF N a1 a2).bind λr2=>cond (aN r2 0) (some ((cc,(cT,(bq,(bq,(db,(dq,())))))),3)) (IL a2 a0 a1 (cc,(cT,(bq,(bq,(db,(dq,())))))) ([]) ([]) 0))
def gY(a0:ae)(a1:an)(a2:Int):Option (an×(Int)):=gY.b N (gY.l8 N N) a0 a1 a2
abbrev sB.bJ:=ae→an→p6→Int→Option (p6×(Int))
def sB.eo(bL:sB.bJ)(x2:ae)(x3:an)(x6:p6)(x7:Int):Option (p6×(Int)):=
 cond (aX x7 (ℓ x2.1)) (cond (bb x7 (ℓ x2.1)) (cond (bb (γ x2.1 x7.toNat ba).1 (ℓ x6)) ((Cj N x3.2.2.2.1 0 x7).bind λr4=>(eI N r4).bind λr5=>cond (bb x7 (ℓ x3.2.2.2.2.1)) ((eI N (γ x3.2.2.2.2.1 x7.toNat 0)).bind λr6=>(et N r5 r6).bind λr7=>(nZ N (γ x6 (γ x2.1 x7.toNat ba).1.toNat (false,qg)) r7).bind λr8=>cond (bb (γ x2.1 x7.toNat ba).1 (ℓ x6)) (bL x2 x3 (List.set x6 (γ x2.1 x7.toNat ba).1.toNat r8) (W .i64 (x7+1))) none) none) none) none) (some (x6,0))
def sB.l5(N:Nat):Nat→sB.bJ
 |0,_,_,_,_=>none
 |n+1,x2,x3,x6,x7=>sB.eo N (sB.l5 N n) x2 x3 x6 x7
def sB.b(e8:sB.bJ)(a0:ae)(a1:an):Option (p6×(Int)):=
 (gH N a0 a1).bind λr1=>cond (!r1) (some ([],1)) (cond (kU 4 4) (e8 a0 a1 (List.replicate (4:Int).toNat (false,qg)) 0) none)
def sB(a0:ae)(a1:an):Option (p6×(Int)):=sB.b N (sB.l5 N N) a0 a1
abbrev pX.bJ:=Int→ae→(List Int)→Int→Option (List Int)
def pX.eo(N:Nat)(bL:pX.bJ)(x1:Int)(x2:ae)(x5:List Int)(x6:Int):Option (List Int):=
 cond (aX x6 (ℓ x2.1)) (cond (bb x6 (ℓ x2.1)) (cond (aN (γ x2.1 x6.toNat ba).1 x1) (cond (small (ℓ x5+ℓ ([x6]))) (bL x1 x2 (x5++([x6])) (W .i64 (x6+1))) none) (bL x1 x2 x5 (W .i64 (x6+1)))) none) (some x5)
def pX.l5(N:Nat):Nat→pX.bJ
 |0,_,_,_,_=>none
 |n+1,x1,x2,x5,x6=>pX.eo N (pX.l5 N n) x1 x2 x5 x6
def pX.b(e8:pX.bJ)(a0:ae)(a1:Int):Option (List Int):=
 (zP N a0).bind λr1=>cond (!r1) (some ([])) (e8 a1 a0 ([]) 0)
def pX(a0:ae)(a1:Int):Option (List Int):=pX.b N (pX.l5 N N) a0 a1
abbrev qn.bN:=(List Int)→(List Int)→Int→Int→Option ((List Int)×(Int))
def qn.dQ(cG:qn.bN)(x0 x4:List Int)(x5 x6:Int):Option ((List Int)×(Int)):=
 cond (du 0 x6) (cond (aX 32 0) none (cond (bb x6 (ℓ x0)) (let v5:Int:=rQ .or .u64 (W .u64 (shl .u64 x5 32)) (γ x0 x6.toNat 0);cond (aX 1 0) none (cond (bb x6 (ℓ x4)) (cG x0 (List.set x4 x6.toNat (shr .u64 v5 1)) (rQ .and .u64 v5 1) (W .i64 (x6-1))) none)) none)) ((oY N x4).bind λkM=>some (kM,x5))
def qn.l4(N:Nat):Nat→qn.bN
 |0,_,_,_,_=>none
 |n+1,x0,x4,x5,x6=>qn.dQ N (qn.l4 N n) x0 x4 x5 x6
def qn.b(N:Nat)(ff:qn.bN)(a0:List Int):Option ((List Int)×(Int)):=
 cond (kU (ℓ a0) (ℓ a0)) (ff a0 (List.replicate (ℓ a0:Int).toNat 0) 0 (W .i64 ((ℓ a0:Int)-1))) none
def qn(a0:List Int):Option ((List Int)×(Int)):=qn.b N (qn.l4 N N) a0
abbrev je.lF:=aL→aL→aL→aL→(List Int)→aL→aL→Int→Option (aL×aL)
abbrev je.dM:=aL→aL→aL→aL→(List Int)→(List Int)→Option (aL×aL)
def je.vz(oM:je.lF)(x2 x3:aL)(x4 x5:aL)(x6:List Int)(bh a7:aL)(bo:Int):Option (aL×aL):=
 cond (du 0 bo) ((nZ N bh bh).bind λr6=>(nZ N a7 a7).bind λr7=>cond (bb bo (ℓ x6)) (cond (aN (γ x6 bo.toNat 0) 1) ((eI N 1).bind λr8=>(nZ N r7 r8).bind λr9=>(y8 N r9 x3).bind λkM=>cond (du 0 kM) ((Bo N r9 x3).bind λnL=>(eI N 1).bind λoQ=>(nZ N r6 oQ).bind λp5=>oM x2 x3 x4 x5 x6 p5 nL (W .i64 (bo-1))) (oM x2 x3 x4 x5 x6 r6 r9 (W .i64 (bo-1)))) ((y8 N r7 x3).bind λwH=>cond (du 0 wH) ((Bo N r7 x3).bind λxR=>(eI N 1).bind λya=>(nZ N r6 ya).bind λJZ=>oM x2 x3 x4 x5 x6 JZ xR (W .i64 (bo-1))) (oM x2 x3 x4 x5 x6 r6 r7 (W .i64 (bo-1))))) none) (cond (!x2.1) (some (bh,a7)) ((T4 N a7).bind λMY=>cond (aN MY 0) ((ES N bh).bind λEB=>some (EB,a7)) ((ES N bh).bind λNn=>(eI N 1).bind λJd=>(Bo N Nn Jd).bind λED=>(Bo N x3 a7).bind λQq=>some (ED,Qq))))
def je.l9(N:Nat):Nat→je.lF
 |0,_,_,_,_,_,_,_,_=>none
 |n+1,x2,x3,x4,x5,x6,bh,a7,bo=>je.vz N (je.l9 N n) x2 x3 x4 x5 x6 bh a7 bo
def je.nr(yb:je.lF)(dt:je.dM)(x2 x3:aL)(x4 x5:aL)(x6 x7:List Int):Option (aL×aL):=
 cond (aX 0 (ℓ x7)) ((qn N x7).bind λr2=>cond (small (ℓ x6+ℓ ([r2.2]))) (dt x2 x3 x4 x5 (x6++([r2.2])) r2.1) none) (yb x2 x3 x4 x5 x6 (false,qg) (false,qg) (W .i64 ((ℓ x6:Int)-1)))
def je.l3(N:Nat):Nat→je.dM
 |0,_,_,_,_,_,_=>none
 |n+1,x2,x3,x4,x5,x6,x7=>je.nr N (je.l9 N N) (je.l3 N n) x2 x3 x4 x5 x6 x7
def je.b(N:Nat)(oF:je.dM)(a0 a1:aL):Option (aL×aL):=
 oF a0 a1 (false,qg) (false,qg) ([]) a0.2.1
def je(a0 a1:aL):Option (aL×aL):=je.b N (je.l3 N N) a0 a1
abbrev jH.IM:=Int→ae→an→p6→aO→Int→(List Int)→Int→Option (aO×(Int))
abbrev jH.kt:=Int→ae→an→p6→aO→Int→Option (aO×(Int))
def jH.wI(lD:jH.kt)(x2:Int)(x3:ae)(x4:an)(x8:p6)(bh:aO)(a7:Int)(bo:List Int)(fE:Int):Option (aO×(Int)):=
 cond (aN fE 0) (lD x2 x3 x4 x8 bh (W .i64 (a7+1))) (cond (bb 0 (ℓ bo)) (cond (bb a7 (ℓ x8)) ((T4 N (γ x8 a7.toNat (false,qg))).bind λtZ=>cond (aX 0 tZ) (cond (small (ℓ bh+ℓ ([(x2,(γ bo (0:Int).toNat 0,(2,(fE,()))))]))) (lD (W .i64 (x2+1)) x3 x4 x8 (bh++([(x2,(γ bo (0:Int).toNat 0,(2,(fE,()))))])) (W .i64 (a7+1))) none) (cond (small (ℓ bh+ℓ ([(x2,(γ bo (0:Int).toNat 0,(1,(fE,()))))]))) (lD (W .i64 (x2+1)) x3 x4 x8 (bh++([(x2,(γ bo (0:Int).toNat 0,(1,(fE,()))))])) (W .i64 (a7+1))) none)) none) none)
def jH.Da(lD:jH.kt)(x2:Int)(x3:ae)(x4:an)(x8:p6)(bh:aO)(a7:Int)(bo:List Int)(fE:Int):Option (aO×(Int)):=jH.wI N lD x2 x3 x4 x8 bh a7 bo fE
def jH.vu(wq:jH.IM)(lD:jH.kt)(x2:Int)(x3:ae)(x4:an)(x8:p6)(bh:aO)(a7:Int):Option (aO×(Int)):=
 cond (aX a7 4) ((pX N x3 a7).bind λr3=>cond (bb a7 (ℓ x8)) ((Hg N (γ x8 a7.toNat (false,qg))).bind λr4=>cond (aN (ℓ r3) 0) (lD x2 x3 x4 x8 bh (W .i64 (a7+1))) ((eI N x3.2.2.2.2.2.2.1).bind λr6=>(y8 N r4 r6).bind λr7=>cond (du r7 0) (lD x2 x3 x4 x8 bh (W .i64 (a7+1))) (cond (bb 0 (ℓ r3)) (cond (bb (γ r3 (0:Int).toNat 0) (ℓ x4.2.2.2.2.1)) ((eI N (γ x4.2.2.2.2.1 (γ r3 (0:Int).toNat 0).toNat 0)).bind λr9=>(je N r4 r9).bind λkM=>(xB N kM.1).bind λnL=>cond (!nL.2) (wq x2 x3 x4 x8 bh a7 r3 1000000000) (cond (aX 1000000000 nL.1) (wq x2 x3 x4 x8 bh a7 r3 1000000000) (wq x2 x3 x4 x8 bh a7 r3 nL.1))) none) none))) none) (some (bh,0))
def jH.l6(N:Nat):Nat→jH.kt
 |0,_,_,_,_,_,_=>none
 |n+1,x2,x3,x4,x8,bh,a7=>jH.vu N (jH.Da N (jH.l6 N n)) (jH.l6 N n) x2 x3 x4 x8 bh a7
def jH.b(xZ:jH.kt)(a0:ae)(a1:an)(a2:Int):Option (aO×(Int)):=
 (sB N a0 a1).bind λr1=>cond (!aN r1.2 0) (some ([],1)) (cond (aX a2 1) (some ([],1)) (cond (aX 1099511627772 a2) (some ([],1)) (xZ a2 a0 a1 r1.1 ([]) 0)))
def jH(a0:ae)(a1:an)(a2:Int):Option (aO×(Int)):=jH.b N (jH.l6 N N) a0 a1 a2
def ac2(N:Nat)(a0:cF):Option Bool:=
 cond (du 1 a0.1) (cond (du a0.1 1099511627776) (cond (du 0 a0.2.1) (cond (aX a0.2.1 6) (cond (aN a0.2.2.1 1) (cond (du 1 a0.2.2.2.1) (some (du a0.2.2.2.1 1000000000)) (some false)) (cond (aN a0.2.2.1 2) (cond (du 1 a0.2.2.2.1) (some (du a0.2.2.2.1 1000000000)) (some false)) (some false))) (some false)) (some false)) (some false)) (some false)
abbrev qv.aqI:=Int→ae→an→cF→an→cF→ir→Option (an×cF×(Int))
def qv.ac9(x4:Int)(x6:ae)(x7:an)(x8:cF)(bo:an)(cf:cF)(gh:ir):Option (an×cF×(Int)):=
 (nK N x6 x7 ([gh])).bind λr6=>cond (!aN r6.2 0) (some ((cc,(cT,(bq,(bq,(db,(dq,())))))),ba,r6.2)) (some (r6.1,(x8.1,(x8.2.1,(x8.2.2.1,((W .i64 (x8.2.2.2.1-x4)),x8.2.2.2.2)))),0))
def qv.j14(x4:Int)(x6:ae)(x7:an)(x8:cF)(bo:an)(cf:cF)(gh:ir):Option (an×cF×(Int)):=qv.ac9 N x4 x6 x7 x8 bo cf gh
def qv.b(aiS:qv.aqI)(a0:ae)(a1:an)(a2:cF)(a3 a4 a5:Int):Option (an×cF×(Int)):=
 (gH N a0 a1).bind λr1=>cond (!r1) (some ((cc,(cT,(bq,(bq,(db,(dq,())))))),ba,1)) ((ac2 N a2).bind λr2=>cond (!r2) (some ((cc,(cT,(bq,(bq,(db,(dq,())))))),ba,1)) (cond (aX a4 1) (some ((cc,(cT,(bq,(bq,(db,(dq,())))))),ba,1)) (cond (aX 1000000000 a4) (some ((cc,(cT,(bq,(bq,(db,(dq,())))))),ba,1)) (cond (aX a5 1) (some ((cc,(cT,(bq,(bq,(db,(dq,())))))),ba,1)) (cond (aX 1000000000000 a5) (some ((cc,(cT,(bq,(bq,(db,(dq,())))))),ba,1)) (cond (aX a2.2.2.2.1 a4) (some ((cc,(cT,(bq,(bq,(db,(dq,())))))),ba,9)) (cond (aX a3 1) (some ((cc,(cT,(bq,(bq,(db,(dq,())))))),ba,1)) (cond (aX 24 a3) (some ((cc,(cT,(bq,(bq,(db,(dq,())))))),ba,1)) ((ZM N a0 a1 (a2.1,(a3,(a2.2.1,((W .i64 (3-a2.2.2.1)),(a4,(a5,()))))))).bind λr4=>cond (!aN r4 0) (some ((cc,(cT,(bq,(bq,(db,(dq,())))))),ba,r4)) (cond (aN a2.2.2.1 2) (aiS a4 a0 a1 a2 (cc,(cT,(bq,(bq,(db,(dq,())))))) ba (a3,(0,(a2.2.1,(a4,(a5,())))))) (aiS a4 a0 a1 a2 (cc,(cT,(bq,(bq,(db,(dq,())))))) ba (0,(a3,(a2.2.1,(a4,(a5,()))))))))))))))))
def qv(a0:ae)(a1:an)(a2:cF)(a3 a4 a5:Int):Option (an×cF×(Int)):=qv.b N (qv.j14 N) a0 a1 a2 a3 a4 a5
abbrev oD.bJ:=ae→aQ→ix→aQ→dd→aO→Bool→Int→Int→Option (aQ×dd)
def oD.eo(bL:oD.bJ)(x3:ae)(x4:aQ)(x5:ix)(x6:aQ)(x7:dd)(x8:aO)(x9:Bool)(bh a7:Int):Option (aQ×dd):=
 cond (aX a7 (ℓ x4.2.2.2.1.2.2.2.2.1)) (cond (bb a7 (ℓ x4.2.2.2.1.2.2.2.2.1)) (cond (aN (γ x4.2.2.2.1.2.2.2.2.1 a7.toNat ba).1 x5.2.2.2.2.2.1) ((qv N x3 x4.2.2.1 (γ x4.2.2.2.1.2.2.2.2.1 a7.toNat ba) x5.2.2.1 x5.2.2.2.2.2.2.1 x5.2.2.2.2.2.2.2.1).bind λr2=>cond (!aN r2.2.2 0) ((gd N r2.2.2).bind λr3=>some (x4,r3)) (cond (aX 0 r2.2.1.2.2.2.1) (cond (small (ℓ x8+ℓ ([r2.2.1]))) (bL x3 (x4.1,(x4.2.1,(r2.1,x4.2.2.2))) x5 x6 x7 (x8++([r2.2.1])) true r2.2.1.2.2.2.1 (W .i64 (a7+1))) none) (bL x3 (x4.1,(x4.2.1,(r2.1,x4.2.2.2))) x5 x6 x7 x8 true r2.2.1.2.2.2.1 (W .i64 (a7+1))))) (cond (aX 0 (γ x4.2.2.2.1.2.2.2.2.1 a7.toNat ba).2.2.2.1) (cond (small (ℓ x8+ℓ ([γ x4.2.2.2.1.2.2.2.2.1 a7.toNat ba]))) (bL x3 x4 x5 x6 x7 (x8++([γ x4.2.2.2.1.2.2.2.2.1 a7.toNat ba])) x9 bh (W .i64 (a7+1))) none) (bL x3 x4 x5 x6 x7 x8 x9 bh (W .i64 (a7+1))))) none) (cond (!x9) ((gd N 3).bind λkM=>some (x4,kM)) (some ((x4.1,(x4.2.1,(x4.2.2.1,((x4.2.2.2.1.1,(x4.2.2.2.1.2.1,(x4.2.2.2.1.2.2.1,(x4.2.2.2.1.2.2.2.1,(x8,x4.2.2.2.1.2.2.2.2.2))))),x4.2.2.2.2)))),(0,(0,(bh,()))))))
def oD.l5(N:Nat):Nat→oD.bJ
 |0,_,_,_,_,_,_,_,_,_=>none
 |n+1,x3,x4,x5,x6,x7,x8,x9,bh,a7=>oD.eo N (oD.l5 N n) x3 x4 x5 x6 x7 x8 x9 bh a7
def oD.b(N:Nat)(e8:oD.bJ)(a0:ae)(a1:aQ)(a2:ix):Option (aQ×dd):=
 e8 a0 a1 a2 (0,(0,((cc,(cT,(bq,(bq,(db,(dq,())))))),((0,(0,(0,(0,(cT,(([]:List ((Int)×((List ((Int)×((Int)×(Unit))))×((Int)×((Int)×((Int)×((Int)×(Unit)))))))),(cT,(db,(cc,(cc,())))))))))),((0,(0,(EG,(0,())))),()))))) bc ([]) false 0 0
def oD(a0:ae)(a1:aQ)(a2:ix):Option (aQ×dd):=oD.b N (oD.l5 N N) a0 a1 a2
abbrev sE.bN:=Int→aL→Int→Option Int
def sE.dQ(cG:sE.bN)(x1:Int)(x2:aL)(x5:Int):Option Int:=
 cond (aX x5 3) ((eI N x5).bind λr3=>(eI N x1).bind λr4=>(et N r3 r4).bind λr5=>(y8 N r5 x2).bind λr6=>cond (aX r6 0) (cG x1 x2 (W .i64 (x5+1))) (some x5)) (some x5)
def sE.l4(N:Nat):Nat→sE.bN
 |0,_,_,_=>none
 |n+1,x1,x2,x5=>sE.dQ N (sE.l4 N n) x1 x2 x5
def sE.b(ff:sE.bN)(a0:aL)(a1:Int):Option Int:=
 (T4 N a0).bind λr1=>cond (du r1 0) (some 0) (cond (aX a1 1) (some 0) (ff a1 a0 1))
def sE(a0:aL)(a1:Int):Option Int:=sE.b N (sE.l4 N N) a0 a1
abbrev qt.bN:=(List Int)→Int→Option Bool
def qt.dQ(N:Nat)(cG:qt.bN)(x1:List Int)(x5:Int):Option Bool:=
 cond (aX x5 (ℓ x1)) (cond (bb x5 (ℓ x1)) (cond (aX (γ x1 x5.toNat 0) 0) (some true) (cG x1 (W .i64 (x5+1)))) none) (some false)
def qt.l4(N:Nat):Nat→qt.bN
 |0,_,_=>none
 |n+1,x1,x5=>qt.dQ N (qt.l4 N n) x1 x5
def qt.b(N:Nat)(ff:qt.bN)(a0:Int)(a1:List Int):Option Bool:=
 cond (aX a0 0) (some true) (cond (aX 64 (ℓ a1)) (some true) (ff a1 0))
def qt(a0:Int)(a1:List Int):Option Bool:=qt.b N (qt.l4 N N) a0 a1
abbrev qm.dM:=(List Int)→aL→aL→Int→Option aL
def qm.nr(dt:qm.dM)(x0:List Int)(x2 x3:aL)(x4:Int):Option aL:=
 cond (aX x4 (ℓ x0)) (cond (bb x4 (ℓ x0)) ((eI N (γ x0 x4.toNat 0)).bind λr2=>(nZ N x3 r2).bind λr3=>dt x0 x2 r3 (W .i64 (x4+1))) none) (some x3)
def qm.l3(N:Nat):Nat→qm.dM
 |0,_,_,_,_=>none
 |n+1,x0,x2,x3,x4=>qm.nr N (qm.l3 N n) x0 x2 x3 x4
def qm.b(N:Nat)(oF:qm.dM)(a0:List Int):Option aL:=
 oF a0 (false,qg) (false,qg) 0
def qm(a0:List Int):Option aL:=qm.b N (qm.l3 N N) a0
abbrev gk.aaT:=(List Int)→(List Int)→Int→Int→Option (List Int)
abbrev gk.kt:=(List Int)→(List Int)→Int→Int→Option (List Int)
abbrev gk.dM:=(List Int)→(List Int)→Int→Option (List Int)
def gk.Zd(N:Nat)(dt:gk.dM)(x0 x3:List Int)(x4 x5:Int):Option (List Int):=
 cond (ja 0 x5 (ℓ x3) (ℓ x3)) (let v5:List Int:=List.drop (0:Int).toNat (List.take x5.toNat x3);cond (small (ℓ v5)) (cond (small (ℓ v5+ℓ ([x4]))) (let v6:List Int:=v5++([x4]);cond (ja x5 (ℓ x3) (ℓ x3) (ℓ x3)) (let v7:List Int:=List.drop x5.toNat (List.take (ℓ x3:Int).toNat x3);cond (small (ℓ v6+ℓ v7)) (dt x0 (v6++v7) (W .i64 (x4+1))) none) none) none) none) none
def gk.j8(dt:gk.dM)(x0 x3:List Int)(x4 x5:Int):Option (List Int):=gk.Zd N dt x0 x3 x4 x5
def gk.vu(N:Nat)(Qp:gk.aaT)(dt:gk.dM)(lD:gk.kt)(x0 x3:List Int)(x4 x5:Int):Option (List Int):=
 cond (aX x5 (ℓ x3)) (cond (bb x5 (ℓ x3)) (cond (bb (γ x3 x5.toNat 0) (ℓ x0)) (cond (bb x4 (ℓ x0)) (cond (du (γ x0 x4.toNat 0) (γ x0 (γ x3 x5.toNat 0).toNat 0)) (lD x0 x3 x4 (W .i64 (x5+1))) (Qp x0 x3 x4 x5)) none) none) none) (Qp x0 x3 x4 x5)
def gk.l6(N:Nat)(dt:gk.dM):Nat→gk.kt
 |0,_,_,_,_=>none
 |n+1,x0,x3,x4,x5=>gk.vu N (gk.j8 N dt) dt (gk.l6 N dt n) x0 x3 x4 x5
def gk.nr(N:Nat)(xZ:gk.kt)(dt:gk.dM)(x0 x3:List Int)(x4:Int):Option (List Int):=
 cond (aX x4 (ℓ x0)) (xZ x0 x3 x4 0) (some x3)
def gk.l3(N:Nat):Nat→gk.dM
 |0,_,_,_=>none
 |n+1,x0,x3,x4=>gk.nr N (gk.l6 N (gk.l3 N n) N) (gk.l3 N n) x0 x3 x4
def gk.b(N:Nat)(oF:gk.dM)(a0:List Int):Option (List Int):=
 oF a0 ([]) 0
def gk(a0:List Int):Option (List Int):=gk.b N (gk.l3 N N) a0
abbrev gw.sT:=(List Int)→Int→(List Int)→Int→Option ((List Int)×(Int))
abbrev gw.yi:=Int→(List Int)→aL→(List Int)→(List Int)→Int→Int→Option ((List Int)×(Int))
abbrev gw.Ta:=Int→(List Int)→aL→Option ((List Int)×(Int))
def gw.wF(N:Nat)(IF:gw.sT)(x9:List Int)(a7:Int)(eu:List Int)(fE:Int):Option ((List Int)×(Int)):=
 cond (aX fE (ℓ eu)) (cond (aX 0 a7) (cond (bb fE (ℓ eu)) (cond (bb (γ eu fE.toNat 0) (ℓ x9)) (cond (bb (γ eu fE.toNat 0) (ℓ x9)) (IF (List.set x9 (γ eu fE.toNat 0).toNat (W .i64 ((γ x9 (γ eu fE.toNat 0).toNat 0)+1))) (W .i64 (a7-1)) eu (W .i64 (fE+1))) none) none) none) (some (x9,0))) (some (x9,0))
def gw.xI(N:Nat):Nat→gw.sT
 |0,_,_,_,_=>none
 |n+1,x9,a7,eu,fE=>gw.wF N (gw.xI N n) x9 a7 eu fE
def gw.HQ(IG:gw.sT)(EE:gw.yi)(x0:Int)(x1:List Int)(x6:aL)(x9 bh:List Int)(a7 bo:Int):Option ((List Int)×(Int)):=
 cond (aX bo (ℓ x1)) ((eI N x0).bind λkM=>cond (bb bo (ℓ x1)) ((eI N (γ x1 bo.toNat 0)).bind λnL=>(et N kM nL).bind λoQ=>(je N oQ x6).bind λp5=>(xB N p5.1).bind λtZ=>cond (bb bo (ℓ x9)) (let v15:List Int:=List.set x9 bo.toNat tZ.1;(xB N p5.2).bind λwH=>cond (bb bo (ℓ bh)) (cond (bb bo (ℓ v15)) (EE x0 x1 x6 v15 (List.set bh bo.toNat wH.1) (W .i64 (a7-(γ v15 bo.toNat 0))) (W .i64 (bo+1))) none) none) none) none) ((gk N bh).bind λQr=>IG x9 a7 Qr 0)
def gw.KN(N:Nat):Nat→gw.yi
 |0,_,_,_,_,_,_,_=>none
 |n+1,x0,x1,x6,x9,bh,a7,bo=>gw.HQ N (gw.xI N N) (gw.KN N n) x0 x1 x6 x9 bh a7 bo
def gw.OL(Qw:gw.yi)(x0:Int)(x1:List Int)(x6:aL):Option ((List Int)×(Int)):=
 (xB N x6).bind λr5=>cond (!r5.2) (some ([],2)) (cond (kU (ℓ x1) (ℓ x1)) (let v6:List Int:=List.replicate (ℓ x1:Int).toNat 0;cond (kU (ℓ x1) (ℓ x1)) ((T4 N x6).bind λr8=>cond (aN r8 0) (some (v6,0)) (Qw x0 x1 x6 v6 (List.replicate (ℓ x1:Int).toNat 0) x0 0)) none) none)
def gw.j6(x0:Int)(x1:List Int)(x6:aL):Option ((List Int)×(Int)):=gw.OL N (gw.KN N N) x0 x1 x6
def gw.b(E9:gw.Ta)(a0:Int)(a1:List Int):Option ((List Int)×(Int)):=
 (qt N a0 a1).bind λr1=>cond (r1) (some ([],1)) ((qm N a1).bind λr2=>(T4 N r2).bind λr3=>cond (aN r3 0) (cond (!aN a0 0) (some ([],1)) (E9 a0 a1 r2)) (E9 a0 a1 r2))
def gw(a0:Int)(a1:List Int):Option ((List Int)×(Int)):=gw.b N (gw.j6 N) a0 a1
abbrev sx.bJ:=Int→Int→(List Int)→Int→Option ((List Int)×(Int))
def sx.eo(bL:sx.bJ)(x0 x1:Int)(x6:List Int)(x7:Int):Option ((List Int)×(Int)):=
 cond (aX x7 x1) (cond (bb x7 (ℓ x6)) (bL x0 x1 (List.set x6 x7.toNat 1) (W .i64 (x7+1))) none) ((gw N x0 x6).bind λr5=>some (r5.1,r5.2))
def sx.l5(N:Nat):Nat→sx.bJ
 |0,_,_,_,_=>none
 |n+1,x0,x1,x6,x7=>sx.eo N (sx.l5 N n) x0 x1 x6 x7
def sx.b(N:Nat)(e8:sx.bJ)(a0 a1:Int):Option ((List Int)×(Int)):=
 cond (aX a0 0) (some ([],1)) (cond (aX a1 1) (some ([],1)) (cond (aX 64 a1) (some ([],1)) (cond (kU a1 a1) (e8 a0 a1 (List.replicate a1.toNat 0) 0) none)))
def sx(a0 a1:Int):Option ((List Int)×(Int)):=sx.b N (sx.l5 N N) a0 a1
abbrev cm.aqJ:=Int→ae→aE→bI→Int→aE→Int→Int→jc→aE→Int→(List Int)→Option (bI×(Int))
abbrev cm.aaY:=Int→ae→aE→bI→Int→aE→Int→Int→jc→aE→Int→Int→Option (bI×(Int))
abbrev cm.ye:=Int→ae→aE→bI→Int→aE→Int→Int→jc→aE→Int→Option (bI×(Int))
abbrev cm.uW:=Int→ae→aE→bI→Int→aE→Int→Int→Option (bI×(Int))
abbrev cm.fR:=Int→ae→aE→bI→Int→aE→aL→Int→Option (bI×(Int))
abbrev cm.jY:=Int→ae→aE→bI→Int→Option (bI×(Int))
def cm.ak9(N:Nat)(gD:cm.jY)(nC:cm.uW)(wu:cm.ye)(x2:Int)(x3:ae)(x8:aE)(x9:bI)(bh:Int)(a7:aE)(cZ eu:Int)(fE:jc)(wb:aE)(gh:Int)(nF:List Int):Option (bI×(Int)):=
 cond (bb eu (ℓ nF)) (cond (!aN (γ nF eu.toNat 0) 0) (cond (bb gh (ℓ a7)) (cond (bb eu (ℓ nF)) (cond (small (ℓ wb+ℓ ([((γ a7 gh.toNat c8).1,(γ nF eu.toNat 0,()))]))) (wu x2 x3 x8 x9 bh a7 cZ eu (fE.1,(cc,fE.2.2)) (wb++([((γ a7 gh.toNat c8).1,(γ nF eu.toNat 0,()))])) (W .i64 (gh+1))) none) none) none) (wu x2 x3 x8 x9 bh a7 cZ eu fE wb (W .i64 (gh+1)))) none
def cm.j32(gD:cm.jY)(nC:cm.uW)(wu:cm.ye)(x2:Int)(x3:ae)(x8:aE)(x9:bI)(bh:Int)(a7:aE)(cZ eu:Int)(fE:jc)(wb:aE)(gh:Int)(nF:List Int):Option (bI×(Int)):=cm.ak9 N gD nC wu x2 x3 x8 x9 bh a7 cZ eu fE wb gh nF
def cm.PV(aiT:cm.aqJ)(gD:cm.jY)(nC:cm.uW)(wu:cm.ye)(x2:Int)(x3:ae)(x8:aE)(x9:bI)(bh:Int)(a7:aE)(cZ eu:Int)(fE:jc)(wb:aE)(gh my:Int):Option (bI×(Int)):=
 (sx N my cZ).bind λwH=>cond (bb gh (ℓ a7)) (cond (aX (γ a7 gh.toNat c8).2.1 0) (cond (bb eu (ℓ wH.1)) (cond (bb eu (ℓ wH.1)) (aiT x2 x3 x8 x9 bh a7 cZ eu fE wb gh (List.set wH.1 eu.toNat (W .i64 (0-(γ wH.1 eu.toNat 0))))) none) none) (aiT x2 x3 x8 x9 bh a7 cZ eu fE wb gh wH.1)) none
def cm.WH(gD:cm.jY)(nC:cm.uW)(wu:cm.ye)(x2:Int)(x3:ae)(x8:aE)(x9:bI)(bh:Int)(a7:aE)(cZ eu:Int)(fE:jc)(wb:aE)(gh my:Int):Option (bI×(Int)):=cm.PV N (cm.j32 N gD nC wu) gD nC wu x2 x3 x8 x9 bh a7 cZ eu fE wb gh my
def cm.PN(Qx:cm.aaY)(gD:cm.jY)(nC:cm.uW)(wu:cm.ye)(x2:Int)(x3:ae)(x8:aE)(x9:bI)(bh:Int)(a7:aE)(cZ eu:Int)(fE:jc)(wb:aE)(gh:Int):Option (bI×(Int)):=
 cond (aX gh (ℓ a7)) (cond (bb gh (ℓ a7)) (cond (aX (γ a7 gh.toNat c8).2.1 0) (Qx x2 x3 x8 x9 bh a7 cZ eu fE wb gh (W .i64 (0-((γ a7 gh.toNat c8).2.1)))) (Qx x2 x3 x8 x9 bh a7 cZ eu fE wb gh (γ a7 gh.toNat c8).2.1)) none) (cond (aN (ℓ wb) 0) (nC x2 x3 x8 x9 bh a7 cZ (W .i64 (eu+1))) ((Z3 N x3 wb).bind λNn=>(ES N Nn.1).bind λJd=>(xB N Jd).bind λED=>cond (!ED.2) (some ([],2)) (cond (small (ℓ x9+ℓ ([(fE.1,(wb,(ED.1,fE.2.2.2)))]))) (nC (W .i64 (x2+1)) x3 x8 (x9++([(fE.1,(wb,(ED.1,fE.2.2.2)))])) bh a7 cZ (W .i64 (eu+1))) none)))
def cm.Nl(N:Nat)(gD:cm.jY)(nC:cm.uW):Nat→cm.ye
 |0,_,_,_,_,_,_,_,_,_,_,_=>none
 |n+1,x2,x3,x8,x9,bh,a7,cZ,eu,fE,wb,gh=>cm.PN N (cm.WH N gD nC (cm.Nl N gD nC n)) gD nC (cm.Nl N gD nC n) x2 x3 x8 x9 bh a7 cZ eu fE wb gh
def cm.PU(N:Nat)(aaX:cm.ye)(gD:cm.jY)(nC:cm.uW)(x2:Int)(x3:ae)(x8:aE)(x9:bI)(bh:Int)(a7:aE)(cZ eu:Int):Option (bI×(Int)):=
 cond (aX eu cZ) (aaX x2 x3 x8 x9 bh a7 cZ eu (x2,(cc,(0,(1,c8)))) cc 0) (gD x2 x3 x8 x9 (W .i64 (bh+1)))
def cm.JR(N:Nat)(gD:cm.jY):Nat→cm.uW
 |0,_,_,_,_,_,_,_,_=>none
 |n+1,x2,x3,x8,x9,bh,a7,cZ,eu=>cm.PU N (cm.Nl N gD (cm.JR N gD n) N) gD (cm.JR N gD n) x2 x3 x8 x9 bh a7 cZ eu
def cm.lz(aaZ:cm.uW)(gD:cm.jY)(gK:cm.fR)(x2:Int)(x3:ae)(x8:aE)(x9:bI)(bh:Int)(a7:aE)(bo:aL)(cf:Int):Option (bI×(Int)):=
 cond (aX cf (ℓ x8)) (cond (bb cf (ℓ x8)) (cond (bb (γ x8 cf.toNat c8).1 (ℓ x3.1)) (cond (aN (γ x3.1 (γ x8 cf.toNat c8).1.toNat ba).1 bh) (cond (bb cf (ℓ x8)) (cond (small (ℓ a7+ℓ ([γ x8 cf.toNat c8]))) (cond (bb cf (ℓ x8)) ((eI N (γ x8 cf.toNat c8).2.1).bind λr6=>(Hg N r6).bind λr7=>(nZ N bo r7).bind λr8=>gK x2 x3 x8 x9 bh (a7++([γ x8 cf.toNat c8])) r8 (W .i64 (cf+1))) none) none) none) (gK x2 x3 x8 x9 bh a7 bo (W .i64 (cf+1)))) none) none) ((sE N bo x3.2.2.2.2.2.1).bind λnL=>aaZ x2 x3 x8 x9 bh a7 nL 0)
def cm.mw(N:Nat)(gD:cm.jY):Nat→cm.fR
 |0,_,_,_,_,_,_,_,_=>none
 |n+1,x2,x3,x8,x9,bh,a7,bo,cf=>cm.lz N (cm.JR N gD N) gD (cm.mw N gD n) x2 x3 x8 x9 bh a7 bo cf
def cm.D4(N:Nat)(sU:cm.fR)(gD:cm.jY)(x2:Int)(x3:ae)(x8:aE)(x9:bI)(bh:Int):Option (bI×(Int)):=
 cond (aX bh 4) (sU x2 x3 x8 x9 bh ([]) (false,qg) 0) (some (x9,0))
def cm.l8(N:Nat):Nat→cm.jY
 |0,_,_,_,_,_=>none
 |n+1,x2,x3,x8,x9,bh=>cm.D4 N (cm.mw N (cm.l8 N n) N) (cm.l8 N n) x2 x3 x8 x9 bh
def cm.b(IL:cm.jY)(a0:ae)(a1:an)(a2:Int):Option (bI×(Int)):=
 (gH N a0 a1).bind λr1=>cond (!r1) (some ([],1)) (cond (aX a2 1) (some ([],1)) (cond (aX 1099511627764 a2) (some ([],1)) ((mK N a1.2.2.2.1 0).bind λr2=>cond (aN (ℓ r2) 0) (some ([],3)) (IL a2 a0 r2 ([]) 0))))
def cm(a0:ae)(a1:an)(a2:Int):Option (bI×(Int)):=cm.b N (cm.l8 N N) a0 a1 a2
abbrev sF.bJ:=an→(List Int)→Int→Option ((List Int)×(Int))
def sF.eo(bL:sF.bJ)(x3:an)(x6:List Int)(x7:Int):Option ((List Int)×(Int)):=
 cond (aX x7 (ℓ x3.1)) (cond (bb x7 (ℓ x3.1)) (cond (aN (γ x3.1 x7.toNat c8).2.1 1) (cond (bb x7 (ℓ x3.1)) ((uY N x3.2.2.1 6 (γ x3.1 x7.toNat c8).1).bind λr3=>cond (aX 0 r3) (cond (bb x7 (ℓ x3.1)) (cond (small (ℓ x6+ℓ ([(γ x3.1 x7.toNat c8).1]))) (bL x3 (x6++([(γ x3.1 x7.toNat c8).1])) (W .i64 (x7+1))) none) none) (bL x3 x6 (W .i64 (x7+1)))) none) (bL x3 x6 (W .i64 (x7+1)))) none) (some (x6,0))
def sF.l5(N:Nat):Nat→sF.bJ
 |0,_,_,_=>none
 |n+1,x3,x6,x7=>sF.eo N (sF.l5 N n) x3 x6 x7
def sF.b(e8:sF.bJ)(a0:ae)(a1:an):Option ((List Int)×(Int)):=
 (gH N a0 a1).bind λr1=>cond (!r1) (some ([],1)) (e8 a1 ([]) 0)
def sF(a0:ae)(a1:an):Option ((List Int)×(Int)):=sF.b N (sF.l5 N N) a0 a1
abbrev jG.MZ:=bI→ae→Int→jc→Option Bool
abbrev jG.bN:=bI→ae→Int→Option Bool
def jG.JA(N:Nat)(cG:jG.bN)(x1:bI)(x2:ae)(x5:Int)(x6:jc):Option Bool:=
 cond (aN x6.2.2.2.1 1) (cond (!aN x6.2.2.2.2.1 0) (some false) (cond (!aN x6.2.2.2.2.2.1 0) (some false) (cG x1 x2 (W .i64 (x5+1))))) (cond (aN x6.2.2.2.1 3) (cond (!aN x6.2.2.2.2.1 0) (some false) (cond (!aN x6.2.2.2.2.2.1 0) (some false) (cG x1 x2 (W .i64 (x5+1))))) (cond (aN x6.2.2.2.1 2) (cond (aX x6.2.2.2.2.1 1) (some false) (cond (aX 12 x6.2.2.2.2.1) (some false) (cond (aX x6.2.2.2.2.2.1 (-1152921504606846976)) (some false) (cond (aX 1152921504606846976 x6.2.2.2.2.2.1) (some false) (cG x1 x2 (W .i64 (x5+1))))))) (some false)))
def jG.j9(cG:jG.bN)(x1:bI)(x2:ae)(x5:Int)(x6:jc):Option Bool:=jG.JA N cG x1 x2 x5 x6
def jG.dQ(B8:jG.MZ)(cG:jG.bN)(x1:bI)(x2:ae)(x5:Int):Option Bool:=
 cond (aX x5 (ℓ x1)) (cond (bb x5 (ℓ x1)) (cond (aX (γ x1 x5.toNat (0,(cc,ba))).1 1) (some false) (cond (aX 1099511627776 (γ x1 x5.toNat (0,(cc,ba))).1) (some false) (cond (aX 0 x5) (let v3:Int:=W .i64 (x5-1);cond (bb v3 (ℓ x1)) (cond (du (γ x1 x5.toNat (0,(cc,ba))).1 (γ x1 v3.toNat (0,(cc,ba))).1) (some false) (cond (aN (ℓ (γ x1 x5.toNat (0,(cc,ba))).2.1:Int) 0) (some false) ((oi N x2 (γ x1 x5.toNat (0,(cc,ba))).2.1).bind λr4=>cond (!r4) (some false) (cond (aX 0 (γ x1 x5.toNat (0,(cc,ba))).2.2.1) (some false) (B8 x1 x2 x5 (γ x1 x5.toNat (0,(cc,ba)))))))) none) (cond (aN (ℓ (γ x1 x5.toNat (0,(cc,ba))).2.1:Int) 0) (some false) ((oi N x2 (γ x1 x5.toNat (0,(cc,ba))).2.1).bind λr9=>cond (!r9) (some false) (cond (aX 0 (γ x1 x5.toNat (0,(cc,ba))).2.2.1) (some false) (B8 x1 x2 x5 (γ x1 x5.toNat (0,(cc,ba)))))))))) none) (some true)
def jG.l4(N:Nat):Nat→jG.bN
 |0,_,_,_=>none
 |n+1,x1,x2,x5=>jG.dQ N (jG.j9 N (jG.l4 N n)) (jG.l4 N n) x1 x2 x5
def jG.b(ff:jG.bN)(a0:ae)(a1:bI):Option Bool:=
 (zP N a0).bind λr1=>cond (!r1) (some false) (cond (aX 12 (ℓ a1)) (some false) (ff a1 a0 0))
def jG(a0:ae)(a1:bI):Option Bool:=jG.b N (jG.l4 N N) a0 a1
abbrev q4.cY:=bI→Int→jc→Int→Option (jc×(Bool))
def q4.fM(N:Nat)(dS:q4.cY)(x0:bI)(x1:Int)(x4:jc)(x6:Int):Option (jc×(Bool)):=
 cond (aX x6 (ℓ x0)) (cond (bb x6 (ℓ x0)) (cond (aN (γ x0 x6.toNat (0,(cc,ba))).1 x1) (cond (bb x6 (ℓ x0)) (some (γ x0 x6.toNat (0,(cc,ba)),true)) none) (dS x0 x1 x4 (W .i64 (x6+1)))) none) (some ((0,(cc,ba)),false))
def q4.l2(N:Nat):Nat→q4.cY
 |0,_,_,_,_=>none
 |n+1,x0,x1,x4,x6=>q4.fM N (q4.l2 N n) x0 x1 x4 x6
def q4.b(N:Nat)(gT:q4.cY)(a0:bI)(a1:Int):Option (jc×(Bool)):=
 gT a0 a1 (0,(cc,ba)) 0
def q4(a0:bI)(a1:Int):Option (jc×(Bool)):=q4.b N (q4.l2 N N) a0 a1
abbrev fB.iN:=aE→aE→aE→Int→aL→Int→Option (aE×(Bool))
abbrev fB.fb:=aE→aE→aE→Int→aL→Int→Option (aE×(Bool))
abbrev fB.dM:=aE→aE→aE→Int→Option (aE×(Bool))
def fB.nD(dt:fB.dM)(lE:fB.iN)(x0 x1 x6:aE)(x7:Int)(x8:aL)(bh:Int):Option (aE×(Bool)):=
 cond (aX bh (ℓ x1)) (cond (bb bh (ℓ x1)) (cond (aN (γ x1 bh.toNat c8).1 x7) (cond (bb bh (ℓ x1)) ((eI N (γ x1 bh.toNat c8).2.1).bind λr8=>(nZ N x8 r8).bind λr9=>lE x0 x1 x6 x7 r9 (W .i64 (bh+1))) none) (lE x0 x1 x6 x7 x8 (W .i64 (bh+1)))) none) ((Sl N x8).bind λoQ=>cond (!oQ.2) (some ([],false)) (cond (!aN oQ.1 0) (cond (small (ℓ x6+ℓ ([(x7,(oQ.1,()))]))) (dt x0 x1 (x6++([(x7,(oQ.1,()))])) (W .i64 (x7+1))) none) (dt x0 x1 x6 (W .i64 (x7+1)))))
def fB.oH(N:Nat)(dt:fB.dM):Nat→fB.iN
 |0,_,_,_,_,_,_=>none
 |n+1,x0,x1,x6,x7,x8,bh=>fB.nD N dt (fB.oH N dt n) x0 x1 x6 x7 x8 bh
def fB.oJ(uV:fB.iN)(dt:fB.dM)(eZ:fB.fb)(x0 x1 x6:aE)(x7:Int)(x8:aL)(x9:Int):Option (aE×(Bool)):=
 cond (aX x9 (ℓ x0)) (cond (bb x9 (ℓ x0)) (cond (aN (γ x0 x9.toNat c8).1 x7) (cond (bb x9 (ℓ x0)) ((eI N (γ x0 x9.toNat c8).2.1).bind λr3=>(nZ N x8 r3).bind λr4=>eZ x0 x1 x6 x7 r4 (W .i64 (x9+1))) none) (eZ x0 x1 x6 x7 x8 (W .i64 (x9+1)))) none) (uV x0 x1 x6 x7 x8 0)
def fB.l7(N:Nat)(dt:fB.dM):Nat→fB.fb
 |0,_,_,_,_,_,_=>none
 |n+1,x0,x1,x6,x7,x8,x9=>fB.oJ N (fB.oH N dt N) dt (fB.l7 N dt n) x0 x1 x6 x7 x8 x9
def fB.nr(N:Nat)(sS:fB.fb)(dt:fB.dM)(x0 x1 x6:aE)(x7:Int):Option (aE×(Bool)):=
 cond (aX x7 6) (sS x0 x1 x6 x7 (false,qg) 0) (some (x6,true))
def fB.l3(N:Nat):Nat→fB.dM
 |0,_,_,_,_=>none
 |n+1,x0,x1,x6,x7=>fB.nr N (fB.l7 N (fB.l3 N n) N) (fB.l3 N n) x0 x1 x6 x7
def fB.b(N:Nat)(oF:fB.dM)(a0 a1:aE):Option (aE×(Bool)):=
 oF a0 a1 ([]) 0
def fB(a0 a1:aE):Option (aE×(Bool)):=fB.b N (fB.l3 N N) a0 a1
def ak8(a0:aY)(a1:Int):Option au:=
 (Ah N a0).bind λr1=>cond (!r1) (some ([])) ((iL N a0 a1).bind λr2=>some r2)
abbrev lX.fR:=aO→ae→an→cF→jc→Int→Int→Option Int
abbrev lX.awk:=bI→aO→ae→an→cF→Option Int
def lX.lz(gK:lX.fR)(x3:aO)(x5:ae)(x6:an)(x9:cF)(bo:jc)(cZ eu:Int):Option Int:=
 cond (aX eu (ℓ x3)) (cond (bb eu (ℓ x3)) (cond (aN (γ x3 eu.toNat ba).2.2.1 x9.2.2.1) (cond (bb eu (ℓ x3)) (cond (aN (γ x3 eu.toNat ba).2.1 x9.2.1) (some 4) (gK x3 x5 x6 x9 bo cZ (W .i64 (eu+1)))) none) (gK x3 x5 x6 x9 bo cZ (W .i64 (eu+1)))) none) (cond (aN (ℓ x3) 40) (some 5) ((eI N x9.2.2.2.1).bind λp5=>(eI N 4).bind λtZ=>(eI N bo.2.2.1).bind λwk=>(et N tZ wk).bind λwH=>(y8 N p5 wH).bind λxR=>cond (aX xR 0) (some 11) ((mK N x6.2.2.2.1 cZ).bind λya=>(fB N ya bo.2.1).bind λJZ=>cond (!JZ.2) (some 2) ((ak8 N x6.2.2.2.2.2.1 cZ).bind λQr=>(qZ N x5 JZ.1 Qr).bind λFM=>(SN N x6 cZ).bind λMY=>(eI N MY).bind λEB=>(eI N x9.2.2.2.1).bind λNn=>(Bo N EB Nn).bind λJd=>(y8 N Jd FM.1).bind λED=>cond (aX ED 0) (some 10) (some 0)))))
def lX.mw(N:Nat):Nat→lX.fR
 |0,_,_,_,_,_,_,_=>none
 |n+1,x3,x5,x6,x9,bo,cZ,eu=>lX.lz N (lX.mw N n) x3 x5 x6 x9 bo cZ eu
def lX.j3b(sU:lX.fR)(x2:bI)(x3:aO)(x5:ae)(x6:an)(x9:cF):Option Int:=
 (MF N x6 x9.2.2.1).bind λr7=>cond (aN r7 0) (some 3) (cond (!aN r7 1) (some 7) ((q4 N x2 x9.2.1).bind λr8=>(m8 N x6.2.1 x9.2.2.1).bind λr9=>cond (!r8.2) (some 3) (cond (!aN r8.1.2.2.2.1 1) (some 3) (cond (aN r9 0) (some 3) (sU x3 x5 x6 x9 r8.1 r9 0)))))
def lX.j3(x2:bI)(x3:aO)(x5:ae)(x6:an)(x9:cF):Option Int:=lX.j3b N (lX.mw N N) x2 x3 x5 x6 x9
def lX.b(aqK:lX.awk)(a0:ae)(a1:an)(a2:bI)(a3:aO)(a4:cF):Option Int:=
 (gH N a0 a1).bind λr1=>cond (!r1) (some 1) ((jG N a0 a2).bind λr2=>cond (!r2) (some 1) ((fe N a3).bind λr3=>cond (!r3) (some 1) ((Y3 N a4).bind λr4=>cond (!r4) (some 1) (cond (aX 0 (ℓ a3)) (let v5:Int:=W .i64 ((ℓ a3:Int)-1);cond (bb v5 (ℓ a3)) (cond (du a4.1 (γ a3 v5.toNat ba).1) (some 1) (aqK a2 a3 a0 a1 a4)) none) (aqK a2 a3 a0 a1 a4)))))
def lX(a0:ae)(a1:an)(a2:bI)(a3:aO)(a4:cF):Option Int:=lX.b N (lX.j3 N) a0 a1 a2 a3 a4
def adm(a0:ae)(a1:an)(a2:bI)(a3:aO)(a4:cF):Option (aO×(Int)):=
 (lX N a0 a1 a2 a3 a4).bind λr1=>cond (!aN r1 0) (some ([],r1)) (cond (small (ℓ cT+ℓ a3)) (let v2:List ((Int)×((Int)×((Int)×((Int)×(Unit))))):=cT++a3;cond (small (ℓ v2+ℓ ([a4]))) (some ((v2++([a4])),0)) none) none)
abbrev sK.kt:=aO→Int→cF→cF→Bool→Int→Option (cF×(Bool))
def sK.vu(N:Nat)(lD:sK.kt)(x0:aO)(x1:Int)(x4 x6:cF)(x7:Bool)(x8:Int):Option (cF×(Bool)):=
 cond (aX x8 (ℓ x0)) (cond (bb x8 (ℓ x0)) (cond (aN (γ x0 x8.toNat ba).2.1 x1) (cond (!x7) (cond (bb x8 (ℓ x0)) (lD x0 x1 x4 (γ x0 x8.toNat ba) true (W .i64 (x8+1))) none) (cond (bb x8 (ℓ x0)) (cond (aX x6.2.2.2.1 (γ x0 x8.toNat ba).2.2.2.1) (cond (bb x8 (ℓ x0)) (lD x0 x1 x4 (γ x0 x8.toNat ba) true (W .i64 (x8+1))) none) (lD x0 x1 x4 x6 x7 (W .i64 (x8+1)))) none)) (lD x0 x1 x4 x6 x7 (W .i64 (x8+1)))) none) (some (x6,x7))
def sK.l6(N:Nat):Nat→sK.kt
 |0,_,_,_,_,_,_=>none
 |n+1,x0,x1,x4,x6,x7,x8=>sK.vu N (sK.l6 N n) x0 x1 x4 x6 x7 x8
def sK.b(xZ:sK.kt)(a0:aO)(a1:Int):Option (cF×(Bool)):=
 (fe N a0).bind λr1=>cond (!r1) (some (ba,false)) (xZ a0 a1 ba ba false 0)
def sK(a0:aO)(a1:Int):Option (cF×(Bool)):=sK.b N (sK.l6 N N) a0 a1
abbrev gu.sT:=bI→aO→an→an→au→bO→bI→Int→jc→cF→Int→Int→Option (an×bI×(Int))
abbrev gu.fb:=bI→aO→an→an→au→bO→bI→Int→Option (an×bI×(Int))
def gu.wF(eZ:gu.fb)(IF:gu.sT)(x2:bI)(x3:aO)(x5 x8:an)(a7:au)(bo:bO)(cf:bI)(cZ:Int)(eu:jc)(fE:cF)(my nF:Int):Option (an×bI×(Int)):=
 cond (aX nF (ℓ eu.2.1)) (cond (bb nF (ℓ eu.2.1)) (cond (bb nF (ℓ eu.2.1)) (let v14:Int:=W .i64 (0-((γ eu.2.1 nF.toNat c8).2.1));cond (bb nF (ℓ eu.2.1)) (cond (bb nF (ℓ eu.2.1)) (cond (small (ℓ a7+ℓ ([(0,((γ eu.2.1 nF.toNat c8).1,(v14,()))),(my,((γ eu.2.1 nF.toNat c8).1,((γ eu.2.1 nF.toNat c8).2.1,())))]))) (IF x2 x3 x5 x8 (a7++([(0,((γ eu.2.1 nF.toNat c8).1,(v14,()))),(my,((γ eu.2.1 nF.toNat c8).1,((γ eu.2.1 nF.toNat c8).2.1,())))])) bo cf cZ eu fE my (W .i64 (nF+1))) none) none) none) none) none) ((eI N fE.2.2.2.1).bind λxR=>(Dd N 5 my 2 0 xR).bind λya=>cond (small (ℓ bo+ℓ ya)) (cond (small (ℓ cf+ℓ ([eu]))) (eZ x2 x3 x5 x8 a7 (bo++ya) (cf++([eu])) (W .i64 (cZ+1))) none) none)
def gu.xI(N:Nat)(eZ:gu.fb):Nat→gu.sT
 |0,_,_,_,_,_,_,_,_,_,_,_,_=>none
 |n+1,x2,x3,x5,x8,a7,bo,cf,cZ,eu,fE,my,nF=>gu.wF N eZ (gu.xI N eZ n) x2 x3 x5 x8 a7 bo cf cZ eu fE my nF
def gu.oJ(IG:gu.sT)(eZ:gu.fb)(x2:bI)(x3:aO)(x5 x8:an)(a7:au)(bo:bO)(cf:bI)(cZ:Int):Option (an×bI×(Int)):=
 cond (aX cZ (ℓ x2)) (cond (bb cZ (ℓ x2)) (cond (small (ℓ cc+ℓ (γ x2 cZ.toNat (0,(cc,ba))).2.1)) (let v5:List ((Int)×((Int)×(Unit))):=cc++((γ x2 cZ.toNat (0,(cc,ba))).2.1);cond (!aN (γ x2 cZ.toNat (0,(cc,ba))).2.2.2.1 1) (cond (small (ℓ cf+ℓ ([((γ x2 cZ.toNat (0,(cc,ba))).1,(v5,(γ x2 cZ.toNat (0,(cc,ba))).2.2))]))) (eZ x2 x3 x5 x8 a7 bo (cf++([((γ x2 cZ.toNat (0,(cc,ba))).1,(v5,(γ x2 cZ.toNat (0,(cc,ba))).2.2))])) (W .i64 (cZ+1))) none) ((sK N x3 (γ x2 cZ.toNat (0,(cc,ba))).1).bind λr8=>cond (!r8.2) (cond (small (ℓ cf+ℓ ([((γ x2 cZ.toNat (0,(cc,ba))).1,(v5,((γ x2 cZ.toNat (0,(cc,ba))).2.2.1,(3,(γ x2 cZ.toNat (0,(cc,ba))).2.2.2.2))))]))) (eZ x2 x3 x5 x8 a7 bo (cf++([((γ x2 cZ.toNat (0,(cc,ba))).1,(v5,((γ x2 cZ.toNat (0,(cc,ba))).2.2.1,(3,(γ x2 cZ.toNat (0,(cc,ba))).2.2.2.2))))])) (W .i64 (cZ+1))) none) ((m8 N x5.2.1 r8.1.2.2.1).bind λnL=>cond (aN nL 0) (some ((cc,(cT,(bq,(bq,(db,(dq,())))))),[],3)) ((MF N x5 r8.1.2.2.1).bind λoQ=>cond (aN oQ 0) (some ((cc,(cT,(bq,(bq,(db,(dq,())))))),[],3)) (IG x2 x3 x5 x8 a7 bo cf cZ ((γ x2 cZ.toNat (0,(cc,ba))).1,(v5,((γ x2 cZ.toNat (0,(cc,ba))).2.2.1,(2,(r8.1.2.2.1,(r8.1.2.2.2.1,(γ x2 cZ.toNat (0,(cc,ba))).2.2.2.2.2.2)))))) r8.1 nL 0))))) none) none) ((y9 N x5 a7 bo).bind λMY=>cond (!aN MY.2 0) (some ((cc,(cT,(bq,(bq,(db,(dq,())))))),[],MY.2)) (some (MY.1,cf,0)))
def gu.l7(N:Nat):Nat→gu.fb
 |0,_,_,_,_,_,_,_,_=>none
 |n+1,x2,x3,x5,x8,a7,bo,cf,cZ=>gu.oJ N (gu.xI N (gu.l7 N n) N) (gu.l7 N n) x2 x3 x5 x8 a7 bo cf cZ
def gu.b(sS:gu.fb)(a0:ae)(a1:an)(a2:bI)(a3:aO):Option (an×bI×(Int)):=
 (gH N a0 a1).bind λr1=>cond (!r1) (some ((cc,(cT,(bq,(bq,(db,(dq,())))))),[],1)) ((jG N a0 a2).bind λr2=>cond (!r2) (some ((cc,(cT,(bq,(bq,(db,(dq,())))))),[],1)) ((fe N a3).bind λr3=>cond (!r3) (some ((cc,(cT,(bq,(bq,(db,(dq,())))))),[],1)) (sS a2 a3 a1 (cc,(cT,(bq,(bq,(db,(dq,())))))) ([]) ([]) ([]) 0)))
def gu(a0:ae)(a1:an)(a2:bI)(a3:aO):Option (an×bI×(Int)):=gu.b N (gu.l7 N N) a0 a1 a2 a3
abbrev p8.cY:=aE→Int→Option Bool
def p8.fM(N:Nat)(dS:p8.cY)(x0:aE)(x3:Int):Option Bool:=
 cond (aX x3 (ℓ x0)) (cond (bb x3 (ℓ x0)) (cond (aX (γ x0 x3.toNat c8).1 1) (some false) (cond (bb x3 (ℓ x0)) (cond (aX 12 (γ x0 x3.toNat c8).1) (some false) (cond (bb x3 (ℓ x0)) (cond (aX (γ x0 x3.toNat c8).2.1 1) (some false) (cond (bb x3 (ℓ x0)) (cond (aX 4 (γ x0 x3.toNat c8).2.1) (some false) (cond (aX 0 x3) (cond (bb x3 (ℓ x0)) (let v2:Int:=W .i64 (x3-1);cond (bb v2 (ℓ x0)) (cond (du (γ x0 x3.toNat c8).1 (γ x0 v2.toNat c8).1) (some false) (dS x0 (W .i64 (x3+1)))) none) none) (dS x0 (W .i64 (x3+1))))) none)) none)) none)) none) (some true)
def p8.l2(N:Nat):Nat→p8.cY
 |0,_,_=>none
 |n+1,x0,x3=>p8.fM N (p8.l2 N n) x0 x3
def p8.b(N:Nat)(gT:p8.cY)(a0:aE):Option Bool:=
 gT a0 0
def p8(a0:aE):Option Bool:=p8.b N (p8.l2 N N) a0
abbrev sG.cY:=(List Int)→Int→Option Bool
def sG.fM(N:Nat)(dS:sG.cY)(x0:List Int)(x3:Int):Option Bool:=
 cond (aX x3 (ℓ x0)) (cond (bb x3 (ℓ x0)) (cond (aX (γ x0 x3.toNat 0) 1) (some false) (cond (bb x3 (ℓ x0)) (cond (aX 12 (γ x0 x3.toNat 0)) (some false) (cond (aX 0 x3) (cond (bb x3 (ℓ x0)) (let v2:Int:=W .i64 (x3-1);cond (bb v2 (ℓ x0)) (cond (du (γ x0 x3.toNat 0) (γ x0 v2.toNat 0)) (some false) (dS x0 (W .i64 (x3+1)))) none) none) (dS x0 (W .i64 (x3+1))))) none)) none) (some true)
def sG.l2(N:Nat):Nat→sG.cY
 |0,_,_=>none
 |n+1,x0,x3=>sG.fM N (sG.l2 N n) x0 x3
def sG.b(N:Nat)(gT:sG.cY)(a0:List Int):Option Bool:=
 gT a0 0
def sG(a0:List Int):Option Bool:=sG.b N (sG.l2 N N) a0
abbrev ke.iN:=Int→bI→Int→Int→Option Int
abbrev ke.dM:=Int→bI→aO→Int→Int→Option Int
def ke.nD(N:Nat)(lE:ke.iN)(x0:Int)(x1:bI)(x7 bo:Int):Option Int:=
 cond (aX bo (ℓ x1)) (cond (bb bo (ℓ x1)) (cond (aN (γ x1 bo.toNat (0,(cc,ba))).2.2.2.1 2) (cond (bb bo (ℓ x1)) (cond (aN (γ x1 bo.toNat (0,(cc,ba))).2.2.2.2.1 x0) (lE x0 x1 4 (W .i64 (bo+1))) (lE x0 x1 x7 (W .i64 (bo+1)))) none) (lE x0 x1 x7 (W .i64 (bo+1)))) none) (some x7)
def ke.oH(N:Nat):Nat→ke.iN
 |0,_,_,_,_=>none
 |n+1,x0,x1,x7,bo=>ke.nD N (ke.oH N n) x0 x1 x7 bo
def ke.nr(uV:ke.iN)(dt:ke.dM)(x0:Int)(x1:bI)(x2:aO)(x7 x8:Int):Option Int:=
 cond (aX x8 (ℓ x2)) (cond (bb x8 (ℓ x2)) (cond (!aN (γ x2 x8.toNat ba).2.2.1 x0) (dt x0 x1 x2 x7 (W .i64 (x8+1))) (cond (bb x8 (ℓ x2)) ((q4 N x1 (γ x2 x8.toNat ba).2.1).bind λr3=>cond (r3.2) (cond (bb x8 (ℓ x2)) (cond (du r3.1.2.2.1 (γ x2 x8.toNat ba).2.2.2.1) (dt x0 x1 x2 (mx x7 3) (W .i64 (x8+1))) (dt x0 x1 x2 (mx x7 2) (W .i64 (x8+1)))) none) (dt x0 x1 x2 (mx x7 2) (W .i64 (x8+1)))) none)) none) (uV x0 x1 x7 0)
def ke.l3(N:Nat):Nat→ke.dM
 |0,_,_,_,_,_=>none
 |n+1,x0,x1,x2,x7,x8=>ke.nr N (ke.oH N N) (ke.l3 N n) x0 x1 x2 x7 x8
def ke.b(N:Nat)(oF:ke.dM)(a0:Int)(a1:bI)(a2:aO):Option Int:=
 oF a0 a1 a2 1 0
def ke(a0:Int)(a1:bI)(a2:aO):Option Int:=ke.b N (ke.l3 N N) a0 a1 a2
abbrev dO.yf:=aE→(List Int)→bI→aO→aE→Int→Int→Bool→Int→Option (aE×(Int))
abbrev dO.yi:=aE→(List Int)→bI→aO→aE→Int→Int→Bool→Int→Option (aE×(Int))
abbrev dO.lF:=aE→(List Int)→bI→aO→aE→Int→Int→Bool→Int→Option (aE×(Int))
abbrev dO.bJ:=aE→(List Int)→bI→aO→aE→Int→Option (aE×(Int))
def dO.E6(bL:dO.bJ)(IQ:dO.yf)(x1:aE)(x2:List Int)(x3:bI)(x4:aO)(bo:aE)(cf cZ:Int)(eu:Bool)(my:Int):Option (aE×(Int)):=
 cond (aX my (ℓ x4)) (cond (eu) (IQ x1 x2 x3 x4 bo cf cZ true (W .i64 (my+1))) (cond (bb my (ℓ x4)) (IQ x1 x2 x3 x4 bo cf cZ (aN (γ x4 my.toNat ba).2.2.1 cf) (W .i64 (my+1))) none)) (cond (eu) ((ke N cf x3 x4).bind λwk=>let v16:Int:=mx cZ wk;cond (small (ℓ bo+ℓ ([(cf,(v16,()))]))) (bL x1 x2 x3 x4 (bo++([(cf,(v16,()))])) (W .i64 (cf+1))) none) (bL x1 x2 x3 x4 bo (W .i64 (cf+1))))
def dO.Ja(N:Nat)(bL:dO.bJ):Nat→dO.yf
 |0,_,_,_,_,_,_,_,_,_=>none
 |n+1,x1,x2,x3,x4,bo,cf,cZ,eu,my=>dO.E6 N bL (dO.Ja N bL n) x1 x2 x3 x4 bo cf cZ eu my
def dO.HQ(N:Nat)(Qt:dO.yf)(bL:dO.bJ)(EE:dO.yi)(x1:aE)(x2:List Int)(x3:bI)(x4:aO)(bo:aE)(cf cZ:Int)(eu:Bool)(gh:Int):Option (aE×(Int)):=
 cond (aX gh (ℓ x2)) (cond (eu) (EE x1 x2 x3 x4 bo cf cZ true (W .i64 (gh+1))) (cond (bb gh (ℓ x2)) (EE x1 x2 x3 x4 bo cf cZ (aN (γ x2 gh.toNat 0) cf) (W .i64 (gh+1))) none)) (Qt x1 x2 x3 x4 bo cf cZ eu 0)
def dO.KN(N:Nat)(bL:dO.bJ):Nat→dO.yi
 |0,_,_,_,_,_,_,_,_,_=>none
 |n+1,x1,x2,x3,x4,bo,cf,cZ,eu,gh=>dO.HQ N (dO.Ja N bL N) bL (dO.KN N bL n) x1 x2 x3 x4 bo cf cZ eu gh
def dO.vz(N:Nat)(Qw:dO.yi)(bL:dO.bJ)(oM:dO.lF)(x1:aE)(x2:List Int)(x3:bI)(x4:aO)(bo:aE)(cf cZ:Int)(eu:Bool)(fE:Int):Option (aE×(Int)):=
 cond (aX fE (ℓ x1)) (cond (bb fE (ℓ x1)) (cond (aN (γ x1 fE.toNat c8).1 cf) (cond (bb fE (ℓ x1)) (oM x1 x2 x3 x4 bo cf (γ x1 fE.toNat c8).2.1 true (W .i64 (fE+1))) none) (oM x1 x2 x3 x4 bo cf cZ eu (W .i64 (fE+1)))) none) (Qw x1 x2 x3 x4 bo cf cZ eu 0)
def dO.l9(N:Nat)(bL:dO.bJ):Nat→dO.lF
 |0,_,_,_,_,_,_,_,_,_=>none
 |n+1,x1,x2,x3,x4,bo,cf,cZ,eu,fE=>dO.vz N (dO.KN N bL N) bL (dO.l9 N bL n) x1 x2 x3 x4 bo cf cZ eu fE
def dO.eo(N:Nat)(yb:dO.lF)(bL:dO.bJ)(x1:aE)(x2:List Int)(x3:bI)(x4:aO)(bo:aE)(cf:Int):Option (aE×(Int)):=
 cond (du cf 12) (yb x1 x2 x3 x4 bo cf 0 false 0) (some (bo,0))
def dO.l5(N:Nat):Nat→dO.bJ
 |0,_,_,_,_,_,_=>none
 |n+1,x1,x2,x3,x4,bo,cf=>dO.eo N (dO.l9 N (dO.l5 N n) N) (dO.l5 N n) x1 x2 x3 x4 bo cf
def dO.b(e8:dO.bJ)(a0:ae)(a1:aE)(a2:List Int)(a3:bI)(a4:aO):Option (aE×(Int)):=
 (p8 N a1).bind λr1=>cond (!r1) (some ([],1)) ((sG N a2).bind λr2=>cond (!r2) (some ([],1)) ((jG N a0 a3).bind λr3=>cond (!r3) (some ([],1)) ((fe N a4).bind λr4=>cond (!r4) (some ([],1)) (e8 a1 a2 a3 a4 ([]) 1))))
def dO(a0:ae)(a1:aE)(a2:List Int)(a3:bI)(a4:aO):Option (aE×(Int)):=dO.b N (dO.l5 N N) a0 a1 a2 a3 a4
def MI(a0:bf)(a1:an)(a2 a3 a4:Int):Option bf:=
 (uY N a1.2.2.1 a3 a4).bind λr1=>cond (aX 0 r1) (cond (small (ℓ a0+ℓ ([(a2,(a3,(a4,(r1,(0,())))))]))) (some (a0++([(a2,(a3,(a4,(r1,(0,())))))]))) none) (some a0)
def Z6(N:Nat)(a0:Int):Option Bool:=
 cond (aN a0 1) (some true) (some (aN a0 2))
abbrev sH.bN:=aE→Int→Int→Option Int
def sH.dQ(N:Nat)(cG:sH.bN)(x0:aE)(x1 x5:Int):Option Int:=
 cond (aX x5 (ℓ x0)) (cond (bb x5 (ℓ x0)) (cond (aN (γ x0 x5.toNat c8).1 x1) (cond (bb x5 (ℓ x0)) (some (γ x0 x5.toNat c8).2.1) none) (cG x0 x1 (W .i64 (x5+1)))) none) (some 1)
def sH.l4(N:Nat):Nat→sH.bN
 |0,_,_,_=>none
 |n+1,x0,x1,x5=>sH.dQ N (sH.l4 N n) x0 x1 x5
def sH.b(ff:sH.bN)(a0:aE)(a1:Int):Option Int:=
 (p8 N a0).bind λr1=>cond (!r1) (some 0) (ff a0 a1 0)
def sH(a0:aE)(a1:Int):Option Int:=sH.b N (sH.l4 N N) a0 a1
abbrev sI.bJ:=aE→Int→Int→an→(List Int)→Int→Option ((List Int)×(Int))
def sI.eo(bL:sI.bJ)(x2:aE)(x3 x4:Int)(x6:an)(bo:List Int)(cf:Int):Option ((List Int)×(Int)):=
 cond (aX cf (ℓ x6.1)) (cond (bb cf (ℓ x6.1)) ((Z6 N (γ x6.1 cf.toNat c8).2.1).bind λr4=>cond (r4) (cond (!aN (γ x6.1 cf.toNat c8).1 x3) ((uY N x6.2.2.1 6 (γ x6.1 cf.toNat c8).1).bind λr5=>cond (aX 0 r5) ((sH N x2 (γ x6.1 cf.toNat c8).1).bind λr6=>cond (aN r6 x4) (cond (small (ℓ bo+ℓ ([(γ x6.1 cf.toNat c8).1]))) (bL x2 x3 x4 x6 (bo++([(γ x6.1 cf.toNat c8).1])) (W .i64 (cf+1))) none) (bL x2 x3 x4 x6 bo (W .i64 (cf+1)))) (bL x2 x3 x4 x6 bo (W .i64 (cf+1)))) (bL x2 x3 x4 x6 bo (W .i64 (cf+1)))) (bL x2 x3 x4 x6 bo (W .i64 (cf+1)))) none) (some (bo,0))
def sI.l5(N:Nat):Nat→sI.bJ
 |0,_,_,_,_,_,_=>none
 |n+1,x2,x3,x4,x6,bo,cf=>sI.eo N (sI.l5 N n) x2 x3 x4 x6 bo cf
def sI.b(e8:sI.bJ)(a0:ae)(a1:an)(a2:aE)(a3 a4:Int):Option ((List Int)×(Int)):=
 (gH N a0 a1).bind λr1=>cond (!r1) (some ([],1)) ((p8 N a2).bind λr2=>cond (!r2) (some ([],1)) (e8 a2 a3 a4 a1 ([]) 0))
def sI(a0:ae)(a1:an)(a2:aE)(a3 a4:Int):Option ((List Int)×(Int)):=sI.b N (sI.l5 N N) a0 a1 a2 a3 a4
abbrev c3.ny:=Int→aE→aE→ae→an→bf→Int→(List Int)→Int→Option (bf×(Int))
abbrev c3.IJ:=Int→aE→an→bf→Int→Option (bf×(Int))
abbrev c3.uW:=Int→aE→ae→an→bf→Int→Option (bf×(Int))
abbrev c3.iN:=Int→aE→aE→ae→an→bf→Int→Option (bf×(Int))
abbrev c3.MZ:=Int→aE→aE→ae→an→bf→Option (bf×(Int))
def c3.wE(lE:c3.iN)(oS:c3.ny)(x2:Int)(x3 x4:aE)(x5:ae)(x6:an)(bo:bf)(cZ:Int)(eu:List Int)(gh:Int):Option (bf×(Int)):=
 cond (aX gh (ℓ eu)) (cond (bb gh (ℓ eu)) ((MI N bo x6 (W .i64 ((W .i64 (4+cZ))-1)) 6 (γ eu gh.toNat 0)).bind λwk=>oS x2 x3 x4 x5 x6 wk cZ eu (W .i64 (gh+1))) none) (lE x2 x3 x4 x5 x6 bo (W .i64 (cZ+1)))
def c3.xH(N:Nat)(lE:c3.iN):Nat→c3.ny
 |0,_,_,_,_,_,_,_,_,_=>none
 |n+1,x2,x3,x4,x5,x6,bo,cZ,eu,gh=>c3.wE N lE (c3.xH N lE n) x2 x3 x4 x5 x6 bo cZ eu gh
def c3.Mj(EC:c3.IJ)(x2:Int)(x4:aE)(x6:an)(bo:bf)(Xf:Int):Option (bf×(Int)):=
 cond (aX Xf (ℓ x4)) (cond (bb Xf (ℓ x4)) ((ET N x6.2.1 (γ x4 Xf.toNat c8).1).bind λJe=>cond (bb Xf (ℓ x4)) (cond (bb Xf (ℓ x4)) ((uY N x6.2.2.1 5 (γ x4 Xf.toNat c8).1).bind λr32=>let v33:Int:=mn (γ x4 Xf.toNat c8).2.1 r32;cond (Je.2) (cond (!aN Je.1.2.1 x2) (cond (aX 0 v33) (cond (small (ℓ bo+ℓ ([(9,(5,(Je.1.1,(v33,(0,())))))]))) (EC x2 x4 x6 (bo++([(9,(5,(Je.1.1,(v33,(0,())))))])) (W .i64 (Xf+1))) none) (EC x2 x4 x6 bo (W .i64 (Xf+1)))) (EC x2 x4 x6 bo (W .i64 (Xf+1)))) (EC x2 x4 x6 bo (W .i64 (Xf+1)))) none) none) none) (some (bo,0))
def c3.O4(N:Nat):Nat→c3.IJ
 |0,_,_,_,_,_=>none
 |n+1,x2,x4,x6,bo,Xf=>c3.Mj N (c3.O4 N n) x2 x4 x6 bo Xf
def c3.PU(aaR:c3.IJ)(nC:c3.uW)(x2:Int)(x4:aE)(x5:ae)(x6:an)(bo:bf)(my:Int):Option (bf×(Int)):=
 cond (aX my (ℓ x6.1)) (cond (bb my (ℓ x6.1)) ((Z6 N (γ x6.1 my.toNat c8).2.1).bind λJZ=>cond (!JZ) (nC x2 x4 x5 x6 bo (W .i64 (my+1))) (cond (aN (γ x6.1 my.toNat c8).1 x2) (nC x2 x4 x5 x6 bo (W .i64 (my+1))) ((eI N x5.2.2.1).bind λMY=>(uY N x6.2.2.1 6 (γ x6.1 my.toNat c8).1).bind λEB=>(eI N EB).bind λNn=>(et N MY Nn).bind λJd=>(xB N Jd).bind λED=>cond (!ED.2) (some ([],2)) (cond (aX 0 ED.1) (cond (small (ℓ bo+ℓ ([(8,(7,((γ x6.1 my.toNat c8).1,(ED.1,(0,())))))]))) (nC x2 x4 x5 x6 (bo++([(8,(7,((γ x6.1 my.toNat c8).1,(ED.1,(0,())))))])) (W .i64 (my+1))) none) (nC x2 x4 x5 x6 bo (W .i64 (my+1))))))) none) (aaR x2 x4 x6 bo 0)
def c3.JR(N:Nat):Nat→c3.uW
 |0,_,_,_,_,_,_=>none
 |n+1,x2,x4,x5,x6,bo,my=>c3.PU N (c3.O4 N N) (c3.JR N n) x2 x4 x5 x6 bo my
def c3.nD(IH:c3.ny)(aaZ:c3.uW)(lE:c3.iN)(x2:Int)(x3 x4:aE)(x5:ae)(x6:an)(bo:bf)(cZ:Int):Option (bf×(Int)):=
 cond (du cZ 4) ((sI N x5 x6 x3 x2 cZ).bind λnL=>IH x2 x3 x4 x5 x6 bo cZ nL.1 0) (aaZ x2 x4 x5 x6 bo 0)
def c3.oH(N:Nat):Nat→c3.iN
 |0,_,_,_,_,_,_,_=>none
 |n+1,x2,x3,x4,x5,x6,bo,cZ=>c3.nD N (c3.xH N (c3.oH N n) N) (c3.JR N N) (c3.oH N n) x2 x3 x4 x5 x6 bo cZ
def c3.JA(uV:c3.iN)(x2:Int)(x3 x4:aE)(x5:ae)(x6:an)(bo:bf):Option (bf×(Int)):=
 (MI N bo x6 2 6 x2).bind λr8=>(MI N r8 x6 3 3 0).bind λr9=>uV x2 x3 x4 x5 x6 r9 1
def c3.j9(x2:Int)(x3 x4:aE)(x5:ae)(x6:an)(bo:bf):Option (bf×(Int)):=c3.JA N (c3.oH N N) x2 x3 x4 x5 x6 bo
def c3.b(B8:c3.MZ)(a0:ae)(a1:an)(a2:Int)(a3 a4:aE):Option (bf×(Int)):=
 (gH N a0 a1).bind λr1=>cond (!r1) (some ([],1)) ((p8 N a3).bind λr2=>cond (!r2) (some ([],1)) ((q3 N a4).bind λr3=>cond (!r3) (some ([],1)) ((Ub N a1.1 a2).bind λr4=>cond (aN r4 0) (some ([],3)) ((m8 N a1.2.1 a2).bind λr5=>cond (!aN r5 0) ((MI N ([]) a1 1 5 r5).bind λr6=>B8 a2 a3 a4 a0 a1 r6) (B8 a2 a3 a4 a0 a1 ([]))))))
def c3(a0:ae)(a1:an)(a2:Int)(a3 a4:aE):Option (bf×(Int)):=c3.b N (c3.j9 N) a0 a1 a2 a3 a4
def ado(a0:ae)(a1:an):Option ((Int)×(Int)):=
 (gH N a0 a1).bind λr1=>cond (!r1) (some (0,1)) ((uY N a1.2.2.1 2 0).bind λr2=>cond (aN r2 (-9223372036854775808)) (some (0,2)) (some ((mx (W .i64 (0-r2)) 0),0)))
abbrev sJ.bN:=bf→Int→Option Bool
def sJ.dQ(cG:sJ.bN)(x0:bf)(x3:Int):Option Bool:=
 cond (aX x3 (ℓ x0)) (cond (bb x3 (ℓ x0)) (cond (aX (γ x0 x3.toNat eG).1 1) (some false) (cond (aX 9 (γ x0 x3.toNat eG).1) (some false) ((F97 N (γ x0 x3.toNat eG).2.1 (γ x0 x3.toNat eG).2.2.1).bind λr2=>cond (!r2) (some false) (cond (aX (γ x0 x3.toNat eG).2.2.2.1 1) (some false) (cond (aX (γ x0 x3.toNat eG).2.2.2.2.1 0) (some false) (cond (aX (γ x0 x3.toNat eG).2.2.2.1 (γ x0 x3.toNat eG).2.2.2.2.1) (some false) (cond (aX 0 x3) (let v3:Int:=W .i64 (x3-1);cond (bb v3 (ℓ x0)) (cond (aX (γ x0 x3.toNat eG).1 (γ x0 v3.toNat eG).1) (some false) (let v4:Int:=W .i64 (x3-1);cond (bb v4 (ℓ x0)) (cond (aN (γ x0 x3.toNat eG).1 (γ x0 v4.toNat eG).1) (let v5:Int:=W .i64 (x3-1);cond (bb v5 (ℓ x0)) (cond (!aN (γ x0 x3.toNat eG).2.1 (γ x0 v5.toNat eG).2.1) (some false) (let v6:Int:=W .i64 (x3-1);cond (bb v6 (ℓ x0)) (cond (du (γ x0 x3.toNat eG).2.2.1 (γ x0 v6.toNat eG).2.2.1) (some false) (cG x0 (W .i64 (x3+1)))) none)) none) (cG x0 (W .i64 (x3+1)))) none)) none) (cG x0 (W .i64 (x3+1)))))))))) none) (some true)
def sJ.l4(N:Nat):Nat→sJ.bN
 |0,_,_=>none
 |n+1,x0,x3=>sJ.dQ N (sJ.l4 N n) x0 x3
def sJ.b(N:Nat)(ff:sJ.bN)(a0:bf):Option Bool:=
 cond (aX 64 (ℓ a0)) (some false) (ff a0 0)
def sJ(a0:bf):Option Bool:=sJ.b N (sJ.l4 N N) a0
abbrev dX.yf:=bf→Int→Int→Int→(List Int)→Int→Option (bf×(Int)×(Int))
abbrev dX.IN:=bf→Int→Int→Int→(List Int)→Option (bf×(Int)×(Int))
abbrev dX.jY:=bf→Int→Int→Int→(List Int)→Option (bf×(Int)×(Int))
abbrev dX.bJ:=bf→Int→Int→Option (bf×(Int)×(Int))
def dX.E6(N:Nat)(bL:dX.bJ)(IQ:dX.yf)(x7:bf)(x8 x9 bh:Int)(cZ:List Int)(fE:Int):Option (bf×(Int)×(Int)):=
 cond (aX fE bh) (let v13:Int:=W .i64 (fE-x9);cond (bb v13 (ℓ cZ)) (cond (bb fE (ℓ x7)) (let v15:Int:=W .i64 (fE-x9);cond (bb v15 (ℓ cZ)) (IQ (List.set x7 fE.toNat ((γ x7 fE.toNat eG).1,((γ x7 fE.toNat eG).2.1,((γ x7 fE.toNat eG).2.2.1,((γ x7 fE.toNat eG).2.2.2.1,(γ cZ v13.toNat 0,(γ x7 fE.toNat eG).2.2.2.2.2)))))) (W .i64 (x8-(γ cZ v15.toNat 0))) x9 bh cZ (W .i64 (fE+1))) none) none) none) (bL x7 x8 bh)
def dX.Ja(N:Nat)(bL:dX.bJ):Nat→dX.yf
 |0,_,_,_,_,_,_=>none
 |n+1,x7,x8,x9,bh,cZ,fE=>dX.E6 N bL (dX.Ja N bL n) x7 x8 x9 bh cZ fE
def dX.xV(Qt:dX.yf)(bL:dX.bJ)(x7:bf)(x8 x9 bh:Int)(a7:List Int):Option (bf×(Int)×(Int)):=
 (qm N a7).bind λr8=>(xB N r8).bind λr9=>cond (!r9.2) (some ([],0,2)) ((gw N (mn r9.1 x8) a7).bind λnL=>cond (!aN nL.2 0) (some ([],0,nL.2)) (Qt x7 x8 x9 bh nL.1 x9))
def dX.E5(bL:dX.bJ)(x7:bf)(x8 x9 bh:Int)(a7:List Int):Option (bf×(Int)×(Int)):=dX.xV N (dX.Ja N bL N) bL x7 x8 x9 bh a7
def dX.D4(N:Nat)(yc:dX.IN)(bL:dX.bJ)(gD:dX.jY)(x7:bf)(x8 x9 bh:Int)(a7:List Int):Option (bf×(Int)×(Int)):=
 cond (aX bh (ℓ x7)) (cond (bb bh (ℓ x7)) (cond (bb x9 (ℓ x7)) (cond (aN (γ x7 bh.toNat eG).1 (γ x7 x9.toNat eG).1) (cond (bb bh (ℓ x7)) (cond (small (ℓ a7+ℓ ([(γ x7 bh.toNat eG).2.2.2.1]))) (gD x7 x8 x9 (W .i64 (bh+1)) (a7++([(γ x7 bh.toNat eG).2.2.2.1]))) none) none) (yc x7 x8 x9 bh a7)) none) none) (yc x7 x8 x9 bh a7)
def dX.l8(N:Nat)(bL:dX.bJ):Nat→dX.jY
 |0,_,_,_,_,_=>none
 |n+1,x7,x8,x9,bh,a7=>dX.D4 N (dX.E5 N bL) bL (dX.l8 N bL n) x7 x8 x9 bh a7
def dX.eo(N:Nat)(IL:dX.jY)(bL:dX.bJ)(x7:bf)(x8 x9:Int):Option (bf×(Int)×(Int)):=
 cond (aX x9 (ℓ x7)) (IL x7 x8 x9 x9 ([])) (some (x7,x8,0))
def dX.l5(N:Nat):Nat→dX.bJ
 |0,_,_,_=>none
 |n+1,x7,x8,x9=>dX.eo N (dX.l8 N (dX.l5 N n) N) (dX.l5 N n) x7 x8 x9
def dX.b(e8:dX.bJ)(a0:bf)(a1:Int):Option (bf×(Int)×(Int)):=
 (sJ N a0).bind λr1=>cond (!r1) (some ([],0,1)) (cond (aX a1 0) (some ([],0,1)) (cond (small (ℓ EG+ℓ a0)) (e8 (EG++a0) a1 0) none))
def dX(a0:bf)(a1:Int):Option (bf×(Int)×(Int)):=dX.b N (dX.l5 N N) a0 a1
def adp(a0:ae)(a1:an):Option ((Int)×(Int)):=
 (gH N a0 a1).bind λr1=>cond (!r1) (some (0,1)) ((uY N a1.2.2.1 2 0).bind λr2=>some ((mx r2 0),0))
abbrev iY.aqL:=an→an→ei→bO→ei→bf→Int→Int→Int→Option (an×ei×(Int))
abbrev iY.IP:=Int→ae→an→an→ei→bf→Int→bO→ei→bf→Int→Option (an×ei×(Int))
def iY.ads(x6 bh:an)(a7:ei)(my:bO)(nF:ei)(IS:bf)(x21 x23 x24:Int):Option (an×ei×(Int)):=
 (eI N x21).bind λxR=>(Dd N 2 0 x23 x24 xR).bind λya=>cond (small (ℓ my+ℓ ya)) ((y9 N x6 bq (my++ya)).bind λQr=>cond (!aN Qr.2 0) (some ((cc,(cT,(bq,(bq,(db,(dq,())))))),(0,(0,(EG,(0,())))),Qr.2)) (some (Qr.1,(nF.1,(nF.2.1,(IS,nF.2.2.2))),0))) none
def iY.j26(x6 bh:an)(a7:ei)(my:bO)(nF:ei)(IS:bf)(x21 x23 x24:Int):Option (an×ei×(Int)):=iY.ads N x6 bh a7 my nF IS x21 x23 x24
def iY.JJ(aiU:iY.aqL)(Ln:iY.IP)(x2:Int)(x5:ae)(x6 bh:an)(a7:ei)(cf:bf)(gh:Int)(my:bO)(nF:ei)(IS:bf)(Ak:Int):Option (an×ei×(Int)):=
 cond (aX Ak (ℓ cf)) (cond (bb Ak (ℓ cf)) (cond (aX 0 (γ cf Ak.toNat eG).2.2.2.2.1) (cond (bb Ak (ℓ cf)) (cond (small (ℓ IS+ℓ ([γ cf Ak.toNat eG]))) (cond (bb Ak (ℓ cf)) (cond (bb Ak (ℓ cf)) (cond (bb Ak (ℓ cf)) ((eI N (γ cf Ak.toNat eG).2.2.2.2.1).bind λr6=>(Dd N (γ cf Ak.toNat eG).2.1 (γ cf Ak.toNat eG).2.2.1 2 0 r6).bind λr7=>cond (small (ℓ my+ℓ r7)) (Ln x2 x5 x6 bh a7 cf gh (my++r7) (nF.1,(nF.2.1,(EG,nF.2.2.2))) (IS++([γ cf Ak.toNat eG])) (W .i64 (Ak+1))) none) none) none) none) none) none) (Ln x2 x5 x6 bh a7 cf gh my nF IS (W .i64 (Ak+1)))) none) ((eI N gh).bind λnL=>(Dd N 4 0 2 0 nL).bind λoQ=>cond (small (ℓ my+ℓ oQ)) (let v13:List ((Int)×((Int)×(((Bool)×((List Int)×(Unit)))×(Unit)))):=my++oQ;(adp N x5 x6).bind λtZ=>(m8 N x6.2.1 x2).bind λwk=>cond (!aN wk 0) (aiU x6 bh a7 v13 nF IS tZ.1 5 wk) (aiU x6 bh a7 v13 nF IS tZ.1 6 x2)) none)
def iY.Kx(N:Nat):Nat→iY.IP
 |0,_,_,_,_,_,_,_,_,_,_,_=>none
 |n+1,x2,x5,x6,bh,a7,cf,gh,my,nF,IS,Ak=>iY.JJ N (iY.j26 N) (iY.Kx N n) x2 x5 x6 bh a7 cf gh my nF IS Ak
def iY.b(aaW:iY.IP)(a0:ae)(a1:an)(a2:Int)(a3 a4:aE):Option (an×ei×(Int)):=
 (c3 N a0 a1 a2 a3 a4).bind λr1=>cond (aN r1.2 1) (some ((cc,(cT,(bq,(bq,(db,(dq,())))))),(0,(0,(EG,(0,())))),r1.2)) (cond (aN r1.2 3) (some ((cc,(cT,(bq,(bq,(db,(dq,())))))),(0,(0,(EG,(0,())))),r1.2)) ((ado N a0 a1).bind λr2=>cond (!aN r2.2 0) (some ((cc,(cT,(bq,(bq,(db,(dq,())))))),(0,(0,(EG,(0,())))),r2.2)) (cond (!aN r1.2 0) (some ((cc,(cT,(bq,(bq,(db,(dq,())))))),(0,(0,(EG,(0,())))),r1.2)) ((dX N r1.1 r2.1).bind λr3=>cond (!aN r3.2.2 0) (some ((cc,(cT,(bq,(bq,(db,(dq,())))))),(0,(0,(EG,(0,())))),r3.2.2)) (aaW a2 a0 a1 (cc,(cT,(bq,(bq,(db,(dq,())))))) (0,(0,(EG,(0,())))) r3.1 r3.2.1 ([]) (a2,(r2.1,(EG,(r3.2.1,())))) EG 0)))))
def iY(a0:ae)(a1:an)(a2:Int)(a3 a4:aE):Option (an×ei×(Int)):=iY.b N (iY.Kx N N) a0 a1 a2 a3 a4
abbrev fk.II:=(List Int)→(List Int)→(List Int)→Int→Int→(List Int)→Int→Option ((List Int)×(Int)×(Int))
abbrev fk.iN:=(List Int)→(List Int)→(List Int)→Int→Int→(List Int)→Bool→Int→Option ((List Int)×(Int)×(Int))
abbrev fk.jY:=(List Int)→(List Int)→(List Int)→Int→Int→Option ((List Int)×(Int)×(Int))
def fk.Sm(N:Nat)(gD:fk.jY)(aaQ:fk.II)(x1 x2 a7:List Int)(bo cf:Int)(gh:List Int)(nF:Int):Option ((List Int)×(Int)×(Int)):=
 cond (aX nF (ℓ x1)) (cond (bb nF (ℓ gh)) (cond (bb nF (ℓ x2)) (cond (bb nF (ℓ a7)) (let v16:Int:=mn (γ gh nF.toNat 0) (W .i64 ((γ x2 nF.toNat 0)-(γ a7 nF.toNat 0)));cond (bb nF (ℓ a7)) (cond (bb nF (ℓ a7)) (aaQ x1 x2 (List.set a7 nF.toNat (W .i64 ((γ a7 nF.toNat 0)+v16))) (W .i64 (bo-v16)) cf gh (W .i64 (nF+1))) none) none) none) none) none) (gD x1 x2 a7 bo (W .i64 (cf+1)))
def fk.Wb(N:Nat)(gD:fk.jY):Nat→fk.II
 |0,_,_,_,_,_,_,_=>none
 |n+1,x1,x2,a7,bo,cf,gh,nF=>fk.Sm N gD (fk.Wb N gD n) x1 x2 a7 bo cf gh nF
def fk.nD(aaS:fk.II)(gD:fk.jY)(lE:fk.iN)(x1 x2 a7:List Int)(bo cf:Int)(cZ:List Int)(eu:Bool)(fE:Int):Option ((List Int)×(Int)×(Int)):=
 cond (aX fE (ℓ x1)) (cond (bb fE (ℓ x1)) (cond (aX 0 (γ x1 fE.toNat 0)) (cond (bb fE (ℓ a7)) (cond (bb fE (ℓ x2)) (cond (aX (γ a7 fE.toNat 0) (γ x2 fE.toNat 0)) (cond (bb fE (ℓ x1)) (cond (bb fE (ℓ cZ)) (lE x1 x2 a7 bo cf (List.set cZ fE.toNat (γ x1 fE.toNat 0)) true (W .i64 (fE+1))) none) none) (lE x1 x2 a7 bo cf cZ eu (W .i64 (fE+1)))) none) none) (lE x1 x2 a7 bo cf cZ eu (W .i64 (fE+1)))) none) (cond (aN bo 0) (some (a7,bo,0)) (cond (!eu) (some (a7,bo,0)) ((gw N bo cZ).bind λp5=>aaS x1 x2 a7 bo cf p5.1 0)))
def fk.oH(N:Nat)(gD:fk.jY):Nat→fk.iN
 |0,_,_,_,_,_,_,_,_=>none
 |n+1,x1,x2,a7,bo,cf,cZ,eu,fE=>fk.nD N (fk.Wb N gD N) gD (fk.oH N gD n) x1 x2 a7 bo cf cZ eu fE
def fk.D4(N:Nat)(uV:fk.iN)(gD:fk.jY)(x1 x2 a7:List Int)(bo cf:Int):Option ((List Int)×(Int)×(Int)):=
 cond (du cf (ℓ x1)) (cond (kU (ℓ x1) (ℓ x1)) (uV x1 x2 a7 bo cf (List.replicate (ℓ x1:Int).toNat 0) false 0) none) (some (a7,bo,0))
def fk.l8(N:Nat):Nat→fk.jY
 |0,_,_,_,_,_=>none
 |n+1,x1,x2,a7,bo,cf=>fk.D4 N (fk.oH N (fk.l8 N n) N) (fk.l8 N n) x1 x2 a7 bo cf
def fk.b(IL:fk.jY)(a0:Int)(a1 a2:List Int):Option ((List Int)×(Int)×(Int)):=
 (qt N a0 a1).bind λr1=>cond (r1) (some ([],0,1)) (cond (!aN (ℓ a2) (ℓ a1)) (some ([],0,1)) ((qt N 0 a2).bind λr2=>cond (r2) (some ([],0,1)) ((qm N a1).bind λr3=>(xB N r3).bind λr4=>cond (!r4.2) (some ([],0,2)) (cond (kU (ℓ a1) (ℓ a1)) (IL a1 a2 (List.replicate (ℓ a1:Int).toNat 0) a0 0) none))))
def fk(a0:Int)(a1 a2:List Int):Option ((List Int)×(Int)×(Int)):=fk.b N (fk.l8 N N) a0 a1 a2
abbrev gl.aa0:=Int→Int→(List Int)→(List Int)→au→Int→Option (au×(Int))
abbrev gl.yh:=Int→an→Int→(List Int)→(List Int)→Int→Option (au×(Int))
def gl.Z7(N:Nat)(UY:gl.aa0)(x2 x8:Int)(x9 cf:List Int)(fE:au)(gh:Int):Option (au×(Int)):=
 cond (aX gh (ℓ cf)) (cond (bb gh (ℓ cf)) (cond (aX x8 0) (let v17:Int:=W .i64 (0-(γ cf gh.toNat 0));cond (!aN v17 0) (cond (bb gh (ℓ x9)) (cond (small (ℓ fE+ℓ ([(γ x9 gh.toNat 0,(x2,(v17,())))]))) (UY x2 x8 x9 cf (fE++([(γ x9 gh.toNat 0,(x2,(v17,())))])) (W .i64 (gh+1))) none) none) (UY x2 x8 x9 cf fE (W .i64 (gh+1)))) (cond (!aN (γ cf gh.toNat 0) 0) (cond (bb gh (ℓ x9)) (cond (small (ℓ fE+ℓ ([(γ x9 gh.toNat 0,(x2,(γ cf gh.toNat 0,())))]))) (UY x2 x8 x9 cf (fE++([(γ x9 gh.toNat 0,(x2,(γ cf gh.toNat 0,())))])) (W .i64 (gh+1))) none) none) (UY x2 x8 x9 cf fE (W .i64 (gh+1))))) none) (some (fE,0))
def gl.WM(N:Nat):Nat→gl.aa0
 |0,_,_,_,_,_,_=>none
 |n+1,x2,x8,x9,cf,fE,gh=>gl.Z7 N (gl.WM N n) x2 x8 x9 cf fE gh
def gl.xK(aqM:gl.aa0)(Ca:gl.yh)(x2:Int)(x4:an)(x8:Int)(x9 bh:List Int)(a7:Int):Option (au×(Int)):=
 cond (aX a7 (ℓ x4.2.2.2.1)) (cond (bb a7 (ℓ x4.2.2.2.1)) (cond (!aN (γ x4.2.2.2.1 a7.toNat bc).1 0) (cond (aN (γ x4.2.2.2.1 a7.toNat bc).2.1 x2) (cond (!(pn .bool (aX 0 (γ x4.2.2.2.1 a7.toNat bc).2.2.1) (aX 0 x8))) (cond (small (ℓ x9+ℓ ([(γ x4.2.2.2.1 a7.toNat bc).1]))) (let v6:Int:=mx (γ x4.2.2.2.1 a7.toNat bc).2.2.1 (W .i64 (0-((γ x4.2.2.2.1 a7.toNat bc).2.2.1)));cond (small (ℓ bh+ℓ ([v6]))) (Ca x2 x4 x8 (x9++([(γ x4.2.2.2.1 a7.toNat bc).1])) (bh++([v6])) (W .i64 (a7+1))) none) none) (Ca x2 x4 x8 x9 bh (W .i64 (a7+1)))) (Ca x2 x4 x8 x9 bh (W .i64 (a7+1)))) (Ca x2 x4 x8 x9 bh (W .i64 (a7+1)))) none) ((fk N (mx x8 (W .i64 (0-x8))) bh bh).bind λtZ=>cond (!aN tZ.2.2 0) (some ([],tZ.2.2)) (aqM x2 x8 x9 tZ.1 ([(0,(x2,((W .i64 (0-x8)),())))]) 0))
def gl.zW(N:Nat):Nat→gl.yh
 |0,_,_,_,_,_,_=>none
 |n+1,x2,x4,x8,x9,bh,a7=>gl.xK N (gl.WM N N) (gl.zW N n) x2 x4 x8 x9 bh a7
def gl.b(Qv:gl.yh)(a0:ae)(a1:an)(a2:Int):Option (au×(Int)):=
 (gH N a0 a1).bind λr1=>cond (!r1) (some ([],1)) (cond (aX a2 0) (some ([],3)) (cond (du (ℓ a0.1) a2) (some ([],3)) ((Cj N a1.2.2.2.1 0 a2).bind λr2=>cond (aN r2 0) (some ([],0)) (Qv a2 a1 r2 ([]) ([]) 0))))
def gl(a0:ae)(a1:an)(a2:Int):Option (au×(Int)):=gl.b N (gl.zW N N) a0 a1 a2
abbrev oC.bJ:=ae→an→an→au→Int→Option (an×(Int))
def oC.eo(bL:oC.bJ)(x2:ae)(x3 x4:an)(x6:au)(x7:Int):Option (an×(Int)):=
 cond (aX x7 (ℓ x2.1)) ((gl N x2 x3 x7).bind λr3=>cond (!aN r3.2 0) (some ((cc,(cT,(bq,(bq,(db,(dq,())))))),r3.2)) (cond (small (ℓ x6+ℓ r3.1)) (bL x2 x3 x4 (x6++r3.1) (W .i64 (x7+1))) none)) ((y9 N x3 x6 ([]:List ((Int)×((Int)×(((Bool)×((List Int)×(Unit)))×(Unit)))))).bind λr6=>some (r6.1,r6.2))
def oC.l5(N:Nat):Nat→oC.bJ
 |0,_,_,_,_,_=>none
 |n+1,x2,x3,x4,x6,x7=>oC.eo N (oC.l5 N n) x2 x3 x4 x6 x7
def oC.b(e8:oC.bJ)(a0:ae)(a1:an):Option (an×(Int)):=
 (gH N a0 a1).bind λr1=>cond (!r1) (some ((cc,(cT,(bq,(bq,(db,(dq,())))))),1)) (e8 a0 a1 (cc,(cT,(bq,(bq,(db,(dq,())))))) ([]) 0)
def oC(a0:ae)(a1:an):Option (an×(Int)):=oC.b N (oC.l5 N N) a0 a1
abbrev oE.aa1:=aQ→aQ→dd→bI→Int→Int→Option (aQ×dd)
def oE.adx(N:Nat)(aiV:oE.aa1)(x4 x6:aQ)(x7:dd)(cZ:bI)(fE gh:Int):Option (aQ×dd):=
 cond (aX gh (ℓ cZ)) (cond (bb gh (ℓ cZ)) (cond (aN (γ cZ gh.toNat (0,(cc,ba))).2.2.2.1 2) (aiV x4 x6 x7 cZ (W .i64 (fE+1)) (W .i64 (gh+1))) (aiV x4 x6 x7 cZ fE (W .i64 (gh+1)))) none) (some (x4,(0,(fE,(0,())))))
def oE.l41(N:Nat):Nat→oE.aa1
 |0,_,_,_,_,_,_=>none
 |n+1,x4,x6,x7,cZ,fE,gh=>oE.adx N (oE.l41 N n) x4 x6 x7 cZ fE gh
def oE.b(aqN:oE.aa1)(a0:ae)(a1:aQ)(a2:ix):Option (aQ×dd):=
 cond (aN a2.1 14) ((WC N a0 a1.2.2.1 a1.2.2.2.1.1 a2.2.1 a2.2.2.1).bind λr1=>(gd N r1.2).bind λr2=>some ((a1.1,(a1.2.1,(r1.1,a1.2.2.2))),r2)) (cond (aN a2.1 15) ((gY N a0 a1.2.2.1 a1.2.2.2.1.1).bind λr3=>(gd N r3.2).bind λr4=>some ((a1.1,(a1.2.1,(r3.1,((a1.2.2.2.1.1,(2,(0,a1.2.2.2.1.2.2.2))),a1.2.2.2.2)))),r4)) (cond (aN a2.1 16) ((jH N a0 a1.2.2.1 a1.2.1).bind λr5=>some ((a1.1,((W .i64 (a1.2.1+(ℓ r5.1:Int))),(a1.2.2.1,((a1.2.2.2.1.1,(a1.2.2.2.1.2.1,(a1.2.2.2.1.2.2.1,(a1.2.2.2.1.2.2.2.1,(r5.1,a1.2.2.2.1.2.2.2.2.2))))),a1.2.2.2.2)))),(r5.2,((ℓ r5.1:Int),(0,()))))) (cond (aN a2.1 17) ((oD N a0 a1 a2).bind λr7=>some (r7.1,r7.2)) (cond (aN a2.1 18) (cond (aN a1.2.2.2.1.2.2.2.1 3) ((gd N 5).bind λr8=>some (a1,r8)) ((cm N a0 a1.2.2.1 a1.2.1).bind λr9=>cond (!aN r9.2 0) ((gd N r9.2).bind λkM=>some (a1,kM)) ((WO N a1 a0.2.2.2.2.1).bind λnL=>cond (!nL.2) ((gd N 2).bind λoQ=>some (a1,oQ)) ((sF N a0 a1.2.2.1).bind λtZ=>some ((a1.1,((W .i64 (a1.2.1+(ℓ r9.1:Int))),(a1.2.2.1,((a1.2.2.2.1.1,(3,(nL.1,((W .i64 (a1.2.2.2.1.2.2.2.1+1)),(cT,(r9.1,(cT,(tZ.1,a1.2.2.2.1.2.2.2.2.2.2.2.2)))))))),a1.2.2.2.2)))),(0,((ℓ r9.1:Int),(0,())))))))) (cond (aN a2.1 19) ((adm N a0 a1.2.2.1 a1.2.2.2.1.2.2.2.2.2.1 a1.2.2.2.1.2.2.2.2.2.2.1 (a1.2.1,(a2.2.2.2.2.2.1,(a2.2.1,(a2.2.2.2.2.2.2.2.1,()))))).bind λwH=>let v17:Int:=W .i64 (a1.2.1+1);some ((a1.1,(v17,(a1.2.2.1,((a1.2.2.2.1.1,(a1.2.2.2.1.2.1,(a1.2.2.2.1.2.2.1,(a1.2.2.2.1.2.2.2.1,(a1.2.2.2.1.2.2.2.2.1,(a1.2.2.2.1.2.2.2.2.2.1,(wH.1,a1.2.2.2.1.2.2.2.2.2.2.2))))))),a1.2.2.2.2)))),(wH.2,((W .i64 (v17-1)),(0,()))))) (cond (aN a2.1 20) ((gu N a0 a1.2.2.1 a1.2.2.2.1.2.2.2.2.2.1 a1.2.2.2.1.2.2.2.2.2.2.1).bind λJZ=>cond (!aN JZ.2.2 0) ((gd N JZ.2.2).bind λQr=>some (a1,Qr)) ((dO N a0 a1.2.2.2.1.2.2.2.2.2.2.2.2.1 a1.2.2.2.1.2.2.2.2.2.2.2.1 JZ.2.1 a1.2.2.2.1.2.2.2.2.2.2.1).bind λFM=>aqN (a1.1,(a1.2.1,(JZ.1,((a1.2.2.2.1.1,(2,(0,(a1.2.2.2.1.2.2.2.1,(a1.2.2.2.1.2.2.2.2.1,(JZ.2.1,(a1.2.2.2.1.2.2.2.2.2.2.1,(a1.2.2.2.1.2.2.2.2.2.2.2.1,(FM.1,a1.2.2.2.1.2.2.2.2.2.2.2.2.2))))))))),a1.2.2.2.2)))) (0,(0,((cc,(cT,(bq,(bq,(db,(dq,())))))),((0,(0,(0,(0,(cT,(([]:List ((Int)×((List ((Int)×((Int)×(Unit))))×((Int)×((Int)×((Int)×((Int)×(Unit)))))))),(cT,(db,(cc,(cc,())))))))))),((0,(0,(EG,(0,())))),()))))) bc JZ.2.1 0 0)) (cond (aN a2.1 21) ((iY N a0 a1.2.2.1 a1.2.2.2.1.1 a1.2.2.2.1.2.2.2.2.2.2.2.2.1 a1.2.2.2.1.2.2.2.2.2.2.2.2.2.1).bind λED=>cond (!aN ED.2.2 0) ((gd N ED.2.2).bind λQq=>some (a1,Qq)) ((oC N a0 ED.1).bind λr28=>cond (!aN r28.2 0) ((gd N r28.2).bind λFO=>some (a1,FO)) ((mM N r28.1.1 a1.2.2.2.1.1 a2.1).bind λTc=>some ((a1.1,(a1.2.1,((Tc.1,r28.1.2),((0,(0,(0,(0,(cT,(([]:List ((Int)×((List ((Int)×((Int)×(Unit))))×((Int)×((Int)×((Int)×((Int)×(Unit)))))))),(cT,(db,(cc,(cc,())))))))))),(ED.2.1,a1.2.2.2.2.2))))),(Tc.2,(0,(ED.2.1.2.1,()))))))) ((gd N 0).bind λJe=>some (a1,Je)))))))))
def oE(a0:ae)(a1:aQ)(a2:ix):Option (aQ×dd):=oE.b N (oE.l41 N N) a0 a1 a2
abbrev qx.aaY:=ae→aQ→ix→aQ→dd→Option (aQ×dd)
def qx.PV(x3:ae)(x4:aQ)(x5:ix)(x6:aQ)(x7:dd):Option (aQ×dd):=
 (ady N x4 x5.1).bind λQq=>cond (!Qq) ((gd N 6).bind λr28=>some (x4,r28)) ((oE N x3 x4 x5).bind λFO=>some (FO.1,FO.2))
def qx.WH(x3:ae)(x4:aQ)(x5:ix)(x6:aQ)(x7:dd):Option (aQ×dd):=qx.PV N x3 x4 x5 x6 x7
def qx.b(Qx:qx.aaY)(a0:ae)(a1:aQ)(a2:ix):Option (aQ×dd):=
 cond (aN a2.1 11) ((mM N a1.2.2.1.1 a2.2.1 a2.1).bind λr1=>cond (aN r1.2 0) (cond (aN a2.1 11) ((F54 N a0 (r1.1,a1.2.2.1.2) a2.2.1).bind λr2=>cond (aN a1.2.2.2.1.2.1 3) ((p7 N a1.2.2.2.1.2.2.2.2.2.2.1 a2.2.1).bind λr3=>(gd N r1.2).bind λr4=>some ((a1.1,(a1.2.1,(r2.1,((a1.2.2.2.1.1,(a1.2.2.2.1.2.1,(a1.2.2.2.1.2.2.1,(a1.2.2.2.1.2.2.2.1,(a1.2.2.2.1.2.2.2.2.1,(a1.2.2.2.1.2.2.2.2.2.1,(r3,a1.2.2.2.1.2.2.2.2.2.2.2))))))),a1.2.2.2.2)))),r4)) ((gd N r1.2).bind λr5=>some ((a1.1,(a1.2.1,(r2.1,a1.2.2.2))),r5))) ((gd N r1.2).bind λr6=>some ((a1.1,(a1.2.1,((r1.1,a1.2.2.1.2),a1.2.2.2))),r6))) ((gd N r1.2).bind λr7=>some ((a1.1,(a1.2.1,((r1.1,a1.2.2.1.2),a1.2.2.2))),r7))) (cond (aN a2.1 12) ((mM N a1.2.2.1.1 a2.2.1 a2.1).bind λr8=>cond (aN r8.2 0) (cond (aN a2.1 11) ((F54 N a0 (r8.1,a1.2.2.1.2) a2.2.1).bind λr9=>cond (aN a1.2.2.2.1.2.1 3) ((p7 N a1.2.2.2.1.2.2.2.2.2.2.1 a2.2.1).bind λkM=>(gd N r8.2).bind λnL=>some ((a1.1,(a1.2.1,(r9.1,((a1.2.2.2.1.1,(a1.2.2.2.1.2.1,(a1.2.2.2.1.2.2.1,(a1.2.2.2.1.2.2.2.1,(a1.2.2.2.1.2.2.2.2.1,(a1.2.2.2.1.2.2.2.2.2.1,(kM,a1.2.2.2.1.2.2.2.2.2.2.2))))))),a1.2.2.2.2)))),nL)) ((gd N r8.2).bind λoQ=>some ((a1.1,(a1.2.1,(r9.1,a1.2.2.2))),oQ))) ((gd N r8.2).bind λp5=>some ((a1.1,(a1.2.1,((r8.1,a1.2.2.1.2),a1.2.2.2))),p5))) ((gd N r8.2).bind λtZ=>some ((a1.1,(a1.2.1,((r8.1,a1.2.2.1.2),a1.2.2.2))),tZ))) (cond (aN a2.1 13) ((Ij N a1 a2.2.1).bind λwk=>cond (aN wk 0) ((gd N 3).bind λwH=>some (a1,wH)) (cond (!aN a1.2.2.2.1.2.1 0) ((gd N 6).bind λxR=>some (a1,xR)) ((mM N a1.2.2.1.1 a2.2.1 a2.1).bind λya=>cond (!aN ya.2 0) ((gd N ya.2).bind λJZ=>some ((a1.1,(a1.2.1,((ya.1,a1.2.2.1.2),a1.2.2.2))),JZ)) ((WO N (a1.1,(a1.2.1,((ya.1,a1.2.2.1.2),a1.2.2.2))) a0.2.2.2.1).bind λQr=>cond (!Qr.2) ((gd N 2).bind λFM=>some ((a1.1,(a1.2.1,((ya.1,a1.2.2.1.2),a1.2.2.2))),FM)) (some ((a1.1,(a1.2.1,((ya.1,a1.2.2.1.2),((a2.2.1,(1,(Qr.1,(0,(cT,(([]:List ((Int)×((List ((Int)×((Int)×(Unit))))×((Int)×((Int)×((Int)×((Int)×(Unit)))))))),(cT,(db,(cc,(cc,())))))))))),a1.2.2.2.2)))),bc)))))) (cond (aN a2.1 19) ((Ij N a1 a2.2.1).bind λMY=>cond (aN MY 0) ((gd N 3).bind λEB=>some (a1,EB)) ((Ij N a1 a2.2.1).bind λNn=>cond (!aN Nn 1) ((gd N 7).bind λJd=>some (a1,Jd)) (Qx a0 a1 a2 (0,(0,((cc,(cT,(bq,(bq,(db,(dq,())))))),((0,(0,(0,(0,(cT,(([]:List ((Int)×((List ((Int)×((Int)×(Unit))))×((Int)×((Int)×((Int)×((Int)×(Unit)))))))),(cT,(db,(cc,(cc,())))))))))),((0,(0,(EG,(0,())))),()))))) bc))) (Qx a0 a1 a2 (0,(0,((cc,(cT,(bq,(bq,(db,(dq,())))))),((0,(0,(0,(0,(cT,(([]:List ((Int)×((List ((Int)×((Int)×(Unit))))×((Int)×((Int)×((Int)×((Int)×(Unit)))))))),(cT,(db,(cc,(cc,())))))))))),((0,(0,(EG,(0,())))),()))))) bc))))
def qx(a0:ae)(a1:aQ)(a2:ix):Option (aQ×dd):=qx.b N (qx.WH N) a0 a1 a2
def WQ(a0:ae)(a1:aQ)(a2:ix):Option (aQ×dd):=
 cond (aN a2.1 1) ((iW N a1.2.2.1.1 a2.2.1).bind λr1=>(gd N r1.2).bind λr2=>some ((a1.1,(a1.2.1,((r1.1,a1.2.2.1.2),a1.2.2.2))),r2)) (cond (aN a2.1 2) ((fT N a1.2.2.1.1 a1.2.2.1.2.1 (a2.2.2.1,(a2.2.1,(a2.2.2.2.2.1,(0,()))))).bind λr3=>(gd N r3.2).bind λr4=>some ((a1.1,(a1.2.1,((a1.2.2.1.1,(r3.1,a1.2.2.1.2.2)),a1.2.2.2))),r4)) (cond (aN a2.1 3) ((SQ N a1 a2.2.2.1).bind λr5=>cond (!r5) ((gd N 3).bind λr6=>some (a1,r6)) ((P1 N a1 1 0 5 a2.2.2.1 a2.2.2.2.2.2.2.1).bind λr7=>some (r7.1,r7.2))) (cond (aN a2.1 4) ((WB N a0 a1.2.2.1 a2.2.2.1 a2.2.2.2.2.2.2.1).bind λr8=>(gd N r8.2).bind λr9=>some ((a1.1,(a1.2.1,(r8.1,a1.2.2.2))),r9)) (cond (aN a2.1 5) ((Ij N a1 a2.2.1).bind λkM=>cond (aN kM 0) ((gd N 3).bind λnL=>some (a1,nL)) ((Ij N a1 a2.2.1).bind λoQ=>cond (!aN oQ 1) ((gd N 7).bind λp5=>some (a1,p5)) ((P1 N a1 1 0 6 a2.2.1 a2.2.2.2.2.2.2.1).bind λtZ=>some (tZ.1,tZ.2)))) (cond (aN a2.1 22) ((Ij N a1 a2.2.1).bind λwk=>cond (aN wk 0) ((gd N 3).bind λwH=>some (a1,wH)) ((uY N a1.2.2.1.2.2.1 7 a2.2.1).bind λxR=>(eI N xR).bind λya=>(ES N ya).bind λJZ=>(eI N a2.2.2.2.2.2.2.1).bind λQr=>(y8 N Qr JZ).bind λFM=>cond (aX 0 FM) ((gd N 9).bind λMY=>some (a1,MY)) ((P1 N a1 1 0 7 a2.2.1 a2.2.2.2.2.2.2.1).bind λEB=>some (EB.1,EB.2)))) (cond (aN a2.1 6) ((ox N a1.2.2.1.2.1 a2.2.2.1 a2.2.2.2.2.2.2.1).bind λNn=>(gd N Nn.2).bind λJd=>some ((a1.1,(a1.2.1,((a1.2.2.1.1,(Nn.1,a1.2.2.1.2.2)),a1.2.2.2))),Jd)) (cond (aN a2.1 7) ((jV N a0 a1.2.2.1 (a1.2.1,(a2.2.2.1,(a2.2.2.2.1,(a2.2.2.2.2.1,(a2.2.2.2.2.2.2.1,(a2.2.2.2.2.2.2.2.1,()))))))).bind λED=>let v27:Int:=W .i64 (a1.2.1+1);some ((a1.1,(v27,(ED.1,a1.2.2.2))),(ED.2.2.2,((W .i64 (v27-1)),((W .i64 (a2.2.2.2.2.2.2.1-ED.2.2.1)),()))))) (cond (aN a2.1 8) ((SQ N a1 a2.2.2.1).bind λTc=>cond (!Tc) ((gd N 3).bind λJe=>some (a1,Je)) ((oz N a1.2.2.1.2.2.2.2.2.1 a2.2.2.1 a2.2.2.2.2.2.1).bind λr32=>(gd N r32.2).bind λr33=>some ((a1.1,(a1.2.1,((a1.2.2.1.1,(a1.2.2.1.2.1,(a1.2.2.1.2.2.1,(a1.2.2.1.2.2.2.1,(a1.2.2.1.2.2.2.2.1,(r32.1,a1.2.2.1.2.2.2.2.2.2)))))),a1.2.2.2))),r33))) (cond (aN a2.1 9) ((F52 N a0 a1.2.2.1 a2.2.2.2.1 a2.2.2.2.2.2.2.2.1).bind λr34=>cond (aN r34.2.2 0) (cond (!aN a1.2.2.2.1.2.1 0) ((fA N a1.2.2.2.1.2.2.2.2.2.2.2.2.2.1 r34.2.1).bind λr35=>(gd N r35.2).bind λr36=>some ((a1.1,(a1.2.1,(r34.1,((a1.2.2.2.1.1,(a1.2.2.2.1.2.1,(a1.2.2.2.1.2.2.1,(a1.2.2.2.1.2.2.2.1,(a1.2.2.2.1.2.2.2.2.1,(a1.2.2.2.1.2.2.2.2.2.1,(a1.2.2.2.1.2.2.2.2.2.2.1,(a1.2.2.2.1.2.2.2.2.2.2.2.1,(a1.2.2.2.1.2.2.2.2.2.2.2.2.1,(r35.1,a1.2.2.2.1.2.2.2.2.2.2.2.2.2.2)))))))))),a1.2.2.2.2)))),r36)) ((gd N r34.2.2).bind λr37=>some ((a1.1,(a1.2.1,(r34.1,a1.2.2.2))),r37))) ((gd N r34.2.2).bind λr38=>some ((a1.1,(a1.2.1,(r34.1,a1.2.2.2))),r38))) (cond (aN a2.1 10) ((WO N a1 a2.2.2.2.2.2.2.1).bind λr39=>cond (!r39.2) ((gd N 2).bind λr40=>some (a1,r40)) (some ((r39.1,a1.2),bc))) ((qx N a0 a1 a2).bind λr41=>some (r41.1,r41.2))))))))))))
def F76(a0:ae)(a1:aQ)(a2:ix):Option (aQ×dd):=
 (zP N a0).bind λr1=>cond (!r1) (some (a1,(1,c8))) ((sC N a2).bind λr2=>cond (!r2) (some (a1,(1,c8))) ((WQ N a0 a1 a2).bind λr3=>cond (!aN r3.2.1 0) (some (a1,(r3.2.1,c8))) (some (r3.1,r3.2))))
abbrev q6.alr:=cX→di→aQ→Option (aQ×cX×di)
def q6.l1b(awo:q6.alr)(x0:cX)(x1:di)(x4:aQ):Option (aQ×cX×di):=
 cond (aX x0.2.2.1 (ℓ x1)) (cond (bb x0.2.2.1 (ℓ x1)) ((F76 N x0.1 x0.2.1 (γ x1 x0.2.2.1.toNat zz8)).bind λr2=>awo (x0.1,(r2.1,((W .i64 (x0.2.2.1+1)),x0.2.2.2))) x1 x4) none) (some (x0.2.1,x0,x1))
def q6.l1(N:Nat):Nat→q6.alr
 |0,_,_,_=>none
 |n+1,x0,x1,x4=>q6.l1b N (q6.l1 N n) x0 x1 x4
def q6.b(N:Nat)(awp:q6.alr)(a0:cX)(a1:di):Option (aQ×cX×di):=
 awp a0 a1 (0,(0,((cc,(cT,(bq,(bq,(db,(dq,())))))),((0,(0,(0,(0,(cT,(([]:List ((Int)×((List ((Int)×((Int)×(Unit))))×((Int)×((Int)×((Int)×((Int)×(Unit)))))))),(cT,(db,(cc,(cc,())))))))))),((0,(0,(EG,(0,())))),())))))
def q6(a0:cX)(a1:di):Option (aQ×cX×di):=q6.b N (q6.l1 N N) a0 a1
abbrev eM.yd:=aG→cX→di→aQ→Int→jc→Int→Option (di×aG×cX)
abbrev eM.fR:=aG→cX→di→aQ→Int→Option (di×aG×cX)
abbrev eM.Lp:=aG→cX→di→Option (di×aG×cX)
abbrev eM.bJ:=aG→cX→di→aQ→Int→Option (di×aG×cX)
def eM.EY(gK:eM.fR)(Lo:eM.yd)(x0:aG)(x1:cX)(x2:di)(bh:aQ)(a7:Int)(bo:jc)(cf:Int):Option (di×aG×cX):=
 cond (du cf 4) ((PJ N x0 3).bind λFM=>cond (!FM.1) ((oR N FM.2 41).bind λMY=>let v26:Int:=mx (mn (W .i64 ((W .i64 (bo.2.2.1+MY.1))-20)) 1152921504606846976) (-1152921504606846976);cond (small (ℓ x2+ℓ ([(19,(cf,(0,(0,(0,(bo.1,(0,(v26,()))))))))]))) (Lo MY.2 x1 (x2++([(19,(cf,(0,(0,(0,(bo.1,(0,(v26,()))))))))])) bh a7 bo (W .i64 (cf+1))) none) (Lo FM.2 x1 x2 bh a7 bo (W .i64 (cf+1)))) (gK x0 x1 x2 bh (W .i64 (a7+1)))
def eM.FB(N:Nat)(gK:eM.fR):Nat→eM.yd
 |0,_,_,_,_,_,_,_=>none
 |n+1,x0,x1,x2,bh,a7,bo,cf=>eM.EY N gK (eM.FB N gK n) x0 x1 x2 bh a7 bo cf
def eM.lz(Qs:eM.yd)(gK:eM.fR)(x0:aG)(x1:cX)(x2:di)(bh:aQ)(a7:Int):Option (di×aG×cX):=
 cond (aX a7 (ℓ bh.2.2.2.1.2.2.2.2.2.1)) (cond (bb a7 (ℓ bh.2.2.2.1.2.2.2.2.2.1)) (Qs x0 x1 x2 bh a7 (γ bh.2.2.2.1.2.2.2.2.2.1 a7.toNat (0,(cc,ba))) 1) none) ((ow N x0 x1.1).bind λJe=>cond (small (ℓ x2+ℓ Je.1)) (let v32:List ((Int)×((Int)×((Int)×((Int)×((Int)×((Int)×((Int)×((Int)×(Unit))))))))):=x2++Je.1;cond (small (ℓ v32+ℓ ([(10,(0,(0,(0,(0,(0,(2,(0,())))))))),(20,Ng)]))) (some ((v32++([(10,(0,(0,(0,(0,(0,(2,(0,())))))))),(20,Ng)])),Je.2,x1)) none) none)
def eM.mw(N:Nat):Nat→eM.fR
 |0,_,_,_,_,_=>none
 |n+1,x0,x1,x2,bh,a7=>eM.lz N (eM.FB N (eM.mw N n) N) (eM.mw N n) x0 x1 x2 bh a7
def eM.Db(sU:eM.fR)(x0:aG)(x1:cX)(x2:di):Option (di×aG×cX):=
 cond (small (ℓ x2+ℓ ([(18,Ng)]))) ((q6 N x1 (x2++([(18,Ng)]))).bind λya=>sU x0 ya.2.1 ya.2.2 ya.1 0) none
def eM.JQ(x0:aG)(x1:cX)(x2:di):Option (di×aG×cX):=eM.Db N (eM.mw N N) x0 x1 x2
def eM.eo(yg:eM.Lp)(bL:eM.bJ)(x0:aG)(x1:cX)(x2:di)(x7:aQ)(x8:Int):Option (di×aG×cX):=
 cond (aX x8 (ℓ x7.2.2.2.1.2.2.2.2.1)) (cond (bb x8 (ℓ x7.2.2.2.1.2.2.2.2.1)) ((PJ N x0 2).bind λr5=>cond (r5.1) ((oR N r5.2 7).bind λr6=>let v7:Int:=W .i64 (1+r6.1);(F74 N r6.2).bind λr8=>let v9:Int:=W .u64 (γ x7.2.2.2.1.2.2.2.2.1 x8.toNat ba).2.2.2.1;cond (aN v9 0) none (let UX:Int:=W .i64 (1+(W .i64 (rem r8.1 v9)));cond (bb (γ x7.2.2.2.1.2.2.2.2.1 x8.toNat ba).2.1 (ℓ x7.2.2.1.2.2.2.2.1)) (cond (small (ℓ x2+ℓ ([(17,(0,(v7,(0,(0,((γ x7.2.2.2.1.2.2.2.2.1 x8.toNat ba).1,(UX,(γ x7.2.2.1.2.2.2.2.1 (γ x7.2.2.2.1.2.2.2.2.1 x8.toNat ba).2.1.toNat 0,()))))))))]))) (bL r8.2 x1 (x2++([(17,(0,(v7,(0,(0,((γ x7.2.2.2.1.2.2.2.2.1 x8.toNat ba).1,(UX,(γ x7.2.2.1.2.2.2.2.1 (γ x7.2.2.2.1.2.2.2.2.1 x8.toNat ba).2.1.toNat 0,()))))))))])) x7 (W .i64 (x8+1))) none) none)) (bL r5.2 x1 x2 x7 (W .i64 (x8+1)))) none) (yg x0 x1 x2)
def eM.l5(N:Nat):Nat→eM.bJ
 |0,_,_,_,_,_=>none
 |n+1,x0,x1,x2,x7,x8=>eM.eo N (eM.JQ N) (eM.l5 N n) x0 x1 x2 x7 x8
def eM.b(e8:eM.bJ)(yg:eM.Lp)(a0:aG)(a1:cX)(a2:di):Option (di×aG×cX):=
 (PJ N a0 2).bind λr1=>cond (r1.1) (cond (small (ℓ a2+ℓ ([(16,Ng)]))) ((q6 N a1 (a2++([(16,Ng)]))).bind λr3=>e8 r1.2 r3.2.1 r3.2.2 r3.1 0) none) (yg r1.2 a1 a2)
def eM(a0:aG)(a1:cX)(a2:di):Option (di×aG×cX):=eM.b N (eM.l5 N N) (eM.JQ N) a0 a1 a2
abbrev vZ.yd:=aG→ae→cX→di→Int→Option (di×aG)
abbrev vZ.lF:=aG→ae→cX→di→Int→Option (di×aG)
def vZ.EY(Lo:vZ.yd)(x0:aG)(x4:ae)(x9:cX)(bh:di)(cf:Int):Option (di×aG):=
 cond (aX 0 cf) ((eM N x0 x9 bh).bind λJd=>Lo Jd.2.1 x4 Jd.2.2 Jd.1 (W .i64 (cf-1))) ((PJ N x0 4).bind λQq=>cond (!Qq.1) (cond (small (ℓ bh+ℓ ([(21,Ng)]))) (let v28:List ((Int)×((Int)×((Int)×((Int)×((Int)×((Int)×((Int)×((Int)×(Unit))))))))):=bh++([(21,Ng)]);(ow N Qq.2 x4).bind λFO=>cond (small (ℓ v28+ℓ FO.1)) (some ((v28++FO.1),FO.2)) none) none) ((ow N Qq.2 x4).bind λJe=>cond (small (ℓ bh+ℓ Je.1)) (some ((bh++Je.1),Je.2)) none))
def vZ.FB(N:Nat):Nat→vZ.yd
 |0,_,_,_,_,_=>none
 |n+1,x0,x4,x9,bh,cf=>vZ.EY N (vZ.FB N n) x0 x4 x9 bh cf
def vZ.vz(Qs:vZ.yd)(oM:vZ.lF)(x0:aG)(x4:ae)(x9:cX)(bh:di)(bo:Int):Option (di×aG):=
 cond (du bo 7) ((PJ N x0 3).bind λkM=>cond (kM.1) ((oR N kM.2 2).bind λnL=>let UX:Int:=W .i64 (3+nL.1);cond (small (ℓ bh+ℓ ([(14,(UX,(bo,eG)))]))) (oM nL.2 x4 x9 (bh++([(14,(UX,(bo,eG)))])) (W .i64 (bo+1))) none) (oM kM.2 x4 x9 bh (W .i64 (bo+1)))) ((ow N x0 x4).bind λwH=>cond (small (ℓ bh+ℓ wH.1)) (let v17:List ((Int)×((Int)×((Int)×((Int)×((Int)×((Int)×((Int)×((Int)×(Unit))))))))):=bh++wH.1;(oR N wH.2 2).bind λya=>let v19:Int:=W .i64 (2+ya.1);cond (small (ℓ v17+ℓ ([(10,(0,(0,(0,(0,(0,(v19,(0,())))))))),(15,Ng)]))) (let v20:List ((Int)×((Int)×((Int)×((Int)×((Int)×((Int)×((Int)×((Int)×(Unit))))))))):=v17++([(10,(0,(0,(0,(0,(0,(v19,(0,())))))))),(15,Ng)]);(ow N ya.2 x4).bind λFM=>cond (small (ℓ v20+ℓ FM.1)) ((oR N FM.2 3).bind λEB=>Qs EB.2 x4 x9 (v20++FM.1) EB.1) none) none) none)
def vZ.l9(N:Nat):Nat→vZ.lF
 |0,_,_,_,_,_=>none
 |n+1,x0,x4,x9,bh,bo=>vZ.vz N (vZ.FB N N) (vZ.l9 N n) x0 x4 x9 bh bo
def vZ.b(yb:vZ.lF)(a0:aG)(a1:ae)(a2:Int):Option (di×aG):=
 (F75 N a1).bind λr1=>(E4 N a0 a1 a2).bind λr2=>(oR N r2.2 2).bind λr3=>let v4:Int:=W .i64 (1+r3.1);cond (small (ℓ r2.1+ℓ ([(11,(v4,eC))]))) (let v5:List ((Int)×((Int)×((Int)×((Int)×((Int)×((Int)×((Int)×((Int)×(Unit))))))))):=r2.1++([(11,(v4,eC))]);(ow N r3.2 a1).bind λr6=>cond (small (ℓ v5+ℓ r6.1)) (let v7:List ((Int)×((Int)×((Int)×((Int)×((Int)×((Int)×((Int)×((Int)×(Unit))))))))):=v5++r6.1;cond (small (ℓ v7+ℓ ([(13,(v4,eC))]))) (yb r6.2 a1 (a1,(r1.1,(0,()))) (v7++([(13,(v4,eC))])) 5) none) none) none
def vZ(a0:aG)(a1:ae)(a2:Int):Option (di×aG):=vZ.b N (vZ.l9 N N) a0 a1 a2
abbrev IE.bJ:=aG→ae→di→Int→Option (di×aG)
def IE.eo(bL:IE.bJ)(x0:aG)(x4:ae)(x7:di)(x8:Int):Option (di×aG):=
 cond (aX 0 x8) ((F77 N x0 x4).bind λr5=>cond (small (ℓ x7+ℓ ([r5.1]))) (bL r5.2 x4 (x7++([r5.1])) (W .i64 (x8-1))) none) (some (x7,x0))
def IE.l5(N:Nat):Nat→IE.bJ
 |0,_,_,_,_=>none
 |n+1,x0,x4,x7,x8=>IE.eo N (IE.l5 N n) x0 x4 x7 x8
def IE.b(e8:IE.bJ)(a0:aG)(a1:ae)(a2:Int):Option (di×aG):=
 (oR N a0 5).bind λr1=>cond (aN r1.1 0) ((oR N r1.2 (W .i64 (a2+1))).bind λr3=>e8 r3.2 a1 ([]) r3.1) (cond (aN r1.1 1) ((E4 N r1.2 a1 a2).bind λr8=>some (r8.1,r8.2)) ((vZ N r1.2 a1 a2).bind λr9=>some (r9.1,r9.2)))
def IE(a0:aG)(a1:ae)(a2:Int):Option (di×aG):=IE.b N (IE.l5 N N) a0 a1 a2
abbrev ID.kt:=di→ae→aQ→aQ→au→Int→Option (aQ×au)
def ID.vu(lD:ID.kt)(x1:di)(x2:ae)(x4 x6:aQ)(x8:au)(x9:Int):Option (aQ×au):=
 cond (aX x9 (ℓ x1)) (cond (bb x9 (ℓ x1)) ((F76 N x2 x6 (γ x1 x9.toNat zz8)).bind λr3=>cond (small (ℓ x8+ℓ ([r3.2]))) (lD x1 x2 x4 r3.1 (x8++([r3.2])) (W .i64 (x9+1))) none) none) (some (x6,x8))
def ID.l6(N:Nat):Nat→ID.kt
 |0,_,_,_,_,_,_=>none
 |n+1,x1,x2,x4,x6,x8,x9=>ID.vu N (ID.l6 N n) x1 x2 x4 x6 x8 x9
def ID.b(xZ:ID.kt)(a0:ae)(a1:di):Option (aQ×au):=
 (F75 N a0).bind λr1=>cond (!aN r1.2 0) (some ((0,(0,((cc,(cT,(bq,(bq,(db,(dq,())))))),((0,(0,(0,(0,(cT,(([]:List ((Int)×((List ((Int)×((Int)×(Unit))))×((Int)×((Int)×((Int)×((Int)×(Unit)))))))),(cT,(db,(cc,(cc,())))))))))),((0,(0,(EG,(0,())))),()))))),[])) (xZ a1 a0 (0,(0,((cc,(cT,(bq,(bq,(db,(dq,())))))),((0,(0,(0,(0,(cT,(([]:List ((Int)×((List ((Int)×((Int)×(Unit))))×((Int)×((Int)×((Int)×((Int)×(Unit)))))))),(cT,(db,(cc,(cc,())))))))))),((0,(0,(EG,(0,())))),()))))) r1.1 ([]) 0)
def ID(a0:ae)(a1:di):Option (aQ×au):=ID.b N (ID.l6 N N) a0 a1
def F8(a0:aG)(a1:ae)(a2:Int):Option (aQ×aG):=
 (IE N a0 a1 a2).bind λr1=>(ID N a1 r1.1).bind λr2=>some (r2.1,r1.2)
abbrev pC.IN:=aG→ae→an→bf→Int→ir→Option (bf×aG)
abbrev pC.MZ:=aG→ae→an→bf→Int→ir→Option (bf×aG)
abbrev pC.dM:=aG→ae→an→bf→Int→Option (bf×aG)
def pC.xV(dt:pC.dM)(x0:aG)(x4:ae)(x5:an)(x7:bf)(x8:Int)(bh:ir):Option (bf×aG):=
 cond (aN bh.1 bh.2.1) ((PJ N x0 9).bind λJZ=>cond (!JZ.1) (cond (aN 8 0) none (let v21:Int:=rem (W .i64 (bh.1+1)) 8;cond (small (ℓ x7+ℓ ([(bh.1,(v21,bh.2.2))]))) (dt JZ.2 x4 x5 (x7++([(bh.1,(v21,bh.2.2))])) (W .i64 (x8-1))) none)) (cond (small (ℓ x7+ℓ ([bh]))) (dt JZ.2 x4 x5 (x7++([bh])) (W .i64 (x8-1))) none)) (cond (small (ℓ x7+ℓ ([bh]))) (dt x0 x4 x5 (x7++([bh])) (W .i64 (x8-1))) none)
def pC.E5(dt:pC.dM)(x0:aG)(x4:ae)(x5:an)(x7:bf)(x8:Int)(bh:ir):Option (bf×aG):=pC.xV N dt x0 x4 x5 x7 x8 bh
def pC.JA(N:Nat)(yc:pC.IN)(dt:pC.dM)(x0:aG)(x4:ae)(x5:an)(x7:bf)(x8:Int)(bh:ir):Option (bf×aG):=
 cond (aX 1000000000000 bh.2.2.2.2.1) (yc x0 x4 x5 x7 x8 (bh.1,(bh.2.1,(bh.2.2.1,(bh.2.2.2.1,(1,bh.2.2.2.2.2)))))) (yc x0 x4 x5 x7 x8 bh)
def pC.j9(dt:pC.dM)(x0:aG)(x4:ae)(x5:an)(x7:bf)(x8:Int)(bh:ir):Option (bf×aG):=pC.JA N (pC.E5 N dt) dt x0 x4 x5 x7 x8 bh
def pC.nr(B8:pC.MZ)(dt:pC.dM)(x0:aG)(x4:ae)(x5:an)(x7:bf)(x8:Int):Option (bf×aG):=
 cond (aX 0 x8) ((oR N x0 (ℓ x4.1)).bind λr3=>(oR N r3.2 8).bind λr4=>(oR N r4.2 8).bind λr5=>(oR N r5.2 50).bind λr6=>cond (bb r3.1 (ℓ x5.2.2.2.2.1)) ((oR N r6.2 9).bind λr8=>(PJ N r8.2 9).bind λkM=>cond (kM.1) ((K2 N kM.2).bind λnL=>cond (aN 1000000000 0) none ((K2 N nL.2).bind λtZ=>cond (aN 1000000000000 0) none (B8 tZ.2 x4 x5 x7 x8 (r4.1,(r5.1,(r3.1,((W .i64 (1+(rem nL.1 1000000000))),((W .i64 (1+(rem tZ.1 1000000000000))),())))))))) (B8 kM.2 x4 x5 x7 x8 (r4.1,(r5.1,(r3.1,((W .i64 (1+r6.1)),((W .i64 ((γ x5.2.2.2.2.1 r3.1.toNat 0)+r8.1)),()))))))) none) (some (x7,x0))
def pC.l3(N:Nat):Nat→pC.dM
 |0,_,_,_,_,_=>none
 |n+1,x0,x4,x5,x7,x8=>pC.nr N (pC.j9 N (pC.l3 N n)) (pC.l3 N n) x0 x4 x5 x7 x8
def pC.b(oF:pC.dM)(a0:aG)(a1:ae)(a2:an):Option (bf×aG):=
 (oR N a0 6).bind λr1=>oF r1.2 a1 a2 ([]) r1.1
def pC(a0:aG)(a1:ae)(a2:an):Option (bf×aG):=pC.b N (pC.l3 N N) a0 a1 a2
abbrev E0.bN:=aE→aE→Int→Option Bool
def E0.dQ(N:Nat)(cG:E0.bN)(x0 x1:aE)(x5:Int):Option Bool:=
 cond (aX x5 (ℓ x0)) (cond (bb x5 (ℓ x0)) (cond (bb x5 (ℓ x1)) (cond (!(pn (.pair (.int .i64) (.pair (.int .i64) .unit)) (γ x0 x5.toNat c8) (γ x1 x5.toNat c8))) (some false) (cG x0 x1 (W .i64 (x5+1)))) none) none) (some true)
def E0.l4(N:Nat):Nat→E0.bN
 |0,_,_,_=>none
 |n+1,x0,x1,x5=>E0.dQ N (E0.l4 N n) x0 x1 x5
def E0.b(N:Nat)(ff:E0.bN)(a0 a1:aE):Option Bool:=
 cond (!aN (ℓ a0) (ℓ a1)) (some false) (ff a0 a1 0)
def E0(a0 a1:aE):Option Bool:=E0.b N (E0.l4 N N) a0 a1
abbrev E1.bN:=aO→aO→Int→Option Bool
def E1.dQ(N:Nat)(cG:E1.bN)(x0 x1:aO)(x5:Int):Option Bool:=
 cond (aX x5 (ℓ x0)) (cond (bb x5 (ℓ x0)) (cond (bb x5 (ℓ x1)) (cond (!(pn (.pair (.int .i64) (.pair (.int .i64) (.pair (.int .i64) (.pair (.int .i64) .unit)))) (γ x0 x5.toNat ba) (γ x1 x5.toNat ba))) (some false) (cG x0 x1 (W .i64 (x5+1)))) none) none) (some true)
def E1.l4(N:Nat):Nat→E1.bN
 |0,_,_,_=>none
 |n+1,x0,x1,x5=>E1.dQ N (E1.l4 N n) x0 x1 x5
def E1.b(N:Nat)(ff:E1.bN)(a0 a1:aO):Option Bool:=
 cond (!aN (ℓ a0) (ℓ a1)) (some false) (ff a0 a1 0)
def E1(a0 a1:aO):Option Bool:=E1.b N (E1.l4 N N) a0 a1
abbrev E2.bN:=au→au→Int→Option Bool
def E2.dQ(N:Nat)(cG:E2.bN)(x0 x1:au)(x5:Int):Option Bool:=
 cond (aX x5 (ℓ x0)) (cond (bb x5 (ℓ x0)) (cond (bb x5 (ℓ x1)) (cond (!(pn (.pair (.int .i64) (.pair (.int .i64) (.pair (.int .i64) .unit))) (γ x0 x5.toNat bc) (γ x1 x5.toNat bc))) (some false) (cG x0 x1 (W .i64 (x5+1)))) none) none) (some true)
def E2.l4(N:Nat):Nat→E2.bN
 |0,_,_,_=>none
 |n+1,x0,x1,x5=>E2.dQ N (E2.l4 N n) x0 x1 x5
def E2.b(N:Nat)(ff:E2.bN)(a0 a1:au):Option Bool:=
 cond (!aN (ℓ a0) (ℓ a1)) (some false) (ff a0 a1 0)
def E2(a0 a1:au):Option Bool:=E2.b N (E2.l4 N N) a0 a1
abbrev E3.bN:=aY→aY→Int→Option Bool
def E3.dQ(N:Nat)(cG:E3.bN)(x0 x1:aY)(x5:Int):Option Bool:=
 cond (aX x5 (ℓ x0)) (cond (bb x5 (ℓ x0)) (cond (bb x5 (ℓ x1)) (cond (!(pn (.pair (.int .i64) (.pair (.int .i64) (.pair (.int .i64) (.pair (.int .i64) (.pair (.int .i64) (.pair (.int .i64) .unit)))))) (γ x0 x5.toNat eC) (γ x1 x5.toNat eC))) (some false) (cG x0 x1 (W .i64 (x5+1)))) none) none) (some true)
def E3.l4(N:Nat):Nat→E3.bN
 |0,_,_,_=>none
 |n+1,x0,x1,x5=>E3.dQ N (E3.l4 N n) x0 x1 x5
def E3.b(N:Nat)(ff:E3.bN)(a0 a1:aY):Option Bool:=
 cond (!aN (ℓ a0) (ℓ a1)) (some false) (ff a0 a1 0)
def E3(a0 a1:aY):Option Bool:=E3.b N (E3.l4 N N) a0 a1
def F14(a0 a1:an):Option Bool:=
 (E0 N a0.1 a1.1).bind λr1=>cond (r1) ((E1 N a0.2.1 a1.2.1).bind λr2=>cond (r2) ((CY N a0.2.2.1 a1.2.2.1).bind λr3=>cond (r3) ((E2 N a0.2.2.2.1 a1.2.2.2.1).bind λr4=>cond (r4) ((CZ N a0.2.2.2.2.1 a1.2.2.2.2.1).bind λr5=>cond (r5) ((E3 N a0.2.2.2.2.2.1 a1.2.2.2.2.2.1).bind λr6=>some r6) (some false)) (some false)) (some false)) (some false)) (some false)
abbrev F4.aa2:=ae→bf→an→Int→an→Int→Option Bool
def F4.akL(aqO:F4.aa2)(x4:ae)(x6:bf)(x7:an)(x8:Int)(x9:an)(bh:Int):Option Bool:=
 cond (aX bh (ℓ x6)) (let v8:Int:=W .i64 (bh+1);cond (ja bh v8 (ℓ x6) (ℓ x6)) ((tE N x4 x9 (List.drop bh.toNat (List.take v8.toNat x6))).bind λkM=>cond (!aN kM.2 0) (cond (!aN x8 0) (some true) (some (aN kM.2 2))) (aqO x4 x6 x7 x8 kM.1 (W .i64 (bh+1)))) none) (cond (aN x8 0) ((F14 N x7 x9).bind λoQ=>some oQ) (some false))
def F4.l10(N:Nat):Nat→F4.aa2
 |0,_,_,_,_,_,_=>none
 |n+1,x4,x6,x7,x8,x9,bh=>F4.akL N (F4.l10 N n) x4 x6 x7 x8 x9 bh
def F4.b(aqP:F4.aa2)(a0:List Int):Option Bool:=
 (F5 N).bind λr1=>cond (!r1) (some false) ((F6 N a0).bind λr2=>(F7 N r2).bind λr3=>(F8 N r3.2 r3.1 20).bind λr4=>(pC N r4.2 r3.1 r4.1.2.2.1).bind λr5=>(tE N r3.1 r4.1.2.2.1 r5.1).bind λr6=>aqP r3.1 r5.1 r6.1 r6.2 r4.1.2.2.1 0)
def F4(a0:List Int):Option Bool:=F4.b N (F4.l10 N N) a0
end
end VM.F
