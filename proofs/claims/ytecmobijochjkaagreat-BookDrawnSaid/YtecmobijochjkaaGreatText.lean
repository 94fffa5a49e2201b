/- A part of the proof of BookDrawn of layer 18: the functions as equations between values, printed by a program. -/
import Derived.Test.YtecmobijochjkaaGreatVm0
set_option linter.all false
open List renaming length→ℓ, getD→γ
namespace VM.F
open Go VM
set_option maxRecDepth 100000
noncomputable section
variable (N:Nat)
abbrev mv:Ty:=(.pair .str (.pair (.int .u64) .unit))
abbrev kO:Ty:=(.pair (.int .i64) (.pair (.int .i64) .unit))
abbrev eC:Ty:=(.pair (.int .i64) (.pair (.int .u64) .unit))
abbrev dj:Ty:=(.pair .bool (.pair (.slice (.int .u64)) .unit))
abbrev dH:Ty:=(.pair (.slice (.int .u64)) (.pair (.int .i64) .unit))
abbrev kf:Ty:=(.pair (.int .i64) kO)
abbrev wL:Ty:=(.pair (.int .i64) (.pair (.int .i64) (.pair .bool (.pair (.int .u8) .unit))))
abbrev fa:Ty:=(.pair (.int .i64) kf)
abbrev ti:Ty:=(.pair (.int .i64) (.pair (.int .i64) (.pair eC .unit)))
abbrev qA:Ty:=(.pair (.int .i64) fa)
abbrev tj:Ty:=(.pair (.int .i64) (.pair (.int .i64) (.pair dj .unit)))
abbrev nw:Ty:=(.pair (.int .i64) qA)
abbrev me:Ty:=(.pair (.int .i64) (.pair (.int .i64) nw))
abbrev jT:Ty:=(.pair (.int .i64) (.pair (.slice kO) fa))
abbrev ix:Ty:=(.pair (.int .i64) (.pair (.int .i64) (.pair (.slice qA) (.pair (.int .i64) .unit))))
abbrev aA:Ty:=(.pair (.slice fa) nw)
abbrev aL:Ty:=(.pair (.slice kO) (.pair (.slice fa) (.pair (.slice kf) (.pair (.slice kf) (.pair (.slice (.int .i64)) (.pair (.slice nw) .unit))))))
abbrev tc:Ty:=(.pair (.int .i64) (.pair (.int .i64) (.pair (.int .i64) (.pair (.int .i64) (.pair (.slice fa) (.pair (.slice jT) (.pair (.slice fa) (.pair (.slice (.int .i64)) (.pair (.slice kO) (.pair (.slice kO) .unit))))))))))
abbrev dO:Ty:=(.pair (.int .i64) (.pair (.int .i64) (.pair aL (.pair tc (.pair ix .unit)))))
abbrev nA:Ty:=(.pair aA (.pair dO (.pair (.int .i64) .unit)))
abbrev QB:=Ty.den mv
abbrev QC:=List (Ty.den mv)
abbrev BV:=Ty.den kO
abbrev aE:=List (Ty.den kO)
abbrev bS:=Ty.den eC
abbrev kz:=List (Ty.den eC)
abbrev aM:=Ty.den dj
abbrev qx:=List (Ty.den dj)
abbrev aJ:=Ty.den dH
abbrev awX:=List (Ty.den dH)
abbrev dh:=Ty.den kf
abbrev au:=List (Ty.den kf)
abbrev ab0:=Ty.den wL
abbrev ab1:=List (Ty.den wL)
abbrev cL:=Ty.den fa
abbrev aO:=List (Ty.den fa)
abbrev tY:=Ty.den ti
abbrev cR:=List (Ty.den ti)
abbrev iE:=Ty.den qA
abbrev bh:=List (Ty.den qA)
abbrev alj:=Ty.den tj
abbrev bM:=List (Ty.den tj)
abbrev fX:=Ty.den nw
abbrev aY:=List (Ty.den nw)
abbrev iD:=Ty.den me
abbrev dn:=List (Ty.den me)
abbrev je:=Ty.den jT
abbrev bJ:=List (Ty.den jT)
abbrev eo:=Ty.den ix
abbrev aq6:=List (Ty.den ix)
abbrev ae:=Ty.den aA
abbrev aq7:=List (Ty.den aA)
abbrev an:=Ty.den aL
abbrev awY:=List (Ty.den aL)
abbrev ao4:=Ty.den tc
abbrev ao5:=List (Ty.den tc)
abbrev aR:=Ty.den dO
abbrev avc:=List (Ty.den dO)
abbrev cW:=Ty.den nA
abbrev avd:=List (Ty.den nA)
def F97(N:Nat):Option (ae×an):=
 some (([(0,(100,(2,(0,()))))],(5,(0,(0,(0,(1,(0,()))))))),([(1,(1,()))],([(1,(1,(1,(0,())))),(2,(1,(2,(0,()))))],([(1,(0,((-5),()))),(3,(0,(5,())))],(bq,([100],([(1,(2,(0,(1,(4,(1,()))))))],())))))))
def E1(N:Nat)(a0 a1 a2:Int):Option Bool:=
 cond (dx a1 a0) (some (dx a0 a2)) (some false)
abbrev CC.bN:=ae→aO→Int→Int→Option Bool
def CC.dL(cG:CC.bN)(x1:ae)(a7:aO)(bp cj:Int):Option Bool:=
 cond (aX cj bp) (cond (bf cj (ℓ a7)) ((E1 N (γ a7 cj.toNat ba).1 0 3).bind λr3=>cond (!r3) (some false) ((E1 N (γ a7 cj.toNat ba).2.1 1 1000000000000).bind λr4=>cond (!r4) (some false) ((E1 N (γ a7 cj.toNat ba).2.2.1 0 1000000000).bind λr5=>cond (!r5) (some false) ((E1 N (γ a7 cj.toNat ba).2.2.2.1 0 1000000000).bind λr6=>cond (!r6) (some false) (cG x1 a7 bp (W .i64 (cj+1))))))) none) (cond (dx 0 x1.2.1) ((E1 N x1.2.2.1 0 4).bind λr8=>cond (r8) ((E1 N x1.2.2.2.1 0 1000000).bind λr9=>cond (r9) ((E1 N x1.2.2.2.2.1 0 1000000).bind λkT=>cond (kT) ((E1 N x1.2.2.2.2.2.1 1 4611686018427387904).bind λm6=>cond (m6) (some (dx 0 x1.2.2.2.2.2.2.1)) (some false)) (some false)) (some false)) (some false)) (some false))
def CC.l4(N:Nat):Nat→CC.bN
 |0,_,_,_,_=>none
 |n+1,x1,a7,bp,cj=>CC.dL N (CC.l4 N n) x1 a7 bp cj
def CC.b(eW:CC.bN)(a0:ae):Option Bool:=
 (E1 N (ℓ a0.1) 1 6).bind λr1=>cond (!r1) (some false) (eW a0 a0.1 (ℓ a0.1) 0)
def CC(a0:ae):Option Bool:=CC.b N (CC.l4 N N) a0
abbrev xb.eP:=an→an→(List Int)→aO→Int→Int→Option (an×(Int))
abbrev xb.TI:=ae→an→an→(List Int)→Option (an×(Int))
def xb.mK(N:Nat)(eR:xb.eP)(x2 x4:an)(M8:List Int)(x24:aO)(x25 QD:Int):Option (an×(Int)):=
 cond (aX QD x25) (cond (bf QD (ℓ x24)) (cond (small (ℓ M8+ℓ ([(γ x24 QD.toNat ba).2.1]))) (eR x2 (x4.1,(x4.2.1,(x4.2.2.1,(x4.2.2.2.1,(dg,x4.2.2.2.2.2))))) (M8++([(γ x24 QD.toNat ba).2.1])) x24 x25 (W .i64 (QD+1))) none) none) (some ((x4.1,(x4.2.1,(x4.2.2.1,(x4.2.2.2.1,(M8,x4.2.2.2.2.2))))),0))
def xb.l7(N:Nat):Nat→xb.eP
 |0,_,_,_,_,_,_=>none
 |n+1,x2,x4,M8,x24,x25,QD=>xb.mK N (xb.l7 N n) x2 x4 M8 x24 x25 QD
def xb.OY(N:Nat)(q3:xb.eP)(x1:ae)(x2 x4:an)(M8:List Int):Option (an×(Int)):=
 q3 x2 x4 M8 x1.1 (ℓ x1.1) 0
def xb.j6(x1:ae)(x2 x4:an)(M8:List Int):Option (an×(Int)):=xb.OY N (xb.l7 N N) x1 x2 x4 M8
def xb.b(Fj:xb.TI)(a0:ae):Option (an×(Int)):=
 (CC N a0).bind λr1=>cond (!r1) (some ((ch,(cT,(bq,(bq,(dg,(du,())))))),1)) (cond (!aN a0.2.1 0) (Fj a0 (ch,(cT,(bq,(bq,(dg,(du,())))))) (ch,(cT,([(1,(0,((W .i64 (0-a0.2.1)),()))),(3,(0,(a0.2.1,())))],(bq,(dg,(du,())))))) dg) (Fj a0 (ch,(cT,(bq,(bq,(dg,(du,())))))) (ch,(cT,(bq,(bq,(dg,(du,())))))) dg))
def xb(a0:ae):Option (an×(Int)):=xb.b N (xb.j6 N) a0
abbrev qh.cX:=aE→aE→Int→Int→Option Bool
def qh.fI(N:Nat)(dV:qh.cX)(x0 x5:aE)(x6 x7:Int):Option Bool:=
 cond (aX x7 x6) (cond (bf x7 (ℓ x5)) (cond (aX (γ x5 x7.toNat c5).1 1) (some false) (cond (aX 12 (γ x5 x7.toNat c5).1) (some false) (cond (aX (γ x5 x7.toNat c5).2.1 1) (some false) (cond (aX 4 (γ x5 x7.toNat c5).2.1) (some false) (cond (aX 0 x7) (let v2:Int:=W .i64 (x7-1);cond (bf v2 (ℓ x0)) (cond (dx (γ x5 x7.toNat c5).1 (γ x0 v2.toNat c5).1) (some false) (dV x0 x5 x6 (W .i64 (x7+1)))) none) (dV x0 x5 x6 (W .i64 (x7+1)))))))) none) (some true)
def qh.l2(N:Nat):Nat→qh.cX
 |0,_,_,_,_=>none
 |n+1,x0,x5,x6,x7=>qh.fI N (qh.l2 N n) x0 x5 x6 x7
def qh.b(N:Nat)(gT:qh.cX)(a0:aE):Option Bool:=
 gT a0 a0 (ℓ a0) 0
def qh(a0:aE):Option Bool:=qh.b N (qh.l2 N N) a0
abbrev nr.dP:=aO→(List Bool)→aO→Int→Int→Option Bool
def nr.m3(N:Nat)(dw:nr.dP)(x0:aO)(x3:List Bool)(x6:aO)(x7 x8:Int):Option Bool:=
 cond (aX x8 x7) (cond (bf x8 (ℓ x6)) (cond (aX (γ x6 x8.toNat ba).1 1) (some false) (cond (aX 24 (γ x6 x8.toNat ba).1) (some false) (cond (aX (γ x6 x8.toNat ba).2.1 1) (some false) (cond (aX 12 (γ x6 x8.toNat ba).2.1) (some false) (cond (!aN (γ x6 x8.toNat ba).2.2.1 1) (cond (!aN (γ x6 x8.toNat ba).2.2.1 2) (some false) (cond (aX (γ x6 x8.toNat ba).2.2.2.1 0) (some false) (cond (aX 1000000000000 (γ x6 x8.toNat ba).2.2.2.1) (some false) (cond (aX 0 x8) (let v2:Int:=W .i64 (x8-1);cond (bf v2 (ℓ x0)) (cond (dx (γ x6 x8.toNat ba).1 (γ x0 v2.toNat ba).1) (some false) (cond (aN (γ x6 x8.toNat ba).2.2.1 1) (cond (bf (γ x6 x8.toNat ba).2.1 13) (cond (γ x3 (γ x6 x8.toNat ba).2.1.toNat false) (some false) (cond (bf (γ x6 x8.toNat ba).2.1 13) (dw x0 (List.set x3 (γ x6 x8.toNat ba).2.1.toNat true) x6 x7 (W .i64 (x8+1))) none)) none) (dw x0 x3 x6 x7 (W .i64 (x8+1))))) none) (cond (aN (γ x6 x8.toNat ba).2.2.1 1) (cond (bf (γ x6 x8.toNat ba).2.1 13) (cond (γ x3 (γ x6 x8.toNat ba).2.1.toNat false) (some false) (cond (bf (γ x6 x8.toNat ba).2.1 13) (dw x0 (List.set x3 (γ x6 x8.toNat ba).2.1.toNat true) x6 x7 (W .i64 (x8+1))) none)) none) (dw x0 x3 x6 x7 (W .i64 (x8+1)))))))) (cond (aX (γ x6 x8.toNat ba).2.2.2.1 0) (some false) (cond (aX 1000000000000 (γ x6 x8.toNat ba).2.2.2.1) (some false) (cond (aX 0 x8) (let v7:Int:=W .i64 (x8-1);cond (bf v7 (ℓ x0)) (cond (dx (γ x6 x8.toNat ba).1 (γ x0 v7.toNat ba).1) (some false) (cond (aN (γ x6 x8.toNat ba).2.2.1 1) (cond (bf (γ x6 x8.toNat ba).2.1 13) (cond (γ x3 (γ x6 x8.toNat ba).2.1.toNat false) (some false) (cond (bf (γ x6 x8.toNat ba).2.1 13) (dw x0 (List.set x3 (γ x6 x8.toNat ba).2.1.toNat true) x6 x7 (W .i64 (x8+1))) none)) none) (dw x0 x3 x6 x7 (W .i64 (x8+1))))) none) (cond (aN (γ x6 x8.toNat ba).2.2.1 1) (cond (bf (γ x6 x8.toNat ba).2.1 13) (cond (γ x3 (γ x6 x8.toNat ba).2.1.toNat false) (some false) (cond (bf (γ x6 x8.toNat ba).2.1 13) (dw x0 (List.set x3 (γ x6 x8.toNat ba).2.1.toNat true) x6 x7 (W .i64 (x8+1))) none)) none) (dw x0 x3 x6 x7 (W .i64 (x8+1)))))))))))) none) (some true)
def nr.l3(N:Nat):Nat→nr.dP
 |0,_,_,_,_,_=>none
 |n+1,x0,x3,x6,x7,x8=>nr.m3 N (nr.l3 N n) x0 x3 x6 x7 x8
def nr.b(N:Nat)(oS:nr.dP)(a0:aO):Option Bool:=
 oS a0 (List.replicate 13 false) a0 (ℓ a0) 0
def nr(a0:aO):Option Bool:=nr.b N (nr.l3 N N) a0
abbrev BW.bN:=Int→aE→Int→Int→Option Int
def BW.dL(N:Nat)(cG:BW.bN)(x1:Int)(bo:aE)(a7 bp:Int):Option Int:=
 cond (aX bp a7) (cond (bf bp (ℓ bo)) (cond (aN (γ bo bp.toNat c5).1 x1) (some (γ bo bp.toNat c5).2.1) (cG x1 bo a7 (W .i64 (bp+1)))) none) (some 0)
def BW.l4(N:Nat):Nat→BW.bN
 |0,_,_,_,_=>none
 |n+1,x1,bo,a7,bp=>BW.dL N (BW.l4 N n) x1 bo a7 bp
def BW.b(eW:BW.bN)(a0:aE)(a1:Int):Option Int:=
 (qh N a0).bind λr1=>cond (!r1) (some 0) (eW a1 a0 (ℓ a0) 0)
def BW(a0:aE)(a1:Int):Option Int:=BW.b N (BW.l4 N N) a0 a1
abbrev E3.bN:=aE→aO→Int→Int→Option Bool
def E3.dL(cG:E3.bN)(x0:aE)(eu:aO)(fy gg:Int):Option Bool:=
 cond (aX gg fy) (cond (bf gg (ℓ eu)) ((BW N x0 (γ eu gg.toNat ba).2.1).bind λr4=>cond (aN r4 0) (some false) (cG x0 eu fy (W .i64 (gg+1)))) none) (some true)
def E3.l4(N:Nat):Nat→E3.bN
 |0,_,_,_,_=>none
 |n+1,x0,eu,fy,gg=>E3.dL N (E3.l4 N n) x0 eu fy gg
def E3.b(eW:E3.bN)(a0:aE)(a1:aO):Option Bool:=
 (qh N a0).bind λr1=>cond (!r1) (some false) ((nr N a1).bind λr2=>cond (!r2) (some false) (eW a0 a1 (ℓ a1) 0))
def E3(a0:aE)(a1:aO):Option Bool:=E3.b N (E3.l4 N N) a0 a1
def SG(N:Nat)(a0 a1:Int):Option Bool:=
 cond (aN a0 1) (some (aN a1 0)) (cond (aN a0 2) (some (aN a1 0)) (cond (aN a0 3) (some (aN a1 0)) (cond (aN a0 4) (some (aN a1 0)) (cond (aN a0 5) (cond (dx 1 a1) (some (dx a1 24)) (some false)) (cond (aN a0 6) (cond (dx 1 a1) (some (dx a1 12)) (some false)) (cond (aN a0 7) (cond (dx 1 a1) (some (dx a1 12)) (some false)) (some false)))))))
def SJ(N:Nat)(a0 a1:Int)(a2:dh):Option Int:=
 cond (!aN a0 a2.1) (some (W .i64 (a0-a2.1))) (some (W .i64 (a1-a2.2.1)))
abbrev CZ.cX:=au→au→Int→Int→Option Bool
def CZ.fI(dV:CZ.cX)(x0 x5:au)(x6 x7:Int):Option Bool:=
 cond (aX x7 x6) (cond (bf x7 (ℓ x5)) ((SG N (γ x5 x7.toNat bb).1 (γ x5 x7.toNat bb).2.1).bind λr2=>cond (!r2) (some false) (cond (aN (γ x5 x7.toNat bb).2.2.1 0) (some false) (cond (aX 0 x7) (let v3:Int:=W .i64 (x7-1);cond (bf v3 (ℓ x0)) ((SJ N (γ x5 x7.toNat bb).1 (γ x5 x7.toNat bb).2.1 (γ x0 v3.toNat bb)).bind λr4=>cond (dx r4 0) (some false) (dV x0 x5 x6 (W .i64 (x7+1)))) none) (dV x0 x5 x6 (W .i64 (x7+1)))))) none) (some true)
def CZ.l2(N:Nat):Nat→CZ.cX
 |0,_,_,_,_=>none
 |n+1,x0,x5,x6,x7=>CZ.fI N (CZ.l2 N n) x0 x5 x6 x7
def CZ.b(N:Nat)(gT:CZ.cX)(a0:au):Option Bool:=
 gT a0 a0 (ℓ a0) 0
def CZ(a0:au):Option Bool:=CZ.b N (CZ.l2 N N) a0
def O4(N:Nat)(a0:Int):Option bS:=
 cond (aX 63 0) none (some ((shr .i64 a0 63),((W .u64 a0),())))
abbrev nP.dP:=bS→Int→Int→Int→kz→Int→Int→Option (bS×(Bool))
def nP.m3(dw:nP.dP)(x2:bS)(x4 x5 x6:Int)(bo:kz)(a7 bp:Int):Option (bS×(Bool)):=
 cond (aX bp a7) (cond (bf bp (ℓ bo)) ((uX N x6 (γ bo bp.toNat c5).2.1 0).bind λr2=>(uX N x5 (W .u64 (γ bo bp.toNat c5).1) r2.2).bind λr4=>cond (aX 63 0) none (dw x2 (W .i64 ((W .i64 (x4+(shr .i64 (γ bo bp.toNat c5).1 63)))+(W .i64 r4.2))) r4.1 r2.1 bo a7 (W .i64 (bp+1)))) none) (cond (aX 63 0) none (cond (!aN x4 (shr .i64 (W .i64 x5) 63)) (some (c5,false)) (some (((W .i64 x5),(x6,())),true))))
def nP.l3(N:Nat):Nat→nP.dP
 |0,_,_,_,_,_,_,_=>none
 |n+1,x2,x4,x5,x6,bo,a7,bp=>nP.m3 N (nP.l3 N n) x2 x4 x5 x6 bo a7 bp
def nP.b(N:Nat)(oS:nP.dP)(a0:kz):Option (bS×(Bool)):=
 oS c5 0 0 0 a0 (ℓ a0) 0
def nP(a0:kz):Option (bS×(Bool)):=nP.b N (nP.l3 N N) a0
abbrev Eg.bL:=bS→kz→au→Int→Int→Option bS
def Eg.dU(bQ:Eg.bL)(x2:bS)(x3:kz)(bp:au)(cj cZ:Int):Option bS:=
 cond (aX cZ cj) (cond (bf cZ (ℓ bp)) ((O4 N (γ bp cZ.toNat bb).2.2.1).bind λr3=>cond (small (ℓ x3+ℓ ([r3]))) (bQ x2 (x3++([r3])) bp cj (W .i64 (cZ+1))) none) none) ((nP N x3).bind λr6=>some r6.1)
def Eg.l5(N:Nat):Nat→Eg.bL
 |0,_,_,_,_,_=>none
 |n+1,x2,x3,bp,cj,cZ=>Eg.dU N (Eg.l5 N n) x2 x3 bp cj cZ
def Eg.b(eX:Eg.bL)(a0:au):Option bS:=
 (CZ N a0).bind λr1=>cond (!r1) (some c5) (eX c5 ([]) a0 (ℓ a0) 0)
def Eg(a0:au):Option bS:=Eg.b N (Eg.l5 N N) a0
def Wt(N:Nat)(a0 a1:bS):Option Int:=
 cond (aX a0.1 a1.1) (some (-1)) (cond (aN a0.1 a1.1) (cond (aX a0.2.1 a1.2.1) (some (-1)) (cond (pb (.pair (.int .i64) (.pair (.int .u64) .unit)) a0 a1) (some 0) (some 1))) (cond (pb (.pair (.int .i64) (.pair (.int .u64) .unit)) a0 a1) (some 0) (some 1)))
def F74(a0:bS):Option Int:=
 (Wt N a0 c5).bind λr1=>some r1
def Zt(N:Nat)(a0 a1:Int):Option Bool:=
 cond (dx 0 a0) (cond (dx a0 24) (cond (dx 0 a1) (some (aX a1 6)) (some false)) (some false)) (some false)
def SL(N:Nat)(a0:Int):Option Bool:=
 some (!aN a0 (-9223372036854775808))
def Wp(N:Nat)(a0 a1:Int)(a2:dh):Option Int:=
 cond (!aN a0 a2.1) (some (W .i64 (a0-a2.1))) (some (W .i64 (a1-a2.2.1)))
abbrev ou.cX:=au→au→Int→Int→Option Bool
def ou.fI(dV:ou.cX)(x0 x5:au)(x6 x7:Int):Option Bool:=
 cond (aX x7 x6) (cond (bf x7 (ℓ x5)) ((Zt N (γ x5 x7.toNat bb).1 (γ x5 x7.toNat bb).2.1).bind λr2=>cond (!r2) (some false) (cond (aN (γ x5 x7.toNat bb).2.2.1 0) (some false) ((SL N (γ x5 x7.toNat bb).2.2.1).bind λr3=>cond (!r3) (some false) (cond (aX 0 x7) (let v4:Int:=W .i64 (x7-1);cond (bf v4 (ℓ x0)) ((Wp N (γ x5 x7.toNat bb).1 (γ x5 x7.toNat bb).2.1 (γ x0 v4.toNat bb)).bind λr5=>cond (dx r5 0) (some false) (dV x0 x5 x6 (W .i64 (x7+1)))) none) (dV x0 x5 x6 (W .i64 (x7+1))))))) none) (some true)
def ou.l2(N:Nat):Nat→ou.cX
 |0,_,_,_,_=>none
 |n+1,x0,x5,x6,x7=>ou.fI N (ou.l2 N n) x0 x5 x6 x7
def ou.b(N:Nat)(gT:ou.cX)(a0:au):Option Bool:=
 gT a0 a0 (ℓ a0) 0
def ou(a0:au):Option Bool:=ou.b N (ou.l2 N N) a0
abbrev qj.bL:=Int→bS→kz→au→Int→Int→Option bS
def qj.dU(bQ:qj.bL)(x1:Int)(x4:bS)(x5:kz)(cZ:au)(eu fy:Int):Option bS:=
 cond (aX fy eu) (cond (bf fy (ℓ cZ)) (cond (aN (γ cZ fy.toNat bb).2.1 x1) ((O4 N (γ cZ fy.toNat bb).2.2.1).bind λr3=>cond (small (ℓ x5+ℓ ([r3]))) (bQ x1 x4 (x5++([r3])) cZ eu (W .i64 (fy+1))) none) (bQ x1 x4 x5 cZ eu (W .i64 (fy+1)))) none) ((nP N x5).bind λr7=>some r7.1)
def qj.l5(N:Nat):Nat→qj.bL
 |0,_,_,_,_,_,_=>none
 |n+1,x1,x4,x5,cZ,eu,fy=>qj.dU N (qj.l5 N n) x1 x4 x5 cZ eu fy
def qj.b(eX:qj.bL)(a0:au)(a1:Int):Option bS:=
 (ou N a0).bind λr1=>cond (!r1) (some c5) (eX a1 c5 ([]) a0 (ℓ a0) 0)
def qj(a0:au)(a1:Int):Option bS:=qj.b N (qj.l5 N N) a0 a1
abbrev E4.cX:=au→Int→Option Bool
def E4.fI(dV:E4.cX)(x0:au)(x4:Int):Option Bool:=
 cond (aX x4 6) ((qj N x0 x4).bind λr2=>(F74 N r2).bind λr3=>cond (!aN r3 0) (some false) (dV x0 (W .i64 (x4+1)))) ((ou N x0).bind λr5=>some r5)
def E4.l2(N:Nat):Nat→E4.cX
 |0,_,_=>none
 |n+1,x0,x4=>E4.fI N (E4.l2 N n) x0 x4
def E4.b(N:Nat)(gT:E4.cX)(a0:au):Option Bool:=
 gT a0 0
def E4(a0:au):Option Bool:=E4.b N (E4.l2 N N) a0
def ac4(N:Nat)(a0:fX):Option Bool:=
 cond (dx 1 a0.1) (cond (dx a0.1 1099511627776) (cond (dx 1 a0.2.1) (cond (dx a0.2.1 24) (cond (dx 0 a0.2.2.1) (cond (aX a0.2.2.1 6) (cond (aN a0.2.2.2.1 1) (cond (dx 1 a0.2.2.2.2.1) (cond (dx a0.2.2.2.2.1 1000000000) (cond (dx 1 a0.2.2.2.2.2.1) (some (dx a0.2.2.2.2.2.1 1000000000000)) (some false)) (some false)) (some false)) (cond (aN a0.2.2.2.1 2) (cond (dx 1 a0.2.2.2.2.1) (cond (dx a0.2.2.2.2.1 1000000000) (cond (dx 1 a0.2.2.2.2.2.1) (some (dx a0.2.2.2.2.2.1 1000000000000)) (some false)) (some false)) (some false)) (some false))) (some false)) (some false)) (some false)) (some false)) (some false)) (some false)
abbrev C5.cX:=aY→aY→Int→Int→Option Bool
def C5.fI(dV:C5.cX)(x0 x5:aY)(x6 x7:Int):Option Bool:=
 cond (aX x7 x6) (cond (bf x7 (ℓ x5)) ((ac4 N (γ x5 x7.toNat dS)).bind λr2=>cond (!r2) (some false) (cond (aX 0 x7) (let v3:Int:=W .i64 (x7-1);cond (bf v3 (ℓ x0)) (cond (dx (γ x5 x7.toNat dS).1 (γ x0 v3.toNat dS).1) (some false) (dV x0 x5 x6 (W .i64 (x7+1)))) none) (dV x0 x5 x6 (W .i64 (x7+1))))) none) (some (dx (ℓ x0) 32))
def C5.l2(N:Nat):Nat→C5.cX
 |0,_,_,_,_=>none
 |n+1,x0,x5,x6,x7=>C5.fI N (C5.l2 N n) x0 x5 x6 x7
def C5.b(N:Nat)(gT:C5.cX)(a0:aY):Option Bool:=
 gT a0 a0 (ℓ a0) 0
def C5(a0:aY):Option Bool:=C5.b N (C5.l2 N N) a0
abbrev qi.bN:=Int→cL→aO→Int→Int→Option (cL×(Bool))
def qi.dL(N:Nat)(cG:qi.bN)(x1:Int)(x4:cL)(bp:aO)(cj cZ:Int):Option (cL×(Bool)):=
 cond (aX cZ cj) (cond (bf cZ (ℓ bp)) (cond (aN (γ bp cZ.toNat ba).1 x1) (some (γ bp cZ.toNat ba,true)) (cG x1 x4 bp cj (W .i64 (cZ+1)))) none) (some (ba,false))
def qi.l4(N:Nat):Nat→qi.bN
 |0,_,_,_,_,_=>none
 |n+1,x1,x4,bp,cj,cZ=>qi.dL N (qi.l4 N n) x1 x4 bp cj cZ
def qi.b(eW:qi.bN)(a0:aO)(a1:Int):Option (cL×(Bool)):=
 (nr N a0).bind λr1=>cond (!r1) (some (ba,false)) (eW a1 ba a0 (ℓ a0) 0)
def qi(a0:aO)(a1:Int):Option (cL×(Bool)):=qi.b N (qi.l4 N N) a0 a1
def F78(a0:an)(a1:Int):Option Bool:=
 (qi N a0.2.1 a1).bind λr1=>some r1.2
def F81(N:Nat)(a0:Int):Option Bool:=
 cond (dx 1 a0) (some (dx a0 1000000000000)) (some false)
def F80(a0:Int):Option Bool:=
 (F81 N a0).bind λr1=>some (!r1)
abbrev tx.cX:=(List Int)→Unit→Int→Int→Option Int
def tx.fI(dV:tx.cX)(x0:List Int)(x1:Unit)(x7 x8:Int):Option Int:=
 cond (aX x8 x7) (cond (bf x8 (ℓ x0)) ((F80 N (γ x0 x8.toNat 0)).bind λr2=>cond (r2) (some x8) (dV x0 () x7 (W .i64 (x8+1)))) none) (some (-1))
def tx.l2(N:Nat):Nat→tx.cX
 |0,_,_,_,_=>none
 |n+1,x0,x1,x7,x8=>tx.fI N (tx.l2 N n) x0 x1 x7 x8
def tx.b(N:Nat)(gT:tx.cX)(a0:List Int)(a1:Unit):Option Int:=
 gT a0 () (ℓ a0) 0
def tx(a0:List Int)(a1:Unit):Option Int:=tx.b N (tx.l2 N N) a0 a1
def F79(a0:List Int)(a1:Unit):Option Bool:=
 (tx N a0 ()).bind λr1=>some (dx 0 r1)
abbrev lx.tk:=ae→an→aY→Int→Int→Option Bool
abbrev lx.nK:=ae→an→au→Int→Int→Option Bool
abbrev lx.bN:=ae→an→au→Int→Int→Option Bool
def lx.w8(IQ:lx.tk)(x2:ae)(x3:an)(tD:aY)(aen TJ:Int):Option Bool:=
 cond (aX TJ aen) (cond (bf TJ (ℓ tD)) ((F78 N x3 (γ tD TJ.toNat dS).2.1).bind λF1=>cond (!F1) (some false) (cond (dx (ℓ x2.1) (γ tD TJ.toNat dS).2.2.1) (some false) (IQ x2 x3 tD aen (W .i64 (TJ+1))))) none) ((F79 N x3.2.2.2.2.1 ()).bind λEJ=>some (!EJ))
def lx.yk(N:Nat):Nat→lx.tk
 |0,_,_,_,_,_=>none
 |n+1,x2,x3,tD,aen,TJ=>lx.w8 N (lx.yk N n) x2 x3 tD aen TJ
def lx.w7(IS:lx.tk)(pa:lx.nK)(x2:ae)(x3:an)(x83:au)(x84 x85:Int):Option Bool:=
 cond (aX x85 x84) (cond (bf x85 (ℓ x83)) (cond (!aN (γ x83 x85.toNat bb).1 0) ((F78 N x3 (γ x83 x85.toNat bb).1).bind λyA=>cond (!yA) (some false) (cond (dx (ℓ x2.1) (γ x83 x85.toNat bb).2.1) (some false) (pa x2 x3 x83 x84 (W .i64 (x85+1))))) (cond (dx (ℓ x2.1) (γ x83 x85.toNat bb).2.1) (some false) (pa x2 x3 x83 x84 (W .i64 (x85+1))))) none) (IS x2 x3 x3.2.2.2.2.2.1 (ℓ x3.2.2.2.2.2.1) 0)
def lx.yj(N:Nat):Nat→lx.nK
 |0,_,_,_,_,_=>none
 |n+1,x2,x3,x83,x84,x85=>lx.w7 N (lx.yk N N) (lx.yj N n) x2 x3 x83 x84 x85
def lx.dL(IT:lx.nK)(cG:lx.bN)(x2:ae)(x3:an)(Jk:au)(XQ F2:Int):Option Bool:=
 cond (aX F2 XQ) (cond (bf F2 (ℓ Jk)) (cond (aN (γ Jk F2.toNat bb).1 5) ((F78 N x3 (γ Jk F2.toNat bb).2.1).bind λr9=>cond (!r9) (some false) (cG x2 x3 Jk XQ (W .i64 (F2+1)))) (cond (aN (γ Jk F2.toNat bb).1 6) ((BW N x3.1 (γ Jk F2.toNat bb).2.1).bind λm6=>cond (aN m6 0) (some false) (cG x2 x3 Jk XQ (W .i64 (F2+1)))) (cond (aN (γ Jk F2.toNat bb).1 7) ((BW N x3.1 (γ Jk F2.toNat bb).2.1).bind λnW=>cond (aN nW 0) (some false) (cG x2 x3 Jk XQ (W .i64 (F2+1)))) (cG x2 x3 Jk XQ (W .i64 (F2+1)))))) none) (IT x2 x3 x3.2.2.2.1 (ℓ x3.2.2.2.1) 0)
def lx.l4(N:Nat):Nat→lx.bN
 |0,_,_,_,_,_=>none
 |n+1,x2,x3,Jk,XQ,F2=>lx.dL N (lx.yj N N) (lx.l4 N n) x2 x3 Jk XQ F2
def lx.b(eW:lx.bN)(a0:ae)(a1:an):Option Bool:=
 (CC N a0).bind λr1=>cond (!r1) (some false) ((E3 N a1.1 a1.2.1).bind λr2=>cond (!r2) (some false) ((CZ N a1.2.2.1).bind λr3=>cond (!r3) (some false) ((Eg N a1.2.2.1).bind λr4=>(F74 N r4).bind λr5=>cond (!aN r5 0) (some false) ((E4 N a1.2.2.2.1).bind λr6=>cond (!r6) (some false) ((C5 N a1.2.2.2.2.2.1).bind λr7=>cond (!r7) (some false) (cond (!aN (ℓ a1.2.2.2.2.1) (ℓ a0.1)) (some false) (eW a0 a1 a1.2.2.1 (ℓ a1.2.2.1) 0)))))))
def lx(a0:ae)(a1:an):Option Bool:=lx.b N (lx.l4 N N) a0 a1
abbrev pB.cX:=iE→(List Int)→Int→Option Bool
def pB.fI(dV:pB.cX)(x1:iE)(x9:List Int)(bo:Int):Option Bool:=
 cond (aX bo 2) (cond (bf bo 2) (cond (aX (γ x9 bo.toNat 0) 0) (some false) (cond (aX 24 (γ x9 bo.toNat 0)) (some false) (dV x1 x9 (W .i64 (bo+1))))) none) (cond (!aN x1.1 x1.2.1) (cond (dx 0 x1.2.2.1) (cond (aX x1.2.2.1 6) (cond (dx 1 x1.2.2.2.1) (cond (dx x1.2.2.2.1 1000000000) ((F81 N x1.2.2.2.2.1).bind λr4=>some r4) (some false)) (some false)) (some false)) (some false)) (some false))
def pB.l2(N:Nat):Nat→pB.cX
 |0,_,_,_=>none
 |n+1,x1,x9,bo=>pB.fI N (pB.l2 N n) x1 x9 bo
def pB.b(N:Nat)(gT:pB.cX)(a0:iE):Option Bool:=
 gT a0 (List.set (List.set (List.replicate 2 0) 0 a0.1) 1 a0.2.1) 0
def pB(a0:iE):Option Bool:=pB.b N (pB.l2 N N) a0
def alo(a0:iE):Option Bool:=
 (pB N a0).bind λr1=>some (!r1)
abbrev tA.cX:=bh→Unit→Int→Int→Option Int
def tA.fI(dV:tA.cX)(x0:bh)(x1:Unit)(x7 x8:Int):Option Int:=
 cond (aX x8 x7) (cond (bf x8 (ℓ x0)) ((alo N (γ x0 x8.toNat gq)).bind λr2=>cond (r2) (some x8) (dV x0 () x7 (W .i64 (x8+1)))) none) (some (-1))
def tA.l2(N:Nat):Nat→tA.cX
 |0,_,_,_,_=>none
 |n+1,x0,x1,x7,x8=>tA.fI N (tA.l2 N n) x0 x1 x7 x8
def tA.b(N:Nat)(gT:tA.cX)(a0:bh)(a1:Unit):Option Int:=
 gT a0 () (ℓ a0) 0
def tA(a0:bh)(a1:Unit):Option Int:=tA.b N (tA.l2 N N) a0 a1
def ado(a0:bh)(a1:Unit):Option Bool:=
 (tA N a0 ()).bind λr1=>some (dx 0 r1)
def Wj(N:Nat)(a0:Int):Option Int:=
 cond (aX a0 0) (some (W .u64 (0-(W .u64 a0)))) (some (W .u64 a0))
def Wi(N:Nat)(a0 a1:Int):Option ((Int)×(Int)):=
 let v1:Int:=ss .and .u64 a0 4294967295;cond (aX 32 0) none (let v2:Int:=shr .u64 a0 32;let v3:Int:=ss .and .u64 a1 4294967295;cond (aX 32 0) none (let v4:Int:=shr .u64 a1 32;cond (aX 32 0) none (let v8:Int:=W .u64 ((W .u64 (v2*v3))+(shr .u64 (W .u64 (v1*v3)) 32));cond (aX 32 0) none (cond (aX 32 0) none (some ((W .u64 ((W .u64 ((W .u64 (v2*v4))+(shr .u64 v8 32)))+(shr .u64 (W .u64 ((ss .and .u64 v8 4294967295)+(W .u64 (v1*v4)))) 32))),(W .u64 (a0*a1))))))))
abbrev rz.abj:=Int→Int→bS→Option (bS×(Bool))
def rz.X9(x1 x2:Int)(x6:bS):Option (bS×(Bool)):=
 (tM N 0 x2 0).bind λr3=>(tM N 0 x1 r3.2).bind λr4=>some (((W .i64 r4.1),(r3.1,())),true)
def rz.j7(x1 x2:Int)(x6:bS):Option (bS×(Bool)):=rz.X9 N x1 x2 x6
def rz.b(N:Nat)(J0:rz.abj)(a0:Bool)(a1 a2:Int):Option (bS×(Bool)):=
 cond (!a0) (cond (dx 9223372036854775808 a1) (some (c5,false)) (some (((W .i64 a1),(a2,())),true))) (cond (aX 9223372036854775808 a1) (some (c5,false)) (cond (aN a1 9223372036854775808) (cond (aX 0 a2) (some (c5,false)) (J0 a1 a2 c5)) (J0 a1 a2 c5)))
def rz(a0:Bool)(a1 a2:Int):Option (bS×(Bool)):=rz.b N (rz.j7 N) a0 a1 a2
def Wo(a0 a1:Int):Option bS:=
 (Wj N a0).bind λr1=>(Wj N a1).bind λr2=>(Wi N r1 r2).bind λr3=>(rz N (!(pb .bool (aX a0 0) (aX a1 0))) r3.1 r3.2).bind λr4=>some r4.1
def WX(N:Nat)(a0:Int)(a1:bS):Option tY:=
 cond (aN a0 0) (some (2,(0,(a1,())))) (some (5,(a0,(a1,()))))
def ZY(a0:iE)(a1:Int):Option (cR×(Int)):=
 (pB N a0).bind λr1=>cond (!r1) (some ([],1)) ((F81 N a1).bind λr2=>cond (!r2) (some ([],1)) (cond (aN a1 a0.2.2.2.2.1) (some ([],0)) ((Wo N a0.2.2.2.1 (W .i64 (a1-a0.2.2.2.2.1))).bind λr4=>(WX N a0.1 r4).bind λr5=>(Wo N a0.2.2.2.1 (W .i64 (a0.2.2.2.2.1-a1))).bind λr7=>(WX N a0.2.1 r7).bind λr8=>some ([r5,r8],0))))
def ZN(a0:an):Option an:=
 (jv N a0.1).bind λr1=>(jv N a0.2.1).bind λr2=>(jv N a0.2.2.1).bind λr3=>(jv N a0.2.2.2.1).bind λr4=>(jv N a0.2.2.2.2.1).bind λr5=>(jv N a0.2.2.2.2.2.1).bind λr6=>some (r1,(r2,(r3,(r4,(r5,(r6,()))))))
abbrev gY.kA:=au→Int→kz→Int→au→Int→Int→Option Bool
abbrev gY.cX:=au→Int→Option Bool
def gY.u7(dV:gY.cX)(lC:gY.kA)(x0:au)(x3:Int)(x4:kz)(x9:Int)(bp:au)(cj cZ:Int):Option Bool:=
 cond (aX cZ cj) (cond (bf cZ (ℓ bp)) (cond (aN (γ bp cZ.toNat bb).2.1 x3) ((O4 N (γ bp cZ.toNat bb).2.2.1).bind λr3=>cond (small (ℓ x4+ℓ ([r3]))) (lC x0 x3 (x4++([r3])) x9 bp cj (W .i64 (cZ+1))) none) (lC x0 x3 x4 x9 bp cj (W .i64 (cZ+1)))) none) ((nP N x4).bind λr7=>cond (!r7.2) (some false) ((F74 N r7.1).bind λr8=>cond (!aN r8 0) (some false) (dV x0 (W .i64 (x9+1)))))
def gY.l6(N:Nat)(dV:gY.cX):Nat→gY.kA
 |0,_,_,_,_,_,_,_=>none
 |n+1,x0,x3,x4,x9,bp,cj,cZ=>gY.u7 N dV (gY.l6 N dV n) x0 x3 x4 x9 bp cj cZ
def gY.fI(N:Nat)(yG:gY.kA)(dV:gY.cX)(x0:au)(x9:Int):Option Bool:=
 cond (aX x9 6) (yG x0 x9 ([]) x9 x0 (ℓ x0) 0) (some true)
def gY.l2(N:Nat):Nat→gY.cX
 |0,_,_=>none
 |n+1,x0,x9=>gY.fI N (gY.l6 N (gY.l2 N n) N) (gY.l2 N n) x0 x9
def gY.b(N:Nat)(gT:gY.cX)(a0:au):Option Bool:=
 gT a0 0
def gY(a0:au):Option Bool:=gY.b N (gY.l2 N N) a0
def F92(N:Nat)(a0:bS):Option ((Int)×(Bool)):=
 cond (aX 63 0) none (cond (!aN a0.1 (shr .i64 (W .i64 a0.2.1) 63)) (some (0,false)) (some ((W .i64 a0.2.1),true)))
def adb(N:Nat)(a0:au):Option au:=
 cond (jt 0 (ℓ a0) (ℓ a0) (ℓ a0)) (some (List.drop (0:Int).toNat (List.take (ℓ a0:Int).toNat a0))) none
abbrev cN.aq9:=au→au→dh→Int→au→Int→Int→Option (au×(Int))
abbrev cN.nK:=au→au→dh→Int→au→Int→Int→Option (au×(Int))
abbrev cN.abk:=au→au→dh→kz→au→Int→Int→au→Int→Int→Option (au×(Int))
abbrev cN.Ky:=au→au→au→Int→Int→Option (au×(Int))
abbrev cN.fP:=au→au→au→Int→Int→Option (au×(Int))
abbrev cN.bN:=au→au→au→Int→Int→Option (au×(Int))
def cN.alf(gO:cN.fP)(x1 x8:au)(bo:dh)(a7:Int)(QE:au)(Se Nz:Int):Option (au×(Int)):=
 cond (aN a7 (ℓ x8)) ((rl N x8 a7 ([(bo.1,(bo.2.1,(0,())))])).bind λnW=>gO x1 nW QE Se (W .i64 (Nz+1))) (cond (bf a7 (ℓ x8)) ((Wp N bo.1 bo.2.1 (γ x8 a7.toNat bb)).bind λuD=>cond (!aN uD 0) ((rl N x8 a7 ([(bo.1,(bo.2.1,(0,())))])).bind λwG=>gO x1 wG QE Se (W .i64 (Nz+1))) (gO x1 x8 QE Se (W .i64 (Nz+1)))) none)
def cN.j18(gO:cN.fP)(x1 x8:au)(bo:dh)(a7:Int)(QE:au)(Se Nz:Int):Option (au×(Int)):=cN.alf N gO x1 x8 bo a7 QE Se Nz
def cN.w7(aju:cN.aq9)(gO:cN.fP)(pa:cN.nK)(x1 x8:au)(bo:dh)(a7:Int)(QE:au)(Se Nz:Int):Option (au×(Int)):=
 cond (aX a7 (ℓ x8)) (cond (bf a7 (ℓ x8)) ((Wp N bo.1 bo.2.1 (γ x8 a7.toNat bb)).bind λkT=>cond (aX 0 kT) (pa x1 x8 bo (W .i64 (a7+1)) QE Se Nz) (aju x1 x8 bo a7 QE Se Nz)) none) (aju x1 x8 bo a7 QE Se Nz)
def cN.yj(N:Nat)(gO:cN.fP):Nat→cN.nK
 |0,_,_,_,_,_,_,_=>none
 |n+1,x1,x8,bo,a7,QE,Se,Nz=>cN.w7 N (cN.j18 N gO) gO (cN.yj N gO n) x1 x8 bo a7 QE Se Nz
def cN.ade(Lp:cN.Ky)(abl:cN.abk)(x1 bp:au)(cZ:dh)(eu:kz)(Cu:au)(Fk tD:Int)(M9:au)(XR J1:Int):Option (au×(Int)):=
 cond (aX J1 XR) (cond (bf J1 (ℓ M9)) (cond (aN (γ M9 J1.toNat bb).1 cZ.1) (cond (aN (γ M9 J1.toNat bb).2.1 cZ.2.1) ((O4 N (γ M9 J1.toNat bb).2.2.1).bind λEJ=>cond (small (ℓ eu+ℓ ([EJ]))) (abl x1 bp cZ (eu++([EJ])) Cu Fk tD M9 XR (W .i64 (J1+1))) none) (abl x1 bp cZ eu Cu Fk tD M9 XR (W .i64 (J1+1)))) (abl x1 bp cZ eu Cu Fk tD M9 XR (W .i64 (J1+1)))) none) ((nP N eu).bind λr28=>(F92 N r28.1).bind λF3=>cond (!F3.2) (some (bq,2)) ((SL N F3.1).bind λTK=>cond (!TK) (some (bq,2)) (cond (!aN F3.1 0) (cond (small (ℓ bp+ℓ ([(cZ.1,(cZ.2.1,(F3.1,())))]))) (Lp x1 (bp++([(cZ.1,(cZ.2.1,(F3.1,())))])) Cu Fk (W .i64 (tD+1))) none) (Lp x1 bp Cu Fk (W .i64 (tD+1))))))
def cN.l27(N:Nat)(Lp:cN.Ky):Nat→cN.abk
 |0,_,_,_,_,_,_,_,_,_,_=>none
 |n+1,x1,bp,cZ,eu,Cu,Fk,tD,M9,XR,J1=>cN.ade N Lp (cN.l27 N Lp n) x1 bp cZ eu Cu Fk tD M9 XR J1
def cN.adg(ara:cN.abk)(Lp:cN.Ky)(x1 bp Cu:au)(Fk tD:Int):Option (au×(Int)):=
 cond (aX tD Fk) (cond (bf tD (ℓ Cu)) ((O4 N (γ Cu tD.toNat bb).2.2.1).bind λF1=>ara x1 bp (γ Cu tD.toNat bb) ([F1]) Cu Fk tD x1 (ℓ x1) 0) none) ((adb N bp).bind λr34=>some (r34,0))
def cN.l23(N:Nat):Nat→cN.Ky
 |0,_,_,_,_,_=>none
 |n+1,x1,bp,Cu,Fk,tD=>cN.adg N (cN.l27 N (cN.l23 N n) N) (cN.l23 N n) x1 bp Cu Fk tD
def cN.ly(N:Nat)(IT:cN.nK)(arb:cN.Ky)(gO:cN.fP)(x1 x8 QE:au)(Se Nz:Int):Option (au×(Int)):=
 cond (aX Nz Se) (cond (bf Nz (ℓ QE)) (IT x1 x8 (γ QE Nz.toNat bb) 0 QE Se Nz) none) (cond (kW 0 (ℓ x8)) (arb x1 (List.replicate (0:Int).toNat bb) x8 (ℓ x8) 0) none)
def cN.my(N:Nat):Nat→cN.fP
 |0,_,_,_,_,_=>none
 |n+1,x1,x8,QE,Se,Nz=>cN.ly N (cN.yj N (cN.my N n) N) (cN.l23 N N) (cN.my N n) x1 x8 QE Se Nz
def cN.dL(tp:cN.fP)(cG:cN.bN)(x0 x1 AJ:au)(Lq DA:Int):Option (au×(Int)):=
 cond (aX DA Lq) (cond (bf DA (ℓ AJ)) ((Zt N (γ AJ DA.toNat bb).1 (γ AJ DA.toNat bb).2.1).bind λr3=>cond (!r3) (some (bq,1)) ((SL N (γ AJ DA.toNat bb).2.2.1).bind λr4=>cond (!r4) (some (bq,1)) (cG x0 x1 AJ Lq (W .i64 (DA+1))))) none) ((gY N x1).bind λr6=>cond (!r6) (some (bq,1)) ((jv N x0).bind λr7=>tp x1 r7 x1 (ℓ x1) 0))
def cN.l4(N:Nat):Nat→cN.bN
 |0,_,_,_,_,_=>none
 |n+1,x0,x1,AJ,Lq,DA=>cN.dL N (cN.my N N) (cN.l4 N n) x0 x1 AJ Lq DA
def cN.b(eW:cN.bN)(a0 a1:au):Option (au×(Int)):=
 (ou N a0).bind λr1=>cond (!r1) (some (bq,1)) (cond (aX 400 (ℓ a1)) (some (bq,1)) (eW a0 a1 a1 (ℓ a1) 0))
def cN(a0 a1:au):Option (au×(Int)):=cN.b N (cN.l4 N N) a0 a1
def alh(N:Nat)(a0:au):Option au:=
 cond (jt 0 (ℓ a0) (ℓ a0) (ℓ a0)) (some (List.drop (0:Int).toNat (List.take (ℓ a0:Int).toNat a0))) none
abbrev cO.arc:=cR→au→tY→Int→cR→Int→Int→Option (au×(Int))
abbrev cO.IU:=cR→au→tY→Int→cR→Int→Int→Option (au×(Int))
abbrev cO.IV:=cR→au→dh→kz→au→Int→Int→cR→Int→Int→Option (au×(Int))
abbrev cO.KG:=cR→au→au→Int→Int→Option (au×(Int))
abbrev cO.nK:=cR→au→cR→Int→Int→Option (au×(Int))
abbrev cO.bL:=au→cR→kz→cR→Int→Int→Option (au×(Int))
def cO.ali(pa:cO.nK)(x1:cR)(a7:au)(cj:tY)(cZ:Int)(xh:cR)(J2 wV:Int):Option (au×(Int)):=
 cond (aN cZ (ℓ a7)) ((rl N a7 cZ ([(cj.1,(cj.2.1,(0,())))])).bind λuD=>pa x1 uD xh J2 (W .i64 (wV+1))) (cond (bf cZ (ℓ a7)) ((SJ N cj.1 cj.2.1 (γ a7 cZ.toNat bb)).bind λyA=>cond (!aN yA 0) ((rl N a7 cZ ([(cj.1,(cj.2.1,(0,())))])).bind λyH=>pa x1 yH xh J2 (W .i64 (wV+1))) (pa x1 a7 xh J2 (W .i64 (wV+1)))) none)
def cO.j21(pa:cO.nK)(x1:cR)(a7:au)(cj:tY)(cZ:Int)(xh:cR)(J2 wV:Int):Option (au×(Int)):=cO.ali N pa x1 a7 cj cZ xh J2 wV
def cO.SV(ajw:cO.arc)(pa:cO.nK)(abn:cO.IU)(x1:cR)(a7:au)(cj:tY)(cZ:Int)(xh:cR)(J2 wV:Int):Option (au×(Int)):=
 cond (aX cZ (ℓ a7)) (cond (bf cZ (ℓ a7)) ((SJ N cj.1 cj.2.1 (γ a7 cZ.toNat bb)).bind λoU=>cond (aX 0 oU) (abn x1 a7 cj (W .i64 (cZ+1)) xh J2 wV) (ajw x1 a7 cj cZ xh J2 wV)) none) (ajw x1 a7 cj cZ xh J2 wV)
def cO.WO(N:Nat)(pa:cO.nK):Nat→cO.IU
 |0,_,_,_,_,_,_,_=>none
 |n+1,x1,a7,cj,cZ,xh,J2,wV=>cO.SV N (cO.j21 N pa) pa (cO.WO N pa n) x1 a7 cj cZ xh J2 wV
def cO.Mo(Lr:cO.KG)(EK:cO.IV)(x1:cR)(eu:au)(gg:dh)(mz:kz)(Cv:au)(Fl AD:Int)(J3:cR)(XS IW:Int):Option (au×(Int)):=
 cond (aX IW XS) (cond (bf IW (ℓ J3)) (cond (aN (γ J3 IW.toNat (0,(0,(c5,())))).1 gg.1) (cond (aN (γ J3 IW.toNat (0,(0,(c5,())))).2.1 gg.2.1) (cond (small (ℓ mz+ℓ ([(γ J3 IW.toNat (0,(0,(c5,())))).2.2.1]))) (EK x1 eu gg (mz++([(γ J3 IW.toNat (0,(0,(c5,())))).2.2.1])) Cv Fl AD J3 XS (W .i64 (IW+1))) none) (EK x1 eu gg mz Cv Fl AD J3 XS (W .i64 (IW+1)))) (EK x1 eu gg mz Cv Fl AD J3 XS (W .i64 (IW+1)))) none) ((nP N mz).bind λF3=>(F92 N F3.1).bind λTK=>cond (!F3.2) (some (bq,2)) (cond (!TK.2) (some (bq,2)) (cond (!aN TK.1 0) (cond (small (ℓ eu+ℓ ([(gg.1,(gg.2.1,(TK.1,())))]))) (Lr x1 (eu++([(gg.1,(gg.2.1,(TK.1,())))])) Cv Fl (W .i64 (AD+1))) none) (Lr x1 eu Cv Fl (W .i64 (AD+1))))))
def cO.Pm(N:Nat)(Lr:cO.KG):Nat→cO.IV
 |0,_,_,_,_,_,_,_,_,_,_=>none
 |n+1,x1,eu,gg,mz,Cv,Fl,AD,J3,XS,IW=>cO.Mo N Lr (cO.Pm N Lr n) x1 eu gg mz Cv Fl AD J3 XS IW
def cO.adk(abo:cO.IV)(Lr:cO.KG)(x1:cR)(eu Cv:au)(Fl AD:Int):Option (au×(Int)):=
 cond (aX AD Fl) (cond (bf AD (ℓ Cv)) ((O4 N (γ Cv AD.toNat bb).2.2.1).bind λEJ=>abo x1 eu (γ Cv AD.toNat bb) ([EJ]) Cv Fl AD x1 (ℓ x1) 0) none) ((alh N eu).bind λr34=>some (r34,0))
def cO.l26(N:Nat):Nat→cO.KG
 |0,_,_,_,_,_=>none
 |n+1,x1,eu,Cv,Fl,AD=>cO.adk N (cO.Pm N (cO.l26 N n) N) (cO.l26 N n) x1 eu Cv Fl AD
def cO.w7(N:Nat)(abp:cO.IU)(ard:cO.KG)(pa:cO.nK)(x1:cR)(a7:au)(xh:cR)(J2 wV:Int):Option (au×(Int)):=
 cond (aX wV J2) (cond (bf wV (ℓ xh)) (abp x1 a7 (γ xh wV.toNat (0,(0,(c5,())))) 0 xh J2 wV) none) (cond (kW 0 (ℓ a7)) (ard x1 (List.replicate (0:Int).toNat bb) a7 (ℓ a7) 0) none)
def cO.yj(N:Nat):Nat→cO.nK
 |0,_,_,_,_,_=>none
 |n+1,x1,a7,xh,J2,wV=>cO.w7 N (cO.WO N (cO.yj N n) N) (cO.l26 N N) (cO.yj N n) x1 a7 xh J2 wV
def cO.dU(IT:cO.nK)(bQ:cO.bL)(x0:au)(x1:cR)(x6:kz)(x36:cR)(x37 x38:Int):Option (au×(Int)):=
 cond (aX x38 x37) (cond (bf x38 (ℓ x36)) ((SG N (γ x36 x38.toNat (0,(0,(c5,())))).1 (γ x36 x38.toNat (0,(0,(c5,())))).2.1).bind λr4=>cond (!r4) (some (bq,1)) (cond (small (ℓ x6+ℓ ([(γ x36 x38.toNat (0,(0,(c5,())))).2.2.1]))) (bQ x0 x1 (x6++([(γ x36 x38.toNat (0,(0,(c5,())))).2.2.1])) x36 x37 (W .i64 (x38+1))) none)) none) ((nP N x6).bind λr7=>cond (!r7.2) (some (bq,1)) ((F74 N r7.1).bind λr8=>cond (!aN r8 0) (some (bq,1)) ((jv N x0).bind λr9=>IT x1 r9 x1 (ℓ x1) 0)))
def cO.l5(N:Nat):Nat→cO.bL
 |0,_,_,_,_,_,_=>none
 |n+1,x0,x1,x6,x36,x37,x38=>cO.dU N (cO.yj N N) (cO.l5 N n) x0 x1 x6 x36 x37 x38
def cO.b(eX:cO.bL)(a0:au)(a1:cR):Option (au×(Int)):=
 (CZ N a0).bind λr1=>cond (!r1) (some (bq,1)) (cond (aX 400 (ℓ a1)) (some (bq,1)) (cond (kW 0 (ℓ a1)) (eX a0 a1 (List.replicate (0:Int).toNat c5) a1 (ℓ a1) 0) none))
def cO(a0:au)(a1:cR):Option (au×(Int)):=cO.b N (cO.l5 N N) a0 a1
def F68(a0:an)(a1:au)(a2:cR):Option (an×(Int)):=
 (ZN N a0).bind λr1=>(cN N a0.2.2.2.1 a1).bind λr2=>cond (!aN r2.2 0) (some ((ch,(cT,(bq,(bq,(dg,(du,())))))),r2.2)) ((cO N a0.2.2.1 a2).bind λr3=>cond (!aN r3.2 0) (some ((ch,(cT,(bq,(bq,(dg,(du,())))))),r3.2)) (some ((r1.1,(r1.2.1,(r3.1,(r2.1,r1.2.2.2.2)))),0)))
abbrev uC.iR:=an→an→au→cR→bh→Int→Int→Option (an×(Int))
abbrev uC.bN:=bh→ae→an→an→bh→Int→Int→Option (an×(Int))
def uC.mO(lD:uC.iR)(x4 x6:an)(bo:au)(a7:cR)(xh:bh)(J2 wV:Int):Option (an×(Int)):=
 cond (aX wV J2) (cond (bf wV (ℓ xh)) (let Vm:Int:=W .i64 (0-((γ xh wV.toNat gq).2.2.2.1));cond (small (ℓ bo+ℓ ([((γ xh wV.toNat gq).1,((γ xh wV.toNat gq).2.2.1,((γ xh wV.toNat gq).2.2.2.1,()))),((γ xh wV.toNat gq).2.1,((γ xh wV.toNat gq).2.2.1,(Vm,())))]))) (cond (bf (γ xh wV.toNat gq).2.2.1 (ℓ x4.2.2.2.2.1)) ((ZY N (γ xh wV.toNat gq) (γ x4.2.2.2.2.1 (γ xh wV.toNat gq).2.2.1.toNat 0)).bind λrG=>cond (small (ℓ a7+ℓ rG.1)) (lD x4 x6 (bo++([((γ xh wV.toNat gq).1,((γ xh wV.toNat gq).2.2.1,((γ xh wV.toNat gq).2.2.2.1,()))),((γ xh wV.toNat gq).2.1,((γ xh wV.toNat gq).2.2.1,(Vm,())))])) (a7++rG.1) xh J2 (W .i64 (wV+1))) none) none) none) none) ((F68 N x4 bo a7).bind λyA=>some (yA.1,yA.2))
def uC.nI(N:Nat):Nat→uC.iR
 |0,_,_,_,_,_,_,_=>none
 |n+1,x4,x6,bo,a7,xh,J2,wV=>uC.mO N (uC.nI N n) x4 x6 bo a7 xh J2 wV
def uC.dL(vu:uC.iR)(cG:uC.bN)(x2:bh)(x3:ae)(x4 x6:an)(AJ:bh)(Lq DA:Int):Option (an×(Int)):=
 cond (aX DA Lq) (cond (bf DA (ℓ AJ)) (cond (!aN (γ AJ DA.toNat gq).1 0) ((F78 N x4 (γ AJ DA.toNat gq).1).bind λr4=>cond (!r4) (some ((ch,(cT,(bq,(bq,(dg,(du,())))))),3)) (cond (!aN (γ AJ DA.toNat gq).2.1 0) ((F78 N x4 (γ AJ DA.toNat gq).2.1).bind λr5=>cond (!r5) (some ((ch,(cT,(bq,(bq,(dg,(du,())))))),3)) (cond (dx (ℓ x3.1) (γ AJ DA.toNat gq).2.2.1) (some ((ch,(cT,(bq,(bq,(dg,(du,())))))),3)) (cG x2 x3 x4 x6 AJ Lq (W .i64 (DA+1))))) (cond (dx (ℓ x3.1) (γ AJ DA.toNat gq).2.2.1) (some ((ch,(cT,(bq,(bq,(dg,(du,())))))),3)) (cG x2 x3 x4 x6 AJ Lq (W .i64 (DA+1)))))) (cond (!aN (γ AJ DA.toNat gq).2.1 0) ((F78 N x4 (γ AJ DA.toNat gq).2.1).bind λr8=>cond (!r8) (some ((ch,(cT,(bq,(bq,(dg,(du,())))))),3)) (cond (dx (ℓ x3.1) (γ AJ DA.toNat gq).2.2.1) (some ((ch,(cT,(bq,(bq,(dg,(du,())))))),3)) (cG x2 x3 x4 x6 AJ Lq (W .i64 (DA+1))))) (cond (dx (ℓ x3.1) (γ AJ DA.toNat gq).2.2.1) (some ((ch,(cT,(bq,(bq,(dg,(du,())))))),3)) (cG x2 x3 x4 x6 AJ Lq (W .i64 (DA+1)))))) none) (vu x4 x6 ([]) ([]) x2 (ℓ x2) 0)
def uC.l4(N:Nat):Nat→uC.bN
 |0,_,_,_,_,_,_,_=>none
 |n+1,x2,x3,x4,x6,AJ,Lq,DA=>uC.dL N (uC.nI N N) (uC.l4 N n) x2 x3 x4 x6 AJ Lq DA
def uC.b(eW:uC.bN)(a0:ae)(a1:an)(a2:bh):Option (an×(Int)):=
 (lx N a0 a1).bind λr1=>cond (!r1) (some ((ch,(cT,(bq,(bq,(dg,(du,())))))),1)) (cond (aX 200 (ℓ a2)) (some ((ch,(cT,(bq,(bq,(dg,(du,())))))),1)) ((ado N a2 ()).bind λr2=>cond (r2) (some ((ch,(cT,(bq,(bq,(dg,(du,())))))),1)) (eW a2 a0 a1 (ch,(cT,(bq,(bq,(dg,(du,())))))) a2 (ℓ a2) 0)))
def uC(a0:ae)(a1:an)(a2:bh):Option (an×(Int)):=uC.b N (uC.l4 N N) a0 a1 a2
abbrev qE.bL:=Int→Int→Int→cR→au→Int→Int→Option (cR×(Int))
def qE.dU(bQ:qE.bL)(x1 x2 x3:Int)(bo:cR)(QD:au)(x27 x28:Int):Option (cR×(Int)):=
 cond (aX x28 x27) (cond (bf x28 (ℓ QD)) (cond (aN (γ QD x28.toNat bb).2.1 x1) (cond (!aN x3 x2) ((Wo N (γ QD x28.toNat bb).2.2.1 (W .i64 (x3-x2))).bind λr6=>(WX N (γ QD x28.toNat bb).1 r6).bind λr7=>cond (small (ℓ bo+ℓ ([r7]))) (bQ x1 x2 x3 (bo++([r7])) QD x27 (W .i64 (x28+1))) none) (bQ x1 x2 x3 bo QD x27 (W .i64 (x28+1)))) (bQ x1 x2 x3 bo QD x27 (W .i64 (x28+1)))) none) (some (bo,0))
def qE.l5(N:Nat):Nat→qE.bL
 |0,_,_,_,_,_,_,_=>none
 |n+1,x1,x2,x3,bo,QD,x27,x28=>qE.dU N (qE.l5 N n) x1 x2 x3 bo QD x27 x28
def qE.b(eX:qE.bL)(a0:au)(a1 a2 a3:Int):Option (cR×(Int)):=
 (ou N a0).bind λr1=>cond (!r1) (some ([],1)) ((F81 N a2).bind λr2=>cond (!r2) (some ([],1)) ((F81 N a3).bind λr3=>cond (!r3) (some ([],1)) (eX a1 a2 a3 ([]) a0 (ℓ a0) 0)))
def qE(a0:au)(a1 a2 a3:Int):Option (cR×(Int)):=qE.b N (qE.l5 N N) a0 a1 a2 a3
def ajy(a0:an):Option an:=
 (jv N a0.1).bind λr1=>(jv N a0.2.1).bind λr2=>(jv N a0.2.2.1).bind λr3=>(jv N a0.2.2.2.1).bind λr4=>(jv N a0.2.2.2.2.1).bind λr5=>(jv N a0.2.2.2.2.2.1).bind λr6=>some (r1,(r2,(r3,(r4,(r5,(r6,()))))))
def alI(a0:an)(a1:au)(a2:cR):Option (an×(Int)):=
 (ajy N a0).bind λr1=>(cN N a0.2.2.2.1 a1).bind λr2=>cond (!aN r2.2 0) (some ((ch,(cT,(bq,(bq,(dg,(du,())))))),r2.2)) ((cO N a0.2.2.1 a2).bind λr3=>cond (!aN r3.2 0) (some ((ch,(cT,(bq,(bq,(dg,(du,())))))),r3.2)) (some ((r1.1,(r1.2.1,(r3.1,(r2.1,(r1.2.2.2.2.1,r1.2.2.2.2.2))))),0)))
def F42(a0:ae)(a1:an)(a2 a3:Int):Option (an×cR×(Int)):=
 (lx N a0 a1).bind λr1=>cond (!r1) (some ((ch,(cT,(bq,(bq,(dg,(du,())))))),([]:List ((Int)×((Int)×(((Int)×((Int)×(Unit)))×(Unit))))),1)) ((F81 N a3).bind λr2=>cond (!r2) (some ((ch,(cT,(bq,(bq,(dg,(du,())))))),([]:List ((Int)×((Int)×(((Int)×((Int)×(Unit)))×(Unit))))),1)) (cond (aX a2 0) (some ((ch,(cT,(bq,(bq,(dg,(du,())))))),([]:List ((Int)×((Int)×(((Int)×((Int)×(Unit)))×(Unit))))),3)) (cond (dx (ℓ a0.1) a2) (some ((ch,(cT,(bq,(bq,(dg,(du,())))))),([]:List ((Int)×((Int)×(((Int)×((Int)×(Unit)))×(Unit))))),3)) (cond (bf a2 (ℓ a1.2.2.2.2.1)) ((qE N a1.2.2.2.1 a2 (γ a1.2.2.2.2.1 a2.toNat 0) a3).bind λr3=>(alI N a1 bq r3.1).bind λr4=>cond (!aN r4.2 0) (some ((ch,(cT,(bq,(bq,(dg,(du,())))))),([]:List ((Int)×((Int)×(((Int)×((Int)×(Unit)))×(Unit))))),r4.2)) (cond (bf a2 (ℓ r4.1.2.2.2.2.1)) (some ((r4.1.1,(r4.1.2.1,(r4.1.2.2.1,(r4.1.2.2.2.1,((List.set r4.1.2.2.2.2.1 a2.toNat a3),r4.1.2.2.2.2.2))))),r3.1,0)) none)) none))))
abbrev El.bL:=Int→aE→au→Int→Int→Option aE
def El.dU(N:Nat)(bQ:El.bL)(x1:Int)(x5:aE)(a7:au)(bp cj:Int):Option aE:=
 cond (aX cj bp) (cond (bf cj (ℓ a7)) (cond (aN (γ a7 cj.toNat bb).1 x1) (cond (small (ℓ x5+ℓ ([((γ a7 cj.toNat bb).2.1,((γ a7 cj.toNat bb).2.2.1,()))]))) (bQ x1 (x5++([((γ a7 cj.toNat bb).2.1,((γ a7 cj.toNat bb).2.2.1,()))])) a7 bp (W .i64 (cj+1))) none) (bQ x1 x5 a7 bp (W .i64 (cj+1)))) none) (some x5)
def El.l5(N:Nat):Nat→El.bL
 |0,_,_,_,_,_=>none
 |n+1,x1,x5,a7,bp,cj=>El.dU N (El.l5 N n) x1 x5 a7 bp cj
def El.b(eX:El.bL)(a0:au)(a1:Int):Option aE:=
 (ou N a0).bind λr1=>cond (!r1) (some ([])) (eX a1 ([]) a0 (ℓ a0) 0)
def El(a0:au)(a1:Int):Option aE:=El.b N (El.l5 N N) a0 a1
abbrev gZ.lE:=aY→Int→au→Int→dh→Int→aY→Int→Int→Option au
abbrev gZ.bL:=aY→Int→au→Int→Option au
def gZ.vd(N:Nat)(bQ:gZ.bL)(o4:gZ.lE)(x0:aY)(x1:Int)(x5:au)(x6:Int)(x7:dh)(cj:Int)(mz:aY)(nT AK:Int):Option au:=
 cond (aX AK nT) (cond (bf AK (ℓ mz)) (cond (!aN (γ mz AK.toNat dS).2.1 x1) (o4 x0 x1 x5 x6 x7 cj mz nT (W .i64 (AK+1))) (cond (!aN (γ mz AK.toNat dS).2.2.1 x6) (o4 x0 x1 x5 x6 x7 cj mz nT (W .i64 (AK+1))) (cond (aN (γ mz AK.toNat dS).2.2.2.1 1) (o4 x0 x1 x5 x6 (x7.1,((W .i64 (x7.2.1+((γ mz AK.toNat dS).2.2.2.2.1))),x7.2.2)) cj mz nT (W .i64 (AK+1))) (o4 x0 x1 x5 x6 (x7.1,(x7.2.1,((W .i64 (x7.2.2.1+((γ mz AK.toNat dS).2.2.2.2.1))),x7.2.2.2))) cj mz nT (W .i64 (AK+1)))))) none) (cond (aX 0 (W .i64 (x7.2.1+x7.2.2.1))) (cond (small (ℓ x5+ℓ ([x7]))) (bQ x0 x1 (x5++([x7])) (W .i64 (cj+1))) none) (bQ x0 x1 x5 (W .i64 (cj+1))))
def gZ.l9(N:Nat)(bQ:gZ.bL):Nat→gZ.lE
 |0,_,_,_,_,_,_,_,_,_=>none
 |n+1,x0,x1,x5,x6,x7,cj,mz,nT,AK=>gZ.vd N bQ (gZ.l9 N bQ n) x0 x1 x5 x6 x7 cj mz nT AK
def gZ.dU(N:Nat)(yI:gZ.lE)(bQ:gZ.bL)(x0:aY)(x1:Int)(x5:au)(cj:Int):Option au:=
 cond (aX cj 6) (yI x0 x1 x5 cj (cj,c5) cj x0 (ℓ x0) 0) (some x5)
def gZ.l5(N:Nat):Nat→gZ.bL
 |0,_,_,_,_=>none
 |n+1,x0,x1,x5,cj=>gZ.dU N (gZ.l9 N (gZ.l5 N n) N) (gZ.l5 N n) x0 x1 x5 cj
def gZ.b(eX:gZ.bL)(a0:aY)(a1:Int):Option au:=
 (C5 N a0).bind λr1=>cond (!r1) (some ([])) (eX a0 a1 ([]) 0)
def gZ(a0:aY)(a1:Int):Option au:=gZ.b N (gZ.l5 N N) a0 a1
abbrev qm.cX:=aE→ae→aE→Int→Int→Option Bool
def qm.fI(dV:qm.cX)(x1:aE)(x2:ae)(x7:aE)(x8 x9:Int):Option Bool:=
 cond (aX x9 x8) (cond (bf x9 (ℓ x7)) (cond (aX (γ x7 x9.toNat c5).1 0) (some false) (cond (dx (ℓ x2.1) (γ x7 x9.toNat c5).1) (some false) (cond (aN (γ x7 x9.toNat c5).2.1 0) (some false) ((SL N (γ x7 x9.toNat c5).2.1).bind λr2=>cond (!r2) (some false) (cond (aX 0 x9) (let v3:Int:=W .i64 (x9-1);cond (bf v3 (ℓ x1)) (cond (dx (γ x7 x9.toNat c5).1 (γ x1 v3.toNat c5).1) (some false) (dV x1 x2 x7 x8 (W .i64 (x9+1)))) none) (dV x1 x2 x7 x8 (W .i64 (x9+1)))))))) none) ((CC N x2).bind λr6=>some r6)
def qm.l2(N:Nat):Nat→qm.cX
 |0,_,_,_,_,_=>none
 |n+1,x1,x2,x7,x8,x9=>qm.fI N (qm.l2 N n) x1 x2 x7 x8 x9
def qm.b(N:Nat)(gT:qm.cX)(a0:ae)(a1:aE):Option Bool:=
 gT a1 a0 a1 (ℓ a1) 0
def qm(a0:ae)(a1:aE):Option Bool:=qm.b N (qm.l2 N N) a0 a1
abbrev qw.cX:=au→ae→au→Int→Int→Option Bool
def qw.fI(dV:qw.cX)(x1:au)(x2:ae)(x7:au)(x8 x9:Int):Option Bool:=
 cond (aX x9 x8) (cond (bf x9 (ℓ x7)) (cond (aX (γ x7 x9.toNat bb).1 0) (some false) (cond (dx (ℓ x2.1) (γ x7 x9.toNat bb).1) (some false) (cond (aX (γ x7 x9.toNat bb).2.1 0) (some false) (cond (aX 33000000000 (γ x7 x9.toNat bb).2.1) (some false) (cond (aX (γ x7 x9.toNat bb).2.2.1 0) (some false) (cond (aX 33000000000 (γ x7 x9.toNat bb).2.2.1) (some false) (cond (aN (γ x7 x9.toNat bb).2.1 0) (cond (aN (γ x7 x9.toNat bb).2.2.1 0) (some false) (cond (aX 0 x9) (let v2:Int:=W .i64 (x9-1);cond (bf v2 (ℓ x1)) (cond (dx (γ x7 x9.toNat bb).1 (γ x1 v2.toNat bb).1) (some false) (dV x1 x2 x7 x8 (W .i64 (x9+1)))) none) (dV x1 x2 x7 x8 (W .i64 (x9+1))))) (cond (aX 0 x9) (let v5:Int:=W .i64 (x9-1);cond (bf v5 (ℓ x1)) (cond (dx (γ x7 x9.toNat bb).1 (γ x1 v5.toNat bb).1) (some false) (dV x1 x2 x7 x8 (W .i64 (x9+1)))) none) (dV x1 x2 x7 x8 (W .i64 (x9+1))))))))))) none) ((CC N x2).bind λr8=>some r8)
def qw.l2(N:Nat):Nat→qw.cX
 |0,_,_,_,_,_=>none
 |n+1,x1,x2,x7,x8,x9=>qw.fI N (qw.l2 N n) x1 x2 x7 x8 x9
def qw.b(N:Nat)(gT:qw.cX)(a0:ae)(a1:au):Option Bool:=
 gT a1 a0 a1 (ℓ a1) 0
def qw(a0:ae)(a1:au):Option Bool:=qw.b N (qw.l2 N N) a0 a1
def ZZ(a0 a1:bS):Option (bS×(Bool)):=
 (uX N a0.2.1 a1.2.1 0).bind λr1=>(uX N (W .u64 a0.1) (W .u64 a1.1) r1.2).bind λr4=>let v5:Int:=W .i64 r4.1;cond (pb .bool (aX a0.1 0) (aX a1.1 0)) (cond (!(pb .bool (aX v5 0) (aX a0.1 0))) (some (c5,false)) (some ((v5,(r1.1,())),true))) (some ((v5,(r1.1,())),true))
def Te(a0 a1:bS):Option (bS×(Bool)):=
 (tM N a0.2.1 a1.2.1 0).bind λr1=>(tM N (W .u64 a0.1) (W .u64 a1.1) r1.2).bind λr4=>let v5:Int:=W .i64 r4.1;cond (!(pb .bool (aX a0.1 0) (aX a1.1 0))) (cond (!(pb .bool (aX v5 0) (aX a0.1 0))) (some (c5,false)) (some ((v5,(r1.1,())),true))) (some ((v5,(r1.1,())),true))
def F66(a0:bS):Option (bS×(Bool)):=
 (Te N c5 a0).bind λr1=>some (r1.1,r1.2)
def Tf(a0:bS):Option (bS×(Bool)):=
 cond (aX a0.1 0) ((F66 N a0).bind λr1=>some (r1.1,r1.2)) (some (a0,true))
abbrev iZ.fP:=Int→bS→Int→Int→Int→au→Int→Int→Option (bS×(Int))
abbrev iZ.eP:=au→Int→bS→Int→Int→Int→aE→Int→Int→Option (bS×(Int))
def iZ.ly(gO:iZ.fP)(x3:Int)(x8:bS)(bo a7 bp:Int)(Jk:au)(XQ F2:Int):Option (bS×(Int)):=
 cond (aX F2 XQ) (cond (bf F2 (ℓ Jk)) (cond (aN (γ Jk F2.toNat bb).1 x3) (gO x3 x8 bo (γ Jk F2.toNat bb).2.1 (γ Jk F2.toNat bb).2.2.1 Jk XQ (W .i64 (F2+1))) (gO x3 x8 bo a7 bp Jk XQ (W .i64 (F2+1)))) none) ((O4 N bo).bind λr9=>(O4 N a7).bind λkT=>(ZZ N r9 kT).bind λm6=>(O4 N bo).bind λoU=>(O4 N bp).bind λnW=>(Te N oU nW).bind λrG=>(Tf N m6.1).bind λuD=>(Tf N rG.1).bind λwG=>(Wt N uD.1 wG.1).bind λyA=>cond (aX yA 0) (some (wG.1,0)) (some (uD.1,0)))
def iZ.my(N:Nat):Nat→iZ.fP
 |0,_,_,_,_,_,_,_,_=>none
 |n+1,x3,x8,bo,a7,bp,Jk,XQ,F2=>iZ.ly N (iZ.my N n) x3 x8 bo a7 bp Jk XQ F2
def iZ.mK(N:Nat)(tp:iZ.fP)(eR:iZ.eP)(x2:au)(x3:Int)(x8:bS)(bo a7 bp:Int)(x44:aE)(x45 x46:Int):Option (bS×(Int)):=
 cond (aX x46 x45) (cond (bf x46 (ℓ x44)) (cond (aN (γ x44 x46.toNat c5).1 x3) (eR x2 x3 x8 (γ x44 x46.toNat c5).2.1 a7 bp x44 x45 (W .i64 (x46+1))) (eR x2 x3 x8 bo a7 bp x44 x45 (W .i64 (x46+1)))) none) (tp x3 x8 bo a7 bp x2 (ℓ x2) 0)
def iZ.l7(N:Nat):Nat→iZ.eP
 |0,_,_,_,_,_,_,_,_,_=>none
 |n+1,x2,x3,x8,bo,a7,bp,x44,x45,x46=>iZ.mK N (iZ.my N N) (iZ.l7 N n) x2 x3 x8 bo a7 bp x44 x45 x46
def iZ.b(q3:iZ.eP)(a0:ae)(a1:aE)(a2:au)(a3:Int):Option (bS×(Int)):=
 (qm N a0 a1).bind λr1=>cond (!r1) (some (c5,1)) ((qw N a0 a2).bind λr2=>cond (!r2) (some (c5,1)) (cond (aX a3 0) (some (c5,3)) (cond (dx (ℓ a0.1) a3) (some (c5,3)) (q3 a2 a3 c5 0 0 0 a1 (ℓ a1) 0))))
def iZ(a0:ae)(a1:aE)(a2:au)(a3:Int):Option (bS×(Int)):=iZ.b N (iZ.l7 N N) a0 a1 a2 a3
def ac0(a0:bS):Option ((Int)×(Int)):=
 cond (dx 0 a0.1) (some ((W .u64 a0.1),a0.2.1)) ((tM N 0 a0.2.1 0).bind λr2=>(tM N 0 (W .u64 a0.1) r2.2).bind λr4=>some (r4.1,r2.1))
def adx(a0:bS)(a1:Int):Option (bS×(Bool)):=
 (ac0 N a0).bind λr1=>(Wj N a1).bind λr2=>(Wi N r1.2 r2).bind λr3=>(Wi N r1.1 r2).bind λr4=>(uX N r4.2 r3.1 0).bind λr5=>cond (!aN (W .u64 (r4.1+r5.2)) 0) (some (c5,false)) ((rz N (!(pb .bool (aX a0.1 0) (aX a1 0))) r5.1 r3.2).bind λr7=>some (r7.1,r7.2))
abbrev sY.bL:=aE→au→ae→bS→kz→aO→Int→Int→Option (bS×(Int))
def sY.dU(bQ:sY.bL)(x1:aE)(x2:au)(x3:ae)(x6:bS)(x8:kz)(x29:aO)(AJ Lq:Int):Option (bS×(Int)):=
 cond (aX Lq AJ) (cond (bf Lq (ℓ x29)) ((iZ N x3 x1 x2 Lq).bind λr4=>(adx N r4.1 (γ x29 Lq.toNat ba).2.2.1).bind λr5=>cond (small (ℓ x8+ℓ ([r5.1]))) (bQ x1 x2 x3 x6 (x8++([r5.1])) x29 AJ (W .i64 (Lq+1))) none) none) ((nP N x8).bind λr8=>some (r8.1,0))
def sY.l5(N:Nat):Nat→sY.bL
 |0,_,_,_,_,_,_,_,_=>none
 |n+1,x1,x2,x3,x6,x8,x29,AJ,Lq=>sY.dU N (sY.l5 N n) x1 x2 x3 x6 x8 x29 AJ Lq
def sY.b(eX:sY.bL)(a0:ae)(a1:aE)(a2:au):Option (bS×(Int)):=
 (qm N a0 a1).bind λr1=>cond (!r1) (some (c5,1)) ((qw N a0 a2).bind λr2=>cond (!r2) (some (c5,1)) (eX a1 a2 a0 c5 ([]) a0.1 (ℓ a0.1) 0))
def sY(a0:ae)(a1:aE)(a2:au):Option (bS×(Int)):=sY.b N (sY.l5 N N) a0 a1 a2
def F99(a0:ae)(a1:an)(a2:Int):Option (bS×(Int)):=
 (lx N a0 a1).bind λr1=>cond (!r1) (some (c5,1)) ((F78 N a1 a2).bind λr2=>cond (!r2) (some (c5,3)) ((El N a1.2.2.2.1 a2).bind λr3=>(gZ N a1.2.2.2.2.2.1 a2).bind λr4=>(sY N a0 r3 r4).bind λr5=>some (r5.1,r5.2)))
abbrev qF.bL:=Int→(List Int)→aO→Int→Int→Option (List Int)
def qF.dU(N:Nat)(bQ:qF.bL)(x1:Int)(x5:List Int)(a7:aO)(bp cj:Int):Option (List Int):=
 cond (aX cj bp) (cond (bf cj (ℓ a7)) (cond (aN (γ a7 cj.toNat ba).2.1 x1) (cond (small (ℓ x5+ℓ ([(γ a7 cj.toNat ba).1]))) (bQ x1 (x5++([(γ a7 cj.toNat ba).1])) a7 bp (W .i64 (cj+1))) none) (bQ x1 x5 a7 bp (W .i64 (cj+1)))) none) (some x5)
def qF.l5(N:Nat):Nat→qF.bL
 |0,_,_,_,_,_=>none
 |n+1,x1,x5,a7,bp,cj=>qF.dU N (qF.l5 N n) x1 x5 a7 bp cj
def qF.b(eX:qF.bL)(a0:aO)(a1:Int):Option (List Int):=
 (nr N a0).bind λr1=>cond (!r1) (some ([])) (eX a1 ([]) a0 (ℓ a0) 0)
def qF(a0:aO)(a1:Int):Option (List Int):=qF.b N (qF.l5 N N) a0 a1
abbrev tf.cX:=(List Int)→Int→Int→Int→Option Int
def tf.fI(N:Nat)(dV:tf.cX)(x0:List Int)(x1 x7 x8:Int):Option Int:=
 cond (aX x8 x7) (cond (bf x8 (ℓ x0)) (cond (aN x1 (γ x0 x8.toNat 0)) (some x8) (dV x0 x1 x7 (W .i64 (x8+1)))) none) (some (-1))
def tf.l2(N:Nat):Nat→tf.cX
 |0,_,_,_,_=>none
 |n+1,x0,x1,x7,x8=>tf.fI N (tf.l2 N n) x0 x1 x7 x8
def tf.b(N:Nat)(gT:tf.cX)(a0:List Int)(a1:Int):Option Int:=
 gT a0 a1 (ℓ a0) 0
def tf(a0:List Int)(a1:Int):Option Int:=tf.b N (tf.l2 N N) a0 a1
def ad7(a0:List Int)(a1:Int):Option Bool:=
 (tf N a0 a1).bind λr1=>some (dx 0 r1)
def aaZ(a0:fX)(a1:List Int):Option Bool:=
 (ad7 N a1 a0.2.1).bind λr1=>some r1
abbrev qY.cX:=aY→(((List Int)×(Unit))×(Unit))→Int→Int→Option Int
def qY.fI(dV:qY.cX)(x0:aY)(x1:((List Int)×(Unit))×(Unit))(x7 x8:Int):Option Int:=
 cond (aX x8 x7) (cond (bf x8 (ℓ x0)) ((aaZ N (γ x0 x8.toNat dS) x1.1.1).bind λr2=>cond (r2) (some x8) (dV x0 ((x1.1.1,()),()) x7 (W .i64 (x8+1)))) none) (some (-1))
def qY.l2(N:Nat):Nat→qY.cX
 |0,_,_,_,_=>none
 |n+1,x0,x1,x7,x8=>qY.fI N (qY.l2 N n) x0 x1 x7 x8
def qY.b(N:Nat)(gT:qY.cX)(a0:aY)(a1:((List Int)×(Unit))×(Unit)):Option Int:=
 gT a0 ((a1.1.1,()),()) (ℓ a0) 0
def qY(a0:aY)(a1:((List Int)×(Unit))×(Unit)):Option Int:=qY.b N (qY.l2 N N) a0 a1
abbrev th.bL:=aY→(((List Int)×(Unit))×(Unit))→Int→Int→Option aY
def th.dU(bQ:th.bL)(x0:aY)(x1:((List Int)×(Unit))×(Unit))(x5 x6:Int):Option aY:=
 cond (aX x6 (ℓ x0)) (cond (bf x6 (ℓ x0)) ((aaZ N (γ x0 x6.toNat dS) x1.1.1).bind λr4=>cond (!r4) (cond (bf x5 (ℓ x0)) (bQ (List.set x0 x5.toNat (γ x0 x6.toNat dS)) ((x1.1.1,()),()) (W .i64 (x5+1)) (W .i64 (x6+1))) none) (bQ x0 ((x1.1.1,()),()) x5 (W .i64 (x6+1)))) none) (cond (jt x5 (ℓ x0) (ℓ x0) (ℓ x0)) (let v9:List ((Int)×((Int)×((Int)×((Int)×((Int)×((Int)×(Unit))))))):=List.take x5.toNat x0++List.replicate (ℓ x0-x5.toNat) dS;cond (jt 0 x5 (ℓ v9) (ℓ v9)) (some (List.drop (0:Int).toNat (List.take x5.toNat v9))) none) none)
def th.l5(N:Nat):Nat→th.bL
 |0,_,_,_,_=>none
 |n+1,x0,x1,x5,x6=>th.dU N (th.l5 N n) x0 x1 x5 x6
def th.b(eX:th.bL)(a0:aY)(a1:((List Int)×(Unit))×(Unit)):Option aY:=
 (qY N a0 ((a1.1.1,()),())).bind λr1=>cond (aN r1 (-1)) (some a0) (eX a0 ((a1.1.1,()),()) r1 (W .i64 (r1+1)))
def th(a0:aY)(a1:((List Int)×(Unit))×(Unit)):Option aY:=th.b N (th.l5 N N) a0 a1
def ad9(a0:aY)(a1:List Int):Option aY:=
 (C5 N a0).bind λr1=>cond (!r1) (some du) ((jv N a0).bind λr2=>(th N r2 ((a1,()),())).bind λr3=>some r3)
def XI(a0:ae)(a1:an)(a2:Int):Option (an×(Int)):=
 (lx N a0 a1).bind λr1=>cond (!r1) (some ((ch,(cT,(bq,(bq,(dg,(du,())))))),1)) ((BW N a1.1 a2).bind λr2=>cond (aN r2 0) (some ((ch,(cT,(bq,(bq,(dg,(du,())))))),3)) ((ZN N a1).bind λr3=>(qF N a1.2.1 a2).bind λr4=>(ad9 N a1.2.2.2.2.2.1 r4).bind λr5=>some ((r3.1,(r3.2.1,(r3.2.2.1,(r3.2.2.2.1,(r3.2.2.2.2.1,(r5,r3.2.2.2.2.2.2)))))),0)))
abbrev Dd.bN:=au→au→Int→Option Bool
def Dd.dL(N:Nat)(cG:Dd.bN)(x0 x1:au)(x5:Int):Option Bool:=
 cond (aX x5 (ℓ x0)) (cond (bf x5 (ℓ x0)) (cond (bf x5 (ℓ x1)) (cond (!(pb (.pair (.int .i64) (.pair (.int .i64) (.pair (.int .i64) .unit))) (γ x0 x5.toNat bb) (γ x1 x5.toNat bb))) (some false) (cG x0 x1 (W .i64 (x5+1)))) none) none) (some true)
def Dd.l4(N:Nat):Nat→Dd.bN
 |0,_,_,_=>none
 |n+1,x0,x1,x5=>Dd.dL N (Dd.l4 N n) x0 x1 x5
def Dd.b(N:Nat)(eW:Dd.bN)(a0 a1:au):Option Bool:=
 cond (!aN (ℓ a0) (ℓ a1)) (some false) (eW a0 a1 0)
def Dd(a0 a1:au):Option Bool:=Dd.b N (Dd.l4 N N) a0 a1
abbrev De.bN:=(List Int)→(List Int)→Int→Option Bool
def De.dL(N:Nat)(cG:De.bN)(x0 x1:List Int)(x5:Int):Option Bool:=
 cond (aX x5 (ℓ x0)) (cond (bf x5 (ℓ x0)) (cond (bf x5 (ℓ x1)) (cond (!aN (γ x0 x5.toNat 0) (γ x1 x5.toNat 0)) (some false) (cG x0 x1 (W .i64 (x5+1)))) none) none) (some true)
def De.l4(N:Nat):Nat→De.bN
 |0,_,_,_=>none
 |n+1,x0,x1,x5=>De.dL N (De.l4 N n) x0 x1 x5
def De.b(N:Nat)(eW:De.bN)(a0 a1:List Int):Option Bool:=
 cond (!aN (ℓ a0) (ℓ a1)) (some false) (eW a0 a1 0)
def De(a0 a1:List Int):Option Bool:=De.b N (De.l4 N N) a0 a1
abbrev AH.cX:=au→Int→Option Bool
def AH.fI(N:Nat)(dV:AH.cX)(x0:au)(x3:Int):Option Bool:=
 cond (aX x3 (ℓ x0)) (cond (bf x3 (ℓ x0)) (cond (aX (γ x0 x3.toNat bb).1 0) (some false) (cond (aX 24 (γ x0 x3.toNat bb).1) (some false) (cond (aX (γ x0 x3.toNat bb).2.1 0) (some false) (cond (dx 6 (γ x0 x3.toNat bb).2.1) (some false) (cond (aN (γ x0 x3.toNat bb).2.2.1 0) (some false) (cond (aN (γ x0 x3.toNat bb).2.2.1 (-9223372036854775808)) (some false) (cond (aX 0 x3) (let v2:Int:=W .i64 (x3-1);cond (bf v2 (ℓ x0)) (cond (aX (γ x0 x3.toNat bb).1 (γ x0 v2.toNat bb).1) (some false) (let v3:Int:=W .i64 (x3-1);cond (bf v3 (ℓ x0)) (cond (aN (γ x0 x3.toNat bb).1 (γ x0 v3.toNat bb).1) (let v4:Int:=W .i64 (x3-1);cond (bf v4 (ℓ x0)) (cond (dx (γ x0 x3.toNat bb).2.1 (γ x0 v4.toNat bb).2.1) (some false) (dV x0 (W .i64 (x3+1)))) none) (dV x0 (W .i64 (x3+1)))) none)) none) (dV x0 (W .i64 (x3+1)))))))))) none) (some true)
def AH.l2(N:Nat):Nat→AH.cX
 |0,_,_=>none
 |n+1,x0,x3=>AH.fI N (AH.l2 N n) x0 x3
def AH.b(N:Nat)(gT:AH.cX)(a0:au):Option Bool:=
 gT a0 0
def AH(a0:au):Option Bool:=AH.b N (AH.l2 N N) a0
abbrev CE.bN:=au→Int→Int→Int→Option Int
def CE.dL(N:Nat)(cG:CE.bN)(x0:au)(x1 x2 x7:Int):Option Int:=
 cond (aX x7 (ℓ x0)) (cond (bf x7 (ℓ x0)) (cond (aN (γ x0 x7.toNat bb).1 x1) (cond (bf x7 (ℓ x0)) (cond (aN (γ x0 x7.toNat bb).2.1 x2) (cond (bf x7 (ℓ x0)) (some (γ x0 x7.toNat bb).2.2.1) none) (cG x0 x1 x2 (W .i64 (x7+1)))) none) (cG x0 x1 x2 (W .i64 (x7+1)))) none) (some 0)
def CE.l4(N:Nat):Nat→CE.bN
 |0,_,_,_,_=>none
 |n+1,x0,x1,x2,x7=>CE.dL N (CE.l4 N n) x0 x1 x2 x7
def CE.b(eW:CE.bN)(a0:au)(a1 a2:Int):Option Int:=
 (AH N a0).bind λr1=>cond (!r1) (some 0) (eW a0 a1 a2 0)
def CE(a0:au)(a1 a2:Int):Option Int:=CE.b N (CE.l4 N N) a0 a1 a2
def SH(N:Nat)(a0 a1:Int):Option Bool:=
 cond (aN a0 1) (some (aN a1 0)) (cond (aN a0 2) (some (aN a1 0)) (cond (aN a0 3) (some (aN a1 0)) (cond (aN a0 4) (some (aN a1 0)) (cond (aN a0 5) (cond (dx 1 a1) (some (dx a1 24)) (some false)) (cond (aN a0 6) (cond (dx 1 a1) (some (dx a1 12)) (some false)) (cond (aN a0 7) (cond (dx 1 a1) (some (dx a1 12)) (some false)) (some false)))))))
abbrev C0.cX:=au→Int→Option Bool
def C0.fI(dV:C0.cX)(x0:au)(x3:Int):Option Bool:=
 cond (aX x3 (ℓ x0)) (cond (bf x3 (ℓ x0)) (cond (bf x3 (ℓ x0)) ((SH N (γ x0 x3.toNat bb).1 (γ x0 x3.toNat bb).2.1).bind λr2=>cond (!r2) (some false) (cond (bf x3 (ℓ x0)) (cond (aN (γ x0 x3.toNat bb).2.2.1 0) (some false) (cond (aX 0 x3) (cond (bf x3 (ℓ x0)) (let v3:Int:=W .i64 (x3-1);cond (bf v3 (ℓ x0)) (cond (aX (γ x0 x3.toNat bb).1 (γ x0 v3.toNat bb).1) (some false) (cond (bf x3 (ℓ x0)) (let v4:Int:=W .i64 (x3-1);cond (bf v4 (ℓ x0)) (cond (aN (γ x0 x3.toNat bb).1 (γ x0 v4.toNat bb).1) (cond (bf x3 (ℓ x0)) (let v5:Int:=W .i64 (x3-1);cond (bf v5 (ℓ x0)) (cond (dx (γ x0 x3.toNat bb).2.1 (γ x0 v5.toNat bb).2.1) (some false) (dV x0 (W .i64 (x3+1)))) none) none) (dV x0 (W .i64 (x3+1)))) none) none)) none) none) (dV x0 (W .i64 (x3+1))))) none)) none) none) (some true)
def C0.l2(N:Nat):Nat→C0.cX
 |0,_,_=>none
 |n+1,x0,x3=>C0.fI N (C0.l2 N n) x0 x3
def C0.b(N:Nat)(gT:C0.cX)(a0:au):Option Bool:=
 gT a0 0
def C0(a0:au):Option Bool:=C0.b N (C0.l2 N N) a0
abbrev vy.bN:=au→Int→Int→Int→Option Int
def vy.dL(N:Nat)(cG:vy.bN)(x0:au)(x1 x2 x7:Int):Option Int:=
 cond (aX x7 (ℓ x0)) (cond (bf x7 (ℓ x0)) (cond (aN (γ x0 x7.toNat bb).1 x1) (cond (bf x7 (ℓ x0)) (cond (aN (γ x0 x7.toNat bb).2.1 x2) (cond (bf x7 (ℓ x0)) (some (γ x0 x7.toNat bb).2.2.1) none) (cG x0 x1 x2 (W .i64 (x7+1)))) none) (cG x0 x1 x2 (W .i64 (x7+1)))) none) (some 0)
def vy.l4(N:Nat):Nat→vy.bN
 |0,_,_,_,_=>none
 |n+1,x0,x1,x2,x7=>vy.dL N (vy.l4 N n) x0 x1 x2 x7
def vy.b(eW:vy.bN)(a0:au)(a1 a2:Int):Option Int:=
 (C0 N a0).bind λr1=>cond (!r1) (some 0) (eW a0 a1 a2 0)
def vy(a0:au)(a1 a2:Int):Option Int:=vy.b N (vy.l4 N N) a0 a1 a2
def F36:Option Bool:=
 (F97 N).bind λr1=>(xb N r1.1).bind λr2=>(uC N r1.1 r1.2 ([(1,(2,(0,(5,(90,())))))])).bind λr3=>(F42 N r1.1 r3.1 0 110).bind λr4=>(F99 N r1.1 r3.1 2).bind λr5=>(XI N r1.1 r1.2 1).bind λr6=>(F99 N r1.1 r1.2 9).bind λr7=>cond (aN r2.2 0) ((Dd N r2.1.2.2.1 r1.2.2.2.1).bind λr8=>cond (r8) ((De N r2.1.2.2.2.2.1 ([100])).bind λr9=>cond (r9) (cond (aN r3.2 0) ((CE N r3.1.2.2.2.1 1 0).bind λkT=>cond (aN kT 5) ((vy N r3.1.2.2.1 5 1).bind λm6=>cond (aN m6 50) (cond (aN r4.2.2 0) (cond (aN (ℓ r4.2.1) 2) ((vy N r4.1.2.2.1 5 1).bind λoU=>cond (aN oU 100) (cond (aN (ℓ r4.1.2.2.2.2.1) 1) (cond (bf 0 (ℓ r4.1.2.2.2.2.1)) (cond (aN (γ r4.1.2.2.2.2.1 (0:Int).toNat 0) 110) (cond (aN r5.2 0) (cond (aN r5.1.2.1 10) (cond (aN r6.2 0) (cond (aN (ℓ r6.1.2.2.2.2.2.1) 0) (cond (aN r7.2 3) ((lx N r1.1 r1.2).bind λnW=>some nW) (some false)) (some false)) (some false)) (some false)) (some false)) (some false)) none) (some false)) (some false)) (some false)) (some false)) (some false)) (some false)) (some false)) (some false)) (some false)) (some false)
def F16(N:Nat)(a0:List Int):Option aJ:=
 some (a0,(0,()))
def F62(N:Nat)(a0:aJ):Option ((Int)×aJ):=
 cond (aX a0.2.1 (ℓ a0.1)) (cond (bf a0.2.1 (ℓ a0.1)) (some (γ a0.1 a0.2.1.toNat 0,(a0.1,((W .i64 (a0.2.1+1)),a0.2.2)))) none) (some (0,(a0.1,((W .i64 (a0.2.1+1)),a0.2.2))))
def o9(a0:aJ)(a1:Int):Option ((Int)×aJ):=
 (F62 N a0).bind λr1=>let v2:Int:=W .u64 a1;cond (aN v2 0) none (some ((W .i64 (rem r1.1 v2)),r1.2))
def P0(a0:aJ)(a1:Int):Option ((Bool)×aJ):=
 (o9 N a0 a1).bind λr1=>some (aN r1.1 (W .i64 (a1-1)),r1.2)
def JV(a0:aJ):Option ((Int)×aJ):=
 (F62 N a0).bind λr1=>cond (aN 8 0) none (let v2:Int:=rem r1.1 8;cond (aN v2 0) (cond (aX 1 0) none (some ((W .i64 (shr .u64 r1.1 1)),r1.2))) (cond (aN v2 1) (cond (aX 3 0) none (cond (aN 1000000000000 0) none (some ((W .i64 (rem (shr .u64 r1.1 3) 1000000000000)),r1.2)))) (cond (aN v2 2) (cond (aX 3 0) none (cond (aN 2 0) none (some ((W .i64 (rem (shr .u64 r1.1 3) 2)),r1.2)))) (cond (aX 3 0) none (cond (aN 5000 0) none (some ((W .i64 (rem (shr .u64 r1.1 3) 5000)),r1.2)))))))
abbrev wK.abq:=aJ→ae→ae→aO→Int→cL→Option (ae×aJ)
abbrev wK.dP:=aJ→ae→ae→aO→Int→Option (ae×aJ)
def wK.ZO(dw:wK.dP)(x0:aJ)(x2 x3:ae)(XT:aO)(x4:Int)(x5:cL):Option (ae×aJ):=
 (P0 N x0 12).bind λrG=>cond (rG.1) ((JV N rG.2).bind λuD=>cond (aN 1000000001 0) none (let v16:Int:=rem uD.1 1000000001;(JV N uD.2).bind λyA=>cond (aN 1000000001 0) none (let v18:Int:=rem yA.1 1000000001;cond (small (ℓ XT+ℓ ([(x5.1,(x5.2.1,(v16,(v18,x5.2.2.2.2))))]))) (dw yA.2 x2 (cT,x3.2) (XT++([(x5.1,(x5.2.1,(v16,(v18,x5.2.2.2.2))))])) (W .i64 (x4-1))) none))) (cond (small (ℓ XT+ℓ ([x5]))) (dw rG.2 x2 (cT,x3.2) (XT++([x5])) (W .i64 (x4-1))) none)
def wK.j8(dw:wK.dP)(x0:aJ)(x2 x3:ae)(XT:aO)(x4:Int)(x5:cL):Option (ae×aJ):=wK.ZO N dw x0 x2 x3 XT x4 x5
def wK.m3(QF:wK.abq)(dw:wK.dP)(x0:aJ)(x2 x3:ae)(XT:aO)(x4:Int):Option (ae×aJ):=
 cond (aX 0 x4) ((o9 N x0 3).bind λr4=>(o9 N r4.2 300).bind λr5=>(o9 N r5.2 12).bind λr7=>(o9 N r7.2 6).bind λr8=>(P0 N r8.2 12).bind λr9=>cond (r9.1) ((JV N r9.2).bind λkT=>cond (aN 1000000000000 0) none (QF kT.2 x2 x3 XT x4 (r4.1,((W .i64 (1+(rem kT.1 1000000000000))),(r7.1,(r8.1,())))))) (QF r9.2 x2 x3 XT x4 (r4.1,((W .i64 (1+r5.1)),(r7.1,(r8.1,())))))) ((o9 N x0 300).bind λEJ=>(o9 N EJ.2 5).bind λNA=>(o9 N NA.2 3).bind λJl=>(o9 N Jl.2 3).bind λEL=>(o9 N EL.2 20).bind λQG=>let v28:Int:=W .i64 (1+QG.1);(o9 N QG.2 100).bind λF3=>(P0 N F3.2 15).bind λTK=>cond (TK.1) ((JV N TK.2).bind λJm=>some ((XT,(Jm.1,(NA.1,(Jl.1,(EL.1,(v28,(F3.1,x3.2.2.2.2.2.2.2))))))),Jm.2)) (some ((XT,(EJ.1,(NA.1,(Jl.1,(EL.1,(v28,(F3.1,x3.2.2.2.2.2.2.2))))))),TK.2)))
def wK.l3(N:Nat):Nat→wK.dP
 |0,_,_,_,_,_=>none
 |n+1,x0,x2,x3,XT,x4=>wK.m3 N (wK.j8 N (wK.l3 N n)) (wK.l3 N n) x0 x2 x3 XT x4
def wK.b(oS:wK.dP)(a0:aJ):Option (ae×aJ):=
 (o9 N a0 4).bind λr1=>oS r1.2 (cT,dS) (cT,dS) cT (W .i64 (1+r1.1))
def wK(a0:aJ):Option (ae×aJ):=wK.b N (wK.l3 N N) a0
def Xb(a0:aJ)(a1:ae)(a2:Int):Option (iD×aJ):=
 cond (bf a2 (ℓ a1.1)) ((o9 N a0 61).bind λr1=>(P0 N r1.2 20).bind λr6=>cond (r6.1) ((JV N r6.2).bind λr7=>cond (aN 1000000000000 0) none (some ((9,(0,(0,(a2,(0,(0,(0,((W .i64 (1+(rem r7.1 1000000000000))),())))))))),r7.2))) (some ((9,(0,(0,(a2,(0,(0,(0,((mx 1 (mn 1000000000000 (W .i64 ((W .i64 ((γ a1.1 a2.toNat ba).2.1+r1.1))-30)))),())))))))),r6.2))) none
def aao(a0:aJ)(a1:ae):Option (iD×aJ):=
 (o9 N a0 (ℓ a1.1)).bind λr1=>(o9 N r1.2 7).bind λr2=>let v3:Int:=W .i64 (1+r2.1);(o9 N r2.2 2).bind λr4=>let v5:Int:=W .i64 (1+r4.1);(o9 N r4.2 30).bind λr6=>cond (bf r1.1 (ℓ a1.1)) ((o9 N r6.2 21).bind λr8=>(P0 N r8.2 30).bind λnW=>cond (nW.1) ((JV N nW.2).bind λrG=>cond (aN 1000000000 0) none ((JV N rG.2).bind λyA=>cond (aN 1000000000000 0) none (some ((7,(0,(v3,(r1.1,(v5,(0,((W .i64 (1+(rem rG.1 1000000000))),((W .i64 (1+(rem yA.1 1000000000000))),())))))))),yA.2)))) (some ((7,(0,(v3,(r1.1,(v5,(0,((W .i64 (1+r6.1)),((mx 1 (mn 1000000000000 (W .i64 ((W .i64 ((γ a1.1 r1.1.toNat ba).2.1+r8.1))-10)))),())))))))),nW.2))) none
def Xc(a0:aJ)(a1:ae):Option (iD×aJ):=
 (o9 N a0 4).bind λr1=>let v2:Int:=W .i64 (1+r1.1);(o9 N r1.2 7).bind λr3=>let v4:Int:=W .i64 (1+r3.1);(o9 N r3.2 (ℓ a1.1)).bind λr5=>(o9 N r5.2 36).bind λr6=>let v7:Int:=W .i64 (1+r6.1);cond (aN v7 1) (some ((v7,(v2,dS)),r6.2)) (cond (aN v7 11) (some ((v7,(v2,dS)),r6.2)) (cond (aN v7 12) (some ((v7,(v2,dS)),r6.2)) (cond (aN v7 13) (some ((v7,(v2,dS)),r6.2)) (cond (aN v7 2) ((o9 N r6.2 2).bind λr8=>some ((v7,(v2,(v4,(0,((W .i64 (1+r8.1)),bb))))),r8.2)) (cond (aN v7 3) ((JV N r6.2).bind λkT=>some ((v7,(0,(v4,(0,(0,(0,((mx kT.1 1),(0,())))))))),kT.2)) (cond (aN v7 4) ((JV N r6.2).bind λoU=>some ((v7,(0,(v4,(0,(0,(0,((mx oU.1 1),(0,())))))))),oU.2)) (cond (aN v7 5) ((JV N r6.2).bind λrG=>some ((v7,(v2,(0,(0,(0,(0,((mx rG.1 1),(0,())))))))),rG.2)) (cond (aN v7 22) ((JV N r6.2).bind λwG=>some ((v7,(v2,(0,(0,(0,(0,((mx wG.1 1),(0,())))))))),wG.2)) (cond (aN v7 6) ((JV N r6.2).bind λyH=>cond (aN 1000000000001 0) none (some ((v7,(0,(v4,(0,(0,(0,((rem yH.1 1000000000001),(0,())))))))),yH.2))) (cond (aN v7 8) ((o9 N r6.2 40).bind λQH=>some ((v7,(0,(v4,(0,(0,((W .i64 (1+QH.1)),c5)))))),QH.2)) (cond (aN v7 9) ((Xb N r6.2 a1 r5.1).bind λNa=>some (Na.1,Na.2)) (cond (aN v7 10) ((o9 N r6.2 3).bind λEJ=>some ((v7,(0,(0,(0,(0,(0,((W .i64 (1+EJ.1)),(0,())))))))),EJ.2)) (cond (aN v7 14) (some ((v7,(v2,(v4,gq))),r6.2)) (cond (aN v7 15) (some ((v7,Np),r6.2)) (cond (aN v7 16) (some ((v7,Np),r6.2)) (cond (aN v7 18) (some ((v7,Np),r6.2)) (cond (aN v7 20) (some ((v7,Np),r6.2)) (cond (aN v7 21) (some ((v7,Np),r6.2)) (cond (aN v7 17) ((o9 N r6.2 60).bind λJl=>(o9 N Jl.2 20).bind λQG=>cond (bf r5.1 (ℓ a1.1)) (some ((v7,(0,(v4,(0,(0,((W .i64 (1+Jl.1)),((W .i64 (1+QG.1)),((γ a1.1 r5.1.toNat ba).2.1,())))))))),QG.2)) none) (cond (aN v7 19) ((o9 N r6.2 60).bind λF3=>(o9 N F3.2 80).bind λJm=>some ((v7,(v2,(0,(0,(0,((W .i64 (1+F3.1)),(0,((W .i64 (Jm.1-60)),())))))))),Jm.2)) ((aao N r6.2 a1).bind λr33=>some (r33.1,r33.2))))))))))))))))))))))
abbrev gB.fP:=aJ→dn→Int→Option (dn×aJ)
abbrev gB.lE:=aJ→dn→Int→Option (dn×aJ)
abbrev gB.dP:=aJ→dn→Int→Option (dn×aJ)
def gB.ly(gO:gB.fP)(x0:aJ)(x5:dn)(x8:Int):Option (dn×aJ):=
 cond (dx x8 7) ((o9 N x0 3000).bind λuD=>let v16:Int:=W .i64 (200+uD.1);(o9 N uD.2 200).bind λyA=>let v18:Int:=W .i64 (20+yA.1);cond (small (ℓ x5+ℓ ([(3,(0,(x8,(0,(0,(0,(v16,(0,())))))))),(6,(0,(x8,(0,(0,(0,(v18,(0,()))))))))]))) (gO yA.2 (x5++([(3,(0,(x8,(0,(0,(0,(v16,(0,())))))))),(6,(0,(x8,(0,(0,(0,(v18,(0,()))))))))])) (W .i64 (x8+1))) none) (some (x5,x0))
def gB.my(N:Nat):Nat→gB.fP
 |0,_,_,_=>none
 |n+1,x0,x5,x8=>gB.ly N (gB.my N n) x0 x5 x8
def gB.vd(tp:gB.fP)(o4:gB.lE)(x0:aJ)(x5:dn)(x7:Int):Option (dn×aJ):=
 cond (dx x7 7) ((o9 N x0 2).bind λkT=>let v11:Int:=W .i64 (1+kT.1);cond (small (ℓ x5+ℓ ([(2,(v11,(x7,(0,(2,bb)))))]))) (o4 kT.2 (x5++([(2,(v11,(x7,(0,(2,bb)))))])) (W .i64 (x7+1))) none) (tp x0 x5 1)
def gB.l9(N:Nat):Nat→gB.lE
 |0,_,_,_=>none
 |n+1,x0,x5,x7=>gB.vd N (gB.my N N) (gB.l9 N n) x0 x5 x7
def gB.m3(yI:gB.lE)(dw:gB.dP)(x0:aJ)(x5:dn)(x6:Int):Option (dn×aJ):=
 cond (dx x6 4) (cond (small (ℓ x5+ℓ ([(1,(x6,dS)),(2,(x6,(x6,(0,(1,bb)))))]))) (let v2:List ((Int)×((Int)×((Int)×((Int)×((Int)×((Int)×((Int)×((Int)×(Unit))))))))):=x5++([(1,(x6,dS)),(2,(x6,(x6,(0,(1,bb)))))]);(P0 N x0 5).bind λr3=>cond (!r3.1) ((o9 N r3.2 400).bind λr4=>let v5:Int:=W .i64 (1+r4.1);cond (small (ℓ v2+ℓ ([(5,(x6,(0,(0,(0,(0,(v5,(0,()))))))))]))) (dw r4.2 (v2++([(5,(x6,(0,(0,(0,(0,(v5,(0,()))))))))])) (W .i64 (x6+1))) none) (dw r3.2 v2 (W .i64 (x6+1)))) none) (yI x0 x5 5)
def gB.l3(N:Nat):Nat→gB.dP
 |0,_,_,_=>none
 |n+1,x0,x5,x6=>gB.m3 N (gB.l9 N N) (gB.l3 N n) x0 x5 x6
def gB.b(N:Nat)(oS:gB.dP)(a0:aJ)(a1:ae):Option (dn×aJ):=
 oS a0 ([]) 1
def gB(a0:aJ)(a1:ae):Option (dn×aJ):=gB.b N (gB.l3 N N) a0 a1
abbrev qV.dP:=aJ→ae→dn→Int→Option (dn×aJ)
def qV.m3(dw:qV.dP)(x0:aJ)(x4:ae)(x7:dn)(x8:Int):Option (dn×aJ):=
 cond (aX 0 x8) ((o9 N x0 8).bind λr5=>cond (aN r5.1 0) ((Xc N r5.2 x4).bind λr6=>cond (small (ℓ x7+ℓ ([r6.1]))) (dw r6.2 x4 (x7++([r6.1])) (W .i64 (x8-1))) none) (cond (aN r5.1 1) ((o9 N r5.2 (ℓ x4.1)).bind λr9=>(Xb N r9.2 x4 r9.1).bind λkT=>cond (small (ℓ x7+ℓ ([kT.1]))) (dw kT.2 x4 (x7++([kT.1])) (W .i64 (x8-1))) none) ((aao N r5.2 x4).bind λnW=>cond (small (ℓ x7+ℓ ([nW.1]))) (dw nW.2 x4 (x7++([nW.1])) (W .i64 (x8-1))) none))) (some (x7,x0))
def qV.l3(N:Nat):Nat→qV.dP
 |0,_,_,_,_=>none
 |n+1,x0,x4,x7,x8=>qV.m3 N (qV.l3 N n) x0 x4 x7 x8
def qV.b(oS:qV.dP)(a0:aJ)(a1:ae)(a2:Int):Option (dn×aJ):=
 (gB N a0 a1).bind λr1=>(o9 N r1.2 (W .i64 (a2+1))).bind λr3=>oS r3.2 a1 r1.1 r3.1
def qV(a0:aJ)(a1:ae)(a2:Int):Option (dn×aJ):=qV.b N (qV.l3 N N) a0 a1 a2
def JI(N:Nat)(a0 a1 a2:Int):Option Bool:=
 cond (dx a1 a0) (some (dx a0 a2)) (some false)
abbrev nj.bN:=ae→Int→Option Bool
def nj.dL(cG:nj.bN)(x1:ae)(x3:Int):Option Bool:=
 cond (aX x3 (ℓ x1.1)) (cond (bf x3 (ℓ x1.1)) ((JI N (γ x1.1 x3.toNat ba).1 0 3).bind λr2=>cond (!r2) (some false) ((JI N (γ x1.1 x3.toNat ba).2.1 1 1000000000000).bind λr3=>cond (!r3) (some false) ((JI N (γ x1.1 x3.toNat ba).2.2.1 0 1000000000).bind λr4=>cond (!r4) (some false) ((JI N (γ x1.1 x3.toNat ba).2.2.2.1 0 1000000000).bind λr5=>cond (!r5) (some false) (cG x1 (W .i64 (x3+1))))))) none) (cond (dx 0 x1.2.1) ((JI N x1.2.2.1 0 4).bind λr7=>cond (r7) ((JI N x1.2.2.2.1 0 1000000).bind λr8=>cond (r8) ((JI N x1.2.2.2.2.1 0 1000000).bind λr9=>cond (r9) ((JI N x1.2.2.2.2.2.1 1 4611686018427387904).bind λkT=>cond (kT) (some (dx 0 x1.2.2.2.2.2.2.1)) (some false)) (some false)) (some false)) (some false)) (some false))
def nj.l4(N:Nat):Nat→nj.bN
 |0,_,_=>none
 |n+1,x1,x3=>nj.dL N (nj.l4 N n) x1 x3
def nj.b(N:Nat)(eW:nj.bN)(a0:ae):Option Bool:=
 cond (aX (ℓ a0.1) 1) (some false) (cond (aX 6 (ℓ a0.1)) (some false) (eW a0 0))
def nj(a0:ae):Option Bool:=nj.b N (nj.l4 N N) a0
abbrev jb.eP:=ae→an→an→(List Int)→Int→Option (an×(Int))
abbrev jb.TI:=ae→an→an→(List Int)→Option (an×(Int))
def jb.mK(N:Nat)(eR:jb.eP)(x1:ae)(x2 x4:an)(M8:List Int)(x5:Int):Option (an×(Int)):=
 cond (aX x5 (ℓ x1.1)) (cond (bf x5 (ℓ x1.1)) (cond (small (ℓ M8+ℓ ([(γ x1.1 x5.toNat ba).2.1]))) (eR x1 x2 (x4.1,(x4.2.1,(x4.2.2.1,(x4.2.2.2.1,(dg,x4.2.2.2.2.2))))) (M8++([(γ x1.1 x5.toNat ba).2.1])) (W .i64 (x5+1))) none) none) (some ((x4.1,(x4.2.1,(x4.2.2.1,(x4.2.2.2.1,(M8,x4.2.2.2.2.2))))),0))
def jb.l7(N:Nat):Nat→jb.eP
 |0,_,_,_,_,_=>none
 |n+1,x1,x2,x4,M8,x5=>jb.mK N (jb.l7 N n) x1 x2 x4 M8 x5
def jb.OY(N:Nat)(q3:jb.eP)(x1:ae)(x2 x4:an)(M8:List Int):Option (an×(Int)):=
 q3 x1 x2 x4 M8 0
def jb.j6(x1:ae)(x2 x4:an)(M8:List Int):Option (an×(Int)):=jb.OY N (jb.l7 N N) x1 x2 x4 M8
def jb.b(Fj:jb.TI)(a0:ae):Option (an×(Int)):=
 (nj N a0).bind λr1=>cond (!r1) (some ((ch,(cT,(bq,(bq,(dg,(du,())))))),1)) (cond (!aN a0.2.1 0) (Fj a0 (ch,(cT,(bq,(bq,(dg,(du,())))))) (ch,(cT,([(1,(0,((W .i64 (0-a0.2.1)),()))),(3,(0,(a0.2.1,())))],(bq,(dg,(du,())))))) dg) (Fj a0 (ch,(cT,(bq,(bq,(dg,(du,())))))) (ch,(cT,(bq,(bq,(dg,(du,())))))) dg))
def jb(a0:ae):Option (an×(Int)):=jb.b N (jb.j6 N) a0
def abi(a0:ae):Option (aR×(Int)):=
 (jb N a0).bind λr1=>cond (!aN r1.2 0) (some ((0,(0,((ch,(cT,(bq,(bq,(dg,(du,())))))),((0,(0,(0,(0,(cT,(([]:List ((Int)×((List ((Int)×((Int)×(Unit))))×((Int)×((Int)×((Int)×((Int)×(Unit)))))))),(cT,(dg,(ch,(ch,())))))))))),((0,(0,(DO,(0,())))),()))))),r1.2)) (some ((0,(1,(r1.1,((0,(0,(0,(0,(cT,(([]:List ((Int)×((List ((Int)×((Int)×(Unit))))×((Int)×((Int)×((Int)×((Int)×(Unit)))))))),(cT,(dg,(ch,(ch,())))))))))),((0,(0,(DO,(0,())))),()))))),0))
abbrev oK.dP:=aJ→ae→dn→Int→Option (dn×aJ)
def oK.m3(dw:oK.dP)(x0:aJ)(x3:ae)(x5:dn)(x6:Int):Option (dn×aJ):=
 cond (aX 0 x6) ((P0 N x0 2).bind λr3=>cond (r3.1) ((o9 N r3.2 (ℓ x3.1)).bind λr4=>(Xb N r4.2 x3 r4.1).bind λr5=>cond (small (ℓ x5+ℓ ([r5.1]))) (dw r5.2 x3 (x5++([r5.1])) (W .i64 (x6-1))) none) ((Xc N r3.2 x3).bind λr8=>cond (small (ℓ x5+ℓ ([r8.1]))) (dw r8.2 x3 (x5++([r8.1])) (W .i64 (x6-1))) none)) (some (x5,x0))
def oK.l3(N:Nat):Nat→oK.dP
 |0,_,_,_,_=>none
 |n+1,x0,x3,x5,x6=>oK.m3 N (oK.l3 N n) x0 x3 x5 x6
def oK.b(oS:oK.dP)(a0:aJ)(a1:ae):Option (dn×aJ):=
 (o9 N a0 3).bind λr1=>oS r1.2 a1 ([]) r1.1
def oK(a0:aJ)(a1:ae):Option (dn×aJ):=oK.b N (oK.l3 N N) a0 a1
def aly(N:Nat)(a0:Int):Option Bool:=
 cond (dx 1 a0) (some (dx a0 22)) (some false)
def adJ(N:Nat)(a0:Int):Option ByteArray:=
 cond (aN a0 1) (some (strOf [77])) (cond (aN a0 11) (some (strOf [77])) (cond (aN a0 12) (some (strOf [77])) (cond (aN a0 13) (some (strOf [77])) (cond (aN a0 2) (some (strOf [77,65,83])) (cond (aN a0 3) (some (strOf [65,81])) (cond (aN a0 4) (some (strOf [65,81])) (cond (aN a0 6) (some (strOf [65,81])) (cond (aN a0 5) (some (strOf [77,81])) (cond (aN a0 22) (some (strOf [77,81])) (cond (aN a0 7) (some (strOf [65,73,83,81,80])) (cond (aN a0 8) (some (strOf [65,68])) (cond (aN a0 9) (some (strOf [73,80])) (cond (aN a0 10) (some (strOf [81])) (cond (aN a0 14) (some (strOf [77,65])) (cond (aN a0 17) (some (strOf [65,68,81,80])) (cond (aN a0 19) (some (strOf [77,68,80])) (some (strOf []))))))))))))))))))
def alw(N:Nat)(a0:Int):Option ((Int)×(Int)):=
 cond (aN a0 6) (some (0,1000000000000)) (cond (aN a0 7) (some (1,1000000000)) (cond (aN a0 17) (some (1,1000000000)) (cond (aN a0 10) (some (1,1000000)) (some (1,9223372036854775807)))))
def alx(N:Nat)(a0:Int):Option ((Int)×(Int)):=
 cond (aN a0 19) (some ((-1152921504606846976),1152921504606846976)) (some (1,1000000000000))
def adK(a0 a1:Int):Option ((Int)×(Int)):=
 cond (aN a1 77) (some (1,12)) (cond (aN a1 65) (some (1,24)) (cond (aN a1 73) (some (0,5)) (cond (aN a1 83) (some (1,2)) (cond (aN a1 68) (some (1,1099511627776)) (cond (aN a1 81) ((alw N a0).bind λr1=>some (r1.1,r1.2)) ((alx N a0).bind λr2=>some (r2.1,r2.2)))))))
def adL(N:Nat)(a0:iD)(a1:Int):Option Int:=
 cond (aN a1 77) (some a0.2.1) (cond (aN a1 65) (some a0.2.2.1) (cond (aN a1 73) (some a0.2.2.2.1) (cond (aN a1 83) (some a0.2.2.2.2.1) (cond (aN a1 68) (some a0.2.2.2.2.2.1) (cond (aN a1 81) (some a0.2.2.2.2.2.2.1) (some a0.2.2.2.2.2.2.2.1))))))
def adM(N:Nat)(a0:iD)(a1 a2:Int):Option iD:=
 cond (aN a1 77) (some (a0.1,(a2,a0.2.2))) (cond (aN a1 65) (some (a0.1,(a0.2.1,(a2,a0.2.2.2)))) (cond (aN a1 73) (some (a0.1,(a0.2.1,(a0.2.2.1,(a2,a0.2.2.2.2))))) (cond (aN a1 83) (some (a0.1,(a0.2.1,(a0.2.2.1,(a0.2.2.2.1,(a2,a0.2.2.2.2.2)))))) (cond (aN a1 68) (some (a0.1,(a0.2.1,(a0.2.2.1,(a0.2.2.2.1,(a0.2.2.2.2.1,(a2,a0.2.2.2.2.2.2))))))) (cond (aN a1 81) (some (a0.1,(a0.2.1,(a0.2.2.1,(a0.2.2.2.1,(a0.2.2.2.2.1,(a0.2.2.2.2.2.1,(a2,a0.2.2.2.2.2.2.2)))))))) (some (a0.1,(a0.2.1,(a0.2.2.1,(a0.2.2.2.1,(a0.2.2.2.2.1,(a0.2.2.2.2.2.1,(a0.2.2.2.2.2.2.1,(a2,a0.2.2.2.2.2.2.2.2))))))))))))))
abbrev s0.kA:=iD→ByteArray→iD→Int→Option Bool
def s0.u7(lC:s0.kA)(x1:iD)(x3:ByteArray)(x4:iD)(x5:Int):Option Bool:=
 cond (aX x5 (ByteArray.size x3:Int)) (cond (bf x5 (ByteArray.size x3)) ((adK N x1.1 ((x3.data.getD x5.toNat 0).toNat:Int)).bind λr4=>cond (bf x5 (ByteArray.size x3)) ((adL N x1 ((x3.data.getD x5.toNat 0).toNat:Int)).bind λr5=>cond (aX r5 r4.1) (some false) (cond (aX r4.2 r5) (some false) (cond (bf x5 (ByteArray.size x3)) ((adM N x4 ((x3.data.getD x5.toNat 0).toNat:Int) r5).bind λr6=>lC x1 x3 r6 (W .i64 (x5+1))) none))) none) none) (some (pb (.pair (.int .i64) (.pair (.int .i64) (.pair (.int .i64) (.pair (.int .i64) (.pair (.int .i64) (.pair (.int .i64) (.pair (.int .i64) (.pair (.int .i64) .unit)))))))) x4 x1))
def s0.l6(N:Nat):Nat→s0.kA
 |0,_,_,_,_=>none
 |n+1,x1,x3,x4,x5=>s0.u7 N (s0.l6 N n) x1 x3 x4 x5
def s0.b(yG:s0.kA)(a0:iD):Option Bool:=
 (aly N a0.1).bind λr1=>cond (!r1) (some false) ((adJ N a0.1).bind λr2=>yG a0 r2 (a0.1,Np) 0)
def s0(a0:iD):Option Bool:=s0.b N (s0.l6 N N) a0
abbrev CD.cX:=aE→Int→Option Bool
def CD.fI(N:Nat)(dV:CD.cX)(x0:aE)(x3:Int):Option Bool:=
 cond (aX x3 (ℓ x0)) (cond (bf x3 (ℓ x0)) (cond (aX (γ x0 x3.toNat c5).1 1) (some false) (cond (bf x3 (ℓ x0)) (cond (aX 12 (γ x0 x3.toNat c5).1) (some false) (cond (bf x3 (ℓ x0)) (cond (aX (γ x0 x3.toNat c5).2.1 1) (some false) (cond (bf x3 (ℓ x0)) (cond (aX 4 (γ x0 x3.toNat c5).2.1) (some false) (cond (aX 0 x3) (cond (bf x3 (ℓ x0)) (let v2:Int:=W .i64 (x3-1);cond (bf v2 (ℓ x0)) (cond (dx (γ x0 x3.toNat c5).1 (γ x0 v2.toNat c5).1) (some false) (dV x0 (W .i64 (x3+1)))) none) none) (dV x0 (W .i64 (x3+1))))) none)) none)) none)) none) (some true)
def CD.l2(N:Nat):Nat→CD.cX
 |0,_,_=>none
 |n+1,x0,x3=>CD.fI N (CD.l2 N n) x0 x3
def CD.b(N:Nat)(gT:CD.cX)(a0:aE):Option Bool:=
 gT a0 0
def CD(a0:aE):Option Bool:=CD.b N (CD.l2 N N) a0
abbrev AI.cX:=aE→Int→Int→Option Int
def AI.fI(N:Nat)(dV:AI.cX)(x0:aE)(x1 x5:Int):Option Int:=
 cond (aX x5 (ℓ x0)) (cond (bf x5 (ℓ x0)) (cond (aN (γ x0 x5.toNat c5).1 x1) (cond (bf x5 (ℓ x0)) (some (γ x0 x5.toNat c5).2.1) none) (dV x0 x1 (W .i64 (x5+1)))) none) (some 0)
def AI.l2(N:Nat):Nat→AI.cX
 |0,_,_,_=>none
 |n+1,x0,x1,x5=>AI.fI N (AI.l2 N n) x0 x1 x5
def AI.b(N:Nat)(gT:AI.cX)(a0:aE)(a1:Int):Option Int:=
 gT a0 a1 0
def AI(a0:aE)(a1:Int):Option Int:=AI.b N (AI.l2 N N) a0 a1
abbrev ja.Nb:=aE→Int→aE→Int→Option (aE×(Int))
abbrev ja.eP:=aE→Int→aE→Int→Option (aE×(Int))
def ja.JF(N:Nat)(x0:aE)(x1:Int)(x6:aE)(x7:Int):Option (aE×(Int)):=
 cond (jt 0 x7 (ℓ x0) (ℓ x0)) (let v6:List ((Int)×((Int)×(Unit))):=List.drop (0:Int).toNat (List.take x7.toNat x0);cond (small (ℓ x6+ℓ v6)) (let v7:List ((Int)×((Int)×(Unit))):=x6++v6;cond (small (ℓ v7+ℓ ([(x1,(1,()))]))) (let v8:List ((Int)×((Int)×(Unit))):=v7++([(x1,(1,()))]);cond (jt x7 (ℓ x0) (ℓ x0) (ℓ x0)) (let v9:List ((Int)×((Int)×(Unit))):=List.drop x7.toNat (List.take (ℓ x0:Int).toNat x0);cond (small (ℓ v8+ℓ v9)) (some ((v8++v9),0)) none) none) none) none) none
def ja.j9(x0:aE)(x1:Int)(x6:aE)(x7:Int):Option (aE×(Int)):=ja.JF N x0 x1 x6 x7
def ja.mK(N:Nat)(Cw:ja.Nb)(eR:ja.eP)(x0:aE)(x1:Int)(x6:aE)(x7:Int):Option (aE×(Int)):=
 cond (aX x7 (ℓ x0)) (cond (bf x7 (ℓ x0)) (cond (aX (γ x0 x7.toNat c5).1 x1) (eR x0 x1 x6 (W .i64 (x7+1))) (Cw x0 x1 x6 x7)) none) (Cw x0 x1 x6 x7)
def ja.l7(N:Nat):Nat→ja.eP
 |0,_,_,_,_=>none
 |n+1,x0,x1,x6,x7=>ja.mK N (ja.j9 N) (ja.l7 N n) x0 x1 x6 x7
def ja.b(q3:ja.eP)(a0:aE)(a1:Int):Option (aE×(Int)):=
 (CD N a0).bind λr1=>cond (!r1) (some ([],1)) (cond (aX a1 1) (some ([],1)) (cond (aX 12 a1) (some ([],1)) ((AI N a0 a1).bind λr2=>cond (!aN r2 0) (some ([],4)) (q3 a0 a1 ([]) 0))))
def ja(a0:aE)(a1:Int):Option (aE×(Int)):=ja.b N (ja.l7 N N) a0 a1
def gd(N:Nat)(a0:Int):Option dh:=
 some (a0,c5)
abbrev e8.kd:=aO→Int→cL→Int→Option Bool
abbrev e8.abj:=aO→Int→cL→Option Bool
abbrev e8.cX:=aO→Int→Option Bool
def e8.Ef(N:Nat)(dV:e8.cX)(gI:e8.kd)(x0:aO)(x3:Int)(x4:cL)(x5:Int):Option Bool:=
 cond (aX x5 x3) (cond (aN x4.2.2.1 1) (cond (bf x5 (ℓ x0)) (cond (aN (γ x0 x5.toNat ba).2.2.1 1) (cond (bf x5 (ℓ x0)) (cond (aN (γ x0 x5.toNat ba).2.1 x4.2.1) (some false) (gI x0 x3 x4 (W .i64 (x5+1)))) none) (gI x0 x3 x4 (W .i64 (x5+1)))) none) (gI x0 x3 x4 (W .i64 (x5+1)))) (dV x0 (W .i64 (x3+1)))
def e8.l8(N:Nat)(dV:e8.cX):Nat→e8.kd
 |0,_,_,_,_=>none
 |n+1,x0,x3,x4,x5=>e8.Ef N dV (e8.l8 N dV n) x0 x3 x4 x5
def e8.X9(N:Nat)(IX:e8.kd)(dV:e8.cX)(x0:aO)(x3:Int)(x4:cL):Option Bool:=
 IX x0 x3 x4 0
def e8.j7(dV:e8.cX)(x0:aO)(x3:Int)(x4:cL):Option Bool:=e8.X9 N (e8.l8 N dV N) dV x0 x3 x4
def e8.fI(N:Nat)(J0:e8.abj)(dV:e8.cX)(x0:aO)(x3:Int):Option Bool:=
 cond (aX x3 (ℓ x0)) (cond (bf x3 (ℓ x0)) (cond (aX (γ x0 x3.toNat ba).1 1) (some false) (cond (aX 24 (γ x0 x3.toNat ba).1) (some false) (cond (aX (γ x0 x3.toNat ba).2.1 1) (some false) (cond (aX 12 (γ x0 x3.toNat ba).2.1) (some false) (cond (!aN (γ x0 x3.toNat ba).2.2.1 1) (cond (!aN (γ x0 x3.toNat ba).2.2.1 2) (some false) (cond (aX (γ x0 x3.toNat ba).2.2.2.1 0) (some false) (cond (aX 1000000000000 (γ x0 x3.toNat ba).2.2.2.1) (some false) (cond (aX 0 x3) (let v2:Int:=W .i64 (x3-1);cond (bf v2 (ℓ x0)) (cond (dx (γ x0 x3.toNat ba).1 (γ x0 v2.toNat ba).1) (some false) (J0 x0 x3 (γ x0 x3.toNat ba))) none) (J0 x0 x3 (γ x0 x3.toNat ba)))))) (cond (aX (γ x0 x3.toNat ba).2.2.2.1 0) (some false) (cond (aX 1000000000000 (γ x0 x3.toNat ba).2.2.2.1) (some false) (cond (aX 0 x3) (let v9:Int:=W .i64 (x3-1);cond (bf v9 (ℓ x0)) (cond (dx (γ x0 x3.toNat ba).1 (γ x0 v9.toNat ba).1) (some false) (J0 x0 x3 (γ x0 x3.toNat ba))) none) (J0 x0 x3 (γ x0 x3.toNat ba)))))))))) none) (some true)
def e8.l2(N:Nat):Nat→e8.cX
 |0,_,_=>none
 |n+1,x0,x3=>e8.fI N (e8.j7 N (e8.l2 N n)) (e8.l2 N n) x0 x3
def e8.b(N:Nat)(gT:e8.cX)(a0:aO):Option Bool:=
 gT a0 0
def e8(a0:aO):Option Bool:=e8.b N (e8.l2 N N) a0
abbrev pt.bN:=aE→aO→Int→Option Bool
def pt.dL(cG:pt.bN)(x0:aE)(x1:aO)(x5:Int):Option Bool:=
 cond (aX x5 (ℓ x1)) (cond (bf x5 (ℓ x1)) ((AI N x0 (γ x1 x5.toNat ba).2.1).bind λr4=>cond (aN r4 0) (some false) (cG x0 x1 (W .i64 (x5+1)))) none) (some true)
def pt.l4(N:Nat):Nat→pt.bN
 |0,_,_,_=>none
 |n+1,x0,x1,x5=>pt.dL N (pt.l4 N n) x0 x1 x5
def pt.b(eW:pt.bN)(a0:aE)(a1:aO):Option Bool:=
 (CD N a0).bind λr1=>cond (!r1) (some false) ((e8 N a1).bind λr2=>cond (!r2) (some false) (eW a0 a1 0))
def pt(a0:aE)(a1:aO):Option Bool:=pt.b N (pt.l4 N N) a0 a1
abbrev oX.cX:=aO→Int→cL→Int→Option (cL×(Bool))
def oX.fI(N:Nat)(dV:oX.cX)(x0:aO)(x1:Int)(x4:cL)(x6:Int):Option (cL×(Bool)):=
 cond (aX x6 (ℓ x0)) (cond (bf x6 (ℓ x0)) (cond (aN (γ x0 x6.toNat ba).1 x1) (cond (bf x6 (ℓ x0)) (some (γ x0 x6.toNat ba,true)) none) (dV x0 x1 x4 (W .i64 (x6+1)))) none) (some (ba,false))
def oX.l2(N:Nat):Nat→oX.cX
 |0,_,_,_,_=>none
 |n+1,x0,x1,x4,x6=>oX.fI N (oX.l2 N n) x0 x1 x4 x6
def oX.b(N:Nat)(gT:oX.cX)(a0:aO)(a1:Int):Option (cL×(Bool)):=
 gT a0 a1 ba 0
def oX(a0:aO)(a1:Int):Option (cL×(Bool)):=oX.b N (oX.l2 N N) a0 a1
abbrev np.bN:=aO→Int→Int→Option Int
def np.dL(N:Nat)(cG:np.bN)(x0:aO)(x1 x5:Int):Option Int:=
 cond (aX x5 (ℓ x0)) (cond (bf x5 (ℓ x0)) (cond (aN (γ x0 x5.toNat ba).2.1 x1) (cond (bf x5 (ℓ x0)) (cond (aN (γ x0 x5.toNat ba).2.2.1 1) (cond (bf x5 (ℓ x0)) (some (γ x0 x5.toNat ba).1) none) (cG x0 x1 (W .i64 (x5+1)))) none) (cG x0 x1 (W .i64 (x5+1)))) none) (some 0)
def np.l4(N:Nat):Nat→np.bN
 |0,_,_,_=>none
 |n+1,x0,x1,x5=>np.dL N (np.l4 N n) x0 x1 x5
def np.b(eW:np.bN)(a0:aO)(a1:Int):Option Int:=
 (e8 N a0).bind λr1=>cond (!r1) (some 0) (eW a0 a1 0)
def np(a0:aO)(a1:Int):Option Int:=np.b N (np.l4 N N) a0 a1
abbrev fQ.IY:=aO→cL→aO→Int→Option (aO×(Int))
abbrev fQ.fP:=aO→cL→aO→Int→Option (aO×(Int))
abbrev fQ.IZ:=aO→cL→Option (aO×(Int))
def fQ.xa(N:Nat)(x1:aO)(x5:cL)(a7:aO)(bp:Int):Option (aO×(Int)):=
 cond (jt 0 bp (ℓ x1) (ℓ x1)) (let v10:List ((Int)×((Int)×((Int)×((Int)×(Unit))))):=List.drop (0:Int).toNat (List.take bp.toNat x1);cond (small (ℓ a7+ℓ v10)) (let v11:List ((Int)×((Int)×((Int)×((Int)×(Unit))))):=a7++v10;cond (small (ℓ v11+ℓ ([x5]))) (let Vm:List ((Int)×((Int)×((Int)×((Int)×(Unit))))):=v11++([x5]);cond (jt bp (ℓ x1) (ℓ x1) (ℓ x1)) (let v13:List ((Int)×((Int)×((Int)×((Int)×(Unit))))):=List.drop bp.toNat (List.take (ℓ x1:Int).toNat x1);cond (small (ℓ Vm+ℓ v13)) (some ((Vm++v13),0)) none) none) none) none) none
def fQ.Dn(x1:aO)(x5:cL)(a7:aO)(bp:Int):Option (aO×(Int)):=fQ.xa N x1 x5 a7 bp
def fQ.ly(N:Nat)(wW:fQ.IY)(gO:fQ.fP)(x1:aO)(x5:cL)(a7:aO)(bp:Int):Option (aO×(Int)):=
 cond (aX bp (ℓ x1)) (cond (bf bp (ℓ x1)) (cond (aX (γ x1 bp.toNat ba).1 x5.1) (gO x1 x5 a7 (W .i64 (bp+1))) (wW x1 x5 a7 bp)) none) (wW x1 x5 a7 bp)
def fQ.my(N:Nat):Nat→fQ.fP
 |0,_,_,_,_=>none
 |n+1,x1,x5,a7,bp=>fQ.ly N (fQ.Dn N) (fQ.my N n) x1 x5 a7 bp
def fQ.ym(N:Nat)(tp:fQ.fP)(x1:aO)(x5:cL):Option (aO×(Int)):=
 tp x1 x5 ([]) 0
def fQ.E9(x1:aO)(x5:cL):Option (aO×(Int)):=fQ.ym N (fQ.my N N) x1 x5
def fQ.b(yJ:fQ.IZ)(a0:aE)(a1:aO)(a2:cL):Option (aO×(Int)):=
 (pt N a0 a1).bind λr1=>cond (!r1) (some ([],1)) ((e8 N ([a2])).bind λr2=>cond (!r2) (some ([],1)) ((AI N a0 a2.2.1).bind λr3=>cond (aN r3 0) (some ([],3)) (cond (!aN r3 1) (some ([],7)) ((oX N a1 a2.1).bind λr4=>cond (r4.2) (some ([],4)) (cond (aN a2.2.2.1 1) ((np N a1 a2.2.1).bind λr5=>cond (!aN r5 0) (some ([],4)) (yJ a1 a2)) (yJ a1 a2))))))
def fQ(a0:aE)(a1:aO)(a2:cL):Option (aO×(Int)):=fQ.b N (fQ.E9 N) a0 a1 a2
def Ws(a0:aO)(a1:Int):Option (cL×(Bool)):=
 (e8 N a0).bind λr1=>cond (!r1) (some (ba,false)) ((oX N a0 a1).bind λr2=>some (r2.1,r2.2))
def Tp(a0:aR)(a1:Int):Option Bool:=
 (Ws N a0.2.2.1.2.1 a1).bind λr1=>some r1.2
abbrev pj.cX:=(List Int)→Int→Option (List Int)
def pj.fI(N:Nat)(dV:pj.cX)(x0:List Int)(x3:Int):Option (List Int):=
 cond (aX 0 x3) (let v2:Int:=W .i64 (x3-1);cond (bf v2 (ℓ x0)) (cond (aN (γ x0 v2.toNat 0) 0) (dV x0 (W .i64 (x3-1))) (cond (jt 0 x3 x3 (ℓ x0)) (some (List.drop (0:Int).toNat (List.take x3.toNat x0))) none)) none) (cond (jt 0 x3 x3 (ℓ x0)) (some (List.drop (0:Int).toNat (List.take x3.toNat x0))) none)
def pj.l2(N:Nat):Nat→pj.cX
 |0,_,_=>none
 |n+1,x0,x3=>pj.fI N (pj.l2 N n) x0 x3
def pj.b(N:Nat)(gT:pj.cX)(a0:List Int):Option (List Int):=
 gT a0 (ℓ a0:Int)
def pj(a0:List Int):Option (List Int):=pj.b N (pj.l2 N N) a0
def F83(a0:Int):Option (List Int):=
 cond (aX 32 0) none ((pj N ([(ss .and .u64 a0 4294967295),(shr .u64 a0 32)])).bind λr3=>some r3)
def Wk(a0:Bool)(a1:List Int):Option aM:=
 (pj N a1).bind λr1=>cond (a0) (some (aX 0 (ℓ r1:Int),(r1,()))) (some (false,(r1,())))
def kR(a0:Int):Option aM:=
 let v1:Int:=W .u64 a0;cond (aX a0 0) ((F83 N (W .u64 (0-v1))).bind λr3=>(Wk N (aX a0 0) r3).bind λr4=>some r4) ((F83 N v1).bind λr5=>(Wk N (aX a0 0) r5).bind λr6=>some r6)
def X7(a0:aM):Option aM:=
 (Wk N (!a0.1) a0.2.1).bind λr1=>some r1
def Dq(a0 a1:Int)(a2 a3:Int)(a4:aM):Option bM:=
 (X7 N a4).bind λr1=>some ([(a0,(a1,(r1,()))),(a2,(a3,(a4,())))])
def F93(N:Nat)(a0:List Int)(a1:Int):Option Int:=
 cond (aX a1 (ℓ a0)) (cond (bf a1 (ℓ a0)) (some (γ a0 a1.toNat 0)) none) (some 0)
abbrev wT.TI:=(List Int)→(List Int)→(List Int)→Int→Int→Option (List Int)
abbrev wT.bN:=(List Int)→(List Int)→(List Int)→Int→Int→Option (List Int)
def wT.OY(cG:wT.bN)(x0 x1 x5:List Int)(x6 x7:Int):Option (List Int):=
 (F93 N x0 x7).bind λr3=>(F93 N x1 x7).bind λr4=>let v6:Int:=W .u64 (x6+(W .u64 (r3+r4)));let v7:Int:=ss .and .u64 v6 4294967295;cond (small (ℓ x5+ℓ ([v7]))) (cond (aX 32 0) none (cG x0 x1 (x5++([v7])) (shr .u64 v6 32) (W .i64 (x7+1)))) none
def wT.j6(cG:wT.bN)(x0 x1 x5:List Int)(x6 x7:Int):Option (List Int):=wT.OY N cG x0 x1 x5 x6 x7
def wT.dL(N:Nat)(Fj:wT.TI)(cG:wT.bN)(x0 x1 x5:List Int)(x6 x7:Int):Option (List Int):=
 cond (aX x7 (ℓ x0)) (Fj x0 x1 x5 x6 x7) (cond (aX x7 (ℓ x1)) (Fj x0 x1 x5 x6 x7) (cond (aX 0 x6) (Fj x0 x1 x5 x6 x7) (some x5)))
def wT.l4(N:Nat):Nat→wT.bN
 |0,_,_,_,_,_=>none
 |n+1,x0,x1,x5,x6,x7=>wT.dL N (wT.j6 N (wT.l4 N n)) (wT.l4 N n) x0 x1 x5 x6 x7
def wT.b(N:Nat)(eW:wT.bN)(a0 a1:List Int):Option (List Int):=
 eW a0 a1 ([]) 0 0
def wT(a0 a1:List Int):Option (List Int):=wT.b N (wT.l4 N N) a0 a1
abbrev E0.kA:=(List Int)→(List Int)→Int→Option Int
def E0.u7(N:Nat)(lC:E0.kA)(x0 x1:List Int)(x5:Int):Option Int:=
 cond (dx 0 x5) (cond (bf x5 (ℓ x0)) (cond (bf x5 (ℓ x1)) (cond (aX (γ x0 x5.toNat 0) (γ x1 x5.toNat 0)) (some (-1)) (cond (bf x5 (ℓ x0)) (cond (bf x5 (ℓ x1)) (cond (aX (γ x1 x5.toNat 0) (γ x0 x5.toNat 0)) (some 1) (lC x0 x1 (W .i64 (x5-1)))) none) none)) none) none) (some 0)
def E0.l6(N:Nat):Nat→E0.kA
 |0,_,_,_=>none
 |n+1,x0,x1,x5=>E0.u7 N (E0.l6 N n) x0 x1 x5
def E0.b(N:Nat)(yG:E0.kA)(a0 a1:List Int):Option Int:=
 cond (!aN (ℓ a0) (ℓ a1)) (cond (aX (ℓ a0) (ℓ a1)) (some (-1)) (some 1)) (yG a0 a1 (W .i64 ((ℓ a0:Int)-1)))
def E0(a0 a1:List Int):Option Int:=E0.b N (E0.l6 N N) a0 a1
abbrev FH.bN:=(List Int)→(List Int)→(List Int)→Int→Int→Option (List Int)
def FH.dL(cG:FH.bN)(x0 x1 x5:List Int)(x6 x7:Int):Option (List Int):=
 cond (aX x7 (ℓ x0)) (cond (bf x7 (ℓ x0)) ((F93 N x1 x7).bind λr2=>let v3:Int:=W .u64 (r2+x6);cond (aX (γ x0 x7.toNat 0) v3) (let v5:Int:=W .u64 ((W .u64 ((γ x0 x7.toNat 0)+4294967296))-v3);cond (small (ℓ x5+ℓ ([v5]))) (cG x0 x1 (x5++([v5])) 1 (W .i64 (x7+1))) none) (let v8:Int:=W .u64 ((γ x0 x7.toNat 0)-v3);cond (small (ℓ x5+ℓ ([v8]))) (cG x0 x1 (x5++([v8])) 0 (W .i64 (x7+1))) none)) none) (some x5)
def FH.l4(N:Nat):Nat→FH.bN
 |0,_,_,_,_,_=>none
 |n+1,x0,x1,x5,x6,x7=>FH.dL N (FH.l4 N n) x0 x1 x5 x6 x7
def FH.b(N:Nat)(eW:FH.bN)(a0 a1:List Int):Option (List Int):=
 eW a0 a1 ([]) 0 0
def FH(a0 a1:List Int):Option (List Int):=FH.b N (FH.l4 N N) a0 a1
def Ak(a0 a1:aM):Option aM:=
 cond (pb .bool a0.1 a1.1) ((wT N a0.2.1 a1.2.1).bind λr1=>(Wk N a0.1 r1).bind λr2=>some r2) ((E0 N a0.2.1 a1.2.1).bind λr3=>cond (dx 0 r3) ((FH N a0.2.1 a1.2.1).bind λr4=>(Wk N a0.1 r4).bind λr5=>some r5) ((FH N a1.2.1 a0.2.1).bind λr6=>(Wk N a1.1 r6).bind λr7=>some r7))
def yd(a0:aM):Option ((Int)×(Bool)):=
 cond (aX 2 (ℓ a0.2.1)) (some (0,false)) ((F93 N a0.2.1 0).bind λr1=>(F93 N a0.2.1 1).bind λr2=>cond (aX 32 0) none (let v4:Int:=ss .or .u64 r1 (W .u64 (shl .u64 r2 32));cond (a0.1) (cond (aX 9223372036854775808 v4) (some (0,false)) (some ((W .i64 (W .u64 (0-v4))),true))) (cond (aX 9223372036854775807 v4) (some (0,false)) (some ((W .i64 v4),true)))))
def SU(a0:aM):Option ((Int)×(Bool)):=
 (yd N a0).bind λr1=>cond (!r1.2) (some (0,false)) (cond (aN r1.1 (-9223372036854775808)) (some (0,false)) (some (r1.1,true)))
abbrev cQ.I0:=au→au→au→Int→Int→Int→Int→Bool→aM→Int→Option (au×(Bool))
abbrev cQ.abt:=au→au→au→Int→Int→Int→Int→Bool→Option (au×(Bool))
abbrev cQ.eP:=au→au→au→Int→Int→Int→Option (au×(Bool))
abbrev cQ.bN:=au→au→au→Int→Int→Option (au×(Bool))
def cQ.JP(cG:cQ.bN)(eR:cQ.eP)(Ls:cQ.I0)(x0 x1 x6:au)(x7 x8:Int)(x9 bo:Int)(a7:Bool)(bp:aM)(cj:Int):Option (au×(Bool)):=
 cond (aX cj (ℓ x1)) (cond (bf cj (ℓ x1)) (cond (aN (γ x1 cj.toNat bb).1 x8) (cond (bf cj (ℓ x1)) (cond (aN (γ x1 cj.toNat bb).2.1 x9) (cond (bf cj (ℓ x1)) ((kR N (γ x1 cj.toNat bb).2.2.1).bind λr6=>(Ak N bp r6).bind λr7=>Ls x0 x1 x6 x7 x8 x9 bo true r7 (W .i64 (cj+1))) none) (Ls x0 x1 x6 x7 x8 x9 bo a7 bp (W .i64 (cj+1)))) none) (Ls x0 x1 x6 x7 x8 x9 bo a7 bp (W .i64 (cj+1)))) none) (cond (a7) ((kR N bo).bind λm6=>(Ak N bp m6).bind λoU=>(SU N oU).bind λnW=>cond (!nW.2) (some ([],false)) (cond (!aN nW.1 0) (cond (small (ℓ x6+ℓ ([(x8,(x9,(nW.1,())))]))) (eR x0 x1 (x6++([(x8,(x9,(nW.1,())))])) x7 x8 (W .i64 (x9+1))) none) (eR x0 x1 x6 x7 x8 (W .i64 (x9+1))))) (cond (!aN bo 0) (cond (small (ℓ x6+ℓ ([(x8,(x9,(bo,())))]))) (eR x0 x1 (x6++([(x8,(x9,(bo,())))])) x7 x8 (W .i64 (x9+1))) none) (eR x0 x1 x6 x7 x8 (W .i64 (x9+1)))))
def cQ.KC(N:Nat)(cG:cQ.bN)(eR:cQ.eP):Nat→cQ.I0
 |0,_,_,_,_,_,_,_,_,_,_=>none
 |n+1,x0,x1,x6,x7,x8,x9,bo,a7,bp,cj=>cQ.JP N cG eR (cQ.KC N cG eR n) x0 x1 x6 x7 x8 x9 bo a7 bp cj
def cQ.Mn(N:Nat)(abu:cQ.I0)(cG:cQ.bN)(eR:cQ.eP)(x0 x1 x6:au)(x7 x8:Int)(x9 bo:Int)(a7:Bool):Option (au×(Bool)):=
 abu x0 x1 x6 x7 x8 x9 bo a7 (false,o6) 0
def cQ.UN(cG:cQ.bN)(eR:cQ.eP)(x0 x1 x6:au)(x7 x8:Int)(x9 bo:Int)(a7:Bool):Option (au×(Bool)):=cQ.Mn N (cQ.KC N cG eR N) cG eR x0 x1 x6 x7 x8 x9 bo a7
def cQ.mK(N:Nat)(Cx:cQ.abt)(cG:cQ.bN)(eR:cQ.eP)(x0 x1 x6:au)(x7 x8 x9:Int):Option (au×(Bool)):=
 cond (aX x9 6) (cond (aX x7 (ℓ x0)) (cond (bf x7 (ℓ x0)) (cond (aN (γ x0 x7.toNat bb).1 x8) (cond (bf x7 (ℓ x0)) (cond (aN (γ x0 x7.toNat bb).2.1 x9) (cond (bf x7 (ℓ x0)) (Cx x0 x1 x6 (W .i64 (x7+1)) x8 x9 (γ x0 x7.toNat bb).2.2.1 false) none) (Cx x0 x1 x6 x7 x8 x9 0 false)) none) (Cx x0 x1 x6 x7 x8 x9 0 false)) none) (Cx x0 x1 x6 x7 x8 x9 0 false)) (cG x0 x1 x6 x7 (W .i64 (x8+1)))
def cQ.l7(N:Nat)(cG:cQ.bN):Nat→cQ.eP
 |0,_,_,_,_,_,_=>none
 |n+1,x0,x1,x6,x7,x8,x9=>cQ.mK N (cQ.UN N cG (cQ.l7 N cG n)) cG (cQ.l7 N cG n) x0 x1 x6 x7 x8 x9
def cQ.dL(N:Nat)(q3:cQ.eP)(cG:cQ.bN)(x0 x1 x6:au)(x7 x8:Int):Option (au×(Bool)):=
 cond (dx x8 24) (q3 x0 x1 x6 x7 x8 0) (some (x6,true))
def cQ.l4(N:Nat):Nat→cQ.bN
 |0,_,_,_,_,_=>none
 |n+1,x0,x1,x6,x7,x8=>cQ.dL N (cQ.l7 N (cQ.l4 N n) N) (cQ.l4 N n) x0 x1 x6 x7 x8
def cQ.b(N:Nat)(eW:cQ.bN)(a0 a1:au):Option (au×(Bool)):=
 eW a0 a1 ([]) 0 0
def cQ(a0 a1:au):Option (au×(Bool)):=cQ.b N (cQ.l4 N N) a0 a1
abbrev oE.dP:=Int→Int→Int→bM→aM→Bool→Int→Option ((Int)×(Bool))
def oE.m3(dw:oE.dP)(x0 x1 x2:Int)(x3:bM)(bo:aM)(a7:Bool)(bp:Int):Option ((Int)×(Bool)):=
 cond (aX bp (ℓ x3)) (cond (bf bp (ℓ x3)) (cond (aN (γ x3 bp.toNat (0,(0,((false,o6),())))).1 x1) (cond (bf bp (ℓ x3)) (cond (aN (γ x3 bp.toNat (0,(0,((false,o6),())))).2.1 x2) (cond (bf bp (ℓ x3)) ((Ak N bo (γ x3 bp.toNat (0,(0,((false,o6),())))).2.2.1).bind λr2=>dw x0 x1 x2 x3 r2 true (W .i64 (bp+1))) none) (dw x0 x1 x2 x3 bo a7 (W .i64 (bp+1)))) none) (dw x0 x1 x2 x3 bo a7 (W .i64 (bp+1)))) none) (cond (!a7) (some (x0,true)) ((kR N x0).bind λr6=>(Ak N bo r6).bind λr7=>(yd N r7).bind λr8=>some (r8.1,r8.2)))
def oE.l3(N:Nat):Nat→oE.dP
 |0,_,_,_,_,_,_,_=>none
 |n+1,x0,x1,x2,x3,bo,a7,bp=>oE.m3 N (oE.l3 N n) x0 x1 x2 x3 bo a7 bp
def oE.b(N:Nat)(oS:oE.dP)(a0 a1 a2:Int)(a3:bM):Option ((Int)×(Bool)):=
 oS a0 a1 a2 a3 (false,o6) false 0
def oE(a0 a1 a2:Int)(a3:bM):Option ((Int)×(Bool)):=oE.b N (oE.l3 N N) a0 a1 a2 a3
abbrev dQ.abt:=au→bM→au→Int→Int→Int→Int→Option (au×(Bool))
abbrev dQ.eP:=au→bM→au→Int→Int→Int→Option (au×(Bool))
abbrev dQ.bN:=au→bM→au→Int→Int→Option (au×(Bool))
def dQ.Mn(cG:dQ.bN)(eR:dQ.eP)(x0:au)(x1:bM)(x6:au)(x7 x8:Int)(x9 bo:Int):Option (au×(Bool)):=
 (oE N bo x8 x9 x1).bind λr5=>cond (!r5.2) (some ([],false)) (cond (!aN r5.1 0) (cond (small (ℓ x6+ℓ ([(x8,(x9,(r5.1,())))]))) (eR x0 x1 (x6++([(x8,(x9,(r5.1,())))])) x7 x8 (W .i64 (x9+1))) none) (eR x0 x1 x6 x7 x8 (W .i64 (x9+1))))
def dQ.UN(cG:dQ.bN)(eR:dQ.eP)(x0:au)(x1:bM)(x6:au)(x7 x8:Int)(x9 bo:Int):Option (au×(Bool)):=dQ.Mn N cG eR x0 x1 x6 x7 x8 x9 bo
def dQ.mK(N:Nat)(Cx:dQ.abt)(cG:dQ.bN)(eR:dQ.eP)(x0:au)(x1:bM)(x6:au)(x7 x8 x9:Int):Option (au×(Bool)):=
 cond (dx x9 24) (cond (aX x7 (ℓ x0)) (cond (bf x7 (ℓ x0)) (cond (aN (γ x0 x7.toNat bb).1 x8) (cond (bf x7 (ℓ x0)) (cond (aN (γ x0 x7.toNat bb).2.1 x9) (cond (bf x7 (ℓ x0)) (Cx x0 x1 x6 (W .i64 (x7+1)) x8 x9 (γ x0 x7.toNat bb).2.2.1) none) (Cx x0 x1 x6 x7 x8 x9 0)) none) (Cx x0 x1 x6 x7 x8 x9 0)) none) (Cx x0 x1 x6 x7 x8 x9 0)) (cG x0 x1 x6 x7 (W .i64 (x8+1)))
def dQ.l7(N:Nat)(cG:dQ.bN):Nat→dQ.eP
 |0,_,_,_,_,_,_=>none
 |n+1,x0,x1,x6,x7,x8,x9=>dQ.mK N (dQ.UN N cG (dQ.l7 N cG n)) cG (dQ.l7 N cG n) x0 x1 x6 x7 x8 x9
def dQ.dL(N:Nat)(q3:dQ.eP)(cG:dQ.bN)(x0:au)(x1:bM)(x6:au)(x7 x8:Int):Option (au×(Bool)):=
 cond (dx x8 7) (q3 x0 x1 x6 x7 x8 0) (some (x6,true))
def dQ.l4(N:Nat):Nat→dQ.bN
 |0,_,_,_,_,_=>none
 |n+1,x0,x1,x6,x7,x8=>dQ.dL N (dQ.l7 N (dQ.l4 N n) N) (dQ.l4 N n) x0 x1 x6 x7 x8
def dQ.b(N:Nat)(eW:dQ.bN)(a0:au)(a1:bM):Option (au×(Bool)):=
 eW a0 a1 ([]) 0 1
def dQ(a0:au)(a1:bM):Option (au×(Bool)):=dQ.b N (dQ.l4 N N) a0 a1
def zB(a0:an)(a1:au)(a2:bM):Option (an×(Int)):=
 (cQ N a0.2.2.2.1 a1).bind λr1=>cond (!r1.2) (some ((ch,(cT,(bq,(bq,(dg,(du,())))))),2)) ((dQ N a0.2.2.1 a2).bind λr2=>cond (!r2.2) (some ((ch,(cT,(bq,(bq,(dg,(du,())))))),2)) (some ((a0.1,(a0.2.1,(r2.1,(r1.1,a0.2.2.2.2)))),0)))
def Qf(a0:aR)(a1 a2:Int)(a3 a4 a5:Int):Option (aR×dh):=
 (kR N a5).bind λr1=>(Dq N a1 a2 a3 a4 r1).bind λr2=>(zB N a0.2.2.1 bq r2).bind λr3=>some ((a0.1,(a0.2.1,(r3.1,a0.2.2.2))),(r3.2,c5))
abbrev qk.bL:=au→Int→aM→aM→Int→Option aM
def qk.dU(bQ:qk.bL)(x0:au)(x1:Int)(x4 x5:aM)(x6:Int):Option aM:=
 cond (aX x6 (ℓ x0)) (cond (bf x6 (ℓ x0)) (cond (aN (γ x0 x6.toNat bb).2.1 x1) (cond (bf x6 (ℓ x0)) ((kR N (γ x0 x6.toNat bb).2.2.1).bind λr3=>(Ak N x5 r3).bind λr4=>bQ x0 x1 x4 r4 (W .i64 (x6+1))) none) (bQ x0 x1 x4 x5 (W .i64 (x6+1)))) none) (some x5)
def qk.l5(N:Nat):Nat→qk.bL
 |0,_,_,_,_,_=>none
 |n+1,x0,x1,x4,x5,x6=>qk.dU N (qk.l5 N n) x0 x1 x4 x5 x6
def qk.b(eX:qk.bL)(a0:au)(a1:Int):Option aM:=
 (AH N a0).bind λr1=>cond (!r1) (some (false,o6)) (eX a0 a1 (false,o6) (false,o6) 0)
def qk(a0:au)(a1:Int):Option aM:=qk.b N (qk.l5 N N) a0 a1
def Uw(N:Nat)(a0:aM):Option Int:=
 cond (aN (ℓ a0.2.1) 0) (some 0) (cond (a0.1) (some (-1)) (some 1))
abbrev E5.cX:=au→Int→Option Bool
def E5.fI(dV:E5.cX)(x0:au)(x3:Int):Option Bool:=
 cond (aX x3 6) ((qk N x0 x3).bind λr2=>(Uw N r2).bind λr3=>cond (!aN r3 0) (some false) (dV x0 (W .i64 (x3+1)))) ((AH N x0).bind λr5=>some r5)
def E5.l2(N:Nat):Nat→E5.cX
 |0,_,_=>none
 |n+1,x0,x3=>E5.fI N (E5.l2 N n) x0 x3
def E5.b(N:Nat)(gT:E5.cX)(a0:au):Option Bool:=
 gT a0 0
def E5(a0:au):Option Bool:=E5.b N (E5.l2 N N) a0
def E2(N:Nat)(a0:Int):Option Bool:=
 cond (dx 1 a0) (some (dx a0 1000000000000)) (some false)
def SM(a0:fX):Option Bool:=
 cond (dx 1 a0.1) (cond (dx a0.1 1099511627776) (cond (dx 1 a0.2.1) (cond (dx a0.2.1 24) (cond (dx 0 a0.2.2.1) (cond (aX a0.2.2.1 6) (cond (aN a0.2.2.2.1 1) (cond (dx 1 a0.2.2.2.2.1) (cond (dx a0.2.2.2.2.1 1000000000) ((E2 N a0.2.2.2.2.2.1).bind λr1=>some r1) (some false)) (some false)) (cond (aN a0.2.2.2.1 2) (cond (dx 1 a0.2.2.2.2.1) (cond (dx a0.2.2.2.2.1 1000000000) ((E2 N a0.2.2.2.2.2.1).bind λr2=>some r2) (some false)) (some false)) (some false))) (some false)) (some false)) (some false)) (some false)) (some false)) (some false)
abbrev nQ.bN:=aY→Int→Option Bool
def nQ.dL(cG:nQ.bN)(x0:aY)(x3:Int):Option Bool:=
 cond (aX x3 (ℓ x0)) (cond (bf x3 (ℓ x0)) ((SM N (γ x0 x3.toNat dS)).bind λr2=>cond (!r2) (some false) (cond (aX 0 x3) (cond (bf x3 (ℓ x0)) (let v3:Int:=W .i64 (x3-1);cond (bf v3 (ℓ x0)) (cond (dx (γ x0 x3.toNat dS).1 (γ x0 v3.toNat dS).1) (some false) (cG x0 (W .i64 (x3+1)))) none) none) (cG x0 (W .i64 (x3+1))))) none) (some true)
def nQ.l4(N:Nat):Nat→nQ.bN
 |0,_,_=>none
 |n+1,x0,x3=>nQ.dL N (nQ.l4 N n) x0 x3
def nQ.b(N:Nat)(eW:nQ.bN)(a0:aY):Option Bool:=
 cond (aX 32 (ℓ a0)) (some false) (eW a0 0)
def nQ(a0:aY):Option Bool:=nQ.b N (nQ.l4 N N) a0
abbrev Eh.bL:=au→aM→aM→Int→Option aM
def Eh.dU(bQ:Eh.bL)(x0:au)(x2 x3:aM)(x4:Int):Option aM:=
 cond (aX x4 (ℓ x0)) (cond (bf x4 (ℓ x0)) ((kR N (γ x0 x4.toNat bb).2.2.1).bind λr3=>(Ak N x3 r3).bind λr4=>bQ x0 x2 r4 (W .i64 (x4+1))) none) (some x3)
def Eh.l5(N:Nat):Nat→Eh.bL
 |0,_,_,_,_=>none
 |n+1,x0,x2,x3,x4=>Eh.dU N (Eh.l5 N n) x0 x2 x3 x4
def Eh.b(eX:Eh.bL)(a0:au):Option aM:=
 (C0 N a0).bind λr1=>cond (!r1) (some (false,o6)) (eX a0 (false,o6) (false,o6) 0)
def Eh(a0:au):Option aM:=Eh.b N (Eh.l5 N N) a0
def Mi(a0:an)(a1:Int):Option Bool:=
 (Ws N a0.2.1 a1).bind λr1=>cond (r1.2) (some true) (some (aN a1 0))
def UC(a0:aE)(a1:Int):Option Int:=
 (CD N a0).bind λr1=>cond (!r1) (some 0) ((AI N a0 a1).bind λr2=>some r2)
abbrev gG.tk:=ae→an→Int→Option Bool
abbrev gG.yK:=ae→an→Int→Option Bool
abbrev gG.iR:=ae→an→Int→Option Bool
abbrev gG.kA:=ae→an→Int→Option Bool
def gG.w8(IQ:gG.tk)(x2:ae)(x3:an)(x9:Int):Option Bool:=
 cond (aX x9 (ℓ x3.2.2.2.2.2.1)) (cond (bf x9 (ℓ x3.2.2.2.2.2.1)) ((Mi N x3 (γ x3.2.2.2.2.2.1 x9.toNat dS).2.1).bind λQG=>cond (!QG) (some false) (cond (bf x9 (ℓ x3.2.2.2.2.2.1)) (cond (dx (ℓ x2.1) (γ x3.2.2.2.2.2.1 x9.toNat dS).2.2.1) (some false) (IQ x2 x3 (W .i64 (x9+1)))) none)) none) (some true)
def gG.yk(N:Nat):Nat→gG.tk
 |0,_,_,_=>none
 |n+1,x2,x3,x9=>gG.w8 N (gG.yk N n) x2 x3 x9
def gG.E7(IS:gG.tk)(Lt:gG.yK)(x2:ae)(x3:an)(x8:Int):Option Bool:=
 cond (aX x8 (ℓ x3.2.2.2.2.1)) (cond (bf x8 (ℓ x3.2.2.2.2.1)) ((E2 N (γ x3.2.2.2.2.1 x8.toNat 0)).bind λNA=>cond (!NA) (some false) (Lt x2 x3 (W .i64 (x8+1)))) none) (IS x2 x3 0)
def gG.FL(N:Nat):Nat→gG.yK
 |0,_,_,_=>none
 |n+1,x2,x3,x8=>gG.E7 N (gG.yk N N) (gG.FL N n) x2 x3 x8
def gG.mO(QI:gG.yK)(lD:gG.iR)(x2:ae)(x3:an)(x7:Int):Option Bool:=
 cond (aX x7 (ℓ x3.2.2.2.1)) (cond (bf x7 (ℓ x3.2.2.2.1)) ((Mi N x3 (γ x3.2.2.2.1 x7.toNat bb).1).bind λF1=>cond (!F1) (some false) (cond (bf x7 (ℓ x3.2.2.2.1)) (cond (dx (ℓ x2.1) (γ x3.2.2.2.1 x7.toNat bb).2.1) (some false) (lD x2 x3 (W .i64 (x7+1)))) none)) none) (QI x2 x3 0)
def gG.nI(N:Nat):Nat→gG.iR
 |0,_,_,_=>none
 |n+1,x2,x3,x7=>gG.mO N (gG.FL N N) (gG.nI N n) x2 x3 x7
def gG.u7(vu:gG.iR)(lC:gG.kA)(x2:ae)(x3:an)(x5:Int):Option Bool:=
 cond (aX x5 (ℓ x3.2.2.1)) (cond (bf x5 (ℓ x3.2.2.1)) (cond (aN (γ x3.2.2.1 x5.toNat bb).1 5) ((Mi N x3 (γ x3.2.2.1 x5.toNat bb).2.1).bind λr9=>cond (!r9) (some false) (cond (aN (γ x3.2.2.1 x5.toNat bb).1 6) ((UC N x3.1 (γ x3.2.2.1 x5.toNat bb).2.1).bind λkT=>cond (aN kT 0) (some false) (lC x2 x3 (W .i64 (x5+1)))) (cond (aN (γ x3.2.2.1 x5.toNat bb).1 7) ((UC N x3.1 (γ x3.2.2.1 x5.toNat bb).2.1).bind λoU=>cond (aN oU 0) (some false) (lC x2 x3 (W .i64 (x5+1)))) (lC x2 x3 (W .i64 (x5+1)))))) (cond (aN (γ x3.2.2.1 x5.toNat bb).1 6) ((UC N x3.1 (γ x3.2.2.1 x5.toNat bb).2.1).bind λuD=>cond (aN uD 0) (some false) (lC x2 x3 (W .i64 (x5+1)))) (cond (aN (γ x3.2.2.1 x5.toNat bb).1 7) ((UC N x3.1 (γ x3.2.2.1 x5.toNat bb).2.1).bind λyA=>cond (aN yA 0) (some false) (lC x2 x3 (W .i64 (x5+1)))) (lC x2 x3 (W .i64 (x5+1)))))) none) (vu x2 x3 0)
def gG.l6(N:Nat):Nat→gG.kA
 |0,_,_,_=>none
 |n+1,x2,x3,x5=>gG.u7 N (gG.nI N N) (gG.l6 N n) x2 x3 x5
def gG.b(yG:gG.kA)(a0:ae)(a1:an):Option Bool:=
 (nj N a0).bind λr1=>cond (!r1) (some false) ((pt N a1.1 a1.2.1).bind λr2=>cond (!r2) (some false) ((C0 N a1.2.2.1).bind λr3=>cond (!r3) (some false) ((E5 N a1.2.2.2.1).bind λr4=>cond (!r4) (some false) ((nQ N a1.2.2.2.2.2.1).bind λr5=>cond (!r5) (some false) (cond (!aN (ℓ a1.2.2.2.2.1) (ℓ a0.1)) (some false) ((Eh N a1.2.2.1).bind λr6=>(Uw N r6).bind λr7=>cond (!aN r7 0) (some false) (yG a0 a1 0)))))))
def gG(a0:ae)(a1:an):Option Bool:=gG.b N (gG.l6 N N) a0 a1
def SC(a0 a1:aM):Option aM:=
 (X7 N a1).bind λr1=>(Ak N a0 r1).bind λr2=>some r2
abbrev mP.bL:=au→Int→aE→Int→Option aE
def mP.dU(N:Nat)(bQ:mP.bL)(x0:au)(x1:Int)(x5:aE)(x6:Int):Option aE:=
 cond (aX x6 (ℓ x0)) (cond (bf x6 (ℓ x0)) (cond (aN (γ x0 x6.toNat bb).1 x1) (cond (bf x6 (ℓ x0)) (cond (bf x6 (ℓ x0)) (cond (small (ℓ x5+ℓ ([((γ x0 x6.toNat bb).2.1,((γ x0 x6.toNat bb).2.2.1,()))]))) (bQ x0 x1 (x5++([((γ x0 x6.toNat bb).2.1,((γ x0 x6.toNat bb).2.2.1,()))])) (W .i64 (x6+1))) none) none) none) (bQ x0 x1 x5 (W .i64 (x6+1)))) none) (some x5)
def mP.l5(N:Nat):Nat→mP.bL
 |0,_,_,_,_=>none
 |n+1,x0,x1,x5,x6=>mP.dU N (mP.l5 N n) x0 x1 x5 x6
def mP.b(eX:mP.bL)(a0:au)(a1:Int):Option aE:=
 (AH N a0).bind λr1=>cond (!r1) (some ([])) (eX a0 a1 ([]) 0)
def mP(a0:au)(a1:Int):Option aE:=mP.b N (mP.l5 N N) a0 a1
abbrev fm.eP:=aY→Int→au→Int→dh→Int→Option au
abbrev fm.dP:=aY→Int→au→Int→Option au
def fm.mK(N:Nat)(dw:fm.dP)(eR:fm.eP)(x0:aY)(x1:Int)(x5:au)(x6:Int)(x7:dh)(x8:Int):Option au:=
 cond (aX x8 (ℓ x0)) (cond (bf x8 (ℓ x0)) (cond (!aN (γ x0 x8.toNat dS).2.1 x1) (eR x0 x1 x5 x6 x7 (W .i64 (x8+1))) (cond (bf x8 (ℓ x0)) (cond (!aN (γ x0 x8.toNat dS).2.2.1 x6) (eR x0 x1 x5 x6 x7 (W .i64 (x8+1))) (cond (bf x8 (ℓ x0)) (cond (aN (γ x0 x8.toNat dS).2.2.2.1 1) (cond (bf x8 (ℓ x0)) (eR x0 x1 x5 x6 (x7.1,((W .i64 (x7.2.1+((γ x0 x8.toNat dS).2.2.2.2.1))),x7.2.2)) (W .i64 (x8+1))) none) (cond (bf x8 (ℓ x0)) (eR x0 x1 x5 x6 (x7.1,(x7.2.1,((W .i64 (x7.2.2.1+((γ x0 x8.toNat dS).2.2.2.2.1))),x7.2.2.2))) (W .i64 (x8+1))) none)) none)) none)) none) (cond (aX 0 x7.2.1) (cond (small (ℓ x5+ℓ ([x7]))) (dw x0 x1 (x5++([x7])) (W .i64 (x6+1))) none) (cond (aX 0 x7.2.2.1) (cond (small (ℓ x5+ℓ ([x7]))) (dw x0 x1 (x5++([x7])) (W .i64 (x6+1))) none) (dw x0 x1 x5 (W .i64 (x6+1)))))
def fm.l7(N:Nat)(dw:fm.dP):Nat→fm.eP
 |0,_,_,_,_,_,_=>none
 |n+1,x0,x1,x5,x6,x7,x8=>fm.mK N dw (fm.l7 N dw n) x0 x1 x5 x6 x7 x8
def fm.m3(N:Nat)(q3:fm.eP)(dw:fm.dP)(x0:aY)(x1:Int)(x5:au)(x6:Int):Option au:=
 cond (aX x6 6) (q3 x0 x1 x5 x6 (x6,c5) 0) (some x5)
def fm.l3(N:Nat):Nat→fm.dP
 |0,_,_,_,_=>none
 |n+1,x0,x1,x5,x6=>fm.m3 N (fm.l7 N (fm.l3 N n) N) (fm.l3 N n) x0 x1 x5 x6
def fm.b(N:Nat)(oS:fm.dP)(a0:aY)(a1:Int):Option au:=
 oS a0 a1 ([]) 0
def fm(a0:aY)(a1:Int):Option au:=fm.b N (fm.l3 N N) a0 a1
abbrev oC.bN:=aE→ae→Int→Option Bool
def oC.dL(N:Nat)(cG:oC.bN)(x1:aE)(x2:ae)(x5:Int):Option Bool:=
 cond (aX x5 (ℓ x1)) (cond (bf x5 (ℓ x1)) (cond (aX (γ x1 x5.toNat c5).1 0) (some false) (cond (bf x5 (ℓ x1)) (cond (dx (ℓ x2.1) (γ x1 x5.toNat c5).1) (some false) (cond (bf x5 (ℓ x1)) (cond (aN (γ x1 x5.toNat c5).2.1 0) (some false) (cond (bf x5 (ℓ x1)) (cond (aN (γ x1 x5.toNat c5).2.1 (-9223372036854775808)) (some false) (cond (aX 0 x5) (cond (bf x5 (ℓ x1)) (let v3:Int:=W .i64 (x5-1);cond (bf v3 (ℓ x1)) (cond (dx (γ x1 x5.toNat c5).1 (γ x1 v3.toNat c5).1) (some false) (cG x1 x2 (W .i64 (x5+1)))) none) none) (cG x1 x2 (W .i64 (x5+1))))) none)) none)) none)) none) (some true)
def oC.l4(N:Nat):Nat→oC.bN
 |0,_,_,_=>none
 |n+1,x1,x2,x5=>oC.dL N (oC.l4 N n) x1 x2 x5
def oC.b(eW:oC.bN)(a0:ae)(a1:aE):Option Bool:=
 (nj N a0).bind λr1=>cond (!r1) (some false) (eW a1 a0 0)
def oC(a0:ae)(a1:aE):Option Bool:=oC.b N (oC.l4 N N) a0 a1
abbrev mQ.bL:=au→ae→Int→Int→Option Bool
def mQ.dU(N:Nat)(bQ:mQ.bL)(x1:au)(x2:ae)(x5 x6:Int):Option Bool:=
 cond (aX x6 (ℓ x1)) (cond (bf x6 (ℓ x1)) (cond (aX (γ x1 x6.toNat bb).1 0) (some false) (cond (dx (ℓ x2.1) (γ x1 x6.toNat bb).1) (some false) (cond (aX (γ x1 x6.toNat bb).2.1 0) (some false) (cond (aX x5 (γ x1 x6.toNat bb).2.1) (some false) (cond (aX (γ x1 x6.toNat bb).2.2.1 0) (some false) (cond (aX x5 (γ x1 x6.toNat bb).2.2.1) (some false) (cond (aN (γ x1 x6.toNat bb).2.1 0) (cond (aN (γ x1 x6.toNat bb).2.2.1 0) (some false) (cond (aX 0 x6) (let v3:Int:=W .i64 (x6-1);cond (bf v3 (ℓ x1)) (cond (dx (γ x1 x6.toNat bb).1 (γ x1 v3.toNat bb).1) (some false) (bQ x1 x2 x5 (W .i64 (x6+1)))) none) (bQ x1 x2 x5 (W .i64 (x6+1))))) (cond (aX 0 x6) (let v6:Int:=W .i64 (x6-1);cond (bf v6 (ℓ x1)) (cond (dx (γ x1 x6.toNat bb).1 (γ x1 v6.toNat bb).1) (some false) (bQ x1 x2 x5 (W .i64 (x6+1)))) none) (bQ x1 x2 x5 (W .i64 (x6+1))))))))))) none) (some true)
def mQ.l5(N:Nat):Nat→mQ.bL
 |0,_,_,_,_=>none
 |n+1,x1,x2,x5,x6=>mQ.dU N (mQ.l5 N n) x1 x2 x5 x6
def mQ.b(eX:mQ.bL)(a0:ae)(a1:au):Option Bool:=
 (nj N a0).bind λr1=>cond (!r1) (some false) (eX a1 a0 33000000000 0)
def mQ(a0:ae)(a1:au):Option Bool:=mQ.b N (mQ.l5 N N) a0 a1
def Wl(a0:aM):Option aM:=
 (Wk N false a0.2.1).bind λr1=>some r1
def Nu(a0 a1:aM):Option Int:=
 (SC N a0 a1).bind λr1=>(Uw N r1).bind λr2=>some r2
abbrev gA.iR:=au→Int→aM→aM→aM→aM→Int→Option (aM×(Int))
abbrev gA.eP:=aE→au→Int→aM→aM→aM→aM→Int→Option (aM×(Int))
def gA.mO(lD:gA.iR)(x2:au)(x3:Int)(x8 bo:aM)(a7 bp:aM)(cZ:Int):Option (aM×(Int)):=
 cond (aX cZ (ℓ x2)) (cond (bf cZ (ℓ x2)) (cond (aN (γ x2 cZ.toNat bb).1 x3) (cond (bf cZ (ℓ x2)) ((kR N (γ x2 cZ.toNat bb).2.1).bind λr8=>cond (bf cZ (ℓ x2)) ((kR N (γ x2 cZ.toNat bb).2.2.1).bind λr9=>lD x2 x3 x8 bo r8 r9 (W .i64 (cZ+1))) none) none) (lD x2 x3 x8 bo a7 bp (W .i64 (cZ+1)))) none) ((Ak N bo a7).bind λoU=>(Wl N oU).bind λnW=>(SC N bo bp).bind λrG=>(Wl N rG).bind λuD=>(Nu N uD nW).bind λwG=>cond (aX 0 wG) (some (uD,0)) (some (nW,0)))
def gA.nI(N:Nat):Nat→gA.iR
 |0,_,_,_,_,_,_,_=>none
 |n+1,x2,x3,x8,bo,a7,bp,cZ=>gA.mO N (gA.nI N n) x2 x3 x8 bo a7 bp cZ
def gA.mK(vu:gA.iR)(eR:gA.eP)(x1:aE)(x2:au)(x3:Int)(x8 bo:aM)(a7 bp:aM)(cj:Int):Option (aM×(Int)):=
 cond (aX cj (ℓ x1)) (cond (bf cj (ℓ x1)) (cond (aN (γ x1 cj.toNat c5).1 x3) (cond (bf cj (ℓ x1)) ((kR N (γ x1 cj.toNat c5).2.1).bind λr4=>eR x1 x2 x3 x8 r4 a7 bp (W .i64 (cj+1))) none) (eR x1 x2 x3 x8 bo a7 bp (W .i64 (cj+1)))) none) (vu x2 x3 x8 bo a7 bp 0)
def gA.l7(N:Nat):Nat→gA.eP
 |0,_,_,_,_,_,_,_,_=>none
 |n+1,x1,x2,x3,x8,bo,a7,bp,cj=>gA.mK N (gA.nI N N) (gA.l7 N n) x1 x2 x3 x8 bo a7 bp cj
def gA.b(q3:gA.eP)(a0:ae)(a1:aE)(a2:au)(a3:Int):Option (aM×(Int)):=
 (oC N a0 a1).bind λr1=>cond (!r1) (some ((false,o6),1)) ((mQ N a0 a2).bind λr2=>cond (!r2) (some ((false,o6),1)) (cond (aX a3 0) (some ((false,o6),3)) (cond (dx (ℓ a0.1) a3) (some ((false,o6),3)) (q3 a1 a2 a3 (false,o6) (false,o6) (false,o6) (false,o6) 0))))
def gA(a0:ae)(a1:aE)(a2:au)(a3:Int):Option (aM×(Int)):=gA.b N (gA.l7 N N) a0 a1 a2 a3
abbrev kI.Nb:=aM→aM→aM→(List Int)→Int→Int→Int→Option aM
abbrev kI.eP:=aM→aM→aM→(List Int)→Int→Int→Int→Option aM
abbrev kI.dP:=aM→aM→aM→(List Int)→Int→Option aM
def kI.JF(dw:kI.dP)(eR:kI.eP)(x2 x3 x4:aM)(x5:List Int)(x6 x7 x8:Int):Option aM:=
 let v7:Int:=W .i64 (x6+x8);cond (bf v7 (ℓ x5)) (cond (bf x6 (ℓ x2.2.1)) ((F93 N x3.2.1 x8).bind λr8=>let v11:Int:=W .u64 (x7+(W .u64 ((γ x5 v7.toNat 0)+(W .u64 ((γ x2.2.1 x6.toNat 0)*r8)))));let Vm:Int:=W .i64 (x6+x8);cond (bf Vm (ℓ x5)) (cond (aX 32 0) none (eR x2 x3 x4 (List.set x5 Vm.toNat (ss .and .u64 v11 4294967295)) x6 (shr .u64 v11 32) (W .i64 (x8+1)))) none) none) none
def kI.j9(dw:kI.dP)(eR:kI.eP)(x2 x3 x4:aM)(x5:List Int)(x6 x7 x8:Int):Option aM:=kI.JF N dw eR x2 x3 x4 x5 x6 x7 x8
def kI.mK(N:Nat)(Cw:kI.Nb)(dw:kI.dP)(eR:kI.eP)(x2 x3 x4:aM)(x5:List Int)(x6 x7 x8:Int):Option aM:=
 cond (aX x8 (ℓ x3.2.1)) (Cw x2 x3 x4 x5 x6 x7 x8) (cond (aX 0 x7) (Cw x2 x3 x4 x5 x6 x7 x8) (dw x2 x3 x4 x5 (W .i64 (x6+1))))
def kI.l7(N:Nat)(dw:kI.dP):Nat→kI.eP
 |0,_,_,_,_,_,_,_=>none
 |n+1,x2,x3,x4,x5,x6,x7,x8=>kI.mK N (kI.j9 N dw (kI.l7 N dw n)) dw (kI.l7 N dw n) x2 x3 x4 x5 x6 x7 x8
def kI.m3(q3:kI.eP)(dw:kI.dP)(x2 x3 x4:aM)(x5:List Int)(x6:Int):Option aM:=
 cond (aX x6 (ℓ x2.2.1)) (q3 x2 x3 x4 x5 x6 0 0) ((Wk N (!(pb .bool x2.1 x3.1)) x5).bind λyH=>some yH)
def kI.l3(N:Nat):Nat→kI.dP
 |0,_,_,_,_,_=>none
 |n+1,x2,x3,x4,x5,x6=>kI.m3 N (kI.l7 N (kI.l3 N n) N) (kI.l3 N n) x2 x3 x4 x5 x6
def kI.b(N:Nat)(oS:kI.dP)(a0 a1:aM):Option aM:=
 let v2:Int:=W .i64 ((W .i64 ((ℓ a0.2.1:Int)+(ℓ a1.2.1:Int)))+1);cond (kW v2 v2) (oS a0 a1 (false,o6) (List.replicate v2.toNat 0) 0) none
def kI(a0 a1:aM):Option aM:=kI.b N (kI.l3 N N) a0 a1
abbrev nR.bL:=aE→au→ae→aM→aM→Int→Option (aM×(Int))
def nR.dU(bQ:nR.bL)(x1:aE)(x2:au)(x3:ae)(x6 x8:aM)(x9:Int):Option (aM×(Int)):=
 cond (aX x9 (ℓ x3.1)) ((gA N x3 x1 x2 x9).bind λr4=>cond (bf x9 (ℓ x3.1)) ((kR N (γ x3.1 x9.toNat ba).2.2.1).bind λr5=>(kI N r4.1 r5).bind λr6=>(Ak N x8 r6).bind λr7=>bQ x1 x2 x3 x6 r7 (W .i64 (x9+1))) none) (some (x8,0))
def nR.l5(N:Nat):Nat→nR.bL
 |0,_,_,_,_,_,_=>none
 |n+1,x1,x2,x3,x6,x8,x9=>nR.dU N (nR.l5 N n) x1 x2 x3 x6 x8 x9
def nR.b(eX:nR.bL)(a0:ae)(a1:aE)(a2:au):Option (aM×(Int)):=
 (oC N a0 a1).bind λr1=>cond (!r1) (some ((false,o6),1)) ((mQ N a0 a2).bind λr2=>cond (!r2) (some ((false,o6),1)) (eX a1 a2 a0 (false,o6) (false,o6) 0))
def nR(a0:ae)(a1:aE)(a2:au):Option (aM×(Int)):=nR.b N (nR.l5 N N) a0 a1 a2
def PZ(a0:ae)(a1:an)(a2:Int)(a3:aY):Option aM:=
 cond (small (ℓ du+ℓ a1.2.2.2.2.2.1)) (let v1:List ((Int)×((Int)×((Int)×((Int)×((Int)×((Int)×(Unit))))))):=du++a1.2.2.2.2.2.1;cond (small (ℓ v1+ℓ a3)) ((mP N a1.2.2.2.1 a2).bind λr3=>(fm N (v1++a3) a2).bind λr4=>(nR N a0 r3 r4).bind λr5=>some r5.1) none) none
def Xi(a0:ae)(a1:an)(a2 a3:Int):Option (an×(Int)):=
 (gG N a0 a1).bind λr1=>cond (!r1) (some ((ch,(cT,(bq,(bq,(dg,(du,())))))),1)) (cond (aX a3 1) (some ((ch,(cT,(bq,(bq,(dg,(du,())))))),1)) ((Ws N a1.2.1 a2).bind λr2=>cond (!r2.2) (some ((ch,(cT,(bq,(bq,(dg,(du,())))))),3)) ((UC N a1.1 r2.1.2.1).bind λr3=>cond (!aN r3 1) (some ((ch,(cT,(bq,(bq,(dg,(du,())))))),7)) ((vy N a1.2.2.1 5 a2).bind λr4=>(kR N r4).bind λr5=>(kR N a3).bind λr6=>(SC N r5 r6).bind λr7=>(PZ N a0 a1 a2 du).bind λr8=>(Nu N r7 r8).bind λr9=>cond (aX r9 0) (some ((ch,(cT,(bq,(bq,(dg,(du,())))))),10)) ((kR N a3).bind λkT=>(Dq N 5 a2 1 0 kT).bind λm6=>(zB N a1 bq m6).bind λoU=>some (oU.1,oU.2))))))
def It(a0:aR)(a1:Int):Option Int:=
 (UC N a0.2.2.1.1 a1).bind λr1=>some r1
abbrev oL.kd:=Int→Int→aO→Int→Option (aO×(Int))
def oL.Ef(N:Nat)(gI:oL.kd)(x1 x2:Int)(bo:aO)(a7:Int):Option (aO×(Int)):=
 cond (aX a7 (ℓ bo)) (cond (bf a7 (ℓ bo)) (cond (aN (γ bo a7.toNat ba).1 x1) (cond (bf a7 (ℓ bo)) (gI x1 x2 (List.set bo a7.toNat ((γ bo a7.toNat ba).1,((γ bo a7.toNat ba).2.1,((γ bo a7.toNat ba).2.2.1,(x2,(γ bo a7.toNat ba).2.2.2.2))))) (W .i64 (a7+1))) none) (gI x1 x2 bo (W .i64 (a7+1)))) none) (some (bo,0))
def oL.l8(N:Nat):Nat→oL.kd
 |0,_,_,_,_=>none
 |n+1,x1,x2,bo,a7=>oL.Ef N (oL.l8 N n) x1 x2 bo a7
def oL.b(IX:oL.kd)(a0:aO)(a1 a2:Int):Option (aO×(Int)):=
 (e8 N a0).bind λr1=>cond (!r1) (some ([],1)) (cond (aX a2 0) (some ([],1)) (cond (aX 1000000000000 a2) (some ([],1)) ((oX N a0 a1).bind λr2=>cond (!r2.2) (some ([],3)) (cond (small (ℓ cT+ℓ a0)) (IX a1 a2 (cT++a0) 0) none))))
def oL(a0:aO)(a1 a2:Int):Option (aO×(Int)):=oL.b N (oL.l8 N N) a0 a1 a2
def adH(a0:fX)(a1:Int):Option (aM×(Int)):=
 (SM N a0).bind λr1=>cond (!r1) (some ((false,o6),1)) ((E2 N a1).bind λr2=>cond (!r2) (some ((false,o6),1)) (let v3:Int:=W .i64 (a0.2.2.2.2.2.1-a1);cond (aN a0.2.2.2.1 2) (let v4:Int:=W .i64 (a1-a0.2.2.2.2.2.1);cond (aX v4 0) (some ((false,o6),0)) ((kR N a0.2.2.2.2.1).bind λr5=>(kR N v4).bind λr6=>(kI N r5 r6).bind λr7=>some (r7,0))) (cond (aX v3 0) (some ((false,o6),0)) ((kR N a0.2.2.2.2.1).bind λr8=>(kR N v3).bind λr9=>(kI N r8 r9).bind λkT=>some (kT,0)))))
def aam(a0:ae)(a1:an)(a2:fX):Option Int:=
 (gG N a0 a1).bind λr1=>cond (!r1) (some 1) ((SM N a2).bind λr2=>cond (!r2) (some 1) ((Ws N a1.2.1 a2.2.1).bind λr3=>cond (!r3.2) (some 3) ((UC N a1.1 r3.1.2.1).bind λr4=>cond (!aN r4 1) (some 7) (cond (dx (ℓ a0.1) a2.2.2.1) (some 3) (cond (small (ℓ du+ℓ a1.2.2.2.2.2.1)) (let v5:List ((Int)×((Int)×((Int)×((Int)×((Int)×((Int)×(Unit))))))):=du++a1.2.2.2.2.2.1;cond (small (ℓ v5+ℓ ([a2]))) ((mP N a1.2.2.2.1 a2.2.1).bind λr7=>(fm N (v5++([a2])) a2.2.1).bind λr8=>(gA N a0 r7 r8 a2.2.2.1).bind λr9=>(kR N r3.1.2.2.2.1).bind λkT=>(Nu N r9.1 kT).bind λm6=>cond (aX 0 m6) (some 9) (cond (bf a2.2.2.1 (ℓ a1.2.2.2.2.1)) ((adH N a2 (γ a1.2.2.2.2.1 a2.2.2.1.toNat 0)).bind λoU=>(vy N a1.2.2.1 5 a2.2.1).bind λnW=>(kR N nW).bind λrG=>(SC N rG oU.1).bind λuD=>(PZ N a0 a1 a2.2.1 ([a2])).bind λwG=>(Nu N uD wG).bind λyA=>cond (aX yA 0) (some 10) (some 0)) none)) none) none)))))
def Xh(N:Nat)(a0 a1:fX):Option Bool:=
 cond (!aN a0.2.2.2.2.2.1 a1.2.2.2.2.2.1) (some (pb .bool (aX a1.2.2.2.2.2.1 a0.2.2.2.2.2.1) (aN a0.2.2.2.1 1))) (some (aX a0.1 a1.1))
abbrev ej.IZ:=aY→Int→Int→aY→Int→Int→Option aY
abbrev ej.lE:=aY→Int→Int→aY→Int→Int→Option aY
abbrev ej.bL:=aY→Int→Int→aY→Int→Option aY
def ej.ym(N:Nat)(bQ:ej.bL)(x0:aY)(x1 x2:Int)(x7:aY)(x8 x9:Int):Option aY:=
 cond (jt 0 x9 (ℓ x7) (ℓ x7)) (let v9:List ((Int)×((Int)×((Int)×((Int)×((Int)×((Int)×(Unit))))))):=List.drop (0:Int).toNat (List.take x9.toNat x7);cond (small (ℓ v9)) (cond (bf x8 (ℓ x0)) (cond (small (ℓ v9+ℓ ([γ x0 x8.toNat dS]))) (let v10:List ((Int)×((Int)×((Int)×((Int)×((Int)×((Int)×(Unit))))))):=v9++([γ x0 x8.toNat dS]);cond (jt x9 (ℓ x7) (ℓ x7) (ℓ x7)) (let v11:List ((Int)×((Int)×((Int)×((Int)×((Int)×((Int)×(Unit))))))):=List.drop x9.toNat (List.take (ℓ x7:Int).toNat x7);cond (small (ℓ v10+ℓ v11)) (bQ x0 x1 x2 (v10++v11) (W .i64 (x8+1))) none) none) none) none) none) none
def ej.E9(bQ:ej.bL)(x0:aY)(x1 x2:Int)(x7:aY)(x8 x9:Int):Option aY:=ej.ym N bQ x0 x1 x2 x7 x8 x9
def ej.vd(yJ:ej.IZ)(bQ:ej.bL)(o4:ej.lE)(x0:aY)(x1 x2:Int)(x7:aY)(x8 x9:Int):Option aY:=
 cond (aX x9 (ℓ x7)) (cond (bf x9 (ℓ x7)) (cond (bf x8 (ℓ x0)) ((Xh N (γ x7 x9.toNat dS) (γ x0 x8.toNat dS)).bind λr6=>cond (r6) (o4 x0 x1 x2 x7 x8 (W .i64 (x9+1))) (yJ x0 x1 x2 x7 x8 x9)) none) none) (yJ x0 x1 x2 x7 x8 x9)
def ej.l9(N:Nat)(bQ:ej.bL):Nat→ej.lE
 |0,_,_,_,_,_,_=>none
 |n+1,x0,x1,x2,x7,x8,x9=>ej.vd N (ej.E9 N bQ) bQ (ej.l9 N bQ n) x0 x1 x2 x7 x8 x9
def ej.dU(N:Nat)(yI:ej.lE)(bQ:ej.bL)(x0:aY)(x1 x2:Int)(x7:aY)(x8:Int):Option aY:=
 cond (aX x8 (ℓ x0)) (cond (bf x8 (ℓ x0)) (cond (!aN (γ x0 x8.toNat dS).2.2.1 x1) (bQ x0 x1 x2 x7 (W .i64 (x8+1))) (cond (bf x8 (ℓ x0)) (cond (!aN (γ x0 x8.toNat dS).2.2.2.1 x2) (bQ x0 x1 x2 x7 (W .i64 (x8+1))) (yI x0 x1 x2 x7 x8 0)) none)) none) (some x7)
def ej.l5(N:Nat):Nat→ej.bL
 |0,_,_,_,_,_=>none
 |n+1,x0,x1,x2,x7,x8=>ej.dU N (ej.l9 N (ej.l5 N n) N) (ej.l5 N n) x0 x1 x2 x7 x8
def ej.b(eX:ej.bL)(a0:aY)(a1 a2:Int):Option aY:=
 (nQ N a0).bind λr1=>cond (!r1) (some ([])) (eX a0 a1 a2 ([]) 0)
def ej(a0:aY)(a1 a2:Int):Option aY:=ej.b N (ej.l5 N N) a0 a1 a2
abbrev cC.yL:=aY→Int→bh→aY→Int→Option (aY×bh×(Int)×(Int))
abbrev cC.arj:=aY→Int→bh→Option (aY×bh×(Int)×(Int))
abbrev cC.yM:=fX→aY→Int→bh→aY→Int→Int→Int→Option (aY×bh×(Int)×(Int))
abbrev cC.IY:=fX→aY→Int→bh→aY→Int→Int→iE→Option (aY×bh×(Int)×(Int))
abbrev cC.Lu:=fX→aY→Int→bh→aY→Int→Option (aY×bh×(Int)×(Int))
abbrev cC.eP:=fX→aY→Int→bh→aY→Int→Option (aY×bh×(Int)×(Int))
def cC.P4(N:Nat)(wX:cC.yL)(x8:aY)(x9:Int)(bo:bh)(fy:aY)(gg:Int):Option (aY×bh×(Int)×(Int)):=
 cond (aX gg (ℓ x8)) (cond (bf gg (ℓ x8)) (cond (aX 0 (γ x8 gg.toNat dS).2.2.2.2.1) (cond (bf gg (ℓ x8)) (cond (small (ℓ fy+ℓ ([γ x8 gg.toNat dS]))) (wX x8 x9 bo (fy++([γ x8 gg.toNat dS])) (W .i64 (gg+1))) none) none) (wX x8 x9 bo fy (W .i64 (gg+1)))) none) (some (fy,bo,x9,0))
def cC.Ny(N:Nat):Nat→cC.yL
 |0,_,_,_,_,_=>none
 |n+1,x8,x9,bo,fy,gg=>cC.P4 N (cC.Ny N n) x8 x9 bo fy gg
def cC.adP(N:Nat)(abv:cC.yL)(x8:aY)(x9:Int)(bo:bh):Option (aY×bh×(Int)×(Int)):=
 abv x8 x9 bo ([]) 0
def cC.j22(x8:aY)(x9:Int)(bo:bh):Option (aY×bh×(Int)×(Int)):=cC.adP N (cC.Ny N N) x8 x9 bo
def cC.Fh(N:Nat)(eR:cC.eP)(I1:cC.yM)(x3:fX)(x8:aY)(x9:Int)(bo:bh)(a7:aY)(bp cj eu:Int):Option (aY×bh×(Int)×(Int)):=
 cond (aX eu (ℓ x8)) (cond (bf eu (ℓ x8)) (cond (bf bp (ℓ a7)) (cond (aN (γ x8 eu.toNat dS).1 (γ a7 bp.toNat dS).1) (cond (bf eu (ℓ x8)) (cond (bf eu (ℓ x8)) (I1 x3 (List.set x8 eu.toNat ((γ x8 eu.toNat dS).1,((γ x8 eu.toNat dS).2.1,((γ x8 eu.toNat dS).2.2.1,((γ x8 eu.toNat dS).2.2.2.1,((W .i64 ((γ x8 eu.toNat dS).2.2.2.2.1-cj)),(γ x8 eu.toNat dS).2.2.2.2.2)))))) x9 bo a7 bp cj (W .i64 (eu+1))) none) none) (I1 x3 x8 x9 bo a7 bp cj (W .i64 (eu+1)))) none) none) (eR x3 x8 x9 bo a7 (W .i64 (bp+1)))
def cC.Ji(N:Nat)(eR:cC.eP):Nat→cC.yM
 |0,_,_,_,_,_,_,_,_=>none
 |n+1,x3,x8,x9,bo,a7,bp,cj,eu=>cC.Fh N eR (cC.Ji N eR n) x3 x8 x9 bo a7 bp cj eu
def cC.xa(N:Nat)(QJ:cC.yM)(eR:cC.eP)(x3:fX)(x8:aY)(x9:Int)(bo:bh)(a7:aY)(bp cj:Int)(cZ:iE):Option (aY×bh×(Int)×(Int)):=
 cond (small (ℓ bo+ℓ ([cZ]))) (QJ x3 x8 (W .i64 (x9-cj)) (bo++([cZ])) a7 bp cj 0) none
def cC.Dn(eR:cC.eP)(x3:fX)(x8:aY)(x9:Int)(bo:bh)(a7:aY)(bp cj:Int)(cZ:iE):Option (aY×bh×(Int)×(Int)):=cC.xa N (cC.Ji N eR N) eR x3 x8 x9 bo a7 bp cj cZ
def cC.Da(N:Nat)(wW:cC.IY)(eR:cC.eP)(x3:fX)(x8:aY)(x9:Int)(bo:bh)(a7:aY)(bp:Int):Option (aY×bh×(Int)×(Int)):=
 cond (bf bp (ℓ a7)) (cond (aN (γ a7 bp.toNat dS).2.1 x3.2.1) (eR x3 x8 x9 bo a7 (W .i64 (bp+1))) (cond (bf bp (ℓ a7)) (let v14:Int:=mn x9 (γ a7 bp.toNat dS).2.2.2.2.1;cond (bf bp (ℓ a7)) (cond (bf bp (ℓ a7)) (cond (aN x3.2.2.2.1 2) (cond (bf bp (ℓ a7)) (wW x3 x8 x9 bo a7 bp v14 ((γ a7 bp.toNat dS).2.1,(x3.2.1,(x3.2.2.1,(v14,((γ a7 bp.toNat dS).2.2.2.2.2.1,())))))) none) (wW x3 x8 x9 bo a7 bp v14 (x3.2.1,((γ a7 bp.toNat dS).2.1,(x3.2.2.1,(v14,((γ a7 bp.toNat dS).2.2.2.2.2.1,()))))))) none) none) none)) none
def cC.JN(eR:cC.eP)(x3:fX)(x8:aY)(x9:Int)(bo:bh)(a7:aY)(bp:Int):Option (aY×bh×(Int)×(Int)):=cC.Da N (cC.Dn N eR) eR x3 x8 x9 bo a7 bp
def cC.mK(N:Nat)(QK:cC.arj)(yN:cC.Lu)(eR:cC.eP)(x3:fX)(x8:aY)(x9:Int)(bo:bh)(a7:aY)(bp:Int):Option (aY×bh×(Int)×(Int)):=
 cond (aX bp (ℓ a7)) (cond (aX 0 x9) (cond (aN x3.2.2.2.1 1) (cond (bf bp (ℓ a7)) (cond (aX x3.2.2.2.2.2.1 (γ a7 bp.toNat dS).2.2.2.2.2.1) (QK x8 x9 bo) (cond (aN x3.2.2.2.1 2) (cond (bf bp (ℓ a7)) (cond (aX (γ a7 bp.toNat dS).2.2.2.2.2.1 x3.2.2.2.2.2.1) (QK x8 x9 bo) (yN x3 x8 x9 bo a7 bp)) none) (yN x3 x8 x9 bo a7 bp))) none) (cond (aN x3.2.2.2.1 2) (cond (bf bp (ℓ a7)) (cond (aX (γ a7 bp.toNat dS).2.2.2.2.2.1 x3.2.2.2.2.2.1) (QK x8 x9 bo) (yN x3 x8 x9 bo a7 bp)) none) (yN x3 x8 x9 bo a7 bp))) (QK x8 x9 bo)) (QK x8 x9 bo)
def cC.l7(N:Nat):Nat→cC.eP
 |0,_,_,_,_,_,_=>none
 |n+1,x3,x8,x9,bo,a7,bp=>cC.mK N (cC.j22 N) (cC.JN N (cC.l7 N n)) (cC.l7 N n) x3 x8 x9 bo a7 bp
def cC.b(q3:cC.eP)(a0:aY)(a1:fX):Option (aY×bh×(Int)×(Int)):=
 (nQ N a0).bind λr1=>cond (!r1) (some ([],[],0,1)) ((SM N a1).bind λr2=>cond (!r2) (some ([],[],0,1)) (cond (small (ℓ du+ℓ a0)) ((ej N a0 a1.2.2.1 (W .i64 (3-a1.2.2.2.1))).bind λr5=>q3 a1 (du++a0) a1.2.2.2.2.1 ([]) r5 0) none))
def cC(a0:aY)(a1:fX):Option (aY×bh×(Int)×(Int)):=cC.b N (cC.l7 N N) a0 a1
def ZW(a0:iE):Option Bool:=
 cond (dx 0 a0.1) (cond (dx a0.1 24) (cond (dx 0 a0.2.1) (cond (dx a0.2.1 24) (cond (!aN a0.1 a0.2.1) (cond (dx 0 a0.2.2.1) (cond (aX a0.2.2.1 6) (cond (dx 1 a0.2.2.2.1) (cond (dx a0.2.2.2.1 1000000000) ((E2 N a0.2.2.2.2.1).bind λr1=>some r1) (some false)) (some false)) (some false)) (some false)) (some false)) (some false)) (some false)) (some false)) (some false)
def Mr(N:Nat)(a0:Int):Option ((Int)×(Int)):=
 cond (aN a0 0) (some (2,0)) (some (5,a0))
def Py(a0:iE)(a1:Int):Option (bM×(Int)):=
 (ZW N a0).bind λr1=>cond (!r1) (some ([],1)) ((E2 N a1).bind λr2=>cond (!r2) (some ([],1)) ((kR N (W .i64 (a1-a0.2.2.2.2.1))).bind λr4=>(kR N a0.2.2.2.1).bind λr5=>(kI N r4 r5).bind λr6=>(Uw N r6).bind λr7=>cond (aN r7 0) (some ([],0)) ((Mr N a0.1).bind λr8=>(Mr N a0.2.1).bind λr9=>(X7 N r6).bind λkT=>some ([(r8.1,(r8.2,(r6,()))),(r9.1,(r9.2,(kT,())))],0))))
abbrev fk.yO:=bh→ae→an→an→au→bM→Int→Option (an×(Int))
abbrev fk.bN:=bh→ae→an→an→Int→Option (an×(Int))
def fk.yq(Cy:fk.yO)(x2:bh)(x3:ae)(x4 x6:an)(x9:au)(bo:bM)(a7:Int):Option (an×(Int)):=
 cond (aX a7 (ℓ x2)) (cond (bf a7 (ℓ x2)) ((Mi N x4 (γ x2 a7.toNat gq).1).bind λr6=>cond (!r6) (some ((ch,(cT,(bq,(bq,(dg,(du,())))))),3)) ((Mi N x4 (γ x2 a7.toNat gq).2.1).bind λr7=>cond (!r7) (some ((ch,(cT,(bq,(bq,(dg,(du,())))))),3)) (cond (dx (ℓ x3.1) (γ x2 a7.toNat gq).2.2.1) (some ((ch,(cT,(bq,(bq,(dg,(du,())))))),3)) (let v8:Int:=W .i64 (0-((γ x2 a7.toNat gq).2.2.2.1));cond (small (ℓ x9+ℓ ([((γ x2 a7.toNat gq).1,((γ x2 a7.toNat gq).2.2.1,((γ x2 a7.toNat gq).2.2.2.1,()))),((γ x2 a7.toNat gq).2.1,((γ x2 a7.toNat gq).2.2.1,(v8,())))]))) (cond (bf (γ x2 a7.toNat gq).2.2.1 (ℓ x4.2.2.2.2.1)) ((Py N (γ x2 a7.toNat gq) (γ x4.2.2.2.2.1 (γ x2 a7.toNat gq).2.2.1.toNat 0)).bind λkT=>cond (small (ℓ bo+ℓ kT.1)) (Cy x2 x3 x4 x6 (x9++([((γ x2 a7.toNat gq).1,((γ x2 a7.toNat gq).2.2.1,((γ x2 a7.toNat gq).2.2.2.1,()))),((γ x2 a7.toNat gq).2.1,((γ x2 a7.toNat gq).2.2.1,(v8,())))])) (bo++kT.1) (W .i64 (a7+1))) none) none) none)))) none) ((zB N x4 x9 bo).bind λnW=>some (nW.1,nW.2))
def fk.Ar(N:Nat):Nat→fk.yO
 |0,_,_,_,_,_,_,_=>none
 |n+1,x2,x3,x4,x6,x9,bo,a7=>fk.yq N (fk.Ar N n) x2 x3 x4 x6 x9 bo a7
def fk.dL(QL:fk.yO)(cG:fk.bN)(x2:bh)(x3:ae)(x4 x6:an)(x8:Int):Option (an×(Int)):=
 cond (aX x8 (ℓ x2)) (cond (bf x8 (ℓ x2)) ((ZW N (γ x2 x8.toNat gq)).bind λr3=>cond (!r3) (some ((ch,(cT,(bq,(bq,(dg,(du,())))))),1)) (cG x2 x3 x4 x6 (W .i64 (x8+1)))) none) (QL x2 x3 x4 x6 ([]) ([]) 0)
def fk.l4(N:Nat):Nat→fk.bN
 |0,_,_,_,_,_=>none
 |n+1,x2,x3,x4,x6,x8=>fk.dL N (fk.Ar N N) (fk.l4 N n) x2 x3 x4 x6 x8
def fk.b(eW:fk.bN)(a0:ae)(a1:an)(a2:bh):Option (an×(Int)):=
 (gG N a0 a1).bind λr1=>cond (!r1) (some ((ch,(cT,(bq,(bq,(dg,(du,())))))),1)) (cond (aX 200 (ℓ a2)) (some ((ch,(cT,(bq,(bq,(dg,(du,())))))),1)) (eW a2 a0 a1 (ch,(cT,(bq,(bq,(dg,(du,())))))) 0))
def fk(a0:ae)(a1:an)(a2:bh):Option (an×(Int)):=fk.b N (fk.l4 N N) a0 a1 a2
abbrev ka.Lu:=ae→an→fX→an→aY→bh→Int→Option (an×bh×(Int)×(Int))
abbrev ka.abj:=ae→an→fX→an→Option (an×bh×(Int)×(Int))
def ka.Da(x3:ae)(x4:an)(x5:fX)(x6:an)(bp:aY)(cj:bh)(cZ:Int):Option (an×bh×(Int)×(Int)):=
 (fk N x3 x4 cj).bind λr6=>cond (!aN r6.2 0) (some ((ch,(cT,(bq,(bq,(dg,(du,())))))),DO,0,r6.2)) (cond (aX 0 cZ) (cond (small (ℓ bp+ℓ ([(x5.1,(x5.2.1,(x5.2.2.1,(x5.2.2.2.1,(cZ,x5.2.2.2.2.2)))))]))) (some ((r6.1.1,(r6.1.2.1,(r6.1.2.2.1,(r6.1.2.2.2.1,(r6.1.2.2.2.2.1,((bp++([(x5.1,(x5.2.1,(x5.2.2.1,(x5.2.2.2.1,(cZ,x5.2.2.2.2.2)))))])),r6.1.2.2.2.2.2.2)))))),cj,cZ,0)) none) (some ((r6.1.1,(r6.1.2.1,(r6.1.2.2.1,(r6.1.2.2.2.1,(r6.1.2.2.2.2.1,(bp,r6.1.2.2.2.2.2.2)))))),cj,cZ,0)))
def ka.JN(x3:ae)(x4:an)(x5:fX)(x6:an)(bp:aY)(cj:bh)(cZ:Int):Option (an×bh×(Int)×(Int)):=ka.Da N x3 x4 x5 x6 bp cj cZ
def ka.X9(yN:ka.Lu)(x3:ae)(x4:an)(x5:fX)(x6:an):Option (an×bh×(Int)×(Int)):=
 (cC N x4.2.2.2.2.2.1 x5).bind λr4=>cond (aX 0 r4.2.2.1) (cond (aN (ℓ r4.1) 32) (some ((ch,(cT,(bq,(bq,(dg,(du,())))))),DO,0,5)) (yN x3 x4 x5 x6 r4.1 r4.2.1 r4.2.2.1)) (yN x3 x4 x5 x6 r4.1 r4.2.1 r4.2.2.1)
def ka.j7(x3:ae)(x4:an)(x5:fX)(x6:an):Option (an×bh×(Int)×(Int)):=ka.X9 N (ka.JN N) x3 x4 x5 x6
def ka.b(J0:ka.abj)(a0:ae)(a1:an)(a2:fX):Option (an×bh×(Int)×(Int)):=
 (aam N a0 a1 a2).bind λr1=>cond (!aN r1 0) (some ((ch,(cT,(bq,(bq,(dg,(du,())))))),DO,0,r1)) (cond (aX 0 (ℓ a1.2.2.2.2.2.1)) (let v2:Int:=W .i64 ((ℓ a1.2.2.2.2.2.1:Int)-1);cond (bf v2 (ℓ a1.2.2.2.2.2.1)) (cond (dx a2.1 (γ a1.2.2.2.2.2.1 v2.toNat dS).1) (some ((ch,(cT,(bq,(bq,(dg,(du,())))))),DO,0,1)) (J0 a0 a1 a2 (ch,(cT,(bq,(bq,(dg,(du,())))))))) none) (J0 a0 a1 a2 (ch,(cT,(bq,(bq,(dg,(du,()))))))))
def ka(a0:ae)(a1:an)(a2:fX):Option (an×bh×(Int)×(Int)):=ka.b N (ka.j7 N) a0 a1 a2
abbrev oN.bL:=aY→Int→Int→aY→Int→Option (aY×(Int))
def oN.dU(N:Nat)(bQ:oN.bL)(x0:aY)(x1 x2:Int)(x8:aY)(x9:Int):Option (aY×(Int)):=
 cond (aX x9 (ℓ x0)) (cond (bf x9 (ℓ x0)) (cond (!aN (γ x0 x9.toNat dS).1 x2) (cond (bf x9 (ℓ x0)) (cond (small (ℓ x8+ℓ ([γ x0 x9.toNat dS]))) (bQ x0 x1 x2 (x8++([γ x0 x9.toNat dS])) (W .i64 (x9+1))) none) none) (cond (bf x9 (ℓ x0)) (cond (!aN (γ x0 x9.toNat dS).2.1 x1) (cond (bf x9 (ℓ x0)) (cond (small (ℓ x8+ℓ ([γ x0 x9.toNat dS]))) (bQ x0 x1 x2 (x8++([γ x0 x9.toNat dS])) (W .i64 (x9+1))) none) none) (bQ x0 x1 x2 x8 (W .i64 (x9+1)))) none)) none) (cond (aN (ℓ x8) (ℓ x0)) (some ([],3)) (some (x8,0)))
def oN.l5(N:Nat):Nat→oN.bL
 |0,_,_,_,_,_=>none
 |n+1,x0,x1,x2,x8,x9=>oN.dU N (oN.l5 N n) x0 x1 x2 x8 x9
def oN.b(eX:oN.bL)(a0:aY)(a1 a2:Int):Option (aY×(Int)):=
 (nQ N a0).bind λr1=>cond (!r1) (some ([],1)) (eX a0 a1 a2 ([]) 0)
def oN(a0:aY)(a1 a2:Int):Option (aY×(Int)):=oN.b N (oN.l5 N N) a0 a1 a2
abbrev kk.kA:=au→Int→bM→aM→Int→Option (bM×(Int))
def kk.u7(lC:kk.kA)(x0:au)(x1:Int)(bo:bM)(a7:aM)(bp:Int):Option (bM×(Int)):=
 cond (aX bp (ℓ x0)) (cond (bf bp (ℓ x0)) (cond (!aN (γ x0 bp.toNat bb).2.1 x1) (lC x0 x1 bo a7 (W .i64 (bp+1))) ((Uw N a7).bind λr9=>cond (aN r9 0) (lC x0 x1 bo a7 (W .i64 (bp+1))) (cond (bf bp (ℓ x0)) ((Mr N (γ x0 bp.toNat bb).1).bind λm6=>cond (bf bp (ℓ x0)) ((kR N (γ x0 bp.toNat bb).2.2.1).bind λoU=>(kI N oU a7).bind λnW=>cond (small (ℓ bo+ℓ ([(m6.1,(m6.2,(nW,())))]))) (lC x0 x1 (bo++([(m6.1,(m6.2,(nW,())))])) a7 (W .i64 (bp+1))) none) none) none))) none) (some (bo,0))
def kk.l6(N:Nat):Nat→kk.kA
 |0,_,_,_,_,_=>none
 |n+1,x0,x1,bo,a7,bp=>kk.u7 N (kk.l6 N n) x0 x1 bo a7 bp
def kk.b(yG:kk.kA)(a0:au)(a1 a2 a3:Int):Option (bM×(Int)):=
 (AH N a0).bind λr1=>cond (!r1) (some ([],1)) ((E2 N a2).bind λr2=>cond (!r2) (some ([],1)) ((E2 N a3).bind λr3=>cond (!r3) (some ([],1)) ((kR N a3).bind λr4=>(kR N a2).bind λr5=>(SC N r4 r5).bind λr6=>yG a0 a1 ([]) r6 0)))
def kk(a0:au)(a1 a2 a3:Int):Option (bM×(Int)):=kk.b N (kk.l6 N N) a0 a1 a2 a3
def MK(a0:ae)(a1:an)(a2 a3:Int):Option (an×bM×(Int)):=
 (gG N a0 a1).bind λr1=>cond (!r1) (some ((ch,(cT,(bq,(bq,(dg,(du,())))))),([]:List ((Int)×((Int)×(((Bool)×((List Int)×(Unit)))×(Unit))))),1)) ((E2 N a3).bind λr2=>cond (!r2) (some ((ch,(cT,(bq,(bq,(dg,(du,())))))),([]:List ((Int)×((Int)×(((Bool)×((List Int)×(Unit)))×(Unit))))),1)) (cond (aX a2 0) (some ((ch,(cT,(bq,(bq,(dg,(du,())))))),([]:List ((Int)×((Int)×(((Bool)×((List Int)×(Unit)))×(Unit))))),3)) (cond (dx (ℓ a0.1) a2) (some ((ch,(cT,(bq,(bq,(dg,(du,())))))),([]:List ((Int)×((Int)×(((Bool)×((List Int)×(Unit)))×(Unit))))),3)) (cond (bf a2 (ℓ a1.2.2.2.2.1)) ((kk N a1.2.2.2.1 a2 (γ a1.2.2.2.2.1 a2.toNat 0) a3).bind λr3=>(zB N a1 bq r3.1).bind λr4=>cond (!aN r4.2 0) (some ((ch,(cT,(bq,(bq,(dg,(du,())))))),([]:List ((Int)×((Int)×(((Bool)×((List Int)×(Unit)))×(Unit))))),r4.2)) (cond (small (ℓ dg+ℓ a1.2.2.2.2.1)) (let v5:List Int:=dg++a1.2.2.2.2.1;cond (bf a2 (ℓ v5)) (some ((r4.1.1,(r4.1.2.1,(r4.1.2.2.1,(r4.1.2.2.2.1,((List.set v5 a2.toNat a3),r4.1.2.2.2.2.2))))),r3.1,0)) none) none)) none))))
abbrev rH.cX:=aE→Int→Option Bool
def rH.fI(N:Nat)(dV:rH.cX)(x0:aE)(x3:Int):Option Bool:=
 cond (aX x3 (ℓ x0)) (cond (bf x3 (ℓ x0)) (cond (aX (γ x0 x3.toNat c5).1 1) (some false) (cond (bf x3 (ℓ x0)) (cond (aX 24 (γ x0 x3.toNat c5).1) (some false) (cond (bf x3 (ℓ x0)) (cond (aN (γ x0 x3.toNat c5).2.1 0) (some false) (cond (aX 0 x3) (cond (bf x3 (ℓ x0)) (let v2:Int:=W .i64 (x3-1);cond (bf v2 (ℓ x0)) (cond (dx (γ x0 x3.toNat c5).1 (γ x0 v2.toNat c5).1) (some false) (dV x0 (W .i64 (x3+1)))) none) none) (dV x0 (W .i64 (x3+1))))) none)) none)) none) (some true)
def rH.l2(N:Nat):Nat→rH.cX
 |0,_,_=>none
 |n+1,x0,x3=>rH.fI N (rH.l2 N n) x0 x3
def rH.b(N:Nat)(gT:rH.cX)(a0:aE):Option Bool:=
 gT a0 0
def rH(a0:aE):Option Bool:=rH.b N (rH.l2 N N) a0
abbrev fu.yP:=aE→bM→aE→Int→aM→Int→Option (aE×(Int))
abbrev fu.lE:=aE→bM→aE→Int→aM→Int→Option (aE×(Int))
abbrev fu.bL:=aE→bM→aE→Int→Option (aE×(Int))
def fu.H5(bQ:fu.bL)(EM:fu.yP)(x0:aE)(x1:bM)(x6:aE)(x7:Int)(x8:aM)(bo:Int):Option (aE×(Int)):=
 cond (aX bo (ℓ x1)) (cond (bf bo (ℓ x1)) (cond (aN (γ x1 bo.toNat (0,(0,((false,o6),())))).1 5) (cond (bf bo (ℓ x1)) (cond (aN (γ x1 bo.toNat (0,(0,((false,o6),())))).2.1 x7) (cond (bf bo (ℓ x1)) ((Ak N x8 (γ x1 bo.toNat (0,(0,((false,o6),())))).2.2.1).bind λr8=>EM x0 x1 x6 x7 r8 (W .i64 (bo+1))) none) (EM x0 x1 x6 x7 x8 (W .i64 (bo+1)))) none) (EM x0 x1 x6 x7 x8 (W .i64 (bo+1)))) none) ((yd N x8).bind λoU=>cond (!oU.2) (some ([],2)) (cond (!aN oU.1 0) (cond (small (ℓ x6+ℓ ([(x7,(oU.1,()))]))) (bQ x0 x1 (x6++([(x7,(oU.1,()))])) (W .i64 (x7+1))) none) (bQ x0 x1 x6 (W .i64 (x7+1)))))
def fu.KR(N:Nat)(bQ:fu.bL):Nat→fu.yP
 |0,_,_,_,_,_,_=>none
 |n+1,x0,x1,x6,x7,x8,bo=>fu.H5 N bQ (fu.KR N bQ n) x0 x1 x6 x7 x8 bo
def fu.vd(QM:fu.yP)(bQ:fu.bL)(o4:fu.lE)(x0:aE)(x1:bM)(x6:aE)(x7:Int)(x8:aM)(x9:Int):Option (aE×(Int)):=
 cond (aX x9 (ℓ x0)) (cond (bf x9 (ℓ x0)) (cond (aN (γ x0 x9.toNat c5).1 x7) (cond (bf x9 (ℓ x0)) ((kR N (γ x0 x9.toNat c5).2.1).bind λr4=>o4 x0 x1 x6 x7 r4 (W .i64 (x9+1))) none) (o4 x0 x1 x6 x7 x8 (W .i64 (x9+1)))) none) (QM x0 x1 x6 x7 x8 0)
def fu.l9(N:Nat)(bQ:fu.bL):Nat→fu.lE
 |0,_,_,_,_,_,_=>none
 |n+1,x0,x1,x6,x7,x8,x9=>fu.vd N (fu.KR N bQ N) bQ (fu.l9 N bQ n) x0 x1 x6 x7 x8 x9
def fu.dU(N:Nat)(yI:fu.lE)(bQ:fu.bL)(x0:aE)(x1:bM)(x6:aE)(x7:Int):Option (aE×(Int)):=
 cond (dx x7 24) (yI x0 x1 x6 x7 (false,o6) 0) (some (x6,0))
def fu.l5(N:Nat):Nat→fu.bL
 |0,_,_,_,_=>none
 |n+1,x0,x1,x6,x7=>fu.dU N (fu.l9 N (fu.l5 N n) N) (fu.l5 N n) x0 x1 x6 x7
def fu.b(eX:fu.bL)(a0:aE)(a1:bM):Option (aE×(Int)):=
 (rH N a0).bind λr1=>cond (!r1) (some ([],1)) (eX a0 a1 ([]) 1)
def fu(a0:aE)(a1:bM):Option (aE×(Int)):=fu.b N (fu.l5 N N) a0 a1
def Xu(a0:aR)(a1:Int):Option ((Int)×(Bool)):=
 (kR N a0.1).bind λr1=>(kR N a1).bind λr2=>(Ak N r1 r2).bind λr3=>(yd N r3).bind λr4=>some (r4.1,r4.2)
def Xf(N:Nat)(a0 a1:Int):Option ((Int)×(Bool)):=
 cond (aN a0 0) (cond (aN a1 1) (some (1,true)) (cond (aN a0 1) (cond (aN a1 11) (some (2,true)) (cond (aN a0 2) (cond (aN a1 12) (some (1,true)) (cond (aN a0 2) (cond (aN a1 13) (some (3,true)) (cond (aN a0 3) (cond (aN a1 21) (some (4,true)) (some (0,false))) (some (0,false)))) (cond (aN a0 3) (cond (aN a1 21) (some (4,true)) (some (0,false))) (some (0,false))))) (cond (aN a0 2) (cond (aN a1 13) (some (3,true)) (cond (aN a0 3) (cond (aN a1 21) (some (4,true)) (some (0,false))) (some (0,false)))) (cond (aN a0 3) (cond (aN a1 21) (some (4,true)) (some (0,false))) (some (0,false)))))) (cond (aN a0 2) (cond (aN a1 12) (some (1,true)) (cond (aN a0 2) (cond (aN a1 13) (some (3,true)) (cond (aN a0 3) (cond (aN a1 21) (some (4,true)) (some (0,false))) (some (0,false)))) (cond (aN a0 3) (cond (aN a1 21) (some (4,true)) (some (0,false))) (some (0,false))))) (cond (aN a0 2) (cond (aN a1 13) (some (3,true)) (cond (aN a0 3) (cond (aN a1 21) (some (4,true)) (some (0,false))) (some (0,false)))) (cond (aN a0 3) (cond (aN a1 21) (some (4,true)) (some (0,false))) (some (0,false))))))) (cond (aN a0 1) (cond (aN a1 11) (some (2,true)) (cond (aN a0 2) (cond (aN a1 12) (some (1,true)) (cond (aN a0 2) (cond (aN a1 13) (some (3,true)) (cond (aN a0 3) (cond (aN a1 21) (some (4,true)) (some (0,false))) (some (0,false)))) (cond (aN a0 3) (cond (aN a1 21) (some (4,true)) (some (0,false))) (some (0,false))))) (cond (aN a0 2) (cond (aN a1 13) (some (3,true)) (cond (aN a0 3) (cond (aN a1 21) (some (4,true)) (some (0,false))) (some (0,false)))) (cond (aN a0 3) (cond (aN a1 21) (some (4,true)) (some (0,false))) (some (0,false)))))) (cond (aN a0 2) (cond (aN a1 12) (some (1,true)) (cond (aN a0 2) (cond (aN a1 13) (some (3,true)) (cond (aN a0 3) (cond (aN a1 21) (some (4,true)) (some (0,false))) (some (0,false)))) (cond (aN a0 3) (cond (aN a1 21) (some (4,true)) (some (0,false))) (some (0,false))))) (cond (aN a0 2) (cond (aN a1 13) (some (3,true)) (cond (aN a0 3) (cond (aN a1 21) (some (4,true)) (some (0,false))) (some (0,false)))) (cond (aN a0 3) (cond (aN a1 21) (some (4,true)) (some (0,false))) (some (0,false))))))
abbrev mS.yO:=Int→Int→aE→Int→Option (aE×(Int))
def mS.yq(N:Nat)(Cy:mS.yO)(x1 x9:Int)(a7:aE)(bp:Int):Option (aE×(Int)):=
 cond (aX bp (ℓ a7)) (cond (bf bp (ℓ a7)) (cond (aN (γ a7 bp.toNat c5).1 x1) (cond (bf bp (ℓ a7)) (Cy x1 x9 (List.set a7 bp.toNat ((γ a7 bp.toNat c5).1,(x9,(γ a7 bp.toNat c5).2.2))) (W .i64 (bp+1))) none) (Cy x1 x9 a7 (W .i64 (bp+1)))) none) (some (a7,0))
def mS.Ar(N:Nat):Nat→mS.yO
 |0,_,_,_,_=>none
 |n+1,x1,x9,a7,bp=>mS.yq N (mS.Ar N n) x1 x9 a7 bp
def mS.b(QL:mS.yO)(a0:aE)(a1 a2:Int):Option (aE×(Int)):=
 (CD N a0).bind λr1=>cond (!r1) (some ([],1)) ((AI N a0 a1).bind λr2=>cond (aN r2 0) (some ([],3)) ((Xf N r2 a2).bind λr3=>cond (!r3.2) (some ([],8)) (cond (small (ℓ ch+ℓ a0)) (QL a1 r3.1 (ch++a0) 0) none)))
def mS(a0:aE)(a1 a2:Int):Option (aE×(Int)):=mS.b N (mS.Ar N N) a0 a1 a2
abbrev mT.bL:=aO→Int→(List Int)→Int→Option (List Int)
def mT.dU(N:Nat)(bQ:mT.bL)(x0:aO)(x1:Int)(x5:List Int)(x6:Int):Option (List Int):=
 cond (aX x6 (ℓ x0)) (cond (bf x6 (ℓ x0)) (cond (aN (γ x0 x6.toNat ba).2.1 x1) (cond (bf x6 (ℓ x0)) (cond (small (ℓ x5+ℓ ([(γ x0 x6.toNat ba).1]))) (bQ x0 x1 (x5++([(γ x0 x6.toNat ba).1])) (W .i64 (x6+1))) none) none) (bQ x0 x1 x5 (W .i64 (x6+1)))) none) (some x5)
def mT.l5(N:Nat):Nat→mT.bL
 |0,_,_,_,_=>none
 |n+1,x0,x1,x5,x6=>mT.dU N (mT.l5 N n) x0 x1 x5 x6
def mT.b(eX:mT.bL)(a0:aO)(a1:Int):Option (List Int):=
 (e8 N a0).bind λr1=>cond (!r1) (some ([])) (eX a0 a1 ([]) 0)
def mT(a0:aO)(a1:Int):Option (List Int):=mT.b N (mT.l5 N N) a0 a1
abbrev eQ.lE:=aY→(List Int)→aY→Int→Bool→Int→Option aY
abbrev eQ.bL:=aY→(List Int)→aY→Int→Option aY
def eQ.vd(N:Nat)(bQ:eQ.bL)(o4:eQ.lE)(x0:aY)(x1:List Int)(x5:aY)(x6:Int)(x7:Bool)(x8:Int):Option aY:=
 cond (aX x8 (ℓ x1)) (cond (x7) (o4 x0 x1 x5 x6 true (W .i64 (x8+1))) (cond (bf x8 (ℓ x1)) (cond (bf x6 (ℓ x0)) (o4 x0 x1 x5 x6 (aN (γ x1 x8.toNat 0) (γ x0 x6.toNat dS).2.1) (W .i64 (x8+1))) none) none)) (cond (!x7) (cond (bf x6 (ℓ x0)) (cond (small (ℓ x5+ℓ ([γ x0 x6.toNat dS]))) (bQ x0 x1 (x5++([γ x0 x6.toNat dS])) (W .i64 (x6+1))) none) none) (bQ x0 x1 x5 (W .i64 (x6+1))))
def eQ.l9(N:Nat)(bQ:eQ.bL):Nat→eQ.lE
 |0,_,_,_,_,_,_=>none
 |n+1,x0,x1,x5,x6,x7,x8=>eQ.vd N bQ (eQ.l9 N bQ n) x0 x1 x5 x6 x7 x8
def eQ.dU(N:Nat)(yI:eQ.lE)(bQ:eQ.bL)(x0:aY)(x1:List Int)(x5:aY)(x6:Int):Option aY:=
 cond (aX x6 (ℓ x0)) (yI x0 x1 x5 x6 false 0) (some x5)
def eQ.l5(N:Nat):Nat→eQ.bL
 |0,_,_,_,_=>none
 |n+1,x0,x1,x5,x6=>eQ.dU N (eQ.l9 N (eQ.l5 N n) N) (eQ.l5 N n) x0 x1 x5 x6
def eQ.b(eX:eQ.bL)(a0:aY)(a1:List Int):Option aY:=
 (nQ N a0).bind λr1=>cond (!r1) (some ([])) (eX a0 a1 ([]) 0)
def eQ(a0:aY)(a1:List Int):Option aY:=eQ.b N (eQ.l5 N N) a0 a1
def Fg(a0:ae)(a1:an)(a2:Int):Option (an×(Int)):=
 (gG N a0 a1).bind λr1=>cond (!r1) (some ((ch,(cT,(bq,(bq,(dg,(du,())))))),1)) ((UC N a1.1 a2).bind λr2=>cond (aN r2 0) (some ((ch,(cT,(bq,(bq,(dg,(du,())))))),3)) ((mT N a1.2.1 a2).bind λr3=>(eQ N a1.2.2.2.2.2.1 r3).bind λr4=>some ((a1.1,(a1.2.1,(a1.2.2.1,(a1.2.2.2.1,(a1.2.2.2.2.1,(r4,a1.2.2.2.2.2.2)))))),0)))
def ZD(N:Nat)(a0:cL):Option Bool:=
 cond (dx 1 a0.1) (cond (dx a0.1 1099511627776) (cond (dx 1 a0.2.1) (cond (dx a0.2.1 1099511627776) (cond (dx 1 a0.2.2.1) (cond (dx a0.2.2.1 12) (cond (dx (-1152921504606846976) a0.2.2.2.1) (some (dx a0.2.2.2.1 1152921504606846976)) (some false)) (some false)) (some false)) (some false)) (some false)) (some false)) (some false)
abbrev fc.lE:=aO→Int→Int→Option Bool
abbrev fc.abq:=aO→Int→Option Bool
abbrev fc.bN:=aO→Int→Option Bool
def fc.vd(N:Nat)(cG:fc.bN)(o4:fc.lE)(x0:aO)(x3 x4:Int):Option Bool:=
 cond (aX x4 x3) (cond (bf x4 (ℓ x0)) (cond (bf x3 (ℓ x0)) (cond (aN (γ x0 x4.toNat ba).2.2.1 (γ x0 x3.toNat ba).2.2.1) (cond (bf x4 (ℓ x0)) (cond (bf x3 (ℓ x0)) (cond (aN (γ x0 x4.toNat ba).2.1 (γ x0 x3.toNat ba).2.1) (some false) (o4 x0 x3 (W .i64 (x4+1)))) none) none) (o4 x0 x3 (W .i64 (x4+1)))) none) none) (cG x0 (W .i64 (x3+1)))
def fc.l9(N:Nat)(cG:fc.bN):Nat→fc.lE
 |0,_,_,_=>none
 |n+1,x0,x3,x4=>fc.vd N cG (fc.l9 N cG n) x0 x3 x4
def fc.ZO(N:Nat)(yI:fc.lE)(cG:fc.bN)(x0:aO)(x3:Int):Option Bool:=
 yI x0 x3 0
def fc.j8(cG:fc.bN)(x0:aO)(x3:Int):Option Bool:=fc.ZO N (fc.l9 N cG N) cG x0 x3
def fc.dL(QF:fc.abq)(cG:fc.bN)(x0:aO)(x3:Int):Option Bool:=
 cond (aX x3 (ℓ x0)) (cond (bf x3 (ℓ x0)) ((ZD N (γ x0 x3.toNat ba)).bind λr2=>cond (!r2) (some false) (cond (aX 0 x3) (cond (bf x3 (ℓ x0)) (let v3:Int:=W .i64 (x3-1);cond (bf v3 (ℓ x0)) (cond (dx (γ x0 x3.toNat ba).1 (γ x0 v3.toNat ba).1) (some false) (QF x0 x3)) none) none) (QF x0 x3))) none) (some true)
def fc.l4(N:Nat):Nat→fc.bN
 |0,_,_=>none
 |n+1,x0,x3=>fc.dL N (fc.j8 N (fc.l4 N n)) (fc.l4 N n) x0 x3
def fc.b(N:Nat)(eW:fc.bN)(a0:aO):Option Bool:=
 cond (aX 40 (ℓ a0)) (some false) (eW a0 0)
def fc(a0:aO):Option Bool:=fc.b N (fc.l4 N N) a0
abbrev qy.bL:=aO→Int→aO→Int→Option aO
def qy.dU(N:Nat)(bQ:qy.bL)(x0:aO)(x1:Int)(x5:aO)(x6:Int):Option aO:=
 cond (aX x6 (ℓ x0)) (cond (bf x6 (ℓ x0)) (cond (!aN (γ x0 x6.toNat ba).2.2.1 x1) (cond (bf x6 (ℓ x0)) (cond (small (ℓ x5+ℓ ([γ x0 x6.toNat ba]))) (bQ x0 x1 (x5++([γ x0 x6.toNat ba])) (W .i64 (x6+1))) none) none) (bQ x0 x1 x5 (W .i64 (x6+1)))) none) (some x5)
def qy.l5(N:Nat):Nat→qy.bL
 |0,_,_,_,_=>none
 |n+1,x0,x1,x5,x6=>qy.dU N (qy.l5 N n) x0 x1 x5 x6
def qy.b(eX:qy.bL)(a0:aO)(a1:Int):Option aO:=
 (fc N a0).bind λr1=>cond (!r1) (some ([])) (eX a0 a1 ([]) 0)
def qy(a0:aO)(a1:Int):Option aO:=qy.b N (qy.l5 N N) a0 a1
def ad2(N:Nat)(a0:aR)(a1:Int):Option Bool:=
 cond (aN a1 14) (cond (aN a0.2.2.2.1.2.1 1) (some (aX a0.1 a0.2.2.2.1.2.2.1)) (some false)) (cond (aN a1 15) (cond (aN a0.2.2.2.1.2.1 1) (some (dx a0.2.2.2.1.2.2.1 a0.1)) (some false)) (cond (aN a1 19) (cond (aN a0.2.2.2.1.2.1 3) (some (aX a0.1 a0.2.2.2.1.2.2.1)) (some false)) (cond (aN a1 20) (cond (aN a0.2.2.2.1.2.1 3) (some (dx a0.2.2.2.1.2.2.1 a0.1)) (some false)) (some (aN a0.2.2.2.1.2.1 2)))))
def ML(a0:an)(a1:Int):Option Int:=
 (UC N a0.1 a1).bind λr1=>some r1
abbrev qW.bL:=aE→Bool→ae→aM→aM→Int→Option (aM×(Int))
def qW.dU(bQ:qW.bL)(x1:aE)(x2:Bool)(x3:ae)(x6 x8:aM)(x9:Int):Option (aM×(Int)):=
 cond (aX x9 (ℓ x1)) (cond (bf x9 (ℓ x1)) (cond (bf (γ x1 x9.toNat c5).1 (ℓ x3.1)) (cond (x2) (cond (bf x9 (ℓ x1)) (cond (bf (γ x1 x9.toNat c5).1 (ℓ x3.1)) (cond (bf x9 (ℓ x1)) ((kR N (γ x1 x9.toNat c5).2.1).bind λr3=>(Wl N r3).bind λr4=>(kR N (γ x3.1 (γ x1 x9.toNat c5).1.toNat ba).2.2.2.1).bind λr5=>(kI N r4 r5).bind λr6=>(Ak N x8 r6).bind λr7=>bQ x1 x2 x3 x6 r7 (W .i64 (x9+1))) none) none) none) (cond (bf x9 (ℓ x1)) ((kR N (γ x1 x9.toNat c5).2.1).bind λr9=>(Wl N r9).bind λkT=>(kR N (γ x3.1 (γ x1 x9.toNat c5).1.toNat ba).2.2.1).bind λm6=>(kI N kT m6).bind λoU=>(Ak N x8 oU).bind λnW=>bQ x1 x2 x3 x6 nW (W .i64 (x9+1))) none)) none) none) (some (x8,0))
def qW.l5(N:Nat):Nat→qW.bL
 |0,_,_,_,_,_,_=>none
 |n+1,x1,x2,x3,x6,x8,x9=>qW.dU N (qW.l5 N n) x1 x2 x3 x6 x8 x9
def qW.b(eX:qW.bL)(a0:ae)(a1:aE)(a2:Bool):Option (aM×(Int)):=
 (oC N a0 a1).bind λr1=>cond (!r1) (some ((false,o6),1)) (eX a1 a2 a0 (false,o6) (false,o6) 0)
def qW(a0:ae)(a1:aE)(a2:Bool):Option (aM×(Int)):=qW.b N (qW.l5 N N) a0 a1 a2
def alB(a0:ae)(a1:aE):Option (aM×(Int)):=
 (qW N a0 a1 false).bind λr1=>some (r1.1,r1.2)
def Tm(a0:an)(a1:Int):Option Int:=
 (vy N a0.2.2.1 5 a1).bind λr1=>some r1
def adQ(a0:ae)(a1:an)(a2 a3 a4:Int):Option Int:=
 (gG N a0 a1).bind λr1=>cond (!r1) (some 1) ((Ws N a1.2.1 a4).bind λr2=>cond (!r2.2) (some 3) ((ML N a1 a2).bind λr3=>cond (aN r3 0) (some 3) ((ML N a1 a3).bind λr4=>cond (aN r4 0) (some 3) (cond (!aN r2.1.2.1 a2) (some 8) (cond (!aN r2.1.2.2.1 2) (some 8) ((ML N a1 a3).bind λr5=>cond (!aN r5 1) (some 7) ((mP N a1.2.2.2.1 a4).bind λr6=>(alB N a0 r6).bind λr7=>(Tm N a1 a4).bind λr8=>(kR N r8).bind λr9=>(Nu N r9 r7.1).bind λkT=>cond (aX kT 0) (some 10) (some 0))))))))
abbrev oM.fP:=Int→Int→aO→Int→Option (aO×(Int))
def oM.ly(N:Nat)(gO:oM.fP)(x2 x3:Int)(cj:aO)(cZ:Int):Option (aO×(Int)):=
 cond (aX cZ (ℓ cj)) (cond (bf cZ (ℓ cj)) (cond (aN (γ cj cZ.toNat ba).1 x2) (cond (bf cZ (ℓ cj)) (gO x2 x3 (List.set cj cZ.toNat ((γ cj cZ.toNat ba).1,(x3,(γ cj cZ.toNat ba).2.2))) (W .i64 (cZ+1))) none) (gO x2 x3 cj (W .i64 (cZ+1)))) none) (some (cj,0))
def oM.my(N:Nat):Nat→oM.fP
 |0,_,_,_,_=>none
 |n+1,x2,x3,cj,cZ=>oM.ly N (oM.my N n) x2 x3 cj cZ
def oM.b(tp:oM.fP)(a0:aE)(a1:aO)(a2 a3:Int):Option (aO×(Int)):=
 (pt N a0 a1).bind λr1=>cond (!r1) (some ([],1)) ((oX N a1 a2).bind λr2=>(AI N a0 a3).bind λr3=>cond (!r2.2) (some ([],3)) (cond (aN r3 0) (some ([],3)) (cond (!aN r2.1.2.2.1 2) (some ([],8)) (cond (!aN r3 1) (some ([],7)) (cond (small (ℓ cT+ℓ a1)) (tp a2 a3 (cT++a1) 0) none)))))
def oM(a0:aE)(a1:aO)(a2 a3:Int):Option (aO×(Int)):=oM.b N (oM.my N N) a0 a1 a2 a3
def Xj(a0:ae)(a1:an)(a2 a3 a4:Int):Option (an×(Int)):=
 (adQ N a0 a1 a2 a3 a4).bind λr1=>cond (!aN r1 0) (some ((ch,(cT,(bq,(bq,(dg,(du,())))))),r1)) ((oM N a1.1 a1.2.1 a4 a3).bind λr2=>cond (!aN r2.2 0) (some ((ch,(cT,(bq,(bq,(dg,(du,())))))),r2.2)) (some ((a1.1,(r2.1,a1.2.2)),0)))
def aaC(a0:ae)(a1:aE):Option (aM×(Int)):=
 (qW N a0 a1 true).bind λr1=>some (r1.1,r1.2)
def F60(a0:ae)(a1:an)(a2:Int):Option ((Int)×(Int)):=
 (gG N a0 a1).bind λr1=>cond (!r1) (some (0,1)) ((Ws N a1.2.1 a2).bind λr2=>cond (!r2.2) (some (0,3)) ((mP N a1.2.2.2.1 a2).bind λr3=>(aaC N a0 r3).bind λr4=>(Tm N a1 a2).bind λr5=>cond (dx r5 0) (some (0,0)) ((yd N r4.1).bind λr6=>cond (r6.2) (cond (aX r6.1 r5) (some (r6.1,0)) (some (r5,0))) (some (r5,0)))))
abbrev nS.bL:=au→Int→Int→au→Int→Option au
def nS.dU(N:Nat)(bQ:nS.bL)(x0:au)(x1 x2:Int)(x7:au)(x8:Int):Option au:=
 cond (aX x8 (ℓ x0)) (cond (bf x8 (ℓ x0)) (cond (aN (γ x0 x8.toNat bb).1 x1) (cond (bf x8 (ℓ x0)) (cond (bf x8 (ℓ x0)) (let v3:Int:=W .i64 (0-((γ x0 x8.toNat bb).2.2.1));cond (bf x8 (ℓ x0)) (cond (bf x8 (ℓ x0)) (cond (small (ℓ x7+ℓ ([(x1,((γ x0 x8.toNat bb).2.1,(v3,()))),(x2,((γ x0 x8.toNat bb).2.1,((γ x0 x8.toNat bb).2.2.1,())))]))) (bQ x0 x1 x2 (x7++([(x1,((γ x0 x8.toNat bb).2.1,(v3,()))),(x2,((γ x0 x8.toNat bb).2.1,((γ x0 x8.toNat bb).2.2.1,())))])) (W .i64 (x8+1))) none) none) none) none) none) (bQ x0 x1 x2 x7 (W .i64 (x8+1)))) none) (some x7)
def nS.l5(N:Nat):Nat→nS.bL
 |0,_,_,_,_,_=>none
 |n+1,x0,x1,x2,x7,x8=>nS.dU N (nS.l5 N n) x0 x1 x2 x7 x8
def nS.b(eX:nS.bL)(a0:au)(a1 a2:Int):Option au:=
 (AH N a0).bind λr1=>cond (!r1) (some ([])) (cond (aN a1 a2) (some ([])) (cond (aX a1 0) (some ([])) (cond (aX 24 a1) (some ([])) (cond (aX a2 0) (some ([])) (cond (aX 24 a2) (some ([])) (eX a0 a1 a2 ([]) 0))))))
def nS(a0:au)(a1 a2:Int):Option au:=nS.b N (nS.l5 N N) a0 a1 a2
abbrev rX.IY:=Int→ae→an→an→au→bM→Int→cL→Option (an×(Int))
abbrev rX.kd:=Int→ae→an→an→au→bM→Int→Option (an×(Int))
def rX.xa(gI:rX.kd)(x2:Int)(x3:ae)(x4 x6:an)(x8:au)(x9:bM)(bo:Int)(a7:cL):Option (an×(Int)):=
 (Tm N x4 a7.1).bind λkT=>cond (aX kT 0) ((kR N kT).bind λm6=>(X7 N m6).bind λoU=>(Dq N 2 0 5 a7.1 oU).bind λnW=>cond (small (ℓ x9+ℓ nW)) ((nS N x4.2.2.2.1 a7.1 0).bind λuD=>cond (small (ℓ x8+ℓ uD)) (gI x2 x3 x4 x6 (x8++uD) (x9++nW) (W .i64 (bo+1))) none) none) ((nS N x4.2.2.2.1 a7.1 0).bind λyH=>cond (small (ℓ x8+ℓ yH)) (gI x2 x3 x4 x6 (x8++yH) x9 (W .i64 (bo+1))) none)
def rX.Dn(gI:rX.kd)(x2:Int)(x3:ae)(x4 x6:an)(x8:au)(x9:bM)(bo:Int)(a7:cL):Option (an×(Int)):=rX.xa N gI x2 x3 x4 x6 x8 x9 bo a7
def rX.Ef(wW:rX.IY)(gI:rX.kd)(x2:Int)(x3:ae)(x4 x6:an)(x8:au)(x9:bM)(bo:Int):Option (an×(Int)):=
 cond (aX bo (ℓ x4.2.1)) (cond (bf bo (ℓ x4.2.1)) (cond (!aN (γ x4.2.1 bo.toNat ba).2.1 x2) (gI x2 x3 x4 x6 x8 x9 (W .i64 (bo+1))) (cond (aN (γ x4.2.1 bo.toNat ba).2.2.1 2) ((F60 N x3 x4 (γ x4.2.1 bo.toNat ba).1).bind λr5=>(kR N r5.1).bind λr6=>(Dq N 5 (γ x4.2.1 bo.toNat ba).1 2 0 r6).bind λr7=>cond (small (ℓ x9+ℓ r7)) (wW x2 x3 x4 x6 x8 (x9++r7) bo (γ x4.2.1 bo.toNat ba)) none) (wW x2 x3 x4 x6 x8 x9 bo (γ x4.2.1 bo.toNat ba)))) none) ((zB N x4 x8 x9).bind λF1=>some (F1.1,F1.2))
def rX.l8(N:Nat):Nat→rX.kd
 |0,_,_,_,_,_,_,_=>none
 |n+1,x2,x3,x4,x6,x8,x9,bo=>rX.Ef N (rX.Dn N (rX.l8 N n)) (rX.l8 N n) x2 x3 x4 x6 x8 x9 bo
def rX.b(IX:rX.kd)(a0:ae)(a1:an)(a2:Int):Option (an×(Int)):=
 (gG N a0 a1).bind λr1=>cond (!r1) (some ((ch,(cT,(bq,(bq,(dg,(du,())))))),1)) ((ML N a1 a2).bind λr2=>cond (aN r2 0) (some ((ch,(cT,(bq,(bq,(dg,(du,())))))),3)) (IX a2 a0 a1 (ch,(cT,(bq,(bq,(dg,(du,())))))) ([]) ([]) 0))
def rX(a0:ae)(a1:an)(a2:Int):Option (an×(Int)):=rX.b N (rX.l8 N N) a0 a1 a2
abbrev sZ.bL:=ae→an→qx→Int→Option (qx×(Int))
def sZ.dU(bQ:sZ.bL)(x2:ae)(x3:an)(x6:qx)(x7:Int):Option (qx×(Int)):=
 cond (aX x7 (ℓ x2.1)) (cond (bf x7 (ℓ x2.1)) (cond (bf (γ x2.1 x7.toNat ba).1 (ℓ x6)) ((CE N x3.2.2.2.1 0 x7).bind λr4=>(kR N r4).bind λr5=>cond (bf x7 (ℓ x3.2.2.2.2.1)) ((kR N (γ x3.2.2.2.2.1 x7.toNat 0)).bind λr6=>(kI N r5 r6).bind λr7=>(Ak N (γ x6 (γ x2.1 x7.toNat ba).1.toNat (false,o6)) r7).bind λr8=>cond (bf (γ x2.1 x7.toNat ba).1 (ℓ x6)) (bQ x2 x3 (List.set x6 (γ x2.1 x7.toNat ba).1.toNat r8) (W .i64 (x7+1))) none) none) none) none) (some (x6,0))
def sZ.l5(N:Nat):Nat→sZ.bL
 |0,_,_,_,_=>none
 |n+1,x2,x3,x6,x7=>sZ.dU N (sZ.l5 N n) x2 x3 x6 x7
def sZ.b(eX:sZ.bL)(a0:ae)(a1:an):Option (qx×(Int)):=
 (gG N a0 a1).bind λr1=>cond (!r1) (some ([],1)) (cond (kW 4 4) (eX a0 a1 (List.replicate (4:Int).toNat (false,o6)) 0) none)
def sZ(a0:ae)(a1:an):Option (qx×(Int)):=sZ.b N (sZ.l5 N N) a0 a1
abbrev qq.bL:=Int→ae→(List Int)→Int→Option (List Int)
def qq.dU(N:Nat)(bQ:qq.bL)(x1:Int)(x2:ae)(x5:List Int)(x6:Int):Option (List Int):=
 cond (aX x6 (ℓ x2.1)) (cond (bf x6 (ℓ x2.1)) (cond (aN (γ x2.1 x6.toNat ba).1 x1) (cond (small (ℓ x5+ℓ ([x6]))) (bQ x1 x2 (x5++([x6])) (W .i64 (x6+1))) none) (bQ x1 x2 x5 (W .i64 (x6+1)))) none) (some x5)
def qq.l5(N:Nat):Nat→qq.bL
 |0,_,_,_,_=>none
 |n+1,x1,x2,x5,x6=>qq.dU N (qq.l5 N n) x1 x2 x5 x6
def qq.b(eX:qq.bL)(a0:ae)(a1:Int):Option (List Int):=
 (nj N a0).bind λr1=>cond (!r1) (some ([])) (eX a1 a0 ([]) 0)
def qq(a0:ae)(a1:Int):Option (List Int):=qq.b N (qq.l5 N N) a0 a1
abbrev qM.bN:=(List Int)→(List Int)→Int→Int→Option ((List Int)×(Int))
def qM.dL(cG:qM.bN)(x0 x4:List Int)(x5 x6:Int):Option ((List Int)×(Int)):=
 cond (dx 0 x6) (cond (aX 32 0) none (cond (bf x6 (ℓ x0)) (let v5:Int:=ss .or .u64 (W .u64 (shl .u64 x5 32)) (γ x0 x6.toNat 0);cond (aX 1 0) none (cond (bf x6 (ℓ x4)) (cG x0 (List.set x4 x6.toNat (shr .u64 v5 1)) (ss .and .u64 v5 1) (W .i64 (x6-1))) none)) none)) ((pj N x4).bind λkT=>some (kT,x5))
def qM.l4(N:Nat):Nat→qM.bN
 |0,_,_,_,_=>none
 |n+1,x0,x4,x5,x6=>qM.dL N (qM.l4 N n) x0 x4 x5 x6
def qM.b(N:Nat)(eW:qM.bN)(a0:List Int):Option ((List Int)×(Int)):=
 cond (kW (ℓ a0) (ℓ a0)) (eW a0 (List.replicate (ℓ a0:Int).toNat 0) 0 (W .i64 ((ℓ a0:Int)-1))) none
def qM(a0:List Int):Option ((List Int)×(Int)):=qM.b N (qM.l4 N N) a0
abbrev jf.lE:=aM→aM→aM→aM→(List Int)→aM→aM→Int→Option (aM×aM)
abbrev jf.dP:=aM→aM→aM→aM→(List Int)→(List Int)→Option (aM×aM)
def jf.vd(o4:jf.lE)(x2 x3:aM)(x4 x5:aM)(x6:List Int)(bo a7:aM)(bp:Int):Option (aM×aM):=
 cond (dx 0 bp) ((Ak N bo bo).bind λr6=>(Ak N a7 a7).bind λr7=>cond (bf bp (ℓ x6)) (cond (aN (γ x6 bp.toNat 0) 1) ((kR N 1).bind λr8=>(Ak N r7 r8).bind λr9=>(Nu N r9 x3).bind λkT=>cond (dx 0 kT) ((SC N r9 x3).bind λm6=>(kR N 1).bind λoU=>(Ak N r6 oU).bind λnW=>o4 x2 x3 x4 x5 x6 nW m6 (W .i64 (bp-1))) (o4 x2 x3 x4 x5 x6 r6 r9 (W .i64 (bp-1)))) ((Nu N r7 x3).bind λwG=>cond (dx 0 wG) ((SC N r7 x3).bind λyA=>(kR N 1).bind λyH=>(Ak N r6 yH).bind λJ4=>o4 x2 x3 x4 x5 x6 J4 yA (W .i64 (bp-1))) (o4 x2 x3 x4 x5 x6 r6 r7 (W .i64 (bp-1))))) none) (cond (!x2.1) (some (bo,a7)) ((Uw N a7).bind λNa=>cond (aN Na 0) ((X7 N bo).bind λEJ=>some (EJ,a7)) ((X7 N bo).bind λNA=>(kR N 1).bind λJl=>(SC N NA Jl).bind λEL=>(SC N x3 a7).bind λQG=>some (EL,QG))))
def jf.l9(N:Nat):Nat→jf.lE
 |0,_,_,_,_,_,_,_,_=>none
 |n+1,x2,x3,x4,x5,x6,bo,a7,bp=>jf.vd N (jf.l9 N n) x2 x3 x4 x5 x6 bo a7 bp
def jf.m3(yI:jf.lE)(dw:jf.dP)(x2 x3:aM)(x4 x5:aM)(x6 x7:List Int):Option (aM×aM):=
 cond (aX 0 (ℓ x7)) ((qM N x7).bind λr2=>cond (small (ℓ x6+ℓ ([r2.2]))) (dw x2 x3 x4 x5 (x6++([r2.2])) r2.1) none) (yI x2 x3 x4 x5 x6 (false,o6) (false,o6) (W .i64 ((ℓ x6:Int)-1)))
def jf.l3(N:Nat):Nat→jf.dP
 |0,_,_,_,_,_,_=>none
 |n+1,x2,x3,x4,x5,x6,x7=>jf.m3 N (jf.l9 N N) (jf.l3 N n) x2 x3 x4 x5 x6 x7
def jf.b(N:Nat)(oS:jf.dP)(a0 a1:aM):Option (aM×aM):=
 oS a0 a1 (false,o6) (false,o6) ([]) a0.2.1
def jf(a0 a1:aM):Option (aM×aM):=jf.b N (jf.l3 N N) a0 a1
abbrev jK.IY:=Int→ae→an→qx→aO→Int→(List Int)→Int→Option (aO×(Int))
abbrev jK.kA:=Int→ae→an→qx→aO→Int→Option (aO×(Int))
def jK.xa(lC:jK.kA)(x2:Int)(x3:ae)(x4:an)(x8:qx)(bo:aO)(a7:Int)(bp:List Int)(fy:Int):Option (aO×(Int)):=
 cond (aN fy 0) (lC x2 x3 x4 x8 bo (W .i64 (a7+1))) (cond (bf 0 (ℓ bp)) (cond (bf a7 (ℓ x8)) ((Uw N (γ x8 a7.toNat (false,o6))).bind λrG=>cond (aX 0 rG) (cond (small (ℓ bo+ℓ ([(x2,(γ bp (0:Int).toNat 0,(2,(fy,()))))]))) (lC (W .i64 (x2+1)) x3 x4 x8 (bo++([(x2,(γ bp (0:Int).toNat 0,(2,(fy,()))))])) (W .i64 (a7+1))) none) (cond (small (ℓ bo+ℓ ([(x2,(γ bp (0:Int).toNat 0,(1,(fy,()))))]))) (lC (W .i64 (x2+1)) x3 x4 x8 (bo++([(x2,(γ bp (0:Int).toNat 0,(1,(fy,()))))])) (W .i64 (a7+1))) none)) none) none)
def jK.Dn(lC:jK.kA)(x2:Int)(x3:ae)(x4:an)(x8:qx)(bo:aO)(a7:Int)(bp:List Int)(fy:Int):Option (aO×(Int)):=jK.xa N lC x2 x3 x4 x8 bo a7 bp fy
def jK.u7(wW:jK.IY)(lC:jK.kA)(x2:Int)(x3:ae)(x4:an)(x8:qx)(bo:aO)(a7:Int):Option (aO×(Int)):=
 cond (aX a7 4) ((qq N x3 a7).bind λr3=>cond (bf a7 (ℓ x8)) ((Wl N (γ x8 a7.toNat (false,o6))).bind λr4=>cond (aN (ℓ r3) 0) (lC x2 x3 x4 x8 bo (W .i64 (a7+1))) ((kR N x3.2.2.2.2.2.2.1).bind λr6=>(Nu N r4 r6).bind λr7=>cond (dx r7 0) (lC x2 x3 x4 x8 bo (W .i64 (a7+1))) (cond (bf 0 (ℓ r3)) (cond (bf (γ r3 (0:Int).toNat 0) (ℓ x4.2.2.2.2.1)) ((kR N (γ x4.2.2.2.2.1 (γ r3 (0:Int).toNat 0).toNat 0)).bind λr9=>(jf N r4 r9).bind λkT=>(yd N kT.1).bind λm6=>cond (!m6.2) (wW x2 x3 x4 x8 bo a7 r3 1000000000) (cond (aX 1000000000 m6.1) (wW x2 x3 x4 x8 bo a7 r3 1000000000) (wW x2 x3 x4 x8 bo a7 r3 m6.1))) none) none))) none) (some (bo,0))
def jK.l6(N:Nat):Nat→jK.kA
 |0,_,_,_,_,_,_=>none
 |n+1,x2,x3,x4,x8,bo,a7=>jK.u7 N (jK.Dn N (jK.l6 N n)) (jK.l6 N n) x2 x3 x4 x8 bo a7
def jK.b(yG:jK.kA)(a0:ae)(a1:an)(a2:Int):Option (aO×(Int)):=
 (sZ N a0 a1).bind λr1=>cond (!aN r1.2 0) (some ([],1)) (cond (aX a2 1) (some ([],1)) (cond (aX 1099511627772 a2) (some ([],1)) (yG a2 a0 a1 r1.1 ([]) 0)))
def jK(a0:ae)(a1:an)(a2:Int):Option (aO×(Int)):=jK.b N (jK.l6 N N) a0 a1 a2
def adA(N:Nat)(a0:cL):Option Bool:=
 cond (dx 1 a0.1) (cond (dx a0.1 1099511627776) (cond (dx 0 a0.2.1) (cond (aX a0.2.1 6) (cond (aN a0.2.2.1 1) (cond (dx 1 a0.2.2.2.1) (some (dx a0.2.2.2.1 1000000000)) (some false)) (cond (aN a0.2.2.1 2) (cond (dx 1 a0.2.2.2.1) (some (dx a0.2.2.2.1 1000000000)) (some false)) (some false))) (some false)) (some false)) (some false)) (some false)
abbrev qU.ark:=Int→ae→an→cL→an→cL→iE→Option (an×cL×(Int))
def qU.adI(x4:Int)(x6:ae)(x7:an)(x8:cL)(bp:an)(cj:cL)(gg:iE):Option (an×cL×(Int)):=
 (fk N x6 x7 ([gg])).bind λr6=>cond (!aN r6.2 0) (some ((ch,(cT,(bq,(bq,(dg,(du,())))))),ba,r6.2)) (some (r6.1,(x8.1,(x8.2.1,(x8.2.2.1,((W .i64 (x8.2.2.2.1-x4)),x8.2.2.2.2)))),0))
def qU.j14(x4:Int)(x6:ae)(x7:an)(x8:cL)(bp:an)(cj:cL)(gg:iE):Option (an×cL×(Int)):=qU.adI N x4 x6 x7 x8 bp cj gg
def qU.b(ajB:qU.ark)(a0:ae)(a1:an)(a2:cL)(a3 a4 a5:Int):Option (an×cL×(Int)):=
 (gG N a0 a1).bind λr1=>cond (!r1) (some ((ch,(cT,(bq,(bq,(dg,(du,())))))),ba,1)) ((adA N a2).bind λr2=>cond (!r2) (some ((ch,(cT,(bq,(bq,(dg,(du,())))))),ba,1)) (cond (aX a4 1) (some ((ch,(cT,(bq,(bq,(dg,(du,())))))),ba,1)) (cond (aX 1000000000 a4) (some ((ch,(cT,(bq,(bq,(dg,(du,())))))),ba,1)) (cond (aX a5 1) (some ((ch,(cT,(bq,(bq,(dg,(du,())))))),ba,1)) (cond (aX 1000000000000 a5) (some ((ch,(cT,(bq,(bq,(dg,(du,())))))),ba,1)) (cond (aX a2.2.2.2.1 a4) (some ((ch,(cT,(bq,(bq,(dg,(du,())))))),ba,9)) (cond (aX a3 1) (some ((ch,(cT,(bq,(bq,(dg,(du,())))))),ba,1)) (cond (aX 24 a3) (some ((ch,(cT,(bq,(bq,(dg,(du,())))))),ba,1)) ((aam N a0 a1 (a2.1,(a3,(a2.2.1,((W .i64 (3-a2.2.2.1)),(a4,(a5,()))))))).bind λr4=>cond (!aN r4 0) (some ((ch,(cT,(bq,(bq,(dg,(du,())))))),ba,r4)) (cond (aN a2.2.2.1 2) (ajB a4 a0 a1 a2 (ch,(cT,(bq,(bq,(dg,(du,())))))) ba (a3,(0,(a2.2.1,(a4,(a5,())))))) (ajB a4 a0 a1 a2 (ch,(cT,(bq,(bq,(dg,(du,())))))) ba (0,(a3,(a2.2.1,(a4,(a5,()))))))))))))))))
def qU(a0:ae)(a1:an)(a2:cL)(a3 a4 a5:Int):Option (an×cL×(Int)):=qU.b N (qU.j14 N) a0 a1 a2 a3 a4 a5
abbrev oP.bL:=ae→aR→iD→aR→dh→aO→Bool→Int→Int→Option (aR×dh)
def oP.dU(bQ:oP.bL)(x3:ae)(x4:aR)(x5:iD)(x6:aR)(x7:dh)(x8:aO)(x9:Bool)(bo a7:Int):Option (aR×dh):=
 cond (aX a7 (ℓ x4.2.2.2.1.2.2.2.2.1)) (cond (bf a7 (ℓ x4.2.2.2.1.2.2.2.2.1)) (cond (aN (γ x4.2.2.2.1.2.2.2.2.1 a7.toNat ba).1 x5.2.2.2.2.2.1) ((qU N x3 x4.2.2.1 (γ x4.2.2.2.1.2.2.2.2.1 a7.toNat ba) x5.2.2.1 x5.2.2.2.2.2.2.1 x5.2.2.2.2.2.2.2.1).bind λr2=>cond (!aN r2.2.2 0) ((gd N r2.2.2).bind λr3=>some (x4,r3)) (cond (aX 0 r2.2.1.2.2.2.1) (cond (small (ℓ x8+ℓ ([r2.2.1]))) (bQ x3 (x4.1,(x4.2.1,(r2.1,x4.2.2.2))) x5 x6 x7 (x8++([r2.2.1])) true r2.2.1.2.2.2.1 (W .i64 (a7+1))) none) (bQ x3 (x4.1,(x4.2.1,(r2.1,x4.2.2.2))) x5 x6 x7 x8 true r2.2.1.2.2.2.1 (W .i64 (a7+1))))) (cond (aX 0 (γ x4.2.2.2.1.2.2.2.2.1 a7.toNat ba).2.2.2.1) (cond (small (ℓ x8+ℓ ([γ x4.2.2.2.1.2.2.2.2.1 a7.toNat ba]))) (bQ x3 x4 x5 x6 x7 (x8++([γ x4.2.2.2.1.2.2.2.2.1 a7.toNat ba])) x9 bo (W .i64 (a7+1))) none) (bQ x3 x4 x5 x6 x7 x8 x9 bo (W .i64 (a7+1))))) none) (cond (!x9) ((gd N 3).bind λkT=>some (x4,kT)) (some ((x4.1,(x4.2.1,(x4.2.2.1,((x4.2.2.2.1.1,(x4.2.2.2.1.2.1,(x4.2.2.2.1.2.2.1,(x4.2.2.2.1.2.2.2.1,(x8,x4.2.2.2.1.2.2.2.2.2))))),x4.2.2.2.2)))),(0,(0,(bo,()))))))
def oP.l5(N:Nat):Nat→oP.bL
 |0,_,_,_,_,_,_,_,_,_=>none
 |n+1,x3,x4,x5,x6,x7,x8,x9,bo,a7=>oP.dU N (oP.l5 N n) x3 x4 x5 x6 x7 x8 x9 bo a7
def oP.b(N:Nat)(eX:oP.bL)(a0:ae)(a1:aR)(a2:iD):Option (aR×dh):=
 eX a0 a1 a2 (0,(0,((ch,(cT,(bq,(bq,(dg,(du,())))))),((0,(0,(0,(0,(cT,(([]:List ((Int)×((List ((Int)×((Int)×(Unit))))×((Int)×((Int)×((Int)×((Int)×(Unit)))))))),(cT,(dg,(ch,(ch,())))))))))),((0,(0,(DO,(0,())))),()))))) bb ([]) false 0 0
def oP(a0:ae)(a1:aR)(a2:iD):Option (aR×dh):=oP.b N (oP.l5 N N) a0 a1 a2
abbrev s4.bN:=Int→aM→Int→Option Int
def s4.dL(cG:s4.bN)(x1:Int)(x2:aM)(x5:Int):Option Int:=
 cond (aX x5 3) ((kR N x5).bind λr3=>(kR N x1).bind λr4=>(kI N r3 r4).bind λr5=>(Nu N r5 x2).bind λr6=>cond (aX r6 0) (cG x1 x2 (W .i64 (x5+1))) (some x5)) (some x5)
def s4.l4(N:Nat):Nat→s4.bN
 |0,_,_,_=>none
 |n+1,x1,x2,x5=>s4.dL N (s4.l4 N n) x1 x2 x5
def s4.b(eW:s4.bN)(a0:aM)(a1:Int):Option Int:=
 (Uw N a0).bind λr1=>cond (dx r1 0) (some 0) (cond (aX a1 1) (some 0) (eW a1 a0 1))
def s4(a0:aM)(a1:Int):Option Int:=s4.b N (s4.l4 N N) a0 a1
abbrev qS.bN:=(List Int)→Int→Option Bool
def qS.dL(N:Nat)(cG:qS.bN)(x1:List Int)(x5:Int):Option Bool:=
 cond (aX x5 (ℓ x1)) (cond (bf x5 (ℓ x1)) (cond (aX (γ x1 x5.toNat 0) 0) (some true) (cG x1 (W .i64 (x5+1)))) none) (some false)
def qS.l4(N:Nat):Nat→qS.bN
 |0,_,_=>none
 |n+1,x1,x5=>qS.dL N (qS.l4 N n) x1 x5
def qS.b(N:Nat)(eW:qS.bN)(a0:Int)(a1:List Int):Option Bool:=
 cond (aX a0 0) (some true) (cond (aX 64 (ℓ a1)) (some true) (eW a1 0))
def qS(a0:Int)(a1:List Int):Option Bool:=qS.b N (qS.l4 N N) a0 a1
abbrev qL.dP:=(List Int)→aM→aM→Int→Option aM
def qL.m3(dw:qL.dP)(x0:List Int)(x2 x3:aM)(x4:Int):Option aM:=
 cond (aX x4 (ℓ x0)) (cond (bf x4 (ℓ x0)) ((kR N (γ x0 x4.toNat 0)).bind λr2=>(Ak N x3 r2).bind λr3=>dw x0 x2 r3 (W .i64 (x4+1))) none) (some x3)
def qL.l3(N:Nat):Nat→qL.dP
 |0,_,_,_,_=>none
 |n+1,x0,x2,x3,x4=>qL.m3 N (qL.l3 N n) x0 x2 x3 x4
def qL.b(N:Nat)(oS:qL.dP)(a0:List Int):Option aM:=
 oS a0 (false,o6) (false,o6) 0
def qL(a0:List Int):Option aM:=qL.b N (qL.l3 N N) a0
abbrev gj.abq:=(List Int)→(List Int)→Int→Int→Option (List Int)
abbrev gj.kA:=(List Int)→(List Int)→Int→Int→Option (List Int)
abbrev gj.dP:=(List Int)→(List Int)→Int→Option (List Int)
def gj.ZO(N:Nat)(dw:gj.dP)(x0 x3:List Int)(x4 x5:Int):Option (List Int):=
 cond (jt 0 x5 (ℓ x3) (ℓ x3)) (let v5:List Int:=List.drop (0:Int).toNat (List.take x5.toNat x3);cond (small (ℓ v5)) (cond (small (ℓ v5+ℓ ([x4]))) (let v6:List Int:=v5++([x4]);cond (jt x5 (ℓ x3) (ℓ x3) (ℓ x3)) (let v7:List Int:=List.drop x5.toNat (List.take (ℓ x3:Int).toNat x3);cond (small (ℓ v6+ℓ v7)) (dw x0 (v6++v7) (W .i64 (x4+1))) none) none) none) none) none
def gj.j8(dw:gj.dP)(x0 x3:List Int)(x4 x5:Int):Option (List Int):=gj.ZO N dw x0 x3 x4 x5
def gj.u7(N:Nat)(QF:gj.abq)(dw:gj.dP)(lC:gj.kA)(x0 x3:List Int)(x4 x5:Int):Option (List Int):=
 cond (aX x5 (ℓ x3)) (cond (bf x5 (ℓ x3)) (cond (bf (γ x3 x5.toNat 0) (ℓ x0)) (cond (bf x4 (ℓ x0)) (cond (dx (γ x0 x4.toNat 0) (γ x0 (γ x3 x5.toNat 0).toNat 0)) (lC x0 x3 x4 (W .i64 (x5+1))) (QF x0 x3 x4 x5)) none) none) none) (QF x0 x3 x4 x5)
def gj.l6(N:Nat)(dw:gj.dP):Nat→gj.kA
 |0,_,_,_,_=>none
 |n+1,x0,x3,x4,x5=>gj.u7 N (gj.j8 N dw) dw (gj.l6 N dw n) x0 x3 x4 x5
def gj.m3(N:Nat)(yG:gj.kA)(dw:gj.dP)(x0 x3:List Int)(x4:Int):Option (List Int):=
 cond (aX x4 (ℓ x0)) (yG x0 x3 x4 0) (some x3)
def gj.l3(N:Nat):Nat→gj.dP
 |0,_,_,_=>none
 |n+1,x0,x3,x4=>gj.m3 N (gj.l6 N (gj.l3 N n) N) (gj.l3 N n) x0 x3 x4
def gj.b(N:Nat)(oS:gj.dP)(a0:List Int):Option (List Int):=
 oS a0 ([]) 0
def gj(a0:List Int):Option (List Int):=gj.b N (gj.l3 N N) a0
abbrev gy.tk:=(List Int)→Int→(List Int)→Int→Option ((List Int)×(Int))
abbrev gy.yP:=Int→(List Int)→aM→(List Int)→(List Int)→Int→Int→Option ((List Int)×(Int))
abbrev gy.TI:=Int→(List Int)→aM→Option ((List Int)×(Int))
def gy.w8(N:Nat)(IQ:gy.tk)(x9:List Int)(a7:Int)(eu:List Int)(fy:Int):Option ((List Int)×(Int)):=
 cond (aX fy (ℓ eu)) (cond (aX 0 a7) (cond (bf fy (ℓ eu)) (cond (bf (γ eu fy.toNat 0) (ℓ x9)) (cond (bf (γ eu fy.toNat 0) (ℓ x9)) (IQ (List.set x9 (γ eu fy.toNat 0).toNat (W .i64 ((γ x9 (γ eu fy.toNat 0).toNat 0)+1))) (W .i64 (a7-1)) eu (W .i64 (fy+1))) none) none) none) (some (x9,0))) (some (x9,0))
def gy.yk(N:Nat):Nat→gy.tk
 |0,_,_,_,_=>none
 |n+1,x9,a7,eu,fy=>gy.w8 N (gy.yk N n) x9 a7 eu fy
def gy.H5(IS:gy.tk)(EM:gy.yP)(x0:Int)(x1:List Int)(x6:aM)(x9 bo:List Int)(a7 bp:Int):Option ((List Int)×(Int)):=
 cond (aX bp (ℓ x1)) ((kR N x0).bind λkT=>cond (bf bp (ℓ x1)) ((kR N (γ x1 bp.toNat 0)).bind λm6=>(kI N kT m6).bind λoU=>(jf N oU x6).bind λnW=>(yd N nW.1).bind λrG=>cond (bf bp (ℓ x9)) (let v15:List Int:=List.set x9 bp.toNat rG.1;(yd N nW.2).bind λwG=>cond (bf bp (ℓ bo)) (cond (bf bp (ℓ v15)) (EM x0 x1 x6 v15 (List.set bo bp.toNat wG.1) (W .i64 (a7-(γ v15 bp.toNat 0))) (W .i64 (bp+1))) none) none) none) none) ((gj N bo).bind λQH=>IS x9 a7 QH 0)
def gy.KR(N:Nat):Nat→gy.yP
 |0,_,_,_,_,_,_,_=>none
 |n+1,x0,x1,x6,x9,bo,a7,bp=>gy.H5 N (gy.yk N N) (gy.KR N n) x0 x1 x6 x9 bo a7 bp
def gy.OY(QM:gy.yP)(x0:Int)(x1:List Int)(x6:aM):Option ((List Int)×(Int)):=
 (yd N x6).bind λr5=>cond (!r5.2) (some ([],2)) (cond (kW (ℓ x1) (ℓ x1)) (let v6:List Int:=List.replicate (ℓ x1:Int).toNat 0;cond (kW (ℓ x1) (ℓ x1)) ((Uw N x6).bind λr8=>cond (aN r8 0) (some (v6,0)) (QM x0 x1 x6 v6 (List.replicate (ℓ x1:Int).toNat 0) x0 0)) none) none)
def gy.j6(x0:Int)(x1:List Int)(x6:aM):Option ((List Int)×(Int)):=gy.OY N (gy.KR N N) x0 x1 x6
def gy.b(Fj:gy.TI)(a0:Int)(a1:List Int):Option ((List Int)×(Int)):=
 (qS N a0 a1).bind λr1=>cond (r1) (some ([],1)) ((qL N a1).bind λr2=>(Uw N r2).bind λr3=>cond (aN r3 0) (cond (!aN a0 0) (some ([],1)) (Fj a0 a1 r2)) (Fj a0 a1 r2))
def gy(a0:Int)(a1:List Int):Option ((List Int)×(Int)):=gy.b N (gy.j6 N) a0 a1
abbrev sV.bL:=Int→Int→(List Int)→Int→Option ((List Int)×(Int))
def sV.dU(bQ:sV.bL)(x0 x1:Int)(x6:List Int)(x7:Int):Option ((List Int)×(Int)):=
 cond (aX x7 x1) (cond (bf x7 (ℓ x6)) (bQ x0 x1 (List.set x6 x7.toNat 1) (W .i64 (x7+1))) none) ((gy N x0 x6).bind λr5=>some (r5.1,r5.2))
def sV.l5(N:Nat):Nat→sV.bL
 |0,_,_,_,_=>none
 |n+1,x0,x1,x6,x7=>sV.dU N (sV.l5 N n) x0 x1 x6 x7
def sV.b(N:Nat)(eX:sV.bL)(a0 a1:Int):Option ((List Int)×(Int)):=
 cond (aX a0 0) (some ([],1)) (cond (aX a1 1) (some ([],1)) (cond (aX 64 a1) (some ([],1)) (cond (kW a1 a1) (eX a0 a1 (List.replicate a1.toNat 0) 0) none)))
def sV(a0 a1:Int):Option ((List Int)×(Int)):=sV.b N (sV.l5 N N) a0 a1
abbrev cr.arl:=Int→ae→aE→bJ→Int→aE→Int→Int→je→aE→Int→(List Int)→Option (bJ×(Int))
abbrev cr.abw:=Int→ae→aE→bJ→Int→aE→Int→Int→je→aE→Int→Int→Option (bJ×(Int))
abbrev cr.yL:=Int→ae→aE→bJ→Int→aE→Int→Int→je→aE→Int→Option (bJ×(Int))
abbrev cr.vv:=Int→ae→aE→bJ→Int→aE→Int→Int→Option (bJ×(Int))
abbrev cr.fP:=Int→ae→aE→bJ→Int→aE→aM→Int→Option (bJ×(Int))
abbrev cr.kd:=Int→ae→aE→bJ→Int→Option (bJ×(Int))
def cr.alD(N:Nat)(gI:cr.kd)(nO:cr.vv)(wX:cr.yL)(x2:Int)(x3:ae)(x8:aE)(x9:bJ)(bo:Int)(a7:aE)(cZ eu:Int)(fy:je)(wM:aE)(gg:Int)(nT:List Int):Option (bJ×(Int)):=
 cond (bf eu (ℓ nT)) (cond (!aN (γ nT eu.toNat 0) 0) (cond (bf gg (ℓ a7)) (cond (bf eu (ℓ nT)) (cond (small (ℓ wM+ℓ ([((γ a7 gg.toNat c5).1,(γ nT eu.toNat 0,()))]))) (wX x2 x3 x8 x9 bo a7 cZ eu (fy.1,(ch,fy.2.2)) (wM++([((γ a7 gg.toNat c5).1,(γ nT eu.toNat 0,()))])) (W .i64 (gg+1))) none) none) none) (wX x2 x3 x8 x9 bo a7 cZ eu fy wM (W .i64 (gg+1)))) none
def cr.j32(gI:cr.kd)(nO:cr.vv)(wX:cr.yL)(x2:Int)(x3:ae)(x8:aE)(x9:bJ)(bo:Int)(a7:aE)(cZ eu:Int)(fy:je)(wM:aE)(gg:Int)(nT:List Int):Option (bJ×(Int)):=cr.alD N gI nO wX x2 x3 x8 x9 bo a7 cZ eu fy wM gg nT
def cr.P9(ajC:cr.arl)(gI:cr.kd)(nO:cr.vv)(wX:cr.yL)(x2:Int)(x3:ae)(x8:aE)(x9:bJ)(bo:Int)(a7:aE)(cZ eu:Int)(fy:je)(wM:aE)(gg mz:Int):Option (bJ×(Int)):=
 (sV N mz cZ).bind λwG=>cond (bf gg (ℓ a7)) (cond (aX (γ a7 gg.toNat c5).2.1 0) (cond (bf eu (ℓ wG.1)) (cond (bf eu (ℓ wG.1)) (ajC x2 x3 x8 x9 bo a7 cZ eu fy wM gg (List.set wG.1 eu.toNat (W .i64 (0-(γ wG.1 eu.toNat 0))))) none) none) (ajC x2 x3 x8 x9 bo a7 cZ eu fy wM gg wG.1)) none
def cr.Xn(gI:cr.kd)(nO:cr.vv)(wX:cr.yL)(x2:Int)(x3:ae)(x8:aE)(x9:bJ)(bo:Int)(a7:aE)(cZ eu:Int)(fy:je)(wM:aE)(gg mz:Int):Option (bJ×(Int)):=cr.P9 N (cr.j32 N gI nO wX) gI nO wX x2 x3 x8 x9 bo a7 cZ eu fy wM gg mz
def cr.P4(QN:cr.abw)(gI:cr.kd)(nO:cr.vv)(wX:cr.yL)(x2:Int)(x3:ae)(x8:aE)(x9:bJ)(bo:Int)(a7:aE)(cZ eu:Int)(fy:je)(wM:aE)(gg:Int):Option (bJ×(Int)):=
 cond (aX gg (ℓ a7)) (cond (bf gg (ℓ a7)) (cond (aX (γ a7 gg.toNat c5).2.1 0) (QN x2 x3 x8 x9 bo a7 cZ eu fy wM gg (W .i64 (0-((γ a7 gg.toNat c5).2.1)))) (QN x2 x3 x8 x9 bo a7 cZ eu fy wM gg (γ a7 gg.toNat c5).2.1)) none) (cond (aN (ℓ wM) 0) (nO x2 x3 x8 x9 bo a7 cZ (W .i64 (eu+1))) ((aaC N x3 wM).bind λNA=>(X7 N NA.1).bind λJl=>(yd N Jl).bind λEL=>cond (!EL.2) (some ([],2)) (cond (small (ℓ x9+ℓ ([(fy.1,(wM,(EL.1,fy.2.2.2)))]))) (nO (W .i64 (x2+1)) x3 x8 (x9++([(fy.1,(wM,(EL.1,fy.2.2.2)))])) bo a7 cZ (W .i64 (eu+1))) none)))
def cr.Ny(N:Nat)(gI:cr.kd)(nO:cr.vv):Nat→cr.yL
 |0,_,_,_,_,_,_,_,_,_,_,_=>none
 |n+1,x2,x3,x8,x9,bo,a7,cZ,eu,fy,wM,gg=>cr.P4 N (cr.Xn N gI nO (cr.Ny N gI nO n)) gI nO (cr.Ny N gI nO n) x2 x3 x8 x9 bo a7 cZ eu fy wM gg
def cr.P8(N:Nat)(abv:cr.yL)(gI:cr.kd)(nO:cr.vv)(x2:Int)(x3:ae)(x8:aE)(x9:bJ)(bo:Int)(a7:aE)(cZ eu:Int):Option (bJ×(Int)):=
 cond (aX eu cZ) (abv x2 x3 x8 x9 bo a7 cZ eu (x2,(ch,(0,(1,c5)))) ch 0) (gI x2 x3 x8 x9 (W .i64 (bo+1)))
def cr.JW(N:Nat)(gI:cr.kd):Nat→cr.vv
 |0,_,_,_,_,_,_,_,_=>none
 |n+1,x2,x3,x8,x9,bo,a7,cZ,eu=>cr.P8 N (cr.Ny N gI (cr.JW N gI n) N) gI (cr.JW N gI n) x2 x3 x8 x9 bo a7 cZ eu
def cr.ly(abx:cr.vv)(gI:cr.kd)(gO:cr.fP)(x2:Int)(x3:ae)(x8:aE)(x9:bJ)(bo:Int)(a7:aE)(bp:aM)(cj:Int):Option (bJ×(Int)):=
 cond (aX cj (ℓ x8)) (cond (bf cj (ℓ x8)) (cond (bf (γ x8 cj.toNat c5).1 (ℓ x3.1)) (cond (aN (γ x3.1 (γ x8 cj.toNat c5).1.toNat ba).1 bo) (cond (bf cj (ℓ x8)) (cond (small (ℓ a7+ℓ ([γ x8 cj.toNat c5]))) (cond (bf cj (ℓ x8)) ((kR N (γ x8 cj.toNat c5).2.1).bind λr6=>(Wl N r6).bind λr7=>(Ak N bp r7).bind λr8=>gO x2 x3 x8 x9 bo (a7++([γ x8 cj.toNat c5])) r8 (W .i64 (cj+1))) none) none) none) (gO x2 x3 x8 x9 bo a7 bp (W .i64 (cj+1)))) none) none) ((s4 N bp x3.2.2.2.2.2.1).bind λm6=>abx x2 x3 x8 x9 bo a7 m6 0)
def cr.my(N:Nat)(gI:cr.kd):Nat→cr.fP
 |0,_,_,_,_,_,_,_,_=>none
 |n+1,x2,x3,x8,x9,bo,a7,bp,cj=>cr.ly N (cr.JW N gI N) gI (cr.my N gI n) x2 x3 x8 x9 bo a7 bp cj
def cr.Ef(N:Nat)(tp:cr.fP)(gI:cr.kd)(x2:Int)(x3:ae)(x8:aE)(x9:bJ)(bo:Int):Option (bJ×(Int)):=
 cond (aX bo 4) (tp x2 x3 x8 x9 bo ([]) (false,o6) 0) (some (x9,0))
def cr.l8(N:Nat):Nat→cr.kd
 |0,_,_,_,_,_=>none
 |n+1,x2,x3,x8,x9,bo=>cr.Ef N (cr.my N (cr.l8 N n) N) (cr.l8 N n) x2 x3 x8 x9 bo
def cr.b(IX:cr.kd)(a0:ae)(a1:an)(a2:Int):Option (bJ×(Int)):=
 (gG N a0 a1).bind λr1=>cond (!r1) (some ([],1)) (cond (aX a2 1) (some ([],1)) (cond (aX 1099511627764 a2) (some ([],1)) ((mP N a1.2.2.2.1 0).bind λr2=>cond (aN (ℓ r2) 0) (some ([],3)) (IX a2 a0 r2 ([]) 0))))
def cr(a0:ae)(a1:an)(a2:Int):Option (bJ×(Int)):=cr.b N (cr.l8 N N) a0 a1 a2
abbrev s6.bL:=an→(List Int)→Int→Option ((List Int)×(Int))
def s6.dU(bQ:s6.bL)(x3:an)(x6:List Int)(x7:Int):Option ((List Int)×(Int)):=
 cond (aX x7 (ℓ x3.1)) (cond (bf x7 (ℓ x3.1)) (cond (aN (γ x3.1 x7.toNat c5).2.1 1) (cond (bf x7 (ℓ x3.1)) ((vy N x3.2.2.1 6 (γ x3.1 x7.toNat c5).1).bind λr3=>cond (aX 0 r3) (cond (bf x7 (ℓ x3.1)) (cond (small (ℓ x6+ℓ ([(γ x3.1 x7.toNat c5).1]))) (bQ x3 (x6++([(γ x3.1 x7.toNat c5).1])) (W .i64 (x7+1))) none) none) (bQ x3 x6 (W .i64 (x7+1)))) none) (bQ x3 x6 (W .i64 (x7+1)))) none) (some (x6,0))
def s6.l5(N:Nat):Nat→s6.bL
 |0,_,_,_=>none
 |n+1,x3,x6,x7=>s6.dU N (s6.l5 N n) x3 x6 x7
def s6.b(eX:s6.bL)(a0:ae)(a1:an):Option ((List Int)×(Int)):=
 (gG N a0 a1).bind λr1=>cond (!r1) (some ([],1)) (eX a1 ([]) 0)
def s6(a0:ae)(a1:an):Option ((List Int)×(Int)):=s6.b N (s6.l5 N N) a0 a1
abbrev jJ.Nb:=bJ→ae→Int→je→Option Bool
abbrev jJ.bN:=bJ→ae→Int→Option Bool
def jJ.JF(N:Nat)(cG:jJ.bN)(x1:bJ)(x2:ae)(x5:Int)(x6:je):Option Bool:=
 cond (aN x6.2.2.2.1 1) (cond (!aN x6.2.2.2.2.1 0) (some false) (cond (!aN x6.2.2.2.2.2.1 0) (some false) (cG x1 x2 (W .i64 (x5+1))))) (cond (aN x6.2.2.2.1 3) (cond (!aN x6.2.2.2.2.1 0) (some false) (cond (!aN x6.2.2.2.2.2.1 0) (some false) (cG x1 x2 (W .i64 (x5+1))))) (cond (aN x6.2.2.2.1 2) (cond (aX x6.2.2.2.2.1 1) (some false) (cond (aX 12 x6.2.2.2.2.1) (some false) (cond (aX x6.2.2.2.2.2.1 (-1152921504606846976)) (some false) (cond (aX 1152921504606846976 x6.2.2.2.2.2.1) (some false) (cG x1 x2 (W .i64 (x5+1))))))) (some false)))
def jJ.j9(cG:jJ.bN)(x1:bJ)(x2:ae)(x5:Int)(x6:je):Option Bool:=jJ.JF N cG x1 x2 x5 x6
def jJ.dL(Cw:jJ.Nb)(cG:jJ.bN)(x1:bJ)(x2:ae)(x5:Int):Option Bool:=
 cond (aX x5 (ℓ x1)) (cond (bf x5 (ℓ x1)) (cond (aX (γ x1 x5.toNat (0,(ch,ba))).1 1) (some false) (cond (aX 1099511627776 (γ x1 x5.toNat (0,(ch,ba))).1) (some false) (cond (aX 0 x5) (let v3:Int:=W .i64 (x5-1);cond (bf v3 (ℓ x1)) (cond (dx (γ x1 x5.toNat (0,(ch,ba))).1 (γ x1 v3.toNat (0,(ch,ba))).1) (some false) (cond (aN (ℓ (γ x1 x5.toNat (0,(ch,ba))).2.1:Int) 0) (some false) ((oC N x2 (γ x1 x5.toNat (0,(ch,ba))).2.1).bind λr4=>cond (!r4) (some false) (cond (aX 0 (γ x1 x5.toNat (0,(ch,ba))).2.2.1) (some false) (Cw x1 x2 x5 (γ x1 x5.toNat (0,(ch,ba)))))))) none) (cond (aN (ℓ (γ x1 x5.toNat (0,(ch,ba))).2.1:Int) 0) (some false) ((oC N x2 (γ x1 x5.toNat (0,(ch,ba))).2.1).bind λr9=>cond (!r9) (some false) (cond (aX 0 (γ x1 x5.toNat (0,(ch,ba))).2.2.1) (some false) (Cw x1 x2 x5 (γ x1 x5.toNat (0,(ch,ba)))))))))) none) (some true)
def jJ.l4(N:Nat):Nat→jJ.bN
 |0,_,_,_=>none
 |n+1,x1,x2,x5=>jJ.dL N (jJ.j9 N (jJ.l4 N n)) (jJ.l4 N n) x1 x2 x5
def jJ.b(eW:jJ.bN)(a0:ae)(a1:bJ):Option Bool:=
 (nj N a0).bind λr1=>cond (!r1) (some false) (cond (aX 12 (ℓ a1)) (some false) (eW a1 a0 0))
def jJ(a0:ae)(a1:bJ):Option Bool:=jJ.b N (jJ.l4 N N) a0 a1
abbrev rI.cX:=bJ→Int→je→Int→Option (je×(Bool))
def rI.fI(N:Nat)(dV:rI.cX)(x0:bJ)(x1:Int)(x4:je)(x6:Int):Option (je×(Bool)):=
 cond (aX x6 (ℓ x0)) (cond (bf x6 (ℓ x0)) (cond (aN (γ x0 x6.toNat (0,(ch,ba))).1 x1) (cond (bf x6 (ℓ x0)) (some (γ x0 x6.toNat (0,(ch,ba)),true)) none) (dV x0 x1 x4 (W .i64 (x6+1)))) none) (some ((0,(ch,ba)),false))
def rI.l2(N:Nat):Nat→rI.cX
 |0,_,_,_,_=>none
 |n+1,x0,x1,x4,x6=>rI.fI N (rI.l2 N n) x0 x1 x4 x6
def rI.b(N:Nat)(gT:rI.cX)(a0:bJ)(a1:Int):Option (je×(Bool)):=
 gT a0 a1 (0,(ch,ba)) 0
def rI(a0:bJ)(a1:Int):Option (je×(Bool)):=rI.b N (rI.l2 N N) a0 a1
abbrev fv.iR:=aE→aE→aE→Int→aM→Int→Option (aE×(Bool))
abbrev fv.eP:=aE→aE→aE→Int→aM→Int→Option (aE×(Bool))
abbrev fv.dP:=aE→aE→aE→Int→Option (aE×(Bool))
def fv.mO(dw:fv.dP)(lD:fv.iR)(x0 x1 x6:aE)(x7:Int)(x8:aM)(bo:Int):Option (aE×(Bool)):=
 cond (aX bo (ℓ x1)) (cond (bf bo (ℓ x1)) (cond (aN (γ x1 bo.toNat c5).1 x7) (cond (bf bo (ℓ x1)) ((kR N (γ x1 bo.toNat c5).2.1).bind λr8=>(Ak N x8 r8).bind λr9=>lD x0 x1 x6 x7 r9 (W .i64 (bo+1))) none) (lD x0 x1 x6 x7 x8 (W .i64 (bo+1)))) none) ((SU N x8).bind λoU=>cond (!oU.2) (some ([],false)) (cond (!aN oU.1 0) (cond (small (ℓ x6+ℓ ([(x7,(oU.1,()))]))) (dw x0 x1 (x6++([(x7,(oU.1,()))])) (W .i64 (x7+1))) none) (dw x0 x1 x6 (W .i64 (x7+1)))))
def fv.nI(N:Nat)(dw:fv.dP):Nat→fv.iR
 |0,_,_,_,_,_,_=>none
 |n+1,x0,x1,x6,x7,x8,bo=>fv.mO N dw (fv.nI N dw n) x0 x1 x6 x7 x8 bo
def fv.mK(vu:fv.iR)(dw:fv.dP)(eR:fv.eP)(x0 x1 x6:aE)(x7:Int)(x8:aM)(x9:Int):Option (aE×(Bool)):=
 cond (aX x9 (ℓ x0)) (cond (bf x9 (ℓ x0)) (cond (aN (γ x0 x9.toNat c5).1 x7) (cond (bf x9 (ℓ x0)) ((kR N (γ x0 x9.toNat c5).2.1).bind λr3=>(Ak N x8 r3).bind λr4=>eR x0 x1 x6 x7 r4 (W .i64 (x9+1))) none) (eR x0 x1 x6 x7 x8 (W .i64 (x9+1)))) none) (vu x0 x1 x6 x7 x8 0)
def fv.l7(N:Nat)(dw:fv.dP):Nat→fv.eP
 |0,_,_,_,_,_,_=>none
 |n+1,x0,x1,x6,x7,x8,x9=>fv.mK N (fv.nI N dw N) dw (fv.l7 N dw n) x0 x1 x6 x7 x8 x9
def fv.m3(N:Nat)(q3:fv.eP)(dw:fv.dP)(x0 x1 x6:aE)(x7:Int):Option (aE×(Bool)):=
 cond (aX x7 6) (q3 x0 x1 x6 x7 (false,o6) 0) (some (x6,true))
def fv.l3(N:Nat):Nat→fv.dP
 |0,_,_,_,_=>none
 |n+1,x0,x1,x6,x7=>fv.m3 N (fv.l7 N (fv.l3 N n) N) (fv.l3 N n) x0 x1 x6 x7
def fv.b(N:Nat)(oS:fv.dP)(a0 a1:aE):Option (aE×(Bool)):=
 oS a0 a1 ([]) 0
def fv(a0 a1:aE):Option (aE×(Bool)):=fv.b N (fv.l3 N N) a0 a1
def alC(a0:aY)(a1:Int):Option au:=
 (nQ N a0).bind λr1=>cond (!r1) (some ([])) ((fm N a0 a1).bind λr2=>some r2)
abbrev lY.fP:=aO→ae→an→cL→je→Int→Int→Option Int
abbrev lY.awZ:=bJ→aO→ae→an→cL→Option Int
def lY.ly(gO:lY.fP)(x3:aO)(x5:ae)(x6:an)(x9:cL)(bp:je)(cZ eu:Int):Option Int:=
 cond (aX eu (ℓ x3)) (cond (bf eu (ℓ x3)) (cond (aN (γ x3 eu.toNat ba).2.2.1 x9.2.2.1) (cond (bf eu (ℓ x3)) (cond (aN (γ x3 eu.toNat ba).2.1 x9.2.1) (some 4) (gO x3 x5 x6 x9 bp cZ (W .i64 (eu+1)))) none) (gO x3 x5 x6 x9 bp cZ (W .i64 (eu+1)))) none) (cond (aN (ℓ x3) 40) (some 5) ((kR N x9.2.2.2.1).bind λnW=>(kR N 4).bind λrG=>(kR N bp.2.2.1).bind λuD=>(kI N rG uD).bind λwG=>(Nu N nW wG).bind λyA=>cond (aX yA 0) (some 11) ((mP N x6.2.2.2.1 cZ).bind λyH=>(fv N yH bp.2.1).bind λJ4=>cond (!J4.2) (some 2) ((alC N x6.2.2.2.2.2.1 cZ).bind λQH=>(nR N x5 J4.1 QH).bind λF1=>(Tm N x6 cZ).bind λNa=>(kR N Na).bind λEJ=>(kR N x9.2.2.2.1).bind λNA=>(SC N EJ NA).bind λJl=>(Nu N Jl F1.1).bind λEL=>cond (aX EL 0) (some 10) (some 0)))))
def lY.my(N:Nat):Nat→lY.fP
 |0,_,_,_,_,_,_,_=>none
 |n+1,x3,x5,x6,x9,bp,cZ,eu=>lY.ly N (lY.my N n) x3 x5 x6 x9 bp cZ eu
def lY.j3b(tp:lY.fP)(x2:bJ)(x3:aO)(x5:ae)(x6:an)(x9:cL):Option Int:=
 (ML N x6 x9.2.2.1).bind λr7=>cond (aN r7 0) (some 3) (cond (!aN r7 1) (some 7) ((rI N x2 x9.2.1).bind λr8=>(np N x6.2.1 x9.2.2.1).bind λr9=>cond (!r8.2) (some 3) (cond (!aN r8.1.2.2.2.1 1) (some 3) (cond (aN r9 0) (some 3) (tp x3 x5 x6 x9 r8.1 r9 0)))))
def lY.j3(x2:bJ)(x3:aO)(x5:ae)(x6:an)(x9:cL):Option Int:=lY.j3b N (lY.my N N) x2 x3 x5 x6 x9
def lY.b(arn:lY.awZ)(a0:ae)(a1:an)(a2:bJ)(a3:aO)(a4:cL):Option Int:=
 (gG N a0 a1).bind λr1=>cond (!r1) (some 1) ((jJ N a0 a2).bind λr2=>cond (!r2) (some 1) ((fc N a3).bind λr3=>cond (!r3) (some 1) ((ZD N a4).bind λr4=>cond (!r4) (some 1) (cond (aX 0 (ℓ a3)) (let v5:Int:=W .i64 ((ℓ a3:Int)-1);cond (bf v5 (ℓ a3)) (cond (dx a4.1 (γ a3 v5.toNat ba).1) (some 1) (arn a2 a3 a0 a1 a4)) none) (arn a2 a3 a0 a1 a4)))))
def lY(a0:ae)(a1:an)(a2:bJ)(a3:aO)(a4:cL):Option Int:=lY.b N (lY.j3 N) a0 a1 a2 a3 a4
def adS(a0:ae)(a1:an)(a2:bJ)(a3:aO)(a4:cL):Option (aO×(Int)):=
 (lY N a0 a1 a2 a3 a4).bind λr1=>cond (!aN r1 0) (some ([],r1)) (cond (small (ℓ cT+ℓ a3)) (let v2:List ((Int)×((Int)×((Int)×((Int)×(Unit))))):=cT++a3;cond (small (ℓ v2+ℓ ([a4]))) (some ((v2++([a4])),0)) none) none)
abbrev tb.kA:=aO→Int→cL→cL→Bool→Int→Option (cL×(Bool))
def tb.u7(N:Nat)(lC:tb.kA)(x0:aO)(x1:Int)(x4 x6:cL)(x7:Bool)(x8:Int):Option (cL×(Bool)):=
 cond (aX x8 (ℓ x0)) (cond (bf x8 (ℓ x0)) (cond (aN (γ x0 x8.toNat ba).2.1 x1) (cond (!x7) (cond (bf x8 (ℓ x0)) (lC x0 x1 x4 (γ x0 x8.toNat ba) true (W .i64 (x8+1))) none) (cond (bf x8 (ℓ x0)) (cond (aX x6.2.2.2.1 (γ x0 x8.toNat ba).2.2.2.1) (cond (bf x8 (ℓ x0)) (lC x0 x1 x4 (γ x0 x8.toNat ba) true (W .i64 (x8+1))) none) (lC x0 x1 x4 x6 x7 (W .i64 (x8+1)))) none)) (lC x0 x1 x4 x6 x7 (W .i64 (x8+1)))) none) (some (x6,x7))
def tb.l6(N:Nat):Nat→tb.kA
 |0,_,_,_,_,_,_=>none
 |n+1,x0,x1,x4,x6,x7,x8=>tb.u7 N (tb.l6 N n) x0 x1 x4 x6 x7 x8
def tb.b(yG:tb.kA)(a0:aO)(a1:Int):Option (cL×(Bool)):=
 (fc N a0).bind λr1=>cond (!r1) (some (ba,false)) (yG a0 a1 ba ba false 0)
def tb(a0:aO)(a1:Int):Option (cL×(Bool)):=tb.b N (tb.l6 N N) a0 a1
abbrev gv.tk:=bJ→aO→an→an→au→bM→bJ→Int→je→cL→Int→Int→Option (an×bJ×(Int))
abbrev gv.eP:=bJ→aO→an→an→au→bM→bJ→Int→Option (an×bJ×(Int))
def gv.w8(eR:gv.eP)(IQ:gv.tk)(x2:bJ)(x3:aO)(x5 x8:an)(a7:au)(bp:bM)(cj:bJ)(cZ:Int)(eu:je)(fy:cL)(mz nT:Int):Option (an×bJ×(Int)):=
 cond (aX nT (ℓ eu.2.1)) (cond (bf nT (ℓ eu.2.1)) (cond (bf nT (ℓ eu.2.1)) (let v14:Int:=W .i64 (0-((γ eu.2.1 nT.toNat c5).2.1));cond (bf nT (ℓ eu.2.1)) (cond (bf nT (ℓ eu.2.1)) (cond (small (ℓ a7+ℓ ([(0,((γ eu.2.1 nT.toNat c5).1,(v14,()))),(mz,((γ eu.2.1 nT.toNat c5).1,((γ eu.2.1 nT.toNat c5).2.1,())))]))) (IQ x2 x3 x5 x8 (a7++([(0,((γ eu.2.1 nT.toNat c5).1,(v14,()))),(mz,((γ eu.2.1 nT.toNat c5).1,((γ eu.2.1 nT.toNat c5).2.1,())))])) bp cj cZ eu fy mz (W .i64 (nT+1))) none) none) none) none) none) ((kR N fy.2.2.2.1).bind λyA=>(Dq N 5 mz 2 0 yA).bind λyH=>cond (small (ℓ bp+ℓ yH)) (cond (small (ℓ cj+ℓ ([eu]))) (eR x2 x3 x5 x8 a7 (bp++yH) (cj++([eu])) (W .i64 (cZ+1))) none) none)
def gv.yk(N:Nat)(eR:gv.eP):Nat→gv.tk
 |0,_,_,_,_,_,_,_,_,_,_,_,_=>none
 |n+1,x2,x3,x5,x8,a7,bp,cj,cZ,eu,fy,mz,nT=>gv.w8 N eR (gv.yk N eR n) x2 x3 x5 x8 a7 bp cj cZ eu fy mz nT
def gv.mK(IS:gv.tk)(eR:gv.eP)(x2:bJ)(x3:aO)(x5 x8:an)(a7:au)(bp:bM)(cj:bJ)(cZ:Int):Option (an×bJ×(Int)):=
 cond (aX cZ (ℓ x2)) (cond (bf cZ (ℓ x2)) (cond (small (ℓ ch+ℓ (γ x2 cZ.toNat (0,(ch,ba))).2.1)) (let v5:List ((Int)×((Int)×(Unit))):=ch++((γ x2 cZ.toNat (0,(ch,ba))).2.1);cond (!aN (γ x2 cZ.toNat (0,(ch,ba))).2.2.2.1 1) (cond (small (ℓ cj+ℓ ([((γ x2 cZ.toNat (0,(ch,ba))).1,(v5,(γ x2 cZ.toNat (0,(ch,ba))).2.2))]))) (eR x2 x3 x5 x8 a7 bp (cj++([((γ x2 cZ.toNat (0,(ch,ba))).1,(v5,(γ x2 cZ.toNat (0,(ch,ba))).2.2))])) (W .i64 (cZ+1))) none) ((tb N x3 (γ x2 cZ.toNat (0,(ch,ba))).1).bind λr8=>cond (!r8.2) (cond (small (ℓ cj+ℓ ([((γ x2 cZ.toNat (0,(ch,ba))).1,(v5,((γ x2 cZ.toNat (0,(ch,ba))).2.2.1,(3,(γ x2 cZ.toNat (0,(ch,ba))).2.2.2.2))))]))) (eR x2 x3 x5 x8 a7 bp (cj++([((γ x2 cZ.toNat (0,(ch,ba))).1,(v5,((γ x2 cZ.toNat (0,(ch,ba))).2.2.1,(3,(γ x2 cZ.toNat (0,(ch,ba))).2.2.2.2))))])) (W .i64 (cZ+1))) none) ((np N x5.2.1 r8.1.2.2.1).bind λm6=>cond (aN m6 0) (some ((ch,(cT,(bq,(bq,(dg,(du,())))))),[],3)) ((ML N x5 r8.1.2.2.1).bind λoU=>cond (aN oU 0) (some ((ch,(cT,(bq,(bq,(dg,(du,())))))),[],3)) (IS x2 x3 x5 x8 a7 bp cj cZ ((γ x2 cZ.toNat (0,(ch,ba))).1,(v5,((γ x2 cZ.toNat (0,(ch,ba))).2.2.1,(2,(r8.1.2.2.1,(r8.1.2.2.2.1,(γ x2 cZ.toNat (0,(ch,ba))).2.2.2.2.2.2)))))) r8.1 m6 0))))) none) none) ((zB N x5 a7 bp).bind λNa=>cond (!aN Na.2 0) (some ((ch,(cT,(bq,(bq,(dg,(du,())))))),[],Na.2)) (some (Na.1,cj,0)))
def gv.l7(N:Nat):Nat→gv.eP
 |0,_,_,_,_,_,_,_,_=>none
 |n+1,x2,x3,x5,x8,a7,bp,cj,cZ=>gv.mK N (gv.yk N (gv.l7 N n) N) (gv.l7 N n) x2 x3 x5 x8 a7 bp cj cZ
def gv.b(q3:gv.eP)(a0:ae)(a1:an)(a2:bJ)(a3:aO):Option (an×bJ×(Int)):=
 (gG N a0 a1).bind λr1=>cond (!r1) (some ((ch,(cT,(bq,(bq,(dg,(du,())))))),[],1)) ((jJ N a0 a2).bind λr2=>cond (!r2) (some ((ch,(cT,(bq,(bq,(dg,(du,())))))),[],1)) ((fc N a3).bind λr3=>cond (!r3) (some ((ch,(cT,(bq,(bq,(dg,(du,())))))),[],1)) (q3 a2 a3 a1 (ch,(cT,(bq,(bq,(dg,(du,())))))) ([]) ([]) ([]) 0)))
def gv(a0:ae)(a1:an)(a2:bJ)(a3:aO):Option (an×bJ×(Int)):=gv.b N (gv.l7 N N) a0 a1 a2 a3
abbrev qz.cX:=aE→Int→Option Bool
def qz.fI(N:Nat)(dV:qz.cX)(x0:aE)(x3:Int):Option Bool:=
 cond (aX x3 (ℓ x0)) (cond (bf x3 (ℓ x0)) (cond (aX (γ x0 x3.toNat c5).1 1) (some false) (cond (bf x3 (ℓ x0)) (cond (aX 12 (γ x0 x3.toNat c5).1) (some false) (cond (bf x3 (ℓ x0)) (cond (aX (γ x0 x3.toNat c5).2.1 1) (some false) (cond (bf x3 (ℓ x0)) (cond (aX 4 (γ x0 x3.toNat c5).2.1) (some false) (cond (aX 0 x3) (cond (bf x3 (ℓ x0)) (let v2:Int:=W .i64 (x3-1);cond (bf v2 (ℓ x0)) (cond (dx (γ x0 x3.toNat c5).1 (γ x0 v2.toNat c5).1) (some false) (dV x0 (W .i64 (x3+1)))) none) none) (dV x0 (W .i64 (x3+1))))) none)) none)) none)) none) (some true)
def qz.l2(N:Nat):Nat→qz.cX
 |0,_,_=>none
 |n+1,x0,x3=>qz.fI N (qz.l2 N n) x0 x3
def qz.b(N:Nat)(gT:qz.cX)(a0:aE):Option Bool:=
 gT a0 0
def qz(a0:aE):Option Bool:=qz.b N (qz.l2 N N) a0
abbrev s7.cX:=(List Int)→Int→Option Bool
def s7.fI(N:Nat)(dV:s7.cX)(x0:List Int)(x3:Int):Option Bool:=
 cond (aX x3 (ℓ x0)) (cond (bf x3 (ℓ x0)) (cond (aX (γ x0 x3.toNat 0) 1) (some false) (cond (bf x3 (ℓ x0)) (cond (aX 12 (γ x0 x3.toNat 0)) (some false) (cond (aX 0 x3) (cond (bf x3 (ℓ x0)) (let v2:Int:=W .i64 (x3-1);cond (bf v2 (ℓ x0)) (cond (dx (γ x0 x3.toNat 0) (γ x0 v2.toNat 0)) (some false) (dV x0 (W .i64 (x3+1)))) none) none) (dV x0 (W .i64 (x3+1))))) none)) none) (some true)
def s7.l2(N:Nat):Nat→s7.cX
 |0,_,_=>none
 |n+1,x0,x3=>s7.fI N (s7.l2 N n) x0 x3
def s7.b(N:Nat)(gT:s7.cX)(a0:List Int):Option Bool:=
 gT a0 0
def s7(a0:List Int):Option Bool:=s7.b N (s7.l2 N N) a0
abbrev ko.iR:=Int→bJ→Int→Int→Option Int
abbrev ko.dP:=Int→bJ→aO→Int→Int→Option Int
def ko.mO(N:Nat)(lD:ko.iR)(x0:Int)(x1:bJ)(x7 bp:Int):Option Int:=
 cond (aX bp (ℓ x1)) (cond (bf bp (ℓ x1)) (cond (aN (γ x1 bp.toNat (0,(ch,ba))).2.2.2.1 2) (cond (bf bp (ℓ x1)) (cond (aN (γ x1 bp.toNat (0,(ch,ba))).2.2.2.2.1 x0) (lD x0 x1 4 (W .i64 (bp+1))) (lD x0 x1 x7 (W .i64 (bp+1)))) none) (lD x0 x1 x7 (W .i64 (bp+1)))) none) (some x7)
def ko.nI(N:Nat):Nat→ko.iR
 |0,_,_,_,_=>none
 |n+1,x0,x1,x7,bp=>ko.mO N (ko.nI N n) x0 x1 x7 bp
def ko.m3(vu:ko.iR)(dw:ko.dP)(x0:Int)(x1:bJ)(x2:aO)(x7 x8:Int):Option Int:=
 cond (aX x8 (ℓ x2)) (cond (bf x8 (ℓ x2)) (cond (!aN (γ x2 x8.toNat ba).2.2.1 x0) (dw x0 x1 x2 x7 (W .i64 (x8+1))) (cond (bf x8 (ℓ x2)) ((rI N x1 (γ x2 x8.toNat ba).2.1).bind λr3=>cond (r3.2) (cond (bf x8 (ℓ x2)) (cond (dx r3.1.2.2.1 (γ x2 x8.toNat ba).2.2.2.1) (dw x0 x1 x2 (mx x7 3) (W .i64 (x8+1))) (dw x0 x1 x2 (mx x7 2) (W .i64 (x8+1)))) none) (dw x0 x1 x2 (mx x7 2) (W .i64 (x8+1)))) none)) none) (vu x0 x1 x7 0)
def ko.l3(N:Nat):Nat→ko.dP
 |0,_,_,_,_,_=>none
 |n+1,x0,x1,x2,x7,x8=>ko.m3 N (ko.nI N N) (ko.l3 N n) x0 x1 x2 x7 x8
def ko.b(N:Nat)(oS:ko.dP)(a0:Int)(a1:bJ)(a2:aO):Option Int:=
 oS a0 a1 a2 1 0
def ko(a0:Int)(a1:bJ)(a2:aO):Option Int:=ko.b N (ko.l3 N N) a0 a1 a2
abbrev dR.yM:=aE→(List Int)→bJ→aO→aE→Int→Int→Bool→Int→Option (aE×(Int))
abbrev dR.yP:=aE→(List Int)→bJ→aO→aE→Int→Int→Bool→Int→Option (aE×(Int))
abbrev dR.lE:=aE→(List Int)→bJ→aO→aE→Int→Int→Bool→Int→Option (aE×(Int))
abbrev dR.bL:=aE→(List Int)→bJ→aO→aE→Int→Option (aE×(Int))
def dR.Fh(bQ:dR.bL)(I1:dR.yM)(x1:aE)(x2:List Int)(x3:bJ)(x4:aO)(bp:aE)(cj cZ:Int)(eu:Bool)(mz:Int):Option (aE×(Int)):=
 cond (aX mz (ℓ x4)) (cond (eu) (I1 x1 x2 x3 x4 bp cj cZ true (W .i64 (mz+1))) (cond (bf mz (ℓ x4)) (I1 x1 x2 x3 x4 bp cj cZ (aN (γ x4 mz.toNat ba).2.2.1 cj) (W .i64 (mz+1))) none)) (cond (eu) ((ko N cj x3 x4).bind λuD=>let v16:Int:=mx cZ uD;cond (small (ℓ bp+ℓ ([(cj,(v16,()))]))) (bQ x1 x2 x3 x4 (bp++([(cj,(v16,()))])) (W .i64 (cj+1))) none) (bQ x1 x2 x3 x4 bp (W .i64 (cj+1))))
def dR.Ji(N:Nat)(bQ:dR.bL):Nat→dR.yM
 |0,_,_,_,_,_,_,_,_,_=>none
 |n+1,x1,x2,x3,x4,bp,cj,cZ,eu,mz=>dR.Fh N bQ (dR.Ji N bQ n) x1 x2 x3 x4 bp cj cZ eu mz
def dR.H5(N:Nat)(QJ:dR.yM)(bQ:dR.bL)(EM:dR.yP)(x1:aE)(x2:List Int)(x3:bJ)(x4:aO)(bp:aE)(cj cZ:Int)(eu:Bool)(gg:Int):Option (aE×(Int)):=
 cond (aX gg (ℓ x2)) (cond (eu) (EM x1 x2 x3 x4 bp cj cZ true (W .i64 (gg+1))) (cond (bf gg (ℓ x2)) (EM x1 x2 x3 x4 bp cj cZ (aN (γ x2 gg.toNat 0) cj) (W .i64 (gg+1))) none)) (QJ x1 x2 x3 x4 bp cj cZ eu 0)
def dR.KR(N:Nat)(bQ:dR.bL):Nat→dR.yP
 |0,_,_,_,_,_,_,_,_,_=>none
 |n+1,x1,x2,x3,x4,bp,cj,cZ,eu,gg=>dR.H5 N (dR.Ji N bQ N) bQ (dR.KR N bQ n) x1 x2 x3 x4 bp cj cZ eu gg
def dR.vd(N:Nat)(QM:dR.yP)(bQ:dR.bL)(o4:dR.lE)(x1:aE)(x2:List Int)(x3:bJ)(x4:aO)(bp:aE)(cj cZ:Int)(eu:Bool)(fy:Int):Option (aE×(Int)):=
 cond (aX fy (ℓ x1)) (cond (bf fy (ℓ x1)) (cond (aN (γ x1 fy.toNat c5).1 cj) (cond (bf fy (ℓ x1)) (o4 x1 x2 x3 x4 bp cj (γ x1 fy.toNat c5).2.1 true (W .i64 (fy+1))) none) (o4 x1 x2 x3 x4 bp cj cZ eu (W .i64 (fy+1)))) none) (QM x1 x2 x3 x4 bp cj cZ eu 0)
def dR.l9(N:Nat)(bQ:dR.bL):Nat→dR.lE
 |0,_,_,_,_,_,_,_,_,_=>none
 |n+1,x1,x2,x3,x4,bp,cj,cZ,eu,fy=>dR.vd N (dR.KR N bQ N) bQ (dR.l9 N bQ n) x1 x2 x3 x4 bp cj cZ eu fy
def dR.dU(N:Nat)(yI:dR.lE)(bQ:dR.bL)(x1:aE)(x2:List Int)(x3:bJ)(x4:aO)(bp:aE)(cj:Int):Option (aE×(Int)):=
 cond (dx cj 12) (yI x1 x2 x3 x4 bp cj 0 false 0) (some (bp,0))
def dR.l5(N:Nat):Nat→dR.bL
 |0,_,_,_,_,_,_=>none
 |n+1,x1,x2,x3,x4,bp,cj=>dR.dU N (dR.l9 N (dR.l5 N n) N) (dR.l5 N n) x1 x2 x3 x4 bp cj
def dR.b(eX:dR.bL)(a0:ae)(a1:aE)(a2:List Int)(a3:bJ)(a4:aO):Option (aE×(Int)):=
 (qz N a1).bind λr1=>cond (!r1) (some ([],1)) ((s7 N a2).bind λr2=>cond (!r2) (some ([],1)) ((jJ N a0 a3).bind λr3=>cond (!r3) (some ([],1)) ((fc N a4).bind λr4=>cond (!r4) (some ([],1)) (eX a1 a2 a3 a4 ([]) 1))))
def dR(a0:ae)(a1:aE)(a2:List Int)(a3:bJ)(a4:aO):Option (aE×(Int)):=dR.b N (dR.l5 N N) a0 a1 a2 a3 a4
def MO(a0:bh)(a1:an)(a2 a3 a4:Int):Option bh:=
 (vy N a1.2.2.1 a3 a4).bind λr1=>cond (aX 0 r1) (cond (small (ℓ a0+ℓ ([(a2,(a3,(a4,(r1,(0,())))))]))) (some (a0++([(a2,(a3,(a4,(r1,(0,())))))]))) none) (some a0)
def aaF(N:Nat)(a0:Int):Option Bool:=
 cond (aN a0 1) (some true) (some (aN a0 2))
abbrev s8.bN:=aE→Int→Int→Option Int
def s8.dL(N:Nat)(cG:s8.bN)(x0:aE)(x1 x5:Int):Option Int:=
 cond (aX x5 (ℓ x0)) (cond (bf x5 (ℓ x0)) (cond (aN (γ x0 x5.toNat c5).1 x1) (cond (bf x5 (ℓ x0)) (some (γ x0 x5.toNat c5).2.1) none) (cG x0 x1 (W .i64 (x5+1)))) none) (some 1)
def s8.l4(N:Nat):Nat→s8.bN
 |0,_,_,_=>none
 |n+1,x0,x1,x5=>s8.dL N (s8.l4 N n) x0 x1 x5
def s8.b(eW:s8.bN)(a0:aE)(a1:Int):Option Int:=
 (qz N a0).bind λr1=>cond (!r1) (some 0) (eW a0 a1 0)
def s8(a0:aE)(a1:Int):Option Int:=s8.b N (s8.l4 N N) a0 a1
abbrev s9.bL:=aE→Int→Int→an→(List Int)→Int→Option ((List Int)×(Int))
def s9.dU(bQ:s9.bL)(x2:aE)(x3 x4:Int)(x6:an)(bp:List Int)(cj:Int):Option ((List Int)×(Int)):=
 cond (aX cj (ℓ x6.1)) (cond (bf cj (ℓ x6.1)) ((aaF N (γ x6.1 cj.toNat c5).2.1).bind λr4=>cond (r4) (cond (!aN (γ x6.1 cj.toNat c5).1 x3) ((vy N x6.2.2.1 6 (γ x6.1 cj.toNat c5).1).bind λr5=>cond (aX 0 r5) ((s8 N x2 (γ x6.1 cj.toNat c5).1).bind λr6=>cond (aN r6 x4) (cond (small (ℓ bp+ℓ ([(γ x6.1 cj.toNat c5).1]))) (bQ x2 x3 x4 x6 (bp++([(γ x6.1 cj.toNat c5).1])) (W .i64 (cj+1))) none) (bQ x2 x3 x4 x6 bp (W .i64 (cj+1)))) (bQ x2 x3 x4 x6 bp (W .i64 (cj+1)))) (bQ x2 x3 x4 x6 bp (W .i64 (cj+1)))) (bQ x2 x3 x4 x6 bp (W .i64 (cj+1)))) none) (some (bp,0))
def s9.l5(N:Nat):Nat→s9.bL
 |0,_,_,_,_,_,_=>none
 |n+1,x2,x3,x4,x6,bp,cj=>s9.dU N (s9.l5 N n) x2 x3 x4 x6 bp cj
def s9.b(eX:s9.bL)(a0:ae)(a1:an)(a2:aE)(a3 a4:Int):Option ((List Int)×(Int)):=
 (gG N a0 a1).bind λr1=>cond (!r1) (some ([],1)) ((qz N a2).bind λr2=>cond (!r2) (some ([],1)) (eX a2 a3 a4 a1 ([]) 0))
def s9(a0:ae)(a1:an)(a2:aE)(a3 a4:Int):Option ((List Int)×(Int)):=s9.b N (s9.l5 N N) a0 a1 a2 a3 a4
abbrev c6.nK:=Int→aE→aE→ae→an→bh→Int→(List Int)→Int→Option (bh×(Int))
abbrev c6.IV:=Int→aE→an→bh→Int→Option (bh×(Int))
abbrev c6.vv:=Int→aE→ae→an→bh→Int→Option (bh×(Int))
abbrev c6.iR:=Int→aE→aE→ae→an→bh→Int→Option (bh×(Int))
abbrev c6.Nb:=Int→aE→aE→ae→an→bh→Option (bh×(Int))
def c6.w7(lD:c6.iR)(pa:c6.nK)(x2:Int)(x3 x4:aE)(x5:ae)(x6:an)(bp:bh)(cZ:Int)(eu:List Int)(gg:Int):Option (bh×(Int)):=
 cond (aX gg (ℓ eu)) (cond (bf gg (ℓ eu)) ((MO N bp x6 (W .i64 ((W .i64 (4+cZ))-1)) 6 (γ eu gg.toNat 0)).bind λuD=>pa x2 x3 x4 x5 x6 uD cZ eu (W .i64 (gg+1))) none) (lD x2 x3 x4 x5 x6 bp (W .i64 (cZ+1)))
def c6.yj(N:Nat)(lD:c6.iR):Nat→c6.nK
 |0,_,_,_,_,_,_,_,_,_=>none
 |n+1,x2,x3,x4,x5,x6,bp,cZ,eu,gg=>c6.w7 N lD (c6.yj N lD n) x2 x3 x4 x5 x6 bp cZ eu gg
def c6.Mo(EK:c6.IV)(x2:Int)(x4:aE)(x6:an)(bp:bh)(XU:Int):Option (bh×(Int)):=
 cond (aX XU (ℓ x4)) (cond (bf XU (ℓ x4)) ((Ws N x6.2.1 (γ x4 XU.toNat c5).1).bind λJm=>cond (bf XU (ℓ x4)) (cond (bf XU (ℓ x4)) ((vy N x6.2.2.1 5 (γ x4 XU.toNat c5).1).bind λr32=>let v33:Int:=mn (γ x4 XU.toNat c5).2.1 r32;cond (Jm.2) (cond (!aN Jm.1.2.1 x2) (cond (aX 0 v33) (cond (small (ℓ bp+ℓ ([(9,(5,(Jm.1.1,(v33,(0,())))))]))) (EK x2 x4 x6 (bp++([(9,(5,(Jm.1.1,(v33,(0,())))))])) (W .i64 (XU+1))) none) (EK x2 x4 x6 bp (W .i64 (XU+1)))) (EK x2 x4 x6 bp (W .i64 (XU+1)))) (EK x2 x4 x6 bp (W .i64 (XU+1)))) none) none) none) (some (bp,0))
def c6.Pm(N:Nat):Nat→c6.IV
 |0,_,_,_,_,_=>none
 |n+1,x2,x4,x6,bp,XU=>c6.Mo N (c6.Pm N n) x2 x4 x6 bp XU
def c6.P8(abo:c6.IV)(nO:c6.vv)(x2:Int)(x4:aE)(x5:ae)(x6:an)(bp:bh)(mz:Int):Option (bh×(Int)):=
 cond (aX mz (ℓ x6.1)) (cond (bf mz (ℓ x6.1)) ((aaF N (γ x6.1 mz.toNat c5).2.1).bind λJ4=>cond (!J4) (nO x2 x4 x5 x6 bp (W .i64 (mz+1))) (cond (aN (γ x6.1 mz.toNat c5).1 x2) (nO x2 x4 x5 x6 bp (W .i64 (mz+1))) ((kR N x5.2.2.1).bind λNa=>(vy N x6.2.2.1 6 (γ x6.1 mz.toNat c5).1).bind λEJ=>(kR N EJ).bind λNA=>(kI N Na NA).bind λJl=>(yd N Jl).bind λEL=>cond (!EL.2) (some ([],2)) (cond (aX 0 EL.1) (cond (small (ℓ bp+ℓ ([(8,(7,((γ x6.1 mz.toNat c5).1,(EL.1,(0,())))))]))) (nO x2 x4 x5 x6 (bp++([(8,(7,((γ x6.1 mz.toNat c5).1,(EL.1,(0,())))))])) (W .i64 (mz+1))) none) (nO x2 x4 x5 x6 bp (W .i64 (mz+1))))))) none) (abo x2 x4 x6 bp 0)
def c6.JW(N:Nat):Nat→c6.vv
 |0,_,_,_,_,_,_=>none
 |n+1,x2,x4,x5,x6,bp,mz=>c6.P8 N (c6.Pm N N) (c6.JW N n) x2 x4 x5 x6 bp mz
def c6.mO(IT:c6.nK)(abx:c6.vv)(lD:c6.iR)(x2:Int)(x3 x4:aE)(x5:ae)(x6:an)(bp:bh)(cZ:Int):Option (bh×(Int)):=
 cond (dx cZ 4) ((s9 N x5 x6 x3 x2 cZ).bind λm6=>IT x2 x3 x4 x5 x6 bp cZ m6.1 0) (abx x2 x4 x5 x6 bp 0)
def c6.nI(N:Nat):Nat→c6.iR
 |0,_,_,_,_,_,_,_=>none
 |n+1,x2,x3,x4,x5,x6,bp,cZ=>c6.mO N (c6.yj N (c6.nI N n) N) (c6.JW N N) (c6.nI N n) x2 x3 x4 x5 x6 bp cZ
def c6.JF(vu:c6.iR)(x2:Int)(x3 x4:aE)(x5:ae)(x6:an)(bp:bh):Option (bh×(Int)):=
 (MO N bp x6 2 6 x2).bind λr8=>(MO N r8 x6 3 3 0).bind λr9=>vu x2 x3 x4 x5 x6 r9 1
def c6.j9(x2:Int)(x3 x4:aE)(x5:ae)(x6:an)(bp:bh):Option (bh×(Int)):=c6.JF N (c6.nI N N) x2 x3 x4 x5 x6 bp
def c6.b(Cw:c6.Nb)(a0:ae)(a1:an)(a2:Int)(a3 a4:aE):Option (bh×(Int)):=
 (gG N a0 a1).bind λr1=>cond (!r1) (some ([],1)) ((qz N a3).bind λr2=>cond (!r2) (some ([],1)) ((rH N a4).bind λr3=>cond (!r3) (some ([],1)) ((UC N a1.1 a2).bind λr4=>cond (aN r4 0) (some ([],3)) ((np N a1.2.1 a2).bind λr5=>cond (!aN r5 0) ((MO N ([]) a1 1 5 r5).bind λr6=>Cw a2 a3 a4 a0 a1 r6) (Cw a2 a3 a4 a0 a1 ([]))))))
def c6(a0:ae)(a1:an)(a2:Int)(a3 a4:aE):Option (bh×(Int)):=c6.b N (c6.j9 N) a0 a1 a2 a3 a4
def adU(a0:ae)(a1:an):Option ((Int)×(Int)):=
 (gG N a0 a1).bind λr1=>cond (!r1) (some (0,1)) ((vy N a1.2.2.1 2 0).bind λr2=>cond (aN r2 (-9223372036854775808)) (some (0,2)) (some ((mx (W .i64 (0-r2)) 0),0)))
abbrev ta.bN:=bh→Int→Option Bool
def ta.dL(cG:ta.bN)(x0:bh)(x3:Int):Option Bool:=
 cond (aX x3 (ℓ x0)) (cond (bf x3 (ℓ x0)) (cond (aX (γ x0 x3.toNat gq).1 1) (some false) (cond (aX 9 (γ x0 x3.toNat gq).1) (some false) ((SH N (γ x0 x3.toNat gq).2.1 (γ x0 x3.toNat gq).2.2.1).bind λr2=>cond (!r2) (some false) (cond (aX (γ x0 x3.toNat gq).2.2.2.1 1) (some false) (cond (aX (γ x0 x3.toNat gq).2.2.2.2.1 0) (some false) (cond (aX (γ x0 x3.toNat gq).2.2.2.1 (γ x0 x3.toNat gq).2.2.2.2.1) (some false) (cond (aX 0 x3) (let v3:Int:=W .i64 (x3-1);cond (bf v3 (ℓ x0)) (cond (aX (γ x0 x3.toNat gq).1 (γ x0 v3.toNat gq).1) (some false) (let v4:Int:=W .i64 (x3-1);cond (bf v4 (ℓ x0)) (cond (aN (γ x0 x3.toNat gq).1 (γ x0 v4.toNat gq).1) (let v5:Int:=W .i64 (x3-1);cond (bf v5 (ℓ x0)) (cond (!aN (γ x0 x3.toNat gq).2.1 (γ x0 v5.toNat gq).2.1) (some false) (let v6:Int:=W .i64 (x3-1);cond (bf v6 (ℓ x0)) (cond (dx (γ x0 x3.toNat gq).2.2.1 (γ x0 v6.toNat gq).2.2.1) (some false) (cG x0 (W .i64 (x3+1)))) none)) none) (cG x0 (W .i64 (x3+1)))) none)) none) (cG x0 (W .i64 (x3+1)))))))))) none) (some true)
def ta.l4(N:Nat):Nat→ta.bN
 |0,_,_=>none
 |n+1,x0,x3=>ta.dL N (ta.l4 N n) x0 x3
def ta.b(N:Nat)(eW:ta.bN)(a0:bh):Option Bool:=
 cond (aX 64 (ℓ a0)) (some false) (eW a0 0)
def ta(a0:bh):Option Bool:=ta.b N (ta.l4 N N) a0
abbrev dX.yM:=bh→Int→Int→Int→(List Int)→Int→Option (bh×(Int)×(Int))
abbrev dX.IZ:=bh→Int→Int→Int→(List Int)→Option (bh×(Int)×(Int))
abbrev dX.kd:=bh→Int→Int→Int→(List Int)→Option (bh×(Int)×(Int))
abbrev dX.bL:=bh→Int→Int→Option (bh×(Int)×(Int))
def dX.Fh(N:Nat)(bQ:dX.bL)(I1:dX.yM)(x7:bh)(x8 x9 bo:Int)(cZ:List Int)(fy:Int):Option (bh×(Int)×(Int)):=
 cond (aX fy bo) (let v13:Int:=W .i64 (fy-x9);cond (bf v13 (ℓ cZ)) (cond (bf fy (ℓ x7)) (let v15:Int:=W .i64 (fy-x9);cond (bf v15 (ℓ cZ)) (I1 (List.set x7 fy.toNat ((γ x7 fy.toNat gq).1,((γ x7 fy.toNat gq).2.1,((γ x7 fy.toNat gq).2.2.1,((γ x7 fy.toNat gq).2.2.2.1,(γ cZ v13.toNat 0,(γ x7 fy.toNat gq).2.2.2.2.2)))))) (W .i64 (x8-(γ cZ v15.toNat 0))) x9 bo cZ (W .i64 (fy+1))) none) none) none) (bQ x7 x8 bo)
def dX.Ji(N:Nat)(bQ:dX.bL):Nat→dX.yM
 |0,_,_,_,_,_,_=>none
 |n+1,x7,x8,x9,bo,cZ,fy=>dX.Fh N bQ (dX.Ji N bQ n) x7 x8 x9 bo cZ fy
def dX.ym(QJ:dX.yM)(bQ:dX.bL)(x7:bh)(x8 x9 bo:Int)(a7:List Int):Option (bh×(Int)×(Int)):=
 (qL N a7).bind λr8=>(yd N r8).bind λr9=>cond (!r9.2) (some ([],0,2)) ((gy N (mn r9.1 x8) a7).bind λm6=>cond (!aN m6.2 0) (some ([],0,m6.2)) (QJ x7 x8 x9 bo m6.1 x9))
def dX.E9(bQ:dX.bL)(x7:bh)(x8 x9 bo:Int)(a7:List Int):Option (bh×(Int)×(Int)):=dX.ym N (dX.Ji N bQ N) bQ x7 x8 x9 bo a7
def dX.Ef(N:Nat)(yJ:dX.IZ)(bQ:dX.bL)(gI:dX.kd)(x7:bh)(x8 x9 bo:Int)(a7:List Int):Option (bh×(Int)×(Int)):=
 cond (aX bo (ℓ x7)) (cond (bf bo (ℓ x7)) (cond (bf x9 (ℓ x7)) (cond (aN (γ x7 bo.toNat gq).1 (γ x7 x9.toNat gq).1) (cond (bf bo (ℓ x7)) (cond (small (ℓ a7+ℓ ([(γ x7 bo.toNat gq).2.2.2.1]))) (gI x7 x8 x9 (W .i64 (bo+1)) (a7++([(γ x7 bo.toNat gq).2.2.2.1]))) none) none) (yJ x7 x8 x9 bo a7)) none) none) (yJ x7 x8 x9 bo a7)
def dX.l8(N:Nat)(bQ:dX.bL):Nat→dX.kd
 |0,_,_,_,_,_=>none
 |n+1,x7,x8,x9,bo,a7=>dX.Ef N (dX.E9 N bQ) bQ (dX.l8 N bQ n) x7 x8 x9 bo a7
def dX.dU(N:Nat)(IX:dX.kd)(bQ:dX.bL)(x7:bh)(x8 x9:Int):Option (bh×(Int)×(Int)):=
 cond (aX x9 (ℓ x7)) (IX x7 x8 x9 x9 ([])) (some (x7,x8,0))
def dX.l5(N:Nat):Nat→dX.bL
 |0,_,_,_=>none
 |n+1,x7,x8,x9=>dX.dU N (dX.l8 N (dX.l5 N n) N) (dX.l5 N n) x7 x8 x9
def dX.b(eX:dX.bL)(a0:bh)(a1:Int):Option (bh×(Int)×(Int)):=
 (ta N a0).bind λr1=>cond (!r1) (some ([],0,1)) (cond (aX a1 0) (some ([],0,1)) (cond (small (ℓ DO+ℓ a0)) (eX (DO++a0) a1 0) none))
def dX(a0:bh)(a1:Int):Option (bh×(Int)×(Int)):=dX.b N (dX.l5 N N) a0 a1
def adV(a0:ae)(a1:an):Option ((Int)×(Int)):=
 (gG N a0 a1).bind λr1=>cond (!r1) (some (0,1)) ((vy N a1.2.2.1 2 0).bind λr2=>some ((mx r2 0),0))
abbrev jc.aro:=an→an→eo→bM→eo→bh→Int→Int→Int→Option (an×eo×(Int))
abbrev jc.I0:=Int→ae→an→an→eo→bh→Int→bM→eo→bh→Int→Option (an×eo×(Int))
def jc.adX(x6 bo:an)(a7:eo)(mz:bM)(nT:eo)(I2:bh)(x21 x23 x24:Int):Option (an×eo×(Int)):=
 (kR N x21).bind λyA=>(Dq N 2 0 x23 x24 yA).bind λyH=>cond (small (ℓ mz+ℓ yH)) ((zB N x6 bq (mz++yH)).bind λQH=>cond (!aN QH.2 0) (some ((ch,(cT,(bq,(bq,(dg,(du,())))))),(0,(0,(DO,(0,())))),QH.2)) (some (QH.1,(nT.1,(nT.2.1,(I2,nT.2.2.2))),0))) none
def jc.j26(x6 bo:an)(a7:eo)(mz:bM)(nT:eo)(I2:bh)(x21 x23 x24:Int):Option (an×eo×(Int)):=jc.adX N x6 bo a7 mz nT I2 x21 x23 x24
def jc.JP(ajD:jc.aro)(Ls:jc.I0)(x2:Int)(x5:ae)(x6 bo:an)(a7:eo)(cj:bh)(gg:Int)(mz:bM)(nT:eo)(I2:bh)(AK:Int):Option (an×eo×(Int)):=
 cond (aX AK (ℓ cj)) (cond (bf AK (ℓ cj)) (cond (aX 0 (γ cj AK.toNat gq).2.2.2.2.1) (cond (bf AK (ℓ cj)) (cond (small (ℓ I2+ℓ ([γ cj AK.toNat gq]))) (cond (bf AK (ℓ cj)) (cond (bf AK (ℓ cj)) (cond (bf AK (ℓ cj)) ((kR N (γ cj AK.toNat gq).2.2.2.2.1).bind λr6=>(Dq N (γ cj AK.toNat gq).2.1 (γ cj AK.toNat gq).2.2.1 2 0 r6).bind λr7=>cond (small (ℓ mz+ℓ r7)) (Ls x2 x5 x6 bo a7 cj gg (mz++r7) (nT.1,(nT.2.1,(DO,nT.2.2.2))) (I2++([γ cj AK.toNat gq])) (W .i64 (AK+1))) none) none) none) none) none) none) (Ls x2 x5 x6 bo a7 cj gg mz nT I2 (W .i64 (AK+1)))) none) ((kR N gg).bind λm6=>(Dq N 4 0 2 0 m6).bind λoU=>cond (small (ℓ mz+ℓ oU)) (let v13:List ((Int)×((Int)×(((Bool)×((List Int)×(Unit)))×(Unit)))):=mz++oU;(adV N x5 x6).bind λrG=>(np N x6.2.1 x2).bind λuD=>cond (!aN uD 0) (ajD x6 bo a7 v13 nT I2 rG.1 5 uD) (ajD x6 bo a7 v13 nT I2 rG.1 6 x2)) none)
def jc.KC(N:Nat):Nat→jc.I0
 |0,_,_,_,_,_,_,_,_,_,_,_=>none
 |n+1,x2,x5,x6,bo,a7,cj,gg,mz,nT,I2,AK=>jc.JP N (jc.j26 N) (jc.KC N n) x2 x5 x6 bo a7 cj gg mz nT I2 AK
def jc.b(abu:jc.I0)(a0:ae)(a1:an)(a2:Int)(a3 a4:aE):Option (an×eo×(Int)):=
 (c6 N a0 a1 a2 a3 a4).bind λr1=>cond (aN r1.2 1) (some ((ch,(cT,(bq,(bq,(dg,(du,())))))),(0,(0,(DO,(0,())))),r1.2)) (cond (aN r1.2 3) (some ((ch,(cT,(bq,(bq,(dg,(du,())))))),(0,(0,(DO,(0,())))),r1.2)) ((adU N a0 a1).bind λr2=>cond (!aN r2.2 0) (some ((ch,(cT,(bq,(bq,(dg,(du,())))))),(0,(0,(DO,(0,())))),r2.2)) (cond (!aN r1.2 0) (some ((ch,(cT,(bq,(bq,(dg,(du,())))))),(0,(0,(DO,(0,())))),r1.2)) ((dX N r1.1 r2.1).bind λr3=>cond (!aN r3.2.2 0) (some ((ch,(cT,(bq,(bq,(dg,(du,())))))),(0,(0,(DO,(0,())))),r3.2.2)) (abu a2 a0 a1 (ch,(cT,(bq,(bq,(dg,(du,())))))) (0,(0,(DO,(0,())))) r3.1 r3.2.1 ([]) (a2,(r2.1,(DO,(r3.2.1,())))) DO 0)))))
def jc(a0:ae)(a1:an)(a2:Int)(a3 a4:aE):Option (an×eo×(Int)):=jc.b N (jc.KC N N) a0 a1 a2 a3 a4
abbrev fi.IU:=(List Int)→(List Int)→(List Int)→Int→Int→(List Int)→Int→Option ((List Int)×(Int)×(Int))
abbrev fi.iR:=(List Int)→(List Int)→(List Int)→Int→Int→(List Int)→Bool→Int→Option ((List Int)×(Int)×(Int))
abbrev fi.kd:=(List Int)→(List Int)→(List Int)→Int→Int→Option ((List Int)×(Int)×(Int))
def fi.SV(N:Nat)(gI:fi.kd)(abn:fi.IU)(x1 x2 a7:List Int)(bp cj:Int)(gg:List Int)(nT:Int):Option ((List Int)×(Int)×(Int)):=
 cond (aX nT (ℓ x1)) (cond (bf nT (ℓ gg)) (cond (bf nT (ℓ x2)) (cond (bf nT (ℓ a7)) (let v16:Int:=mn (γ gg nT.toNat 0) (W .i64 ((γ x2 nT.toNat 0)-(γ a7 nT.toNat 0)));cond (bf nT (ℓ a7)) (cond (bf nT (ℓ a7)) (abn x1 x2 (List.set a7 nT.toNat (W .i64 ((γ a7 nT.toNat 0)+v16))) (W .i64 (bp-v16)) cj gg (W .i64 (nT+1))) none) none) none) none) none) (gI x1 x2 a7 bp (W .i64 (cj+1)))
def fi.WO(N:Nat)(gI:fi.kd):Nat→fi.IU
 |0,_,_,_,_,_,_,_=>none
 |n+1,x1,x2,a7,bp,cj,gg,nT=>fi.SV N gI (fi.WO N gI n) x1 x2 a7 bp cj gg nT
def fi.mO(abp:fi.IU)(gI:fi.kd)(lD:fi.iR)(x1 x2 a7:List Int)(bp cj:Int)(cZ:List Int)(eu:Bool)(fy:Int):Option ((List Int)×(Int)×(Int)):=
 cond (aX fy (ℓ x1)) (cond (bf fy (ℓ x1)) (cond (aX 0 (γ x1 fy.toNat 0)) (cond (bf fy (ℓ a7)) (cond (bf fy (ℓ x2)) (cond (aX (γ a7 fy.toNat 0) (γ x2 fy.toNat 0)) (cond (bf fy (ℓ x1)) (cond (bf fy (ℓ cZ)) (lD x1 x2 a7 bp cj (List.set cZ fy.toNat (γ x1 fy.toNat 0)) true (W .i64 (fy+1))) none) none) (lD x1 x2 a7 bp cj cZ eu (W .i64 (fy+1)))) none) none) (lD x1 x2 a7 bp cj cZ eu (W .i64 (fy+1)))) none) (cond (aN bp 0) (some (a7,bp,0)) (cond (!eu) (some (a7,bp,0)) ((gy N bp cZ).bind λnW=>abp x1 x2 a7 bp cj nW.1 0)))
def fi.nI(N:Nat)(gI:fi.kd):Nat→fi.iR
 |0,_,_,_,_,_,_,_,_=>none
 |n+1,x1,x2,a7,bp,cj,cZ,eu,fy=>fi.mO N (fi.WO N gI N) gI (fi.nI N gI n) x1 x2 a7 bp cj cZ eu fy
def fi.Ef(N:Nat)(vu:fi.iR)(gI:fi.kd)(x1 x2 a7:List Int)(bp cj:Int):Option ((List Int)×(Int)×(Int)):=
 cond (dx cj (ℓ x1)) (cond (kW (ℓ x1) (ℓ x1)) (vu x1 x2 a7 bp cj (List.replicate (ℓ x1:Int).toNat 0) false 0) none) (some (a7,bp,0))
def fi.l8(N:Nat):Nat→fi.kd
 |0,_,_,_,_,_=>none
 |n+1,x1,x2,a7,bp,cj=>fi.Ef N (fi.nI N (fi.l8 N n) N) (fi.l8 N n) x1 x2 a7 bp cj
def fi.b(IX:fi.kd)(a0:Int)(a1 a2:List Int):Option ((List Int)×(Int)×(Int)):=
 (qS N a0 a1).bind λr1=>cond (r1) (some ([],0,1)) (cond (!aN (ℓ a2) (ℓ a1)) (some ([],0,1)) ((qS N 0 a2).bind λr2=>cond (r2) (some ([],0,1)) ((qL N a1).bind λr3=>(yd N r3).bind λr4=>cond (!r4.2) (some ([],0,2)) (cond (kW (ℓ a1) (ℓ a1)) (IX a1 a2 (List.replicate (ℓ a1:Int).toNat 0) a0 0) none))))
def fi(a0:Int)(a1 a2:List Int):Option ((List Int)×(Int)×(Int)):=fi.b N (fi.l8 N N) a0 a1 a2
abbrev gk.aby:=Int→Int→(List Int)→(List Int)→au→Int→Option (au×(Int))
abbrev gk.yO:=Int→an→Int→(List Int)→(List Int)→Int→Option (au×(Int))
def gk.aaG(N:Nat)(Vn:gk.aby)(x2 x8:Int)(x9 cj:List Int)(fy:au)(gg:Int):Option (au×(Int)):=
 cond (aX gg (ℓ cj)) (cond (bf gg (ℓ cj)) (cond (aX x8 0) (let v17:Int:=W .i64 (0-(γ cj gg.toNat 0));cond (!aN v17 0) (cond (bf gg (ℓ x9)) (cond (small (ℓ fy+ℓ ([(γ x9 gg.toNat 0,(x2,(v17,())))]))) (Vn x2 x8 x9 cj (fy++([(γ x9 gg.toNat 0,(x2,(v17,())))])) (W .i64 (gg+1))) none) none) (Vn x2 x8 x9 cj fy (W .i64 (gg+1)))) (cond (!aN (γ cj gg.toNat 0) 0) (cond (bf gg (ℓ x9)) (cond (small (ℓ fy+ℓ ([(γ x9 gg.toNat 0,(x2,(γ cj gg.toNat 0,())))]))) (Vn x2 x8 x9 cj (fy++([(γ x9 gg.toNat 0,(x2,(γ cj gg.toNat 0,())))])) (W .i64 (gg+1))) none) none) (Vn x2 x8 x9 cj fy (W .i64 (gg+1))))) none) (some (fy,0))
def gk.Xs(N:Nat):Nat→gk.aby
 |0,_,_,_,_,_,_=>none
 |n+1,x2,x8,x9,cj,fy,gg=>gk.aaG N (gk.Xs N n) x2 x8 x9 cj fy gg
def gk.yq(arp:gk.aby)(Cy:gk.yO)(x2:Int)(x4:an)(x8:Int)(x9 bo:List Int)(a7:Int):Option (au×(Int)):=
 cond (aX a7 (ℓ x4.2.2.2.1)) (cond (bf a7 (ℓ x4.2.2.2.1)) (cond (!aN (γ x4.2.2.2.1 a7.toNat bb).1 0) (cond (aN (γ x4.2.2.2.1 a7.toNat bb).2.1 x2) (cond (!(pb .bool (aX 0 (γ x4.2.2.2.1 a7.toNat bb).2.2.1) (aX 0 x8))) (cond (small (ℓ x9+ℓ ([(γ x4.2.2.2.1 a7.toNat bb).1]))) (let v6:Int:=mx (γ x4.2.2.2.1 a7.toNat bb).2.2.1 (W .i64 (0-((γ x4.2.2.2.1 a7.toNat bb).2.2.1)));cond (small (ℓ bo+ℓ ([v6]))) (Cy x2 x4 x8 (x9++([(γ x4.2.2.2.1 a7.toNat bb).1])) (bo++([v6])) (W .i64 (a7+1))) none) none) (Cy x2 x4 x8 x9 bo (W .i64 (a7+1)))) (Cy x2 x4 x8 x9 bo (W .i64 (a7+1)))) (Cy x2 x4 x8 x9 bo (W .i64 (a7+1)))) none) ((fi N (mx x8 (W .i64 (0-x8))) bo bo).bind λrG=>cond (!aN rG.2.2 0) (some ([],rG.2.2)) (arp x2 x8 x9 rG.1 ([(0,(x2,((W .i64 (0-x8)),())))]) 0))
def gk.Ar(N:Nat):Nat→gk.yO
 |0,_,_,_,_,_,_=>none
 |n+1,x2,x4,x8,x9,bo,a7=>gk.yq N (gk.Xs N N) (gk.Ar N n) x2 x4 x8 x9 bo a7
def gk.b(QL:gk.yO)(a0:ae)(a1:an)(a2:Int):Option (au×(Int)):=
 (gG N a0 a1).bind λr1=>cond (!r1) (some ([],1)) (cond (aX a2 0) (some ([],3)) (cond (dx (ℓ a0.1) a2) (some ([],3)) ((CE N a1.2.2.2.1 0 a2).bind λr2=>cond (aN r2 0) (some ([],0)) (QL a2 a1 r2 ([]) ([]) 0))))
def gk(a0:ae)(a1:an)(a2:Int):Option (au×(Int)):=gk.b N (gk.Ar N N) a0 a1 a2
abbrev oO.bL:=ae→an→an→au→Int→Option (an×(Int))
def oO.dU(bQ:oO.bL)(x2:ae)(x3 x4:an)(x6:au)(x7:Int):Option (an×(Int)):=
 cond (aX x7 (ℓ x2.1)) ((gk N x2 x3 x7).bind λr3=>cond (!aN r3.2 0) (some ((ch,(cT,(bq,(bq,(dg,(du,())))))),r3.2)) (cond (small (ℓ x6+ℓ r3.1)) (bQ x2 x3 x4 (x6++r3.1) (W .i64 (x7+1))) none)) ((zB N x3 x6 ([]:List ((Int)×((Int)×(((Bool)×((List Int)×(Unit)))×(Unit)))))).bind λr6=>some (r6.1,r6.2))
def oO.l5(N:Nat):Nat→oO.bL
 |0,_,_,_,_,_=>none
 |n+1,x2,x3,x4,x6,x7=>oO.dU N (oO.l5 N n) x2 x3 x4 x6 x7
def oO.b(eX:oO.bL)(a0:ae)(a1:an):Option (an×(Int)):=
 (gG N a0 a1).bind λr1=>cond (!r1) (some ((ch,(cT,(bq,(bq,(dg,(du,())))))),1)) (eX a0 a1 (ch,(cT,(bq,(bq,(dg,(du,())))))) ([]) 0)
def oO(a0:ae)(a1:an):Option (an×(Int)):=oO.b N (oO.l5 N N) a0 a1
abbrev oQ.abz:=aR→aR→dh→bJ→Int→Int→Option (aR×dh)
def oQ.ad1(N:Nat)(ajE:oQ.abz)(x4 x6:aR)(x7:dh)(cZ:bJ)(fy gg:Int):Option (aR×dh):=
 cond (aX gg (ℓ cZ)) (cond (bf gg (ℓ cZ)) (cond (aN (γ cZ gg.toNat (0,(ch,ba))).2.2.2.1 2) (ajE x4 x6 x7 cZ (W .i64 (fy+1)) (W .i64 (gg+1))) (ajE x4 x6 x7 cZ fy (W .i64 (gg+1)))) none) (some (x4,(0,(fy,(0,())))))
def oQ.l41(N:Nat):Nat→oQ.abz
 |0,_,_,_,_,_,_=>none
 |n+1,x4,x6,x7,cZ,fy,gg=>oQ.ad1 N (oQ.l41 N n) x4 x6 x7 cZ fy gg
def oQ.b(arq:oQ.abz)(a0:ae)(a1:aR)(a2:iD):Option (aR×dh):=
 cond (aN a2.1 14) ((Xj N a0 a1.2.2.1 a1.2.2.2.1.1 a2.2.1 a2.2.2.1).bind λr1=>(gd N r1.2).bind λr2=>some ((a1.1,(a1.2.1,(r1.1,a1.2.2.2))),r2)) (cond (aN a2.1 15) ((rX N a0 a1.2.2.1 a1.2.2.2.1.1).bind λr3=>(gd N r3.2).bind λr4=>some ((a1.1,(a1.2.1,(r3.1,((a1.2.2.2.1.1,(2,(0,a1.2.2.2.1.2.2.2))),a1.2.2.2.2)))),r4)) (cond (aN a2.1 16) ((jK N a0 a1.2.2.1 a1.2.1).bind λr5=>some ((a1.1,((W .i64 (a1.2.1+(ℓ r5.1:Int))),(a1.2.2.1,((a1.2.2.2.1.1,(a1.2.2.2.1.2.1,(a1.2.2.2.1.2.2.1,(a1.2.2.2.1.2.2.2.1,(r5.1,a1.2.2.2.1.2.2.2.2.2))))),a1.2.2.2.2)))),(r5.2,((ℓ r5.1:Int),(0,()))))) (cond (aN a2.1 17) ((oP N a0 a1 a2).bind λr7=>some (r7.1,r7.2)) (cond (aN a2.1 18) (cond (aN a1.2.2.2.1.2.2.2.1 3) ((gd N 5).bind λr8=>some (a1,r8)) ((cr N a0 a1.2.2.1 a1.2.1).bind λr9=>cond (!aN r9.2 0) ((gd N r9.2).bind λkT=>some (a1,kT)) ((Xu N a1 a0.2.2.2.2.1).bind λm6=>cond (!m6.2) ((gd N 2).bind λoU=>some (a1,oU)) ((s6 N a0 a1.2.2.1).bind λrG=>some ((a1.1,((W .i64 (a1.2.1+(ℓ r9.1:Int))),(a1.2.2.1,((a1.2.2.2.1.1,(3,(m6.1,((W .i64 (a1.2.2.2.1.2.2.2.1+1)),(cT,(r9.1,(cT,(rG.1,a1.2.2.2.1.2.2.2.2.2.2.2.2)))))))),a1.2.2.2.2)))),(0,((ℓ r9.1:Int),(0,())))))))) (cond (aN a2.1 19) ((adS N a0 a1.2.2.1 a1.2.2.2.1.2.2.2.2.2.1 a1.2.2.2.1.2.2.2.2.2.2.1 (a1.2.1,(a2.2.2.2.2.2.1,(a2.2.1,(a2.2.2.2.2.2.2.2.1,()))))).bind λwG=>let v17:Int:=W .i64 (a1.2.1+1);some ((a1.1,(v17,(a1.2.2.1,((a1.2.2.2.1.1,(a1.2.2.2.1.2.1,(a1.2.2.2.1.2.2.1,(a1.2.2.2.1.2.2.2.1,(a1.2.2.2.1.2.2.2.2.1,(a1.2.2.2.1.2.2.2.2.2.1,(wG.1,a1.2.2.2.1.2.2.2.2.2.2.2))))))),a1.2.2.2.2)))),(wG.2,((W .i64 (v17-1)),(0,()))))) (cond (aN a2.1 20) ((gv N a0 a1.2.2.1 a1.2.2.2.1.2.2.2.2.2.1 a1.2.2.2.1.2.2.2.2.2.2.1).bind λJ4=>cond (!aN J4.2.2 0) ((gd N J4.2.2).bind λQH=>some (a1,QH)) ((dR N a0 a1.2.2.2.1.2.2.2.2.2.2.2.2.1 a1.2.2.2.1.2.2.2.2.2.2.2.1 J4.2.1 a1.2.2.2.1.2.2.2.2.2.2.1).bind λF1=>arq (a1.1,(a1.2.1,(J4.1,((a1.2.2.2.1.1,(2,(0,(a1.2.2.2.1.2.2.2.1,(a1.2.2.2.1.2.2.2.2.1,(J4.2.1,(a1.2.2.2.1.2.2.2.2.2.2.1,(a1.2.2.2.1.2.2.2.2.2.2.2.1,(F1.1,a1.2.2.2.1.2.2.2.2.2.2.2.2.2))))))))),a1.2.2.2.2)))) (0,(0,((ch,(cT,(bq,(bq,(dg,(du,())))))),((0,(0,(0,(0,(cT,(([]:List ((Int)×((List ((Int)×((Int)×(Unit))))×((Int)×((Int)×((Int)×((Int)×(Unit)))))))),(cT,(dg,(ch,(ch,())))))))))),((0,(0,(DO,(0,())))),()))))) bb J4.2.1 0 0)) (cond (aN a2.1 21) ((jc N a0 a1.2.2.1 a1.2.2.2.1.1 a1.2.2.2.1.2.2.2.2.2.2.2.2.1 a1.2.2.2.1.2.2.2.2.2.2.2.2.2.1).bind λEL=>cond (!aN EL.2.2 0) ((gd N EL.2.2).bind λQG=>some (a1,QG)) ((oO N a0 EL.1).bind λr28=>cond (!aN r28.2 0) ((gd N r28.2).bind λF3=>some (a1,F3)) ((mS N r28.1.1 a1.2.2.2.1.1 a2.1).bind λTK=>some ((a1.1,(a1.2.1,((TK.1,r28.1.2),((0,(0,(0,(0,(cT,(([]:List ((Int)×((List ((Int)×((Int)×(Unit))))×((Int)×((Int)×((Int)×((Int)×(Unit)))))))),(cT,(dg,(ch,(ch,())))))))))),(EL.2.1,a1.2.2.2.2.2))))),(TK.2,(0,(EL.2.1.2.1,()))))))) ((gd N 0).bind λJm=>some (a1,Jm)))))))))
def oQ(a0:ae)(a1:aR)(a2:iD):Option (aR×dh):=oQ.b N (oQ.l41 N N) a0 a1 a2
abbrev qX.abw:=ae→aR→iD→aR→dh→Option (aR×dh)
def qX.P9(x3:ae)(x4:aR)(x5:iD)(x6:aR)(x7:dh):Option (aR×dh):=
 (ad2 N x4 x5.1).bind λQG=>cond (!QG) ((gd N 6).bind λr28=>some (x4,r28)) ((oQ N x3 x4 x5).bind λF3=>some (F3.1,F3.2))
def qX.Xn(x3:ae)(x4:aR)(x5:iD)(x6:aR)(x7:dh):Option (aR×dh):=qX.P9 N x3 x4 x5 x6 x7
def qX.b(QN:qX.abw)(a0:ae)(a1:aR)(a2:iD):Option (aR×dh):=
 cond (aN a2.1 11) ((mS N a1.2.2.1.1 a2.2.1 a2.1).bind λr1=>cond (aN r1.2 0) (cond (aN a2.1 11) ((Fg N a0 (r1.1,a1.2.2.1.2) a2.2.1).bind λr2=>cond (aN a1.2.2.2.1.2.1 3) ((qy N a1.2.2.2.1.2.2.2.2.2.2.1 a2.2.1).bind λr3=>(gd N r1.2).bind λr4=>some ((a1.1,(a1.2.1,(r2.1,((a1.2.2.2.1.1,(a1.2.2.2.1.2.1,(a1.2.2.2.1.2.2.1,(a1.2.2.2.1.2.2.2.1,(a1.2.2.2.1.2.2.2.2.1,(a1.2.2.2.1.2.2.2.2.2.1,(r3,a1.2.2.2.1.2.2.2.2.2.2.2))))))),a1.2.2.2.2)))),r4)) ((gd N r1.2).bind λr5=>some ((a1.1,(a1.2.1,(r2.1,a1.2.2.2))),r5))) ((gd N r1.2).bind λr6=>some ((a1.1,(a1.2.1,((r1.1,a1.2.2.1.2),a1.2.2.2))),r6))) ((gd N r1.2).bind λr7=>some ((a1.1,(a1.2.1,((r1.1,a1.2.2.1.2),a1.2.2.2))),r7))) (cond (aN a2.1 12) ((mS N a1.2.2.1.1 a2.2.1 a2.1).bind λr8=>cond (aN r8.2 0) (cond (aN a2.1 11) ((Fg N a0 (r8.1,a1.2.2.1.2) a2.2.1).bind λr9=>cond (aN a1.2.2.2.1.2.1 3) ((qy N a1.2.2.2.1.2.2.2.2.2.2.1 a2.2.1).bind λkT=>(gd N r8.2).bind λm6=>some ((a1.1,(a1.2.1,(r9.1,((a1.2.2.2.1.1,(a1.2.2.2.1.2.1,(a1.2.2.2.1.2.2.1,(a1.2.2.2.1.2.2.2.1,(a1.2.2.2.1.2.2.2.2.1,(a1.2.2.2.1.2.2.2.2.2.1,(kT,a1.2.2.2.1.2.2.2.2.2.2.2))))))),a1.2.2.2.2)))),m6)) ((gd N r8.2).bind λoU=>some ((a1.1,(a1.2.1,(r9.1,a1.2.2.2))),oU))) ((gd N r8.2).bind λnW=>some ((a1.1,(a1.2.1,((r8.1,a1.2.2.1.2),a1.2.2.2))),nW))) ((gd N r8.2).bind λrG=>some ((a1.1,(a1.2.1,((r8.1,a1.2.2.1.2),a1.2.2.2))),rG))) (cond (aN a2.1 13) ((It N a1 a2.2.1).bind λuD=>cond (aN uD 0) ((gd N 3).bind λwG=>some (a1,wG)) (cond (!aN a1.2.2.2.1.2.1 0) ((gd N 6).bind λyA=>some (a1,yA)) ((mS N a1.2.2.1.1 a2.2.1 a2.1).bind λyH=>cond (!aN yH.2 0) ((gd N yH.2).bind λJ4=>some ((a1.1,(a1.2.1,((yH.1,a1.2.2.1.2),a1.2.2.2))),J4)) ((Xu N (a1.1,(a1.2.1,((yH.1,a1.2.2.1.2),a1.2.2.2))) a0.2.2.2.1).bind λQH=>cond (!QH.2) ((gd N 2).bind λF1=>some ((a1.1,(a1.2.1,((yH.1,a1.2.2.1.2),a1.2.2.2))),F1)) (some ((a1.1,(a1.2.1,((yH.1,a1.2.2.1.2),((a2.2.1,(1,(QH.1,(0,(cT,(([]:List ((Int)×((List ((Int)×((Int)×(Unit))))×((Int)×((Int)×((Int)×((Int)×(Unit)))))))),(cT,(dg,(ch,(ch,())))))))))),a1.2.2.2.2)))),bb)))))) (cond (aN a2.1 19) ((It N a1 a2.2.1).bind λNa=>cond (aN Na 0) ((gd N 3).bind λEJ=>some (a1,EJ)) ((It N a1 a2.2.1).bind λNA=>cond (!aN NA 1) ((gd N 7).bind λJl=>some (a1,Jl)) (QN a0 a1 a2 (0,(0,((ch,(cT,(bq,(bq,(dg,(du,())))))),((0,(0,(0,(0,(cT,(([]:List ((Int)×((List ((Int)×((Int)×(Unit))))×((Int)×((Int)×((Int)×((Int)×(Unit)))))))),(cT,(dg,(ch,(ch,())))))))))),((0,(0,(DO,(0,())))),()))))) bb))) (QN a0 a1 a2 (0,(0,((ch,(cT,(bq,(bq,(dg,(du,())))))),((0,(0,(0,(0,(cT,(([]:List ((Int)×((List ((Int)×((Int)×(Unit))))×((Int)×((Int)×((Int)×((Int)×(Unit)))))))),(cT,(dg,(ch,(ch,())))))))))),((0,(0,(DO,(0,())))),()))))) bb))))
def qX(a0:ae)(a1:aR)(a2:iD):Option (aR×dh):=qX.b N (qX.Xn N) a0 a1 a2
def Xw(a0:ae)(a1:aR)(a2:iD):Option (aR×dh):=
 cond (aN a2.1 1) ((ja N a1.2.2.1.1 a2.2.1).bind λr1=>(gd N r1.2).bind λr2=>some ((a1.1,(a1.2.1,((r1.1,a1.2.2.1.2),a1.2.2.2))),r2)) (cond (aN a2.1 2) ((fQ N a1.2.2.1.1 a1.2.2.1.2.1 (a2.2.2.1,(a2.2.1,(a2.2.2.2.2.1,(0,()))))).bind λr3=>(gd N r3.2).bind λr4=>some ((a1.1,(a1.2.1,((a1.2.2.1.1,(r3.1,a1.2.2.1.2.2)),a1.2.2.2))),r4)) (cond (aN a2.1 3) ((Tp N a1 a2.2.2.1).bind λr5=>cond (!r5) ((gd N 3).bind λr6=>some (a1,r6)) ((Qf N a1 1 0 5 a2.2.2.1 a2.2.2.2.2.2.2.1).bind λr7=>some (r7.1,r7.2))) (cond (aN a2.1 4) ((Xi N a0 a1.2.2.1 a2.2.2.1 a2.2.2.2.2.2.2.1).bind λr8=>(gd N r8.2).bind λr9=>some ((a1.1,(a1.2.1,(r8.1,a1.2.2.2))),r9)) (cond (aN a2.1 5) ((It N a1 a2.2.1).bind λkT=>cond (aN kT 0) ((gd N 3).bind λm6=>some (a1,m6)) ((It N a1 a2.2.1).bind λoU=>cond (!aN oU 1) ((gd N 7).bind λnW=>some (a1,nW)) ((Qf N a1 1 0 6 a2.2.1 a2.2.2.2.2.2.2.1).bind λrG=>some (rG.1,rG.2)))) (cond (aN a2.1 22) ((It N a1 a2.2.1).bind λuD=>cond (aN uD 0) ((gd N 3).bind λwG=>some (a1,wG)) ((vy N a1.2.2.1.2.2.1 7 a2.2.1).bind λyA=>(kR N yA).bind λyH=>(X7 N yH).bind λJ4=>(kR N a2.2.2.2.2.2.2.1).bind λQH=>(Nu N QH J4).bind λF1=>cond (aX 0 F1) ((gd N 9).bind λNa=>some (a1,Na)) ((Qf N a1 1 0 7 a2.2.1 a2.2.2.2.2.2.2.1).bind λEJ=>some (EJ.1,EJ.2)))) (cond (aN a2.1 6) ((oL N a1.2.2.1.2.1 a2.2.2.1 a2.2.2.2.2.2.2.1).bind λNA=>(gd N NA.2).bind λJl=>some ((a1.1,(a1.2.1,((a1.2.2.1.1,(NA.1,a1.2.2.1.2.2)),a1.2.2.2))),Jl)) (cond (aN a2.1 7) ((ka N a0 a1.2.2.1 (a1.2.1,(a2.2.2.1,(a2.2.2.2.1,(a2.2.2.2.2.1,(a2.2.2.2.2.2.2.1,(a2.2.2.2.2.2.2.2.1,()))))))).bind λEL=>let v27:Int:=W .i64 (a1.2.1+1);some ((a1.1,(v27,(EL.1,a1.2.2.2))),(EL.2.2.2,((W .i64 (v27-1)),((W .i64 (a2.2.2.2.2.2.2.1-EL.2.2.1)),()))))) (cond (aN a2.1 8) ((Tp N a1 a2.2.2.1).bind λTK=>cond (!TK) ((gd N 3).bind λJm=>some (a1,Jm)) ((oN N a1.2.2.1.2.2.2.2.2.1 a2.2.2.1 a2.2.2.2.2.2.1).bind λr32=>(gd N r32.2).bind λr33=>some ((a1.1,(a1.2.1,((a1.2.2.1.1,(a1.2.2.1.2.1,(a1.2.2.1.2.2.1,(a1.2.2.1.2.2.2.1,(a1.2.2.1.2.2.2.2.1,(r32.1,a1.2.2.1.2.2.2.2.2.2)))))),a1.2.2.2))),r33))) (cond (aN a2.1 9) ((MK N a0 a1.2.2.1 a2.2.2.2.1 a2.2.2.2.2.2.2.2.1).bind λr34=>cond (aN r34.2.2 0) (cond (!aN a1.2.2.2.1.2.1 0) ((fu N a1.2.2.2.1.2.2.2.2.2.2.2.2.2.1 r34.2.1).bind λr35=>(gd N r35.2).bind λr36=>some ((a1.1,(a1.2.1,(r34.1,((a1.2.2.2.1.1,(a1.2.2.2.1.2.1,(a1.2.2.2.1.2.2.1,(a1.2.2.2.1.2.2.2.1,(a1.2.2.2.1.2.2.2.2.1,(a1.2.2.2.1.2.2.2.2.2.1,(a1.2.2.2.1.2.2.2.2.2.2.1,(a1.2.2.2.1.2.2.2.2.2.2.2.1,(a1.2.2.2.1.2.2.2.2.2.2.2.2.1,(r35.1,a1.2.2.2.1.2.2.2.2.2.2.2.2.2.2)))))))))),a1.2.2.2.2)))),r36)) ((gd N r34.2.2).bind λr37=>some ((a1.1,(a1.2.1,(r34.1,a1.2.2.2))),r37))) ((gd N r34.2.2).bind λr38=>some ((a1.1,(a1.2.1,(r34.1,a1.2.2.2))),r38))) (cond (aN a2.1 10) ((Xu N a1 a2.2.2.2.2.2.2.1).bind λr39=>cond (!r39.2) ((gd N 2).bind λr40=>some (a1,r40)) (some ((r39.1,a1.2),bb))) ((qX N a0 a1 a2).bind λr41=>some (r41.1,r41.2))))))))))))
def Tq(a0:ae)(a1:aR)(a2:iD):Option (aR×dh):=
 (nj N a0).bind λr1=>cond (!r1) (some (a1,(1,c5))) ((s0 N a2).bind λr2=>cond (!r2) (some (a1,(1,c5))) ((Xw N a0 a1 a2).bind λr3=>cond (!aN r3.2.1 0) (some (a1,(r3.2.1,c5))) (some (r3.1,r3.2))))
abbrev rE.alQ:=cW→dn→aR→Option (aR×cW×dn)
def rE.l1b(aw3:rE.alQ)(x0:cW)(x1:dn)(x4:aR):Option (aR×cW×dn):=
 cond (aX x0.2.2.1 (ℓ x1)) (cond (bf x0.2.2.1 (ℓ x1)) ((Tq N x0.1 x0.2.1 (γ x1 x0.2.2.1.toNat zz8)).bind λr2=>aw3 (x0.1,(r2.1,((W .i64 (x0.2.2.1+1)),x0.2.2.2))) x1 x4) none) (some (x0.2.1,x0,x1))
def rE.l1(N:Nat):Nat→rE.alQ
 |0,_,_,_=>none
 |n+1,x0,x1,x4=>rE.l1b N (rE.l1 N n) x0 x1 x4
def rE.b(N:Nat)(aw4:rE.alQ)(a0:cW)(a1:dn):Option (aR×cW×dn):=
 aw4 a0 a1 (0,(0,((ch,(cT,(bq,(bq,(dg,(du,())))))),((0,(0,(0,(0,(cT,(([]:List ((Int)×((List ((Int)×((Int)×(Unit))))×((Int)×((Int)×((Int)×((Int)×(Unit)))))))),(cT,(dg,(ch,(ch,())))))))))),((0,(0,(DO,(0,())))),())))))
def rE(a0:cW)(a1:dn):Option (aR×cW×dn):=rE.b N (rE.l1 N N) a0 a1
abbrev eI.yK:=aJ→cW→dn→aR→Int→je→Int→Option (dn×aJ×cW)
abbrev eI.fP:=aJ→cW→dn→aR→Int→Option (dn×aJ×cW)
abbrev eI.Lu:=aJ→cW→dn→Option (dn×aJ×cW)
abbrev eI.bL:=aJ→cW→dn→aR→Int→Option (dn×aJ×cW)
def eI.E7(gO:eI.fP)(Lt:eI.yK)(x0:aJ)(x1:cW)(x2:dn)(bo:aR)(a7:Int)(bp:je)(cj:Int):Option (dn×aJ×cW):=
 cond (dx cj 4) ((P0 N x0 3).bind λF1=>cond (!F1.1) ((o9 N F1.2 41).bind λNa=>let v26:Int:=mx (mn (W .i64 ((W .i64 (bp.2.2.1+Na.1))-20)) 1152921504606846976) (-1152921504606846976);cond (small (ℓ x2+ℓ ([(19,(cj,(0,(0,(0,(bp.1,(0,(v26,()))))))))]))) (Lt Na.2 x1 (x2++([(19,(cj,(0,(0,(0,(bp.1,(0,(v26,()))))))))])) bo a7 bp (W .i64 (cj+1))) none) (Lt F1.2 x1 x2 bo a7 bp (W .i64 (cj+1)))) (gO x0 x1 x2 bo (W .i64 (a7+1)))
def eI.FL(N:Nat)(gO:eI.fP):Nat→eI.yK
 |0,_,_,_,_,_,_,_=>none
 |n+1,x0,x1,x2,bo,a7,bp,cj=>eI.E7 N gO (eI.FL N gO n) x0 x1 x2 bo a7 bp cj
def eI.ly(QI:eI.yK)(gO:eI.fP)(x0:aJ)(x1:cW)(x2:dn)(bo:aR)(a7:Int):Option (dn×aJ×cW):=
 cond (aX a7 (ℓ bo.2.2.2.1.2.2.2.2.2.1)) (cond (bf a7 (ℓ bo.2.2.2.1.2.2.2.2.2.1)) (QI x0 x1 x2 bo a7 (γ bo.2.2.2.1.2.2.2.2.2.1 a7.toNat (0,(ch,ba))) 1) none) ((oK N x0 x1.1).bind λJm=>cond (small (ℓ x2+ℓ Jm.1)) (let v32:List ((Int)×((Int)×((Int)×((Int)×((Int)×((Int)×((Int)×((Int)×(Unit))))))))):=x2++Jm.1;cond (small (ℓ v32+ℓ ([(10,(0,(0,(0,(0,(0,(2,(0,())))))))),(20,Np)]))) (some ((v32++([(10,(0,(0,(0,(0,(0,(2,(0,())))))))),(20,Np)])),Jm.2,x1)) none) none)
def eI.my(N:Nat):Nat→eI.fP
 |0,_,_,_,_,_=>none
 |n+1,x0,x1,x2,bo,a7=>eI.ly N (eI.FL N (eI.my N n) N) (eI.my N n) x0 x1 x2 bo a7
def eI.Da(tp:eI.fP)(x0:aJ)(x1:cW)(x2:dn):Option (dn×aJ×cW):=
 cond (small (ℓ x2+ℓ ([(18,Np)]))) ((rE N x1 (x2++([(18,Np)]))).bind λyH=>tp x0 yH.2.1 yH.2.2 yH.1 0) none
def eI.JN(x0:aJ)(x1:cW)(x2:dn):Option (dn×aJ×cW):=eI.Da N (eI.my N N) x0 x1 x2
def eI.dU(yN:eI.Lu)(bQ:eI.bL)(x0:aJ)(x1:cW)(x2:dn)(x7:aR)(x8:Int):Option (dn×aJ×cW):=
 cond (aX x8 (ℓ x7.2.2.2.1.2.2.2.2.1)) (cond (bf x8 (ℓ x7.2.2.2.1.2.2.2.2.1)) ((P0 N x0 2).bind λr5=>cond (r5.1) ((o9 N r5.2 7).bind λr6=>let v7:Int:=W .i64 (1+r6.1);(F62 N r6.2).bind λr8=>let v9:Int:=W .u64 (γ x7.2.2.2.1.2.2.2.2.1 x8.toNat ba).2.2.2.1;cond (aN v9 0) none (let Vm:Int:=W .i64 (1+(W .i64 (rem r8.1 v9)));cond (bf (γ x7.2.2.2.1.2.2.2.2.1 x8.toNat ba).2.1 (ℓ x7.2.2.1.2.2.2.2.1)) (cond (small (ℓ x2+ℓ ([(17,(0,(v7,(0,(0,((γ x7.2.2.2.1.2.2.2.2.1 x8.toNat ba).1,(Vm,(γ x7.2.2.1.2.2.2.2.1 (γ x7.2.2.2.1.2.2.2.2.1 x8.toNat ba).2.1.toNat 0,()))))))))]))) (bQ r8.2 x1 (x2++([(17,(0,(v7,(0,(0,((γ x7.2.2.2.1.2.2.2.2.1 x8.toNat ba).1,(Vm,(γ x7.2.2.1.2.2.2.2.1 (γ x7.2.2.2.1.2.2.2.2.1 x8.toNat ba).2.1.toNat 0,()))))))))])) x7 (W .i64 (x8+1))) none) none)) (bQ r5.2 x1 x2 x7 (W .i64 (x8+1)))) none) (yN x0 x1 x2)
def eI.l5(N:Nat):Nat→eI.bL
 |0,_,_,_,_,_=>none
 |n+1,x0,x1,x2,x7,x8=>eI.dU N (eI.JN N) (eI.l5 N n) x0 x1 x2 x7 x8
def eI.b(eX:eI.bL)(yN:eI.Lu)(a0:aJ)(a1:cW)(a2:dn):Option (dn×aJ×cW):=
 (P0 N a0 2).bind λr1=>cond (r1.1) (cond (small (ℓ a2+ℓ ([(16,Np)]))) ((rE N a1 (a2++([(16,Np)]))).bind λr3=>eX r1.2 r3.2.1 r3.2.2 r3.1 0) none) (yN r1.2 a1 a2)
def eI(a0:aJ)(a1:cW)(a2:dn):Option (dn×aJ×cW):=eI.b N (eI.l5 N N) (eI.JN N) a0 a1 a2
abbrev jU.yK:=aJ→ae→cW→dn→Int→Option (dn×aJ)
abbrev jU.lE:=aJ→ae→cW→dn→Int→Option (dn×aJ)
def jU.E7(Lt:jU.yK)(x0:aJ)(x4:ae)(x9:cW)(bo:dn)(cj:Int):Option (dn×aJ):=
 cond (aX 0 cj) ((eI N x0 x9 bo).bind λJl=>Lt Jl.2.1 x4 Jl.2.2 Jl.1 (W .i64 (cj-1))) ((P0 N x0 4).bind λQG=>cond (!QG.1) (cond (small (ℓ bo+ℓ ([(21,Np)]))) (let v28:List ((Int)×((Int)×((Int)×((Int)×((Int)×((Int)×((Int)×((Int)×(Unit))))))))):=bo++([(21,Np)]);(oK N QG.2 x4).bind λF3=>cond (small (ℓ v28+ℓ F3.1)) (some ((v28++F3.1),F3.2)) none) none) ((oK N QG.2 x4).bind λJm=>cond (small (ℓ bo+ℓ Jm.1)) (some ((bo++Jm.1),Jm.2)) none))
def jU.FL(N:Nat):Nat→jU.yK
 |0,_,_,_,_,_=>none
 |n+1,x0,x4,x9,bo,cj=>jU.E7 N (jU.FL N n) x0 x4 x9 bo cj
def jU.vd(QI:jU.yK)(o4:jU.lE)(x0:aJ)(x4:ae)(x9:cW)(bo:dn)(bp:Int):Option (dn×aJ):=
 cond (dx bp 7) ((P0 N x0 3).bind λkT=>cond (kT.1) ((o9 N kT.2 2).bind λm6=>let Vm:Int:=W .i64 (3+m6.1);cond (small (ℓ bo+ℓ ([(14,(Vm,(bp,gq)))]))) (o4 m6.2 x4 x9 (bo++([(14,(Vm,(bp,gq)))])) (W .i64 (bp+1))) none) (o4 kT.2 x4 x9 bo (W .i64 (bp+1)))) ((oK N x0 x4).bind λwG=>cond (small (ℓ bo+ℓ wG.1)) (let v17:List ((Int)×((Int)×((Int)×((Int)×((Int)×((Int)×((Int)×((Int)×(Unit))))))))):=bo++wG.1;(o9 N wG.2 2).bind λyH=>let v19:Int:=W .i64 (2+yH.1);cond (small (ℓ v17+ℓ ([(10,(0,(0,(0,(0,(0,(v19,(0,())))))))),(15,Np)]))) (let v20:List ((Int)×((Int)×((Int)×((Int)×((Int)×((Int)×((Int)×((Int)×(Unit))))))))):=v17++([(10,(0,(0,(0,(0,(0,(v19,(0,())))))))),(15,Np)]);(oK N yH.2 x4).bind λF1=>cond (small (ℓ v20+ℓ F1.1)) ((o9 N F1.2 3).bind λEJ=>QI EJ.2 x4 x9 (v20++F1.1) EJ.1) none) none) none)
def jU.l9(N:Nat):Nat→jU.lE
 |0,_,_,_,_,_=>none
 |n+1,x0,x4,x9,bo,bp=>jU.vd N (jU.FL N N) (jU.l9 N n) x0 x4 x9 bo bp
def jU.b(yI:jU.lE)(a0:aJ)(a1:ae)(a2:Int):Option (dn×aJ):=
 (abi N a1).bind λr1=>(qV N a0 a1 a2).bind λr2=>(o9 N r2.2 2).bind λr3=>let v4:Int:=W .i64 (1+r3.1);cond (small (ℓ r2.1+ℓ ([(11,(v4,dS))]))) (let v5:List ((Int)×((Int)×((Int)×((Int)×((Int)×((Int)×((Int)×((Int)×(Unit))))))))):=r2.1++([(11,(v4,dS))]);(oK N r3.2 a1).bind λr6=>cond (small (ℓ v5+ℓ r6.1)) (let v7:List ((Int)×((Int)×((Int)×((Int)×((Int)×((Int)×((Int)×((Int)×(Unit))))))))):=v5++r6.1;cond (small (ℓ v7+ℓ ([(13,(v4,dS))]))) (yI r6.2 a1 (a1,(r1.1,(0,()))) (v7++([(13,(v4,dS))])) 5) none) none) none
def jU(a0:aJ)(a1:ae)(a2:Int):Option (dn×aJ):=jU.b N (jU.l9 N N) a0 a1 a2
abbrev HF.bL:=aJ→ae→dn→Int→Option (dn×aJ)
def HF.dU(bQ:HF.bL)(x0:aJ)(x4:ae)(x7:dn)(x8:Int):Option (dn×aJ):=
 cond (aX 0 x8) ((Xc N x0 x4).bind λr5=>cond (small (ℓ x7+ℓ ([r5.1]))) (bQ r5.2 x4 (x7++([r5.1])) (W .i64 (x8-1))) none) (some (x7,x0))
def HF.l5(N:Nat):Nat→HF.bL
 |0,_,_,_,_=>none
 |n+1,x0,x4,x7,x8=>HF.dU N (HF.l5 N n) x0 x4 x7 x8
def HF.b(eX:HF.bL)(a0:aJ)(a1:ae)(a2:Int):Option (dn×aJ):=
 (o9 N a0 5).bind λr1=>cond (aN r1.1 0) ((o9 N r1.2 (W .i64 (a2+1))).bind λr3=>eX r3.2 a1 ([]) r3.1) (cond (aN r1.1 1) ((qV N r1.2 a1 a2).bind λr8=>some (r8.1,r8.2)) ((jU N r1.2 a1 a2).bind λr9=>some (r9.1,r9.2)))
def HF(a0:aJ)(a1:ae)(a2:Int):Option (dn×aJ):=HF.b N (HF.l5 N N) a0 a1 a2
abbrev IP.kA:=dn→ae→aR→aR→au→Int→Option (aR×au)
def IP.u7(lC:IP.kA)(x1:dn)(x2:ae)(x4 x6:aR)(x8:au)(x9:Int):Option (aR×au):=
 cond (aX x9 (ℓ x1)) (cond (bf x9 (ℓ x1)) ((Tq N x2 x6 (γ x1 x9.toNat zz8)).bind λr3=>cond (small (ℓ x8+ℓ ([r3.2]))) (lC x1 x2 x4 r3.1 (x8++([r3.2])) (W .i64 (x9+1))) none) none) (some (x6,x8))
def IP.l6(N:Nat):Nat→IP.kA
 |0,_,_,_,_,_,_=>none
 |n+1,x1,x2,x4,x6,x8,x9=>IP.u7 N (IP.l6 N n) x1 x2 x4 x6 x8 x9
def IP.b(yG:IP.kA)(a0:ae)(a1:dn):Option (aR×au):=
 (abi N a0).bind λr1=>cond (!aN r1.2 0) (some ((0,(0,((ch,(cT,(bq,(bq,(dg,(du,())))))),((0,(0,(0,(0,(cT,(([]:List ((Int)×((List ((Int)×((Int)×(Unit))))×((Int)×((Int)×((Int)×((Int)×(Unit)))))))),(cT,(dg,(ch,(ch,())))))))))),((0,(0,(DO,(0,())))),()))))),[])) (yG a1 a0 (0,(0,((ch,(cT,(bq,(bq,(dg,(du,())))))),((0,(0,(0,(0,(cT,(([]:List ((Int)×((List ((Int)×((Int)×(Unit))))×((Int)×((Int)×((Int)×((Int)×(Unit)))))))),(cT,(dg,(ch,(ch,())))))))))),((0,(0,(DO,(0,())))),()))))) r1.1 ([]) 0)
def IP(a0:ae)(a1:dn):Option (aR×au):=IP.b N (IP.l6 N N) a0 a1
def F18(a0:aJ)(a1:ae)(a2:Int):Option (aR×aJ):=
 (HF N a0 a1 a2).bind λr1=>(IP N a1 r1.1).bind λr2=>some (r2.1,r1.2)
abbrev pT.IZ:=aJ→ae→an→bh→Int→iE→Option (bh×aJ)
abbrev pT.Nb:=aJ→ae→an→bh→Int→iE→Option (bh×aJ)
abbrev pT.dP:=aJ→ae→an→bh→Int→Option (bh×aJ)
def pT.ym(dw:pT.dP)(x0:aJ)(x4:ae)(x5:an)(x7:bh)(x8:Int)(bo:iE):Option (bh×aJ):=
 cond (aN bo.1 bo.2.1) ((P0 N x0 9).bind λJ4=>cond (!J4.1) (cond (aN 8 0) none (let v21:Int:=rem (W .i64 (bo.1+1)) 8;cond (small (ℓ x7+ℓ ([(bo.1,(v21,bo.2.2))]))) (dw J4.2 x4 x5 (x7++([(bo.1,(v21,bo.2.2))])) (W .i64 (x8-1))) none)) (cond (small (ℓ x7+ℓ ([bo]))) (dw J4.2 x4 x5 (x7++([bo])) (W .i64 (x8-1))) none)) (cond (small (ℓ x7+ℓ ([bo]))) (dw x0 x4 x5 (x7++([bo])) (W .i64 (x8-1))) none)
def pT.E9(dw:pT.dP)(x0:aJ)(x4:ae)(x5:an)(x7:bh)(x8:Int)(bo:iE):Option (bh×aJ):=pT.ym N dw x0 x4 x5 x7 x8 bo
def pT.JF(N:Nat)(yJ:pT.IZ)(dw:pT.dP)(x0:aJ)(x4:ae)(x5:an)(x7:bh)(x8:Int)(bo:iE):Option (bh×aJ):=
 cond (aX 1000000000000 bo.2.2.2.2.1) (yJ x0 x4 x5 x7 x8 (bo.1,(bo.2.1,(bo.2.2.1,(bo.2.2.2.1,(1,bo.2.2.2.2.2)))))) (yJ x0 x4 x5 x7 x8 bo)
def pT.j9(dw:pT.dP)(x0:aJ)(x4:ae)(x5:an)(x7:bh)(x8:Int)(bo:iE):Option (bh×aJ):=pT.JF N (pT.E9 N dw) dw x0 x4 x5 x7 x8 bo
def pT.m3(Cw:pT.Nb)(dw:pT.dP)(x0:aJ)(x4:ae)(x5:an)(x7:bh)(x8:Int):Option (bh×aJ):=
 cond (aX 0 x8) ((o9 N x0 (ℓ x4.1)).bind λr3=>(o9 N r3.2 8).bind λr4=>(o9 N r4.2 8).bind λr5=>(o9 N r5.2 50).bind λr6=>cond (bf r3.1 (ℓ x5.2.2.2.2.1)) ((o9 N r6.2 9).bind λr8=>(P0 N r8.2 9).bind λkT=>cond (kT.1) ((JV N kT.2).bind λm6=>cond (aN 1000000000 0) none ((JV N m6.2).bind λrG=>cond (aN 1000000000000 0) none (Cw rG.2 x4 x5 x7 x8 (r4.1,(r5.1,(r3.1,((W .i64 (1+(rem m6.1 1000000000))),((W .i64 (1+(rem rG.1 1000000000000))),())))))))) (Cw kT.2 x4 x5 x7 x8 (r4.1,(r5.1,(r3.1,((W .i64 (1+r6.1)),((W .i64 ((γ x5.2.2.2.2.1 r3.1.toNat 0)+r8.1)),()))))))) none) (some (x7,x0))
def pT.l3(N:Nat):Nat→pT.dP
 |0,_,_,_,_,_=>none
 |n+1,x0,x4,x5,x7,x8=>pT.m3 N (pT.j9 N (pT.l3 N n)) (pT.l3 N n) x0 x4 x5 x7 x8
def pT.b(oS:pT.dP)(a0:aJ)(a1:ae)(a2:an):Option (bh×aJ):=
 (o9 N a0 6).bind λr1=>oS r1.2 a1 a2 ([]) r1.1
def pT(a0:aJ)(a1:ae)(a2:an):Option (bh×aJ):=pT.b N (pT.l3 N N) a0 a1 a2
def aea(a0:ae)(a1:an)(a2:Int):Option (aM×(Int)):=
 (gG N a0 a1).bind λr1=>cond (!r1) (some ((false,o6),1)) ((Ws N a1.2.1 a2).bind λr2=>cond (!r2.2) (some ((false,o6),3)) ((PZ N a0 a1 a2 du).bind λr3=>some (r3,0)))
abbrev Fb.bN:=aE→aE→Int→Option Bool
def Fb.dL(N:Nat)(cG:Fb.bN)(x0 x1:aE)(x5:Int):Option Bool:=
 cond (aX x5 (ℓ x0)) (cond (bf x5 (ℓ x0)) (cond (bf x5 (ℓ x1)) (cond (!(pb (.pair (.int .i64) (.pair (.int .i64) .unit)) (γ x0 x5.toNat c5) (γ x1 x5.toNat c5))) (some false) (cG x0 x1 (W .i64 (x5+1)))) none) none) (some true)
def Fb.l4(N:Nat):Nat→Fb.bN
 |0,_,_,_=>none
 |n+1,x0,x1,x5=>Fb.dL N (Fb.l4 N n) x0 x1 x5
def Fb.b(N:Nat)(eW:Fb.bN)(a0 a1:aE):Option Bool:=
 cond (!aN (ℓ a0) (ℓ a1)) (some false) (eW a0 a1 0)
def Fb(a0 a1:aE):Option Bool:=Fb.b N (Fb.l4 N N) a0 a1
abbrev Fc.bN:=aO→aO→Int→Option Bool
def Fc.dL(N:Nat)(cG:Fc.bN)(x0 x1:aO)(x5:Int):Option Bool:=
 cond (aX x5 (ℓ x0)) (cond (bf x5 (ℓ x0)) (cond (bf x5 (ℓ x1)) (cond (!(pb (.pair (.int .i64) (.pair (.int .i64) (.pair (.int .i64) (.pair (.int .i64) .unit)))) (γ x0 x5.toNat ba) (γ x1 x5.toNat ba))) (some false) (cG x0 x1 (W .i64 (x5+1)))) none) none) (some true)
def Fc.l4(N:Nat):Nat→Fc.bN
 |0,_,_,_=>none
 |n+1,x0,x1,x5=>Fc.dL N (Fc.l4 N n) x0 x1 x5
def Fc.b(N:Nat)(eW:Fc.bN)(a0 a1:aO):Option Bool:=
 cond (!aN (ℓ a0) (ℓ a1)) (some false) (eW a0 a1 0)
def Fc(a0 a1:aO):Option Bool:=Fc.b N (Fc.l4 N N) a0 a1
abbrev Fe.bN:=au→au→Int→Option Bool
def Fe.dL(N:Nat)(cG:Fe.bN)(x0 x1:au)(x5:Int):Option Bool:=
 cond (aX x5 (ℓ x0)) (cond (bf x5 (ℓ x0)) (cond (bf x5 (ℓ x1)) (cond (!(pb (.pair (.int .i64) (.pair (.int .i64) (.pair (.int .i64) .unit))) (γ x0 x5.toNat bb) (γ x1 x5.toNat bb))) (some false) (cG x0 x1 (W .i64 (x5+1)))) none) none) (some true)
def Fe.l4(N:Nat):Nat→Fe.bN
 |0,_,_,_=>none
 |n+1,x0,x1,x5=>Fe.dL N (Fe.l4 N n) x0 x1 x5
def Fe.b(N:Nat)(eW:Fe.bN)(a0 a1:au):Option Bool:=
 cond (!aN (ℓ a0) (ℓ a1)) (some false) (eW a0 a1 0)
def Fe(a0 a1:au):Option Bool:=Fe.b N (Fe.l4 N N) a0 a1
abbrev Ff.bN:=aY→aY→Int→Option Bool
def Ff.dL(N:Nat)(cG:Ff.bN)(x0 x1:aY)(x5:Int):Option Bool:=
 cond (aX x5 (ℓ x0)) (cond (bf x5 (ℓ x0)) (cond (bf x5 (ℓ x1)) (cond (!(pb (.pair (.int .i64) (.pair (.int .i64) (.pair (.int .i64) (.pair (.int .i64) (.pair (.int .i64) (.pair (.int .i64) .unit)))))) (γ x0 x5.toNat dS) (γ x1 x5.toNat dS))) (some false) (cG x0 x1 (W .i64 (x5+1)))) none) none) (some true)
def Ff.l4(N:Nat):Nat→Ff.bN
 |0,_,_,_=>none
 |n+1,x0,x1,x5=>Ff.dL N (Ff.l4 N n) x0 x1 x5
def Ff.b(N:Nat)(eW:Ff.bN)(a0 a1:aY):Option Bool:=
 cond (!aN (ℓ a0) (ℓ a1)) (some false) (eW a0 a1 0)
def Ff(a0 a1:aY):Option Bool:=Ff.b N (Ff.l4 N N) a0 a1
def F35(a0 a1:an):Option Bool:=
 (Fb N a0.1 a1.1).bind λr1=>cond (r1) ((Fc N a0.2.1 a1.2.1).bind λr2=>cond (r2) ((Dd N a0.2.2.1 a1.2.2.1).bind λr3=>cond (r3) ((Fe N a0.2.2.2.1 a1.2.2.2.1).bind λr4=>cond (r4) ((De N a0.2.2.2.2.1 a1.2.2.2.2.1).bind λr5=>cond (r5) ((Ff N a0.2.2.2.2.2.1 a1.2.2.2.2.2.1).bind λr6=>some r6) (some false)) (some false)) (some false)) (some false)) (some false)
def adB(a0:bS):Option aM:=
 (kR N a0.1).bind λr1=>(Wk N false ([0,0,1])).bind λr2=>(kI N r1 r2).bind λr3=>(F83 N a0.2.1).bind λr4=>(Wk N false r4).bind λr5=>(Ak N r3 r5).bind λr6=>some r6
def aai(a0:bS)(a1:aM):Option Bool:=
 (adB N a0).bind λr1=>(Nu N r1 a1).bind λr2=>some (aN r2 0)
abbrev qZ.bN:=cR→bM→Int→Option Bool
def qZ.dL(cG:qZ.bN)(x0:cR)(x1:bM)(x5:Int):Option Bool:=
 cond (aX x5 (ℓ x0)) (cond (bf x5 (ℓ x0)) (cond (bf x5 (ℓ x1)) (cond (!aN (γ x0 x5.toNat (0,(0,(c5,())))).1 (γ x1 x5.toNat (0,(0,((false,o6),())))).1) (some false) (cond (bf x5 (ℓ x0)) (cond (bf x5 (ℓ x1)) (cond (!aN (γ x0 x5.toNat (0,(0,(c5,())))).2.1 (γ x1 x5.toNat (0,(0,((false,o6),())))).2.1) (some false) (cond (bf x5 (ℓ x0)) (cond (bf x5 (ℓ x1)) ((aai N (γ x0 x5.toNat (0,(0,(c5,())))).2.2.1 (γ x1 x5.toNat (0,(0,((false,o6),())))).2.2.1).bind λr2=>cond (!r2) (some false) (cG x0 x1 (W .i64 (x5+1)))) none) none)) none) none)) none) none) (some true)
def qZ.l4(N:Nat):Nat→qZ.bN
 |0,_,_,_=>none
 |n+1,x0,x1,x5=>qZ.dL N (qZ.l4 N n) x0 x1 x5
def qZ.b(N:Nat)(eW:qZ.bN)(a0:cR)(a1:bM):Option Bool:=
 cond (!aN (ℓ a0) (ℓ a1)) (some false) (eW a0 a1 0)
def qZ(a0:cR)(a1:bM):Option Bool:=qZ.b N (qZ.l4 N N) a0 a1
def F39(a0:ae)(a1:an)(a2:bh)(a3 a4:Int)(a5 a6:Int):Option Bool:=
 (uC N a0 a1 a2).bind λr1=>(fk N a0 a1 a2).bind λr2=>(F42 N a0 a1 a3 a6).bind λr3=>(MK N a0 a1 a3 a6).bind λr4=>(F99 N a0 a1 a4).bind λr5=>(aea N a0 a1 a4).bind λr6=>(XI N a0 a1 a5).bind λr7=>(Fg N a0 a1 a5).bind λr8=>cond (aN r1.2 r2.2) (cond (aN r3.2.2 r4.2.2) (cond (aN r5.2 r6.2) (cond (aN r7.2 r8.2) ((F35 N r1.1 r2.1).bind λr9=>cond (r9) ((F35 N r3.1 r4.1).bind λkT=>cond (kT) ((qZ N r3.2.1 r4.2.1).bind λm6=>cond (m6) ((aai N r5.1 r6.1).bind λoU=>cond (oU) ((F35 N r7.1 r8.1).bind λnW=>cond (nW) ((lx N a0 a1).bind λrG=>(gG N a0 a1).bind λuD=>some (pb .bool rG uD)) (some false)) (some false)) (some false)) (some false)) (some false)) (some false)) (some false)) (some false)) (some false)
abbrev F8.eP:=Int→aJ→ae→an→Int→Option Bool
def F8.mK(eR:F8.eP)(x1:Int)(x5:aJ)(x6:ae)(x7:an)(x8:Int):Option Bool:=
 cond (aX x8 4) ((pT N x5 x6 x7).bind λr6=>(JV N r6.2).bind λr8=>cond (aN 1000000000000 0) none ((F39 N x6 x7 r6.1 x8 (W .i64 (x8+1)) x8 (W .i64 (1+(rem r8.1 1000000000000)))).bind λm6=>cond (!m6) (some false) (eR x1 r8.2 x6 x7 (W .i64 (x8+1))))) ((F39 N x6 x7 DO 0 0 0 x1).bind λnW=>cond (nW) ((lx N x6 x7).bind λrG=>some rG) (some false))
def F8.l7(N:Nat):Nat→F8.eP
 |0,_,_,_,_,_=>none
 |n+1,x1,x5,x6,x7,x8=>F8.mK N (F8.l7 N n) x1 x5 x6 x7 x8
def F8.b(q3:F8.eP)(a0:List Int)(a1:Int):Option Bool:=
 (F36 N).bind λr1=>cond (!r1) (some false) ((F16 N a0).bind λr2=>(wK N r2).bind λr3=>(F18 N r3.2 r3.1 20).bind λr4=>q3 a1 r4.2 r3.1 r4.1.2.2.1 0)
def F8(a0:List Int)(a1:Int):Option Bool:=F8.b N (F8.l7 N N) a0 a1
end
end VM.F
