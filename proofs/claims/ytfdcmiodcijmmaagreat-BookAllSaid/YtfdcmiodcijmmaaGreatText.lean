/- A part of the proof of BookAll of layer 18: the functions as equations between values, printed by a program. -/
import Derived.Test.YtfdcmiodcijmmaaGreatVm0
set_option linter.all false
open List renaming length→ℓ, getD→γ
namespace VM.F
open Go VM
set_option maxRecDepth 100000
noncomputable section
variable (N:Nat)
abbrev pk:Ty:=(.pair .str .unit)
abbrev ic:Ty:=(.pair .str (.pair (.int .u64) .unit))
abbrev Iy:Ty:=(.pair (.int .i64) (.pair (.int .i64) .unit))
abbrev cG:Ty:=(.pair (.int .i64) (.pair (.int .u64) .unit))
abbrev dn:Ty:=(.pair .bool (.pair (.slice (.int .u64)) .unit))
abbrev MF:Ty:=(.pair (.slice (.int .u64)) (.pair (.int .i64) .unit))
abbrev lF:Ty:=(.pair (.int .i64) Iy)
abbrev pn:Ty:=(.pair (.int .i64) (.pair (.int .i64) (.pair .bool (.pair (.int .u8) .unit))))
abbrev CW:Ty:=(.pair (.int .i64) lF)
abbrev m0:Ty:=(.pair (.int .i64) (.pair (.int .i64) (.pair cG .unit)))
abbrev J9:Ty:=(.pair (.int .i64) CW)
abbrev wz:Ty:=(.pair (.int .i64) (.pair (.int .i64) (.pair dn .unit)))
abbrev Hj:Ty:=(.pair (.int .i64) J9)
abbrev tI8:Ty:=(.pair (.int .i64) (.pair (.int .i64) Hj))
abbrev Pl:Ty:=(.pair (.int .i64) (.pair (.slice Iy) CW))
abbrev xn:Ty:=(.pair (.int .i64) (.pair (.int .i64) (.pair (.slice J9) (.pair (.int .i64) .unit))))
abbrev aY:Ty:=(.pair (.slice CW) Hj)
abbrev bE:Ty:=(.pair (.slice Iy) (.pair (.slice CW) (.pair (.slice lF) (.pair (.slice lF) (.pair (.slice (.int .i64)) (.pair (.slice Hj) .unit))))))
abbrev uv:Ty:=(.pair (.int .i64) (.pair (.int .i64) (.pair (.int .i64) (.pair (.int .i64) (.pair (.slice CW) (.pair (.slice Pl) (.pair (.slice CW) (.pair (.slice (.int .i64)) (.pair (.slice Iy) (.pair (.slice Iy) .unit))))))))))
abbrev Cp:Ty:=(.pair (.int .i64) (.pair (.int .i64) (.pair bE (.pair uv (.pair xn .unit)))))
abbrev No:=Ty.den pk
abbrev Np:=List (Ty.den pk)
abbrev E9:=Ty.den ic
abbrev Fa:=List (Ty.den ic)
abbrev GL:=Ty.den Iy
abbrev aW:=List (Ty.den Iy)
abbrev aS:=Ty.den cG
abbrev gb:=List (Ty.den cG)
abbrev aK:=Ty.den dn
abbrev Iv:=List (Ty.den dn)
abbrev Mp:=Ty.den MF
abbrev abN:=List (Ty.den MF)
abbrev dJ:=Ty.den lF
abbrev ak:=List (Ty.den lF)
abbrev Nq:=Ty.den pn
abbrev Nr:=List (Ty.den pn)
abbrev jH:=Ty.den CW
abbrev bl:=List (Ty.den CW)
abbrev nD:=Ty.den m0
abbrev bD:=List (Ty.den m0)
abbrev nS:=Ty.den J9
abbrev e8:=List (Ty.den J9)
abbrev S5:=Ty.den wz
abbrev cV:=List (Ty.den wz)
abbrev sw:=Ty.den Hj
abbrev bx:=List (Ty.den Hj)
abbrev ag5:=Ty.den tI8
abbrev ag6:=List (Ty.den tI8)
abbrev aeF:=Ty.den Pl
abbrev Xp:=List (Ty.den Pl)
abbrev XA:=Ty.den xn
abbrev XB:=List (Ty.den xn)
abbrev aj:=Ty.den aY
abbrev XC:=List (Ty.den aY)
abbrev ar:=Ty.den bE
abbrev abO:=List (Ty.den bE)
abbrev VH:=Ty.den uv
abbrev VI:=List (Ty.den uv)
abbrev O4:=Ty.den Cp
abbrev aah:=List (Ty.den Cp)
def F92(N:Nat):Option (aj×ar):=
 some (([(0,(100,(2,(0,()))))],(5,(0,(0,(0,(1,(0,()))))))),([(1,(1,()))],([(1,(1,(1,(0,())))),(2,(1,(2,(0,()))))],([(1,(0,((-5),()))),(3,(0,(5,())))],(cj,([100],([(1,(2,(0,(1,(4,(1,()))))))],())))))))
def wL(N:Nat)(a0 a1 a2:Int):Option Bool:=
 cond (cP a1 a0) (some (cP a0 a2)) (some false)
abbrev uA.bz:=aj→bl→Int→Int→Option Bool
def uA.de(cm:uA.bz)(x1:aj)(cw:bl)(c9 dV:Int):Option Bool:=
 cond (bh dV c9) (cond (bJ dV (ℓ cw)) ((wL N (γ cw dV.toNat bQ).1 0 3).bind λr3=>cond (!r3) (some false) ((wL N (γ cw dV.toNat bQ).2.1 1 1000000000000).bind λr4=>cond (!r4) (some false) ((wL N (γ cw dV.toNat bQ).2.2.1 0 1000000000).bind λr5=>cond (!r5) (some false) ((wL N (γ cw dV.toNat bQ).2.2.2.1 0 1000000000).bind λr6=>cond (!r6) (some false) (cm x1 cw c9 (W .i64 (dV+1))))))) none) (cond (cP 0 x1.2.1) ((wL N x1.2.2.1 0 4).bind λr8=>cond (r8) ((wL N x1.2.2.2.1 0 1000000).bind λr9=>cond (r9) ((wL N x1.2.2.2.2.1 0 1000000).bind λzX=>cond (zX) ((wL N x1.2.2.2.2.2.1 1 4611686018427387904).bind λBn=>cond (Bn) (some (cP 0 x1.2.2.2.2.2.2.1)) (some false)) (some false)) (some false)) (some false)) (some false))
def uA.l4(N:Nat):Nat→uA.bz
 |0,_,_,_,_=>none
 |n+1,x1,cw,c9,dV=>uA.de N (uA.l4 N n) x1 cw c9 dV
def uA.b(ed:uA.bz)(a0:aj):Option Bool:=
 (wL N (ℓ a0.1) 1 6).bind λr1=>cond (!r1) (some false) (ed a0 a0.1 (ℓ a0.1) 0)
def uA(a0:aj):Option Bool:=uA.b N (uA.l4 N N) a0
abbrev pC.fw:=ar→ar→(List Int)→bl→Int→Int→Option (ar×(Int))
abbrev pC.MG:=aj→ar→ar→(List Int)→Option (ar×(Int))
def pC.pA(N:Nat)(fU:pC.fw)(x2 x4:ar)(Cx:List Int)(VJ:bl)(x25 Fb:Int):Option (ar×(Int)):=
 cond (bh Fb x25) (cond (bJ Fb (ℓ VJ)) (cond (small (ℓ Cx+ℓ ([(γ VJ Fb.toNat bQ).2.1]))) (fU x2 (x4.1,(x4.2.1,(x4.2.2.1,(x4.2.2.2.1,(eH,x4.2.2.2.2.2))))) (Cx++([(γ VJ Fb.toNat bQ).2.1])) VJ x25 (W .i64 (Fb+1))) none) none) (some ((x4.1,(x4.2.1,(x4.2.2.1,(x4.2.2.2.1,(Cx,x4.2.2.2.2.2))))),0))
def pC.l7(N:Nat):Nat→pC.fw
 |0,_,_,_,_,_,_=>none
 |n+1,x2,x4,Cx,VJ,x25,Fb=>pC.pA N (pC.l7 N n) x2 x4 Cx VJ x25 Fb
def pC.LC(N:Nat)(sH:pC.fw)(x1:aj)(x2 x4:ar)(Cx:List Int):Option (ar×(Int)):=
 sH x2 x4 Cx x1.1 (ℓ x1.1) 0
def pC.j6(x1:aj)(x2 x4:ar)(Cx:List Int):Option (ar×(Int)):=pC.LC N (pC.l7 N N) x1 x2 x4 Cx
def pC.b(Cy:pC.MG)(a0:aj):Option (ar×(Int)):=
 (uA N a0).bind λr1=>cond (!r1) (some ((fP,(fQ,(cj,(cj,(eH,(fv,())))))),1)) (cond (!bf a0.2.1 0) (Cy a0 (fP,(fQ,(cj,(cj,(eH,(fv,())))))) (fP,(fQ,([(1,(0,((W .i64 (0-a0.2.1)),()))),(3,(0,(a0.2.1,())))],(cj,(eH,(fv,())))))) eH) (Cy a0 (fP,(fQ,(cj,(cj,(eH,(fv,())))))) (fP,(fQ,(cj,(cj,(eH,(fv,())))))) eH))
def pC(a0:aj):Option (ar×(Int)):=pC.b N (pC.j6 N) a0
abbrev kG.ca:=aW→aW→Int→Int→Option Bool
def kG.dY(N:Nat)(cS:kG.ca)(x0 x5:aW)(x6 x7:Int):Option Bool:=
 cond (bh x7 x6) (cond (bJ x7 (ℓ x5)) (cond (bh (γ x5 x7.toNat dC).1 1) (some false) (cond (bh 12 (γ x5 x7.toNat dC).1) (some false) (cond (bh (γ x5 x7.toNat dC).2.1 1) (some false) (cond (bh 4 (γ x5 x7.toNat dC).2.1) (some false) (cond (bh 0 x7) (let v2:Int:=W .i64 (x7-1);cond (bJ v2 (ℓ x0)) (cond (cP (γ x5 x7.toNat dC).1 (γ x0 v2.toNat dC).1) (some false) (cS x0 x5 x6 (W .i64 (x7+1)))) none) (cS x0 x5 x6 (W .i64 (x7+1)))))))) none) (some true)
def kG.l2(N:Nat):Nat→kG.ca
 |0,_,_,_,_=>none
 |n+1,x0,x5,x6,x7=>kG.dY N (kG.l2 N n) x0 x5 x6 x7
def kG.b(N:Nat)(fr:kG.ca)(a0:aW):Option Bool:=
 fr a0 a0 (ℓ a0) 0
def kG(a0:aW):Option Bool:=kG.b N (kG.l2 N N) a0
abbrev iQ.ly:=bl→(List Bool)→bl→Int→Int→Option Bool
def iQ.zW(N:Nat)(ig:iQ.ly)(x0:bl)(x3:List Bool)(x6:bl)(x7 x8:Int):Option Bool:=
 cond (bh x8 x7) (cond (bJ x8 (ℓ x6)) (cond (bh (γ x6 x8.toNat bQ).1 1) (some false) (cond (bh 24 (γ x6 x8.toNat bQ).1) (some false) (cond (bh (γ x6 x8.toNat bQ).2.1 1) (some false) (cond (bh 12 (γ x6 x8.toNat bQ).2.1) (some false) (cond (!bf (γ x6 x8.toNat bQ).2.2.1 1) (cond (!bf (γ x6 x8.toNat bQ).2.2.1 2) (some false) (cond (bh (γ x6 x8.toNat bQ).2.2.2.1 0) (some false) (cond (bh 1000000000000 (γ x6 x8.toNat bQ).2.2.2.1) (some false) (cond (bh 0 x8) (let v2:Int:=W .i64 (x8-1);cond (bJ v2 (ℓ x0)) (cond (cP (γ x6 x8.toNat bQ).1 (γ x0 v2.toNat bQ).1) (some false) (cond (bf (γ x6 x8.toNat bQ).2.2.1 1) (cond (bJ (γ x6 x8.toNat bQ).2.1 13) (cond (γ x3 (γ x6 x8.toNat bQ).2.1.toNat false) (some false) (cond (bJ (γ x6 x8.toNat bQ).2.1 13) (ig x0 (List.set x3 (γ x6 x8.toNat bQ).2.1.toNat true) x6 x7 (W .i64 (x8+1))) none)) none) (ig x0 x3 x6 x7 (W .i64 (x8+1))))) none) (cond (bf (γ x6 x8.toNat bQ).2.2.1 1) (cond (bJ (γ x6 x8.toNat bQ).2.1 13) (cond (γ x3 (γ x6 x8.toNat bQ).2.1.toNat false) (some false) (cond (bJ (γ x6 x8.toNat bQ).2.1 13) (ig x0 (List.set x3 (γ x6 x8.toNat bQ).2.1.toNat true) x6 x7 (W .i64 (x8+1))) none)) none) (ig x0 x3 x6 x7 (W .i64 (x8+1)))))))) (cond (bh (γ x6 x8.toNat bQ).2.2.2.1 0) (some false) (cond (bh 1000000000000 (γ x6 x8.toNat bQ).2.2.2.1) (some false) (cond (bh 0 x8) (let v7:Int:=W .i64 (x8-1);cond (bJ v7 (ℓ x0)) (cond (cP (γ x6 x8.toNat bQ).1 (γ x0 v7.toNat bQ).1) (some false) (cond (bf (γ x6 x8.toNat bQ).2.2.1 1) (cond (bJ (γ x6 x8.toNat bQ).2.1 13) (cond (γ x3 (γ x6 x8.toNat bQ).2.1.toNat false) (some false) (cond (bJ (γ x6 x8.toNat bQ).2.1 13) (ig x0 (List.set x3 (γ x6 x8.toNat bQ).2.1.toNat true) x6 x7 (W .i64 (x8+1))) none)) none) (ig x0 x3 x6 x7 (W .i64 (x8+1))))) none) (cond (bf (γ x6 x8.toNat bQ).2.2.1 1) (cond (bJ (γ x6 x8.toNat bQ).2.1 13) (cond (γ x3 (γ x6 x8.toNat bQ).2.1.toNat false) (some false) (cond (bJ (γ x6 x8.toNat bQ).2.1 13) (ig x0 (List.set x3 (γ x6 x8.toNat bQ).2.1.toNat true) x6 x7 (W .i64 (x8+1))) none)) none) (ig x0 x3 x6 x7 (W .i64 (x8+1)))))))))))) none) (some true)
def iQ.l3(N:Nat):Nat→iQ.ly
 |0,_,_,_,_,_=>none
 |n+1,x0,x3,x6,x7,x8=>iQ.zW N (iQ.l3 N n) x0 x3 x6 x7 x8
def iQ.b(N:Nat)(Cz:iQ.ly)(a0:bl):Option Bool:=
 Cz a0 (List.replicate 13 false) a0 (ℓ a0) 0
def iQ(a0:bl):Option Bool:=iQ.b N (iQ.l3 N N) a0
abbrev jt.bz:=Int→aW→Int→Int→Option Int
def jt.de(N:Nat)(cm:jt.bz)(x1:Int)(dp:aW)(cw c9:Int):Option Int:=
 cond (bh c9 cw) (cond (bJ c9 (ℓ dp)) (cond (bf (γ dp c9.toNat dC).1 x1) (some (γ dp c9.toNat dC).2.1) (cm x1 dp cw (W .i64 (c9+1)))) none) (some 0)
def jt.l4(N:Nat):Nat→jt.bz
 |0,_,_,_,_=>none
 |n+1,x1,dp,cw,c9=>jt.de N (jt.l4 N n) x1 dp cw c9
def jt.b(ed:jt.bz)(a0:aW)(a1:Int):Option Int:=
 (kG N a0).bind λr1=>cond (!r1) (some 0) (ed a1 a0 (ℓ a0) 0)
def jt(a0:aW)(a1:Int):Option Int:=jt.b N (jt.l4 N N) a0 a1
abbrev lf.bz:=aW→bl→Int→Int→Option Bool
def lf.de(cm:lf.bz)(x0:aW)(rN:bl)(Ka CX:Int):Option Bool:=
 cond (bh CX Ka) (cond (bJ CX (ℓ rN)) ((jt N x0 (γ rN CX.toNat bQ).2.1).bind λr4=>cond (bf r4 0) (some false) (cm x0 rN Ka (W .i64 (CX+1)))) none) (some true)
def lf.l4(N:Nat):Nat→lf.bz
 |0,_,_,_,_=>none
 |n+1,x0,rN,Ka,CX=>lf.de N (lf.l4 N n) x0 rN Ka CX
def lf.b(ed:lf.bz)(a0:aW)(a1:bl):Option Bool:=
 (kG N a0).bind λr1=>cond (!r1) (some false) ((iQ N a1).bind λr2=>cond (!r2) (some false) (ed a0 a1 (ℓ a1) 0))
def lf(a0:aW)(a1:bl):Option Bool:=lf.b N (lf.l4 N N) a0 a1
def GH(N:Nat)(a0 a1:Int):Option Bool:=
 cond (bf a0 1) (some (bf a1 0)) (cond (bf a0 2) (some (bf a1 0)) (cond (bf a0 3) (some (bf a1 0)) (cond (bf a0 4) (some (bf a1 0)) (cond (bf a0 5) (cond (cP 1 a1) (some (cP a1 24)) (some false)) (cond (bf a0 6) (cond (cP 1 a1) (some (cP a1 12)) (some false)) (cond (bf a0 7) (cond (cP 1 a1) (some (cP a1 12)) (some false)) (some false)))))))
def GI(N:Nat)(a0 a1:Int)(a2:dJ):Option Int:=
 cond (!bf a0 a2.1) (some (W .i64 (a0-a2.1))) (some (W .i64 (a1-a2.2.1)))
abbrev jS.ca:=ak→ak→Int→Int→Option Bool
def jS.dY(cS:jS.ca)(x0 x5:ak)(x6 x7:Int):Option Bool:=
 cond (bh x7 x6) (cond (bJ x7 (ℓ x5)) ((GH N (γ x5 x7.toNat aH).1 (γ x5 x7.toNat aH).2.1).bind λr2=>cond (!r2) (some false) (cond (bf (γ x5 x7.toNat aH).2.2.1 0) (some false) (cond (bh 0 x7) (let v3:Int:=W .i64 (x7-1);cond (bJ v3 (ℓ x0)) ((GI N (γ x5 x7.toNat aH).1 (γ x5 x7.toNat aH).2.1 (γ x0 v3.toNat aH)).bind λr4=>cond (cP r4 0) (some false) (cS x0 x5 x6 (W .i64 (x7+1)))) none) (cS x0 x5 x6 (W .i64 (x7+1)))))) none) (some true)
def jS.l2(N:Nat):Nat→jS.ca
 |0,_,_,_,_=>none
 |n+1,x0,x5,x6,x7=>jS.dY N (jS.l2 N n) x0 x5 x6 x7
def jS.b(N:Nat)(fr:jS.ca)(a0:ak):Option Bool:=
 fr a0 a0 (ℓ a0) 0
def jS(a0:ak):Option Bool:=jS.b N (jS.l2 N N) a0
def Ei(N:Nat)(a0:Int):Option aS:=
 cond (bh 63 0) none (some ((shr .i64 a0 63),((W .u64 a0),())))
abbrev je.ly:=aS→Int→Int→Int→gb→Int→Int→Option (aS×(Bool))
def je.zW(ig:je.ly)(x2:aS)(x4 x5 x6:Int)(dp:gb)(cw c9:Int):Option (aS×(Bool)):=
 cond (bh c9 cw) (cond (bJ c9 (ℓ dp)) ((od N x6 (γ dp c9.toNat dC).2.1 0).bind λr2=>(od N x5 (W .u64 (γ dp c9.toNat dC).1) r2.2).bind λr4=>cond (bh 63 0) none (ig x2 (W .i64 ((W .i64 (x4+(shr .i64 (γ dp c9.toNat dC).1 63)))+(W .i64 r4.2))) r4.1 r2.1 dp cw (W .i64 (c9+1)))) none) (cond (bh 63 0) none (cond (!bf x4 (shr .i64 (W .i64 x5) 63)) (some (dC,false)) (some (((W .i64 x5),(x6,())),true))))
def je.l3(N:Nat):Nat→je.ly
 |0,_,_,_,_,_,_,_=>none
 |n+1,x2,x4,x5,x6,dp,cw,c9=>je.zW N (je.l3 N n) x2 x4 x5 x6 dp cw c9
def je.b(N:Nat)(Cz:je.ly)(a0:gb):Option (aS×(Bool)):=
 Cz dC 0 0 0 a0 (ℓ a0) 0
def je(a0:gb):Option (aS×(Bool)):=je.b N (je.l3 N N) a0
abbrev kL.cQ:=aS→gb→ak→Int→Int→Option aS
def kL.fX(dM:kL.cQ)(x2:aS)(x3:gb)(c9:ak)(dV gv:Int):Option aS:=
 cond (bh gv dV) (cond (bJ gv (ℓ c9)) ((Ei N (γ c9 gv.toNat aH).2.2.1).bind λr3=>cond (small (ℓ x3+ℓ ([r3]))) (dM x2 (x3++([r3])) c9 dV (W .i64 (gv+1))) none) none) ((je N x3).bind λr6=>some r6.1)
def kL.l5(N:Nat):Nat→kL.cQ
 |0,_,_,_,_,_=>none
 |n+1,x2,x3,c9,dV,gv=>kL.fX N (kL.l5 N n) x2 x3 c9 dV gv
def kL.b(iV:kL.cQ)(a0:ak):Option aS:=
 (jS N a0).bind λr1=>cond (!r1) (some dC) (iV dC ([]) a0 (ℓ a0) 0)
def kL(a0:ak):Option aS:=kL.b N (kL.l5 N N) a0
def Jz(N:Nat)(a0 a1:aS):Option Int:=
 cond (bh a0.1 a1.1) (some (-1)) (cond (bf a0.1 a1.1) (cond (bh a0.2.1 a1.2.1) (some (-1)) (cond (k5 (.pair (.int .i64) (.pair (.int .u64) .unit)) a0 a1) (some 0) (some 1))) (cond (k5 (.pair (.int .i64) (.pair (.int .u64) .unit)) a0 a1) (some 0) (some 1)))
def GO(a0:aS):Option Int:=
 (Jz N a0 dC).bind λr1=>some r1
def LL(N:Nat)(a0 a1:Int):Option Bool:=
 cond (cP 0 a0) (cond (cP a0 24) (cond (cP 0 a1) (some (bh a1 6)) (some false)) (some false)) (some false)
def GK(N:Nat)(a0:Int):Option Bool:=
 some (!bf a0 (-9223372036854775808))
def Jw(N:Nat)(a0 a1:Int)(a2:dJ):Option Int:=
 cond (!bf a0 a2.1) (some (W .i64 (a0-a2.1))) (some (W .i64 (a1-a2.2.1)))
abbrev js.ca:=ak→ak→Int→Int→Option Bool
def js.dY(cS:js.ca)(x0 x5:ak)(x6 x7:Int):Option Bool:=
 cond (bh x7 x6) (cond (bJ x7 (ℓ x5)) ((LL N (γ x5 x7.toNat aH).1 (γ x5 x7.toNat aH).2.1).bind λr2=>cond (!r2) (some false) (cond (bf (γ x5 x7.toNat aH).2.2.1 0) (some false) ((GK N (γ x5 x7.toNat aH).2.2.1).bind λr3=>cond (!r3) (some false) (cond (bh 0 x7) (let v4:Int:=W .i64 (x7-1);cond (bJ v4 (ℓ x0)) ((Jw N (γ x5 x7.toNat aH).1 (γ x5 x7.toNat aH).2.1 (γ x0 v4.toNat aH)).bind λr5=>cond (cP r5 0) (some false) (cS x0 x5 x6 (W .i64 (x7+1)))) none) (cS x0 x5 x6 (W .i64 (x7+1))))))) none) (some true)
def js.l2(N:Nat):Nat→js.ca
 |0,_,_,_,_=>none
 |n+1,x0,x5,x6,x7=>js.dY N (js.l2 N n) x0 x5 x6 x7
def js.b(N:Nat)(fr:js.ca)(a0:ak):Option Bool:=
 fr a0 a0 (ℓ a0) 0
def js(a0:ak):Option Bool:=js.b N (js.l2 N N) a0
abbrev kN.cQ:=Int→aS→gb→ak→Int→Int→Option aS
def kN.fX(dM:kN.cQ)(x1:Int)(x4:aS)(x5:gb)(gv:ak)(rN Ka:Int):Option aS:=
 cond (bh Ka rN) (cond (bJ Ka (ℓ gv)) (cond (bf (γ gv Ka.toNat aH).2.1 x1) ((Ei N (γ gv Ka.toNat aH).2.2.1).bind λr3=>cond (small (ℓ x5+ℓ ([r3]))) (dM x1 x4 (x5++([r3])) gv rN (W .i64 (Ka+1))) none) (dM x1 x4 x5 gv rN (W .i64 (Ka+1)))) none) ((je N x5).bind λr7=>some r7.1)
def kN.l5(N:Nat):Nat→kN.cQ
 |0,_,_,_,_,_,_=>none
 |n+1,x1,x4,x5,gv,rN,Ka=>kN.fX N (kN.l5 N n) x1 x4 x5 gv rN Ka
def kN.b(iV:kN.cQ)(a0:ak)(a1:Int):Option aS:=
 (js N a0).bind λr1=>cond (!r1) (some dC) (iV a1 dC ([]) a0 (ℓ a0) 0)
def kN(a0:ak)(a1:Int):Option aS:=kN.b N (kN.l5 N N) a0 a1
abbrev lj.ca:=ak→Int→Option Bool
def lj.dY(cS:lj.ca)(x0:ak)(x4:Int):Option Bool:=
 cond (bh x4 6) ((kN N x0 x4).bind λr2=>(GO N r2).bind λr3=>cond (!bf r3 0) (some false) (cS x0 (W .i64 (x4+1)))) ((js N x0).bind λr5=>some r5)
def lj.l2(N:Nat):Nat→lj.ca
 |0,_,_=>none
 |n+1,x0,x4=>lj.dY N (lj.l2 N n) x0 x4
def lj.b(N:Nat)(fr:lj.ca)(a0:ak):Option Bool:=
 fr a0 0
def lj(a0:ak):Option Bool:=lj.b N (lj.l2 N N) a0
def Oq(N:Nat)(a0:sw):Option Bool:=
 cond (cP 1 a0.1) (cond (cP a0.1 1099511627776) (cond (cP 1 a0.2.1) (cond (cP a0.2.1 24) (cond (cP 0 a0.2.2.1) (cond (bh a0.2.2.1 6) (cond (bf a0.2.2.2.1 1) (cond (cP 1 a0.2.2.2.2.1) (cond (cP a0.2.2.2.2.1 1000000000) (cond (cP 1 a0.2.2.2.2.2.1) (some (cP a0.2.2.2.2.2.1 1000000000000)) (some false)) (some false)) (some false)) (cond (bf a0.2.2.2.1 2) (cond (cP 1 a0.2.2.2.2.1) (cond (cP a0.2.2.2.2.1 1000000000) (cond (cP 1 a0.2.2.2.2.2.1) (some (cP a0.2.2.2.2.2.1 1000000000000)) (some false)) (some false)) (some false)) (some false))) (some false)) (some false)) (some false)) (some false)) (some false)) (some false)
abbrev jU.ca:=bx→bx→Int→Int→Option Bool
def jU.dY(cS:jU.ca)(x0 x5:bx)(x6 x7:Int):Option Bool:=
 cond (bh x7 x6) (cond (bJ x7 (ℓ x5)) ((Oq N (γ x5 x7.toNat fZ)).bind λr2=>cond (!r2) (some false) (cond (bh 0 x7) (let v3:Int:=W .i64 (x7-1);cond (bJ v3 (ℓ x0)) (cond (cP (γ x5 x7.toNat fZ).1 (γ x0 v3.toNat fZ).1) (some false) (cS x0 x5 x6 (W .i64 (x7+1)))) none) (cS x0 x5 x6 (W .i64 (x7+1))))) none) (some (cP (ℓ x0) 32))
def jU.l2(N:Nat):Nat→jU.ca
 |0,_,_,_,_=>none
 |n+1,x0,x5,x6,x7=>jU.dY N (jU.l2 N n) x0 x5 x6 x7
def jU.b(N:Nat)(fr:jU.ca)(a0:bx):Option Bool:=
 fr a0 a0 (ℓ a0) 0
def jU(a0:bx):Option Bool:=jU.b N (jU.l2 N N) a0
abbrev kK.bz:=Int→jH→bl→Int→Int→Option (jH×(Bool))
def kK.de(N:Nat)(cm:kK.bz)(x1:Int)(x4:jH)(c9:bl)(dV gv:Int):Option (jH×(Bool)):=
 cond (bh gv dV) (cond (bJ gv (ℓ c9)) (cond (bf (γ c9 gv.toNat bQ).1 x1) (some (γ c9 gv.toNat bQ,true)) (cm x1 x4 c9 dV (W .i64 (gv+1)))) none) (some (bQ,false))
def kK.l4(N:Nat):Nat→kK.bz
 |0,_,_,_,_,_=>none
 |n+1,x1,x4,c9,dV,gv=>kK.de N (kK.l4 N n) x1 x4 c9 dV gv
def kK.b(ed:kK.bz)(a0:bl)(a1:Int):Option (jH×(Bool)):=
 (iQ N a0).bind λr1=>cond (!r1) (some (bQ,false)) (ed a1 bQ a0 (ℓ a0) 0)
def kK(a0:bl)(a1:Int):Option (jH×(Bool)):=kK.b N (kK.l4 N N) a0 a1
def Ar(a0:ar)(a1:Int):Option Bool:=
 (kK N a0.2.1 a1).bind λr1=>some r1.2
def Aq(N:Nat)(a0:Int):Option Bool:=
 cond (cP 1 a0) (some (cP a0 1000000000000)) (some false)
def Oz(a0:Int):Option Bool:=
 (Aq N a0).bind λr1=>some (!r1)
abbrev m7.ca:=(List Int)→Unit→Int→Int→Option Int
def m7.dY(cS:m7.ca)(x0:List Int)(x1:Unit)(x7 x8:Int):Option Int:=
 cond (bh x8 x7) (cond (bJ x8 (ℓ x0)) ((Oz N (γ x0 x8.toNat 0)).bind λr2=>cond (r2) (some x8) (cS x0 () x7 (W .i64 (x8+1)))) none) (some (-1))
def m7.l2(N:Nat):Nat→m7.ca
 |0,_,_,_,_=>none
 |n+1,x0,x1,x7,x8=>m7.dY N (m7.l2 N n) x0 x1 x7 x8
def m7.b(N:Nat)(fr:m7.ca)(a0:List Int)(a1:Unit):Option Int:=
 fr a0 () (ℓ a0) 0
def m7(a0:List Int)(a1:Unit):Option Int:=m7.b N (m7.l2 N N) a0 a1
def OA(a0:List Int)(a1:Unit):Option Bool:=
 (m7 N a0 ()).bind λr1=>some (cP 0 r1)
abbrev gL.zG:=aj→ar→bx→Int→Int→Option Bool
abbrev gL.lE:=aj→ar→ak→Int→Int→Option Bool
abbrev gL.bz:=aj→ar→ak→Int→Int→Option Bool
def gL.Cd(MH:gL.zG)(x2:aj)(x3:ar)(m9:bx)(Pm Hk:Int):Option Bool:=
 cond (bh Hk Pm) (cond (bJ Hk (ℓ m9)) ((Ar N x3 (γ m9 Hk.toNat fZ).2.1).bind λXD=>cond (!XD) (some false) (cond (cP (ℓ x2.1) (γ m9 Hk.toNat fZ).2.2.1) (some false) (MH x2 x3 m9 Pm (W .i64 (Hk+1))))) none) ((OA N x3.2.2.2.2.1 ()).bind λVK=>some (!VK))
def gL.Cb(N:Nat):Nat→gL.zG
 |0,_,_,_,_,_=>none
 |n+1,x2,x3,m9,Pm,Hk=>gL.Cd N (gL.Cb N n) x2 x3 m9 Pm Hk
def gL.vb(MI:gL.zG)(lG:gL.lE)(x2:aj)(x3:ar)(Pn:ak)(XE Ns:Int):Option Bool:=
 cond (bh Ns XE) (cond (bJ Ns (ℓ Pn)) (cond (!bf (γ Pn Ns.toNat aH).1 0) ((Ar N x3 (γ Pn Ns.toNat aH).1).bind λKq=>cond (!Kq) (some false) (cond (cP (ℓ x2.1) (γ Pn Ns.toNat aH).2.1) (some false) (lG x2 x3 Pn XE (W .i64 (Ns+1))))) (cond (cP (ℓ x2.1) (γ Pn Ns.toNat aH).2.1) (some false) (lG x2 x3 Pn XE (W .i64 (Ns+1))))) none) (MI x2 x3 x3.2.2.2.2.2.1 (ℓ x3.2.2.2.2.2.1) 0)
def gL.vY(N:Nat):Nat→gL.lE
 |0,_,_,_,_,_=>none
 |n+1,x2,x3,Pn,XE,Ns=>gL.vb N (gL.Cb N N) (gL.vY N n) x2 x3 Pn XE Ns
def gL.de(Fc:gL.lE)(cm:gL.bz)(x2:aj)(x3:ar)(zY:ak)(Kb xp:Int):Option Bool:=
 cond (bh xp Kb) (cond (bJ xp (ℓ zY)) (cond (bf (γ zY xp.toNat aH).1 5) ((Ar N x3 (γ zY xp.toNat aH).2.1).bind λr9=>cond (!r9) (some false) (cm x2 x3 zY Kb (W .i64 (xp+1)))) (cond (bf (γ zY xp.toNat aH).1 6) ((jt N x3.1 (γ zY xp.toNat aH).2.1).bind λBn=>cond (bf Bn 0) (some false) (cm x2 x3 zY Kb (W .i64 (xp+1)))) (cond (bf (γ zY xp.toNat aH).1 7) ((jt N x3.1 (γ zY xp.toNat aH).2.1).bind λsN=>cond (bf sN 0) (some false) (cm x2 x3 zY Kb (W .i64 (xp+1)))) (cm x2 x3 zY Kb (W .i64 (xp+1)))))) none) (Fc x2 x3 x3.2.2.2.1 (ℓ x3.2.2.2.1) 0)
def gL.l4(N:Nat):Nat→gL.bz
 |0,_,_,_,_,_=>none
 |n+1,x2,x3,zY,Kb,xp=>gL.de N (gL.vY N N) (gL.l4 N n) x2 x3 zY Kb xp
def gL.b(ed:gL.bz)(a0:aj)(a1:ar):Option Bool:=
 (uA N a0).bind λr1=>cond (!r1) (some false) ((lf N a1.1 a1.2.1).bind λr2=>cond (!r2) (some false) ((jS N a1.2.2.1).bind λr3=>cond (!r3) (some false) ((kL N a1.2.2.1).bind λr4=>(GO N r4).bind λr5=>cond (!bf r5 0) (some false) ((lj N a1.2.2.2.1).bind λr6=>cond (!r6) (some false) ((jU N a1.2.2.2.2.2.1).bind λr7=>cond (!r7) (some false) (cond (!bf (ℓ a1.2.2.2.2.1) (ℓ a0.1)) (some false) (ed a0 a1 a1.2.2.1 (ℓ a1.2.2.1) 0)))))))
def gL(a0:aj)(a1:ar):Option Bool:=gL.b N (gL.l4 N N) a0 a1
abbrev j1.ca:=nS→(List Int)→Int→Option Bool
def j1.dY(cS:j1.ca)(x1:nS)(x9:List Int)(dp:Int):Option Bool:=
 cond (bh dp 2) (cond (bJ dp 2) (cond (bh (γ x9 dp.toNat 0) 0) (some false) (cond (bh 24 (γ x9 dp.toNat 0)) (some false) (cS x1 x9 (W .i64 (dp+1))))) none) (cond (!bf x1.1 x1.2.1) (cond (cP 0 x1.2.2.1) (cond (bh x1.2.2.1 6) (cond (cP 1 x1.2.2.2.1) (cond (cP x1.2.2.2.1 1000000000) ((Aq N x1.2.2.2.2.1).bind λr4=>some r4) (some false)) (some false)) (some false)) (some false)) (some false))
def j1.l2(N:Nat):Nat→j1.ca
 |0,_,_,_=>none
 |n+1,x1,x9,dp=>j1.dY N (j1.l2 N n) x1 x9 dp
def j1.b(N:Nat)(fr:j1.ca)(a0:nS):Option Bool:=
 fr a0 (List.set (List.set (List.replicate 2 0) 0 a0.1) 1 a0.2.1) 0
def j1(a0:nS):Option Bool:=j1.b N (j1.l2 N N) a0
def Ta(a0:nS):Option Bool:=
 (j1 N a0).bind λr1=>some (!r1)
abbrev m8.ca:=e8→Unit→Int→Int→Option Int
def m8.dY(cS:m8.ca)(x0:e8)(x1:Unit)(x7 x8:Int):Option Int:=
 cond (bh x8 x7) (cond (bJ x8 (ℓ x0)) ((Ta N (γ x0 x8.toNat g9)).bind λr2=>cond (r2) (some x8) (cS x0 () x7 (W .i64 (x8+1)))) none) (some (-1))
def m8.l2(N:Nat):Nat→m8.ca
 |0,_,_,_,_=>none
 |n+1,x0,x1,x7,x8=>m8.dY N (m8.l2 N n) x0 x1 x7 x8
def m8.b(N:Nat)(fr:m8.ca)(a0:e8)(a1:Unit):Option Int:=
 fr a0 () (ℓ a0) 0
def m8(a0:e8)(a1:Unit):Option Int:=m8.b N (m8.l2 N N) a0 a1
def OW(a0:e8)(a1:Unit):Option Bool:=
 (m8 N a0 ()).bind λr1=>some (cP 0 r1)
def Vz(N:Nat)(a0:Int):Option Int:=
 cond (bh a0 0) (some (W .u64 (0-(W .u64 a0)))) (some (W .u64 a0))
def Jt(N:Nat)(a0 a1:Int):Option ((Int)×(Int)):=
 let v1:Int:=oD .and .u64 a0 4294967295;cond (bh 32 0) none (let v2:Int:=shr .u64 a0 32;let v3:Int:=oD .and .u64 a1 4294967295;cond (bh 32 0) none (let v4:Int:=shr .u64 a1 32;cond (bh 32 0) none (let v8:Int:=W .u64 ((W .u64 (v2*v3))+(shr .u64 (W .u64 (v1*v3)) 32));cond (bh 32 0) none (cond (bh 32 0) none (some ((W .u64 ((W .u64 ((W .u64 (v2*v4))+(shr .u64 v8 32)))+(shr .u64 (W .u64 ((oD .and .u64 v8 4294967295)+(W .u64 (v1*v4)))) 32))),(W .u64 (a0*a1))))))))
abbrev lS.Tg:=Int→Int→aS→Option (aS×(Bool))
def lS.SV(x1 x2:Int)(x6:aS):Option (aS×(Bool)):=
 (np N 0 x2 0).bind λr3=>(np N 0 x1 r3.2).bind λr4=>some (((W .i64 r4.1),(r3.1,())),true)
def lS.j7(x1 x2:Int)(x6:aS):Option (aS×(Bool)):=lS.SV N x1 x2 x6
def lS.b(N:Nat)(Hl:lS.Tg)(a0:Bool)(a1 a2:Int):Option (aS×(Bool)):=
 cond (!a0) (cond (cP 9223372036854775808 a1) (some (dC,false)) (some (((W .i64 a1),(a2,())),true))) (cond (bh 9223372036854775808 a1) (some (dC,false)) (cond (bf a1 9223372036854775808) (cond (bh 0 a2) (some (dC,false)) (Hl a1 a2 dC)) (Hl a1 a2 dC)))
def lS(a0:Bool)(a1 a2:Int):Option (aS×(Bool)):=lS.b N (lS.j7 N) a0 a1 a2
def Jv(a0 a1:Int):Option aS:=
 (Vz N a0).bind λr1=>(Vz N a1).bind λr2=>(Jt N r1 r2).bind λr3=>(lS N (!(k5 .bool (bh a0 0) (bh a1 0))) r3.1 r3.2).bind λr4=>some r4.1
def JR(N:Nat)(a0:Int)(a1:aS):Option nD:=
 cond (bf a0 0) (some (2,(0,(a1,())))) (some (5,(a0,(a1,()))))
def Me(a0:nS)(a1:Int):Option (bD×(Int)):=
 (j1 N a0).bind λr1=>cond (!r1) (some ([],1)) ((Aq N a1).bind λr2=>cond (!r2) (some ([],1)) (cond (bf a1 a0.2.2.2.2.1) (some ([],0)) ((Jv N a0.2.2.2.1 (W .i64 (a1-a0.2.2.2.2.1))).bind λr4=>(JR N a0.1 r4).bind λr5=>(Jv N a0.2.2.2.1 (W .i64 (a0.2.2.2.2.1-a1))).bind λr7=>(JR N a0.2.1 r7).bind λr8=>some ([r5,r8],0))))
def L4(a0:ar):Option ar:=
 (fh N a0.1).bind λr1=>(fh N a0.2.1).bind λr2=>(fh N a0.2.2.1).bind λr3=>(fh N a0.2.2.2.1).bind λr4=>(fh N a0.2.2.2.2.1).bind λr5=>(fh N a0.2.2.2.2.2.1).bind λr6=>some (r1,(r2,(r3,(r4,(r5,(r6,()))))))
abbrev ei.sI:=ak→Int→gb→Int→ak→Int→Int→Option Bool
abbrev ei.ca:=ak→Int→Option Bool
def ei.B4(cS:ei.ca)(sJ:ei.sI)(x0:ak)(x3:Int)(x4:gb)(x9:Int)(c9:ak)(dV gv:Int):Option Bool:=
 cond (bh gv dV) (cond (bJ gv (ℓ c9)) (cond (bf (γ c9 gv.toNat aH).2.1 x3) ((Ei N (γ c9 gv.toNat aH).2.2.1).bind λr3=>cond (small (ℓ x4+ℓ ([r3]))) (sJ x0 x3 (x4++([r3])) x9 c9 dV (W .i64 (gv+1))) none) (sJ x0 x3 x4 x9 c9 dV (W .i64 (gv+1)))) none) ((je N x4).bind λr7=>cond (!r7.2) (some false) ((GO N r7.1).bind λr8=>cond (!bf r8 0) (some false) (cS x0 (W .i64 (x9+1)))))
def ei.l6(N:Nat)(cS:ei.ca):Nat→ei.sI
 |0,_,_,_,_,_,_,_=>none
 |n+1,x0,x3,x4,x9,c9,dV,gv=>ei.B4 N cS (ei.l6 N cS n) x0 x3 x4 x9 c9 dV gv
def ei.dY(N:Nat)(Hm:ei.sI)(cS:ei.ca)(x0:ak)(x9:Int):Option Bool:=
 cond (bh x9 6) (Hm x0 x9 ([]) x9 x0 (ℓ x0) 0) (some true)
def ei.l2(N:Nat):Nat→ei.ca
 |0,_,_=>none
 |n+1,x0,x9=>ei.dY N (ei.l6 N (ei.l2 N n) N) (ei.l2 N n) x0 x9
def ei.b(N:Nat)(fr:ei.ca)(a0:ak):Option Bool:=
 fr a0 0
def ei(a0:ak):Option Bool:=ei.b N (ei.l2 N N) a0
def SW(N:Nat)(a0:aS):Option ((Int)×(Bool)):=
 cond (bh 63 0) none (cond (!bf a0.1 (shr .i64 (W .i64 a0.2.1) 63)) (some (0,false)) (some ((W .i64 a0.2.1),true)))
def OD(N:Nat)(a0:ak):Option ak:=
 cond (lz 0 (ℓ a0) (ℓ a0) (ℓ a0)) (some (List.drop (0:Int).toNat (List.take (ℓ a0:Int).toNat a0))) none
abbrev bt.XF:=ak→ak→dJ→Int→ak→Int→Int→Option (ak×(Int))
abbrev bt.lE:=ak→ak→dJ→Int→ak→Int→Int→Option (ak×(Int))
abbrev bt.MJ:=ak→ak→dJ→gb→ak→Int→Int→ak→Int→Int→Option (ak×(Int))
abbrev bt.A5:=ak→ak→ak→Int→Int→Option (ak×(Int))
abbrev bt.pB:=ak→ak→ak→Int→Int→Option (ak×(Int))
abbrev bt.bz:=ak→ak→ak→Int→Int→Option (ak×(Int))
def bt.SZ(nI:bt.pB)(x1 x8:ak)(dp:dJ)(cw:Int)(Fe:ak)(Gj CY:Int):Option (ak×(Int)):=
 cond (bf cw (ℓ x8)) ((lM N x8 cw ([(dp.1,(dp.2.1,(0,())))])).bind λsN=>nI x1 sN Fe Gj (W .i64 (CY+1))) (cond (bJ cw (ℓ x8)) ((Jw N dp.1 dp.2.1 (γ x8 cw.toNat aH)).bind λCn=>cond (!bf Cn 0) ((lM N x8 cw ([(dp.1,(dp.2.1,(0,())))])).bind λMk=>nI x1 Mk Fe Gj (W .i64 (CY+1))) (nI x1 x8 Fe Gj (W .i64 (CY+1)))) none)
def bt.Xj(nI:bt.pB)(x1 x8:ak)(dp:dJ)(cw:Int)(Fe:ak)(Gj CY:Int):Option (ak×(Int)):=bt.SZ N nI x1 x8 dp cw Fe Gj CY
def bt.vb(Rs:bt.XF)(nI:bt.pB)(lG:bt.lE)(x1 x8:ak)(dp:dJ)(cw:Int)(Fe:ak)(Gj CY:Int):Option (ak×(Int)):=
 cond (bh cw (ℓ x8)) (cond (bJ cw (ℓ x8)) ((Jw N dp.1 dp.2.1 (γ x8 cw.toNat aH)).bind λzX=>cond (bh 0 zX) (lG x1 x8 dp (W .i64 (cw+1)) Fe Gj CY) (Rs x1 x8 dp cw Fe Gj CY)) none) (Rs x1 x8 dp cw Fe Gj CY)
def bt.vY(N:Nat)(nI:bt.pB):Nat→bt.lE
 |0,_,_,_,_,_,_,_=>none
 |n+1,x1,x8,dp,cw,Fe,Gj,CY=>bt.vb N (bt.Xj N nI) nI (bt.vY N nI n) x1 x8 dp cw Fe Gj CY
def bt.OE(Bv:bt.A5)(MK:bt.MJ)(x1 c9:ak)(gv:dJ)(rN:gb)(uw:ak)(wU m9:Int)(CA:ak)(Kc Az:Int):Option (ak×(Int)):=
 cond (bh Az Kc) (cond (bJ Az (ℓ CA)) (cond (bf (γ CA Az.toNat aH).1 gv.1) (cond (bf (γ CA Az.toNat aH).2.1 gv.2.1) ((Ei N (γ CA Az.toNat aH).2.2.1).bind λVK=>cond (small (ℓ rN+ℓ ([VK]))) (MK x1 c9 gv (rN++([VK])) uw wU m9 CA Kc (W .i64 (Az+1))) none) (MK x1 c9 gv rN uw wU m9 CA Kc (W .i64 (Az+1)))) (MK x1 c9 gv rN uw wU m9 CA Kc (W .i64 (Az+1)))) none) ((je N rN).bind λr28=>(SW N r28.1).bind λRt=>cond (!Rt.2) (some (cj,2)) ((GK N Rt.1).bind λVL=>cond (!VL) (some (cj,2)) (cond (!bf Rt.1 0) (cond (small (ℓ c9+ℓ ([(gv.1,(gv.2.1,(Rt.1,())))]))) (Bv x1 (c9++([(gv.1,(gv.2.1,(Rt.1,())))])) uw wU (W .i64 (m9+1))) none) (Bv x1 c9 uw wU (W .i64 (m9+1))))))
def bt.Rf(N:Nat)(Bv:bt.A5):Nat→bt.MJ
 |0,_,_,_,_,_,_,_,_,_,_=>none
 |n+1,x1,c9,gv,rN,uw,wU,m9,CA,Kc,Az=>bt.OE N Bv (bt.Rf N Bv n) x1 c9 gv rN uw wU m9 CA Kc Az
def bt.OG(XG:bt.MJ)(Bv:bt.A5)(x1 c9 uw:ak)(wU m9:Int):Option (ak×(Int)):=
 cond (bh m9 wU) (cond (bJ m9 (ℓ uw)) ((Ei N (γ uw m9.toNat aH).2.2.1).bind λXD=>XG x1 c9 (γ uw m9.toNat aH) ([XD]) uw wU m9 x1 (ℓ x1) 0) none) ((OD N c9).bind λr34=>some (r34,0))
def bt.OF(N:Nat):Nat→bt.A5
 |0,_,_,_,_,_=>none
 |n+1,x1,c9,uw,wU,m9=>bt.OG N (bt.Rf N (bt.OF N n) N) (bt.OF N n) x1 c9 uw wU m9
def bt.Ce(N:Nat)(Fc:bt.lE)(XH:bt.A5)(nI:bt.pB)(x1 x8 Fe:ak)(Gj CY:Int):Option (ak×(Int)):=
 cond (bh CY Gj) (cond (bJ CY (ℓ Fe)) (Fc x1 x8 (γ Fe CY.toNat aH) 0 Fe Gj CY) none) (cond (oC 0 (ℓ x8)) (XH x1 (List.replicate (0:Int).toNat aH) x8 (ℓ x8) 0) none)
def bt.CT(N:Nat):Nat→bt.pB
 |0,_,_,_,_,_=>none
 |n+1,x1,x8,Fe,Gj,CY=>bt.Ce N (bt.vY N (bt.CT N n) N) (bt.OF N N) (bt.CT N n) x1 x8 Fe Gj CY
def bt.de(ML:bt.pB)(cm:bt.bz)(x0 x1 sO:ak)(Bx vn:Int):Option (ak×(Int)):=
 cond (bh vn Bx) (cond (bJ vn (ℓ sO)) ((LL N (γ sO vn.toNat aH).1 (γ sO vn.toNat aH).2.1).bind λr3=>cond (!r3) (some (cj,1)) ((GK N (γ sO vn.toNat aH).2.2.1).bind λr4=>cond (!r4) (some (cj,1)) (cm x0 x1 sO Bx (W .i64 (vn+1))))) none) ((ei N x1).bind λr6=>cond (!r6) (some (cj,1)) ((fh N x0).bind λr7=>ML x1 r7 x1 (ℓ x1) 0))
def bt.l4(N:Nat):Nat→bt.bz
 |0,_,_,_,_,_=>none
 |n+1,x0,x1,sO,Bx,vn=>bt.de N (bt.CT N N) (bt.l4 N n) x0 x1 sO Bx vn
def bt.b(ed:bt.bz)(a0 a1:ak):Option (ak×(Int)):=
 (js N a0).bind λr1=>cond (!r1) (some (cj,1)) (cond (bh 400 (ℓ a1)) (some (cj,1)) (ed a0 a1 a1 (ℓ a1) 0))
def bt(a0 a1:ak):Option (ak×(Int)):=bt.b N (bt.l4 N N) a0 a1
def S2(N:Nat)(a0:ak):Option ak:=
 cond (lz 0 (ℓ a0) (ℓ a0) (ℓ a0)) (some (List.drop (0:Int).toNat (List.take (ℓ a0:Int).toNat a0))) none
abbrev bu.XI:=bD→ak→nD→Int→bD→Int→Int→Option (ak×(Int))
abbrev bu.MM:=bD→ak→nD→Int→bD→Int→Int→Option (ak×(Int))
abbrev bu.MN:=bD→ak→dJ→gb→ak→Int→Int→bD→Int→Int→Option (ak×(Int))
abbrev bu.Bc:=bD→ak→ak→Int→Int→Option (ak×(Int))
abbrev bu.lE:=bD→ak→bD→Int→Int→Option (ak×(Int))
abbrev bu.cQ:=ak→bD→gb→bD→Int→Int→Option (ak×(Int))
def bu.S4(lG:bu.lE)(x1:bD)(cw:ak)(dV:nD)(gv:Int)(pM:bD)(AA pD:Int):Option (ak×(Int)):=
 cond (bf gv (ℓ cw)) ((lM N cw gv ([(dV.1,(dV.2.1,(0,())))])).bind λCn=>lG x1 Cn pM AA (W .i64 (pD+1))) (cond (bJ gv (ℓ cw)) ((GI N dV.1 dV.2.1 (γ cw gv.toNat aH)).bind λKq=>cond (!bf Kq 0) ((lM N cw gv ([(dV.1,(dV.2.1,(0,())))])).bind λr18=>lG x1 r18 pM AA (W .i64 (pD+1))) (lG x1 cw pM AA (W .i64 (pD+1)))) none)
def bu.Xo(lG:bu.lE)(x1:bD)(cw:ak)(dV:nD)(gv:Int)(pM:bD)(AA pD:Int):Option (ak×(Int)):=bu.S4 N lG x1 cw dV gv pM AA pD
def bu.S3(Ru:bu.XI)(lG:bu.lE)(XJ:bu.MM)(x1:bD)(cw:ak)(dV:nD)(gv:Int)(pM:bD)(AA pD:Int):Option (ak×(Int)):=
 cond (bh gv (ℓ cw)) (cond (bJ gv (ℓ cw)) ((GI N dV.1 dV.2.1 (γ cw gv.toNat aH)).bind λAx=>cond (bh 0 Ax) (XJ x1 cw dV (W .i64 (gv+1)) pM AA pD) (Ru x1 cw dV gv pM AA pD)) none) (Ru x1 cw dV gv pM AA pD)
def bu.VC(N:Nat)(lG:bu.lE):Nat→bu.MM
 |0,_,_,_,_,_,_,_=>none
 |n+1,x1,cw,dV,gv,pM,AA,pD=>bu.S3 N (bu.Xo N lG) lG (bu.VC N lG n) x1 cw dV gv pM AA pD
def bu.ON(By:bu.Bc)(MO:bu.MN)(x1:bD)(rN:ak)(CX:dJ)(Bz:gb)(ux:ak)(wV sK:Int)(AB:bD)(Kd zH:Int):Option (ak×(Int)):=
 cond (bh zH Kd) (cond (bJ zH (ℓ AB)) (cond (bf (γ AB zH.toNat (0,(0,(dC,())))).1 CX.1) (cond (bf (γ AB zH.toNat (0,(0,(dC,())))).2.1 CX.2.1) (cond (small (ℓ Bz+ℓ ([(γ AB zH.toNat (0,(0,(dC,())))).2.2.1]))) (MO x1 rN CX (Bz++([(γ AB zH.toNat (0,(0,(dC,())))).2.2.1])) ux wV sK AB Kd (W .i64 (zH+1))) none) (MO x1 rN CX Bz ux wV sK AB Kd (W .i64 (zH+1)))) (MO x1 rN CX Bz ux wV sK AB Kd (W .i64 (zH+1)))) none) ((je N Bz).bind λRt=>(SW N Rt.1).bind λVL=>cond (!Rt.2) (some (cj,2)) (cond (!VL.2) (some (cj,2)) (cond (!bf VL.1 0) (cond (small (ℓ rN+ℓ ([(CX.1,(CX.2.1,(VL.1,())))]))) (By x1 (rN++([(CX.1,(CX.2.1,(VL.1,())))])) ux wV (W .i64 (sK+1))) none) (By x1 rN ux wV (W .i64 (sK+1))))))
def bu.Rh(N:Nat)(By:bu.Bc):Nat→bu.MN
 |0,_,_,_,_,_,_,_,_,_,_=>none
 |n+1,x1,rN,CX,Bz,ux,wV,sK,AB,Kd,zH=>bu.ON N By (bu.Rh N By n) x1 rN CX Bz ux wV sK AB Kd zH
def bu.OP(XK:bu.MN)(By:bu.Bc)(x1:bD)(rN ux:ak)(wV sK:Int):Option (ak×(Int)):=
 cond (bh sK wV) (cond (bJ sK (ℓ ux)) ((Ei N (γ ux sK.toNat aH).2.2.1).bind λVK=>XK x1 rN (γ ux sK.toNat aH) ([VK]) ux wV sK x1 (ℓ x1) 0) none) ((S2 N rN).bind λr34=>some (r34,0))
def bu.OO(N:Nat):Nat→bu.Bc
 |0,_,_,_,_,_=>none
 |n+1,x1,rN,ux,wV,sK=>bu.OP N (bu.Rh N (bu.OO N n) N) (bu.OO N n) x1 rN ux wV sK
def bu.vb(N:Nat)(XL:bu.MM)(XM:bu.Bc)(lG:bu.lE)(x1:bD)(cw:ak)(pM:bD)(AA pD:Int):Option (ak×(Int)):=
 cond (bh pD AA) (cond (bJ pD (ℓ pM)) (XL x1 cw (γ pM pD.toNat (0,(0,(dC,())))) 0 pM AA pD) none) (cond (oC 0 (ℓ cw)) (XM x1 (List.replicate (0:Int).toNat aH) cw (ℓ cw) 0) none)
def bu.vY(N:Nat):Nat→bu.lE
 |0,_,_,_,_,_=>none
 |n+1,x1,cw,pM,AA,pD=>bu.vb N (bu.VC N (bu.vY N n) N) (bu.OO N N) (bu.vY N n) x1 cw pM AA pD
def bu.fX(Fc:bu.lE)(dM:bu.cQ)(x0:ak)(x1:bD)(x6:gb)(Rv:bD)(x37 Po:Int):Option (ak×(Int)):=
 cond (bh Po x37) (cond (bJ Po (ℓ Rv)) ((GH N (γ Rv Po.toNat (0,(0,(dC,())))).1 (γ Rv Po.toNat (0,(0,(dC,())))).2.1).bind λr4=>cond (!r4) (some (cj,1)) (cond (small (ℓ x6+ℓ ([(γ Rv Po.toNat (0,(0,(dC,())))).2.2.1]))) (dM x0 x1 (x6++([(γ Rv Po.toNat (0,(0,(dC,())))).2.2.1])) Rv x37 (W .i64 (Po+1))) none)) none) ((je N x6).bind λr7=>cond (!r7.2) (some (cj,1)) ((GO N r7.1).bind λr8=>cond (!bf r8 0) (some (cj,1)) ((fh N x0).bind λr9=>Fc x1 r9 x1 (ℓ x1) 0)))
def bu.l5(N:Nat):Nat→bu.cQ
 |0,_,_,_,_,_,_=>none
 |n+1,x0,x1,x6,Rv,x37,Po=>bu.fX N (bu.vY N N) (bu.l5 N n) x0 x1 x6 Rv x37 Po
def bu.b(iV:bu.cQ)(a0:ak)(a1:bD):Option (ak×(Int)):=
 (jS N a0).bind λr1=>cond (!r1) (some (cj,1)) (cond (bh 400 (ℓ a1)) (some (cj,1)) (cond (oC 0 (ℓ a1)) (iV a0 a1 (List.replicate (0:Int).toNat dC) a1 (ℓ a1) 0) none))
def bu(a0:ak)(a1:bD):Option (ak×(Int)):=bu.b N (bu.l5 N N) a0 a1
def L5(a0:ar)(a1:ak)(a2:bD):Option (ar×(Int)):=
 (L4 N a0).bind λr1=>(bt N a0.2.2.2.1 a1).bind λr2=>cond (!bf r2.2 0) (some ((fP,(fQ,(cj,(cj,(eH,(fv,())))))),r2.2)) ((bu N a0.2.2.1 a2).bind λr3=>cond (!bf r3.2 0) (some ((fP,(fQ,(cj,(cj,(eH,(fv,())))))),r3.2)) (some ((r1.1,(r1.2.1,(r3.1,(r2.1,r1.2.2.2.2)))),0)))
abbrev nT.qP:=ar→ar→ak→bD→e8→Int→Int→Option (ar×(Int))
abbrev nT.bz:=e8→aj→ar→ar→e8→Int→Int→Option (ar×(Int))
def nT.ua(BA:nT.qP)(x4 x6:ar)(dp:ak)(cw:bD)(pM:e8)(AA pD:Int):Option (ar×(Int)):=
 cond (bh pD AA) (cond (bJ pD (ℓ pM)) (let XN:Int:=W .i64 (0-((γ pM pD.toNat g9).2.2.2.1));cond (small (ℓ dp+ℓ ([((γ pM pD.toNat g9).1,((γ pM pD.toNat g9).2.2.1,((γ pM pD.toNat g9).2.2.2.1,()))),((γ pM pD.toNat g9).2.1,((γ pM pD.toNat g9).2.2.1,(XN,())))]))) (cond (bJ (γ pM pD.toNat g9).2.2.1 (ℓ x4.2.2.2.2.1)) ((Me N (γ pM pD.toNat g9) (γ x4.2.2.2.2.1 (γ pM pD.toNat g9).2.2.1.toNat 0)).bind λKp=>cond (small (ℓ cw+ℓ Kp.1)) (BA x4 x6 (dp++([((γ pM pD.toNat g9).1,((γ pM pD.toNat g9).2.2.1,((γ pM pD.toNat g9).2.2.2.1,()))),((γ pM pD.toNat g9).2.1,((γ pM pD.toNat g9).2.2.1,(XN,())))])) (cw++Kp.1) pM AA (W .i64 (pD+1))) none) none) none) none) ((L5 N x4 dp cw).bind λKq=>some (Kq.1,Kq.2))
def nT.vd(N:Nat):Nat→nT.qP
 |0,_,_,_,_,_,_,_=>none
 |n+1,x4,x6,dp,cw,pM,AA,pD=>nT.ua N (nT.vd N n) x4 x6 dp cw pM AA pD
def nT.de(Ff:nT.qP)(cm:nT.bz)(x2:e8)(x3:aj)(x4 x6:ar)(sO:e8)(Bx vn:Int):Option (ar×(Int)):=
 cond (bh vn Bx) (cond (bJ vn (ℓ sO)) (cond (!bf (γ sO vn.toNat g9).1 0) ((Ar N x4 (γ sO vn.toNat g9).1).bind λr4=>cond (!r4) (some ((fP,(fQ,(cj,(cj,(eH,(fv,())))))),3)) (cond (!bf (γ sO vn.toNat g9).2.1 0) ((Ar N x4 (γ sO vn.toNat g9).2.1).bind λr5=>cond (!r5) (some ((fP,(fQ,(cj,(cj,(eH,(fv,())))))),3)) (cond (cP (ℓ x3.1) (γ sO vn.toNat g9).2.2.1) (some ((fP,(fQ,(cj,(cj,(eH,(fv,())))))),3)) (cm x2 x3 x4 x6 sO Bx (W .i64 (vn+1))))) (cond (cP (ℓ x3.1) (γ sO vn.toNat g9).2.2.1) (some ((fP,(fQ,(cj,(cj,(eH,(fv,())))))),3)) (cm x2 x3 x4 x6 sO Bx (W .i64 (vn+1)))))) (cond (!bf (γ sO vn.toNat g9).2.1 0) ((Ar N x4 (γ sO vn.toNat g9).2.1).bind λr8=>cond (!r8) (some ((fP,(fQ,(cj,(cj,(eH,(fv,())))))),3)) (cond (cP (ℓ x3.1) (γ sO vn.toNat g9).2.2.1) (some ((fP,(fQ,(cj,(cj,(eH,(fv,())))))),3)) (cm x2 x3 x4 x6 sO Bx (W .i64 (vn+1))))) (cond (cP (ℓ x3.1) (γ sO vn.toNat g9).2.2.1) (some ((fP,(fQ,(cj,(cj,(eH,(fv,())))))),3)) (cm x2 x3 x4 x6 sO Bx (W .i64 (vn+1)))))) none) (Ff x4 x6 ([]) ([]) x2 (ℓ x2) 0)
def nT.l4(N:Nat):Nat→nT.bz
 |0,_,_,_,_,_,_,_=>none
 |n+1,x2,x3,x4,x6,sO,Bx,vn=>nT.de N (nT.vd N N) (nT.l4 N n) x2 x3 x4 x6 sO Bx vn
def nT.b(ed:nT.bz)(a0:aj)(a1:ar)(a2:e8):Option (ar×(Int)):=
 (gL N a0 a1).bind λr1=>cond (!r1) (some ((fP,(fQ,(cj,(cj,(eH,(fv,())))))),1)) (cond (bh 200 (ℓ a2)) (some ((fP,(fQ,(cj,(cj,(eH,(fv,())))))),1)) ((OW N a2 ()).bind λr2=>cond (r2) (some ((fP,(fQ,(cj,(cj,(eH,(fv,())))))),1)) (ed a2 a0 a1 (fP,(fQ,(cj,(cj,(eH,(fv,())))))) a2 (ℓ a2) 0)))
def nT(a0:aj)(a1:ar)(a2:e8):Option (ar×(Int)):=nT.b N (nT.l4 N N) a0 a1 a2
abbrev kW.cQ:=Int→Int→Int→bD→ak→Int→Int→Option (bD×(Int))
def kW.fX(dM:kW.cQ)(x1 x2 x3:Int)(dp:bD)(Fb:ak)(VN Nt:Int):Option (bD×(Int)):=
 cond (bh Nt VN) (cond (bJ Nt (ℓ Fb)) (cond (bf (γ Fb Nt.toNat aH).2.1 x1) (cond (!bf x3 x2) ((Jv N (γ Fb Nt.toNat aH).2.2.1 (W .i64 (x3-x2))).bind λr6=>(JR N (γ Fb Nt.toNat aH).1 r6).bind λr7=>cond (small (ℓ dp+ℓ ([r7]))) (dM x1 x2 x3 (dp++([r7])) Fb VN (W .i64 (Nt+1))) none) (dM x1 x2 x3 dp Fb VN (W .i64 (Nt+1)))) (dM x1 x2 x3 dp Fb VN (W .i64 (Nt+1)))) none) (some (dp,0))
def kW.l5(N:Nat):Nat→kW.cQ
 |0,_,_,_,_,_,_,_=>none
 |n+1,x1,x2,x3,dp,Fb,VN,Nt=>kW.fX N (kW.l5 N n) x1 x2 x3 dp Fb VN Nt
def kW.b(iV:kW.cQ)(a0:ak)(a1 a2 a3:Int):Option (bD×(Int)):=
 (js N a0).bind λr1=>cond (!r1) (some ([],1)) ((Aq N a2).bind λr2=>cond (!r2) (some ([],1)) ((Aq N a3).bind λr3=>cond (!r3) (some ([],1)) (iV a1 a2 a3 ([]) a0 (ℓ a0) 0)))
def kW(a0:ak)(a1 a2 a3:Int):Option (bD×(Int)):=kW.b N (kW.l5 N N) a0 a1 a2 a3
def Rw(a0:ar):Option ar:=
 (fh N a0.1).bind λr1=>(fh N a0.2.1).bind λr2=>(fh N a0.2.2.1).bind λr3=>(fh N a0.2.2.2.1).bind λr4=>(fh N a0.2.2.2.2.1).bind λr5=>(fh N a0.2.2.2.2.2.1).bind λr6=>some (r1,(r2,(r3,(r4,(r5,(r6,()))))))
def Mv(a0:ar)(a1:ak)(a2:bD):Option (ar×(Int)):=
 (Rw N a0).bind λr1=>(bt N a0.2.2.2.1 a1).bind λr2=>cond (!bf r2.2 0) (some ((fP,(fQ,(cj,(cj,(eH,(fv,())))))),r2.2)) ((bu N a0.2.2.1 a2).bind λr3=>cond (!bf r3.2 0) (some ((fP,(fQ,(cj,(cj,(eH,(fv,())))))),r3.2)) (some ((r1.1,(r1.2.1,(r3.1,(r2.1,(r1.2.2.2.2.1,r1.2.2.2.2.2))))),0)))
def VF(a0:aj)(a1:ar)(a2 a3:Int):Option (ar×bD×(Int)):=
 (gL N a0 a1).bind λr1=>cond (!r1) (some ((fP,(fQ,(cj,(cj,(eH,(fv,())))))),([]:List ((Int)×((Int)×(((Int)×((Int)×(Unit)))×(Unit))))),1)) ((Aq N a3).bind λr2=>cond (!r2) (some ((fP,(fQ,(cj,(cj,(eH,(fv,())))))),([]:List ((Int)×((Int)×(((Int)×((Int)×(Unit)))×(Unit))))),1)) (cond (bh a2 0) (some ((fP,(fQ,(cj,(cj,(eH,(fv,())))))),([]:List ((Int)×((Int)×(((Int)×((Int)×(Unit)))×(Unit))))),3)) (cond (cP (ℓ a0.1) a2) (some ((fP,(fQ,(cj,(cj,(eH,(fv,())))))),([]:List ((Int)×((Int)×(((Int)×((Int)×(Unit)))×(Unit))))),3)) (cond (bJ a2 (ℓ a1.2.2.2.2.1)) ((kW N a1.2.2.2.1 a2 (γ a1.2.2.2.2.1 a2.toNat 0) a3).bind λr3=>(Mv N a1 cj r3.1).bind λr4=>cond (!bf r4.2 0) (some ((fP,(fQ,(cj,(cj,(eH,(fv,())))))),([]:List ((Int)×((Int)×(((Int)×((Int)×(Unit)))×(Unit))))),r4.2)) (cond (bJ a2 (ℓ r4.1.2.2.2.2.1)) (some ((r4.1.1,(r4.1.2.1,(r4.1.2.2.1,(r4.1.2.2.2.1,((List.set r4.1.2.2.2.2.1 a2.toNat a3),r4.1.2.2.2.2.2))))),r3.1,0)) none)) none))))
abbrev wg.cQ:=Int→aW→ak→Int→Int→Option aW
def wg.fX(N:Nat)(dM:wg.cQ)(x1:Int)(x5:aW)(cw:ak)(c9 dV:Int):Option aW:=
 cond (bh dV c9) (cond (bJ dV (ℓ cw)) (cond (bf (γ cw dV.toNat aH).1 x1) (cond (small (ℓ x5+ℓ ([((γ cw dV.toNat aH).2.1,((γ cw dV.toNat aH).2.2.1,()))]))) (dM x1 (x5++([((γ cw dV.toNat aH).2.1,((γ cw dV.toNat aH).2.2.1,()))])) cw c9 (W .i64 (dV+1))) none) (dM x1 x5 cw c9 (W .i64 (dV+1)))) none) (some x5)
def wg.l5(N:Nat):Nat→wg.cQ
 |0,_,_,_,_,_=>none
 |n+1,x1,x5,cw,c9,dV=>wg.fX N (wg.l5 N n) x1 x5 cw c9 dV
def wg.b(iV:wg.cQ)(a0:ak)(a1:Int):Option aW:=
 (js N a0).bind λr1=>cond (!r1) (some ([])) (iV a1 ([]) a0 (ℓ a0) 0)
def wg(a0:ak)(a1:Int):Option aW:=wg.b N (wg.l5 N N) a0 a1
abbrev ej.Hn:=bx→Int→ak→Int→dJ→Int→bx→Int→Int→Option ak
abbrev ej.cQ:=bx→Int→ak→Int→Option ak
def ej.OY(N:Nat)(dM:ej.cQ)(Ho:ej.Hn)(x0:bx)(x1:Int)(x5:ak)(x6:Int)(x7:dJ)(dV:Int)(Bz:bx)(Th Ke:Int):Option ak:=
 cond (bh Ke Th) (cond (bJ Ke (ℓ Bz)) (cond (!bf (γ Bz Ke.toNat fZ).2.1 x1) (Ho x0 x1 x5 x6 x7 dV Bz Th (W .i64 (Ke+1))) (cond (!bf (γ Bz Ke.toNat fZ).2.2.1 x6) (Ho x0 x1 x5 x6 x7 dV Bz Th (W .i64 (Ke+1))) (cond (bf (γ Bz Ke.toNat fZ).2.2.2.1 1) (Ho x0 x1 x5 x6 (x7.1,((W .i64 (x7.2.1+((γ Bz Ke.toNat fZ).2.2.2.2.1))),x7.2.2)) dV Bz Th (W .i64 (Ke+1))) (Ho x0 x1 x5 x6 (x7.1,(x7.2.1,((W .i64 (x7.2.2.1+((γ Bz Ke.toNat fZ).2.2.2.2.1))),x7.2.2.2))) dV Bz Th (W .i64 (Ke+1)))))) none) (cond (bh 0 (W .i64 (x7.2.1+x7.2.2.1))) (cond (small (ℓ x5+ℓ ([x7]))) (dM x0 x1 (x5++([x7])) (W .i64 (dV+1))) none) (dM x0 x1 x5 (W .i64 (dV+1))))
def ej.l9(N:Nat)(dM:ej.cQ):Nat→ej.Hn
 |0,_,_,_,_,_,_,_,_,_=>none
 |n+1,x0,x1,x5,x6,x7,dV,Bz,Th,Ke=>ej.OY N dM (ej.l9 N dM n) x0 x1 x5 x6 x7 dV Bz Th Ke
def ej.fX(N:Nat)(Ti:ej.Hn)(dM:ej.cQ)(x0:bx)(x1:Int)(x5:ak)(dV:Int):Option ak:=
 cond (bh dV 6) (Ti x0 x1 x5 dV (dV,dC) dV x0 (ℓ x0) 0) (some x5)
def ej.l5(N:Nat):Nat→ej.cQ
 |0,_,_,_,_=>none
 |n+1,x0,x1,x5,dV=>ej.fX N (ej.l9 N (ej.l5 N n) N) (ej.l5 N n) x0 x1 x5 dV
def ej.b(iV:ej.cQ)(a0:bx)(a1:Int):Option ak:=
 (jU N a0).bind λr1=>cond (!r1) (some ([])) (iV a0 a1 ([]) 0)
def ej(a0:bx)(a1:Int):Option ak:=ej.b N (ej.l5 N N) a0 a1
abbrev vZ.ca:=aW→aj→aW→Int→Int→Option Bool
def vZ.dY(cS:vZ.ca)(x1:aW)(x2:aj)(x7:aW)(x8 x9:Int):Option Bool:=
 cond (bh x9 x8) (cond (bJ x9 (ℓ x7)) (cond (bh (γ x7 x9.toNat dC).1 0) (some false) (cond (cP (ℓ x2.1) (γ x7 x9.toNat dC).1) (some false) (cond (bf (γ x7 x9.toNat dC).2.1 0) (some false) ((GK N (γ x7 x9.toNat dC).2.1).bind λr2=>cond (!r2) (some false) (cond (bh 0 x9) (let v3:Int:=W .i64 (x9-1);cond (bJ v3 (ℓ x1)) (cond (cP (γ x7 x9.toNat dC).1 (γ x1 v3.toNat dC).1) (some false) (cS x1 x2 x7 x8 (W .i64 (x9+1)))) none) (cS x1 x2 x7 x8 (W .i64 (x9+1)))))))) none) ((uA N x2).bind λr6=>some r6)
def vZ.l2(N:Nat):Nat→vZ.ca
 |0,_,_,_,_,_=>none
 |n+1,x1,x2,x7,x8,x9=>vZ.dY N (vZ.l2 N n) x1 x2 x7 x8 x9
def vZ.b(N:Nat)(fr:vZ.ca)(a0:aj)(a1:aW):Option Bool:=
 fr a1 a0 a1 (ℓ a1) 0
def vZ(a0:aj)(a1:aW):Option Bool:=vZ.b N (vZ.l2 N N) a0 a1
abbrev kT.ca:=ak→aj→ak→Int→Int→Option Bool
def kT.dY(cS:kT.ca)(x1:ak)(x2:aj)(x7:ak)(x8 x9:Int):Option Bool:=
 cond (bh x9 x8) (cond (bJ x9 (ℓ x7)) (cond (bh (γ x7 x9.toNat aH).1 0) (some false) (cond (cP (ℓ x2.1) (γ x7 x9.toNat aH).1) (some false) (cond (bh (γ x7 x9.toNat aH).2.1 0) (some false) (cond (bh 33000000000 (γ x7 x9.toNat aH).2.1) (some false) (cond (bh (γ x7 x9.toNat aH).2.2.1 0) (some false) (cond (bh 33000000000 (γ x7 x9.toNat aH).2.2.1) (some false) (cond (bf (γ x7 x9.toNat aH).2.1 0) (cond (bf (γ x7 x9.toNat aH).2.2.1 0) (some false) (cond (bh 0 x9) (let v2:Int:=W .i64 (x9-1);cond (bJ v2 (ℓ x1)) (cond (cP (γ x7 x9.toNat aH).1 (γ x1 v2.toNat aH).1) (some false) (cS x1 x2 x7 x8 (W .i64 (x9+1)))) none) (cS x1 x2 x7 x8 (W .i64 (x9+1))))) (cond (bh 0 x9) (let v5:Int:=W .i64 (x9-1);cond (bJ v5 (ℓ x1)) (cond (cP (γ x7 x9.toNat aH).1 (γ x1 v5.toNat aH).1) (some false) (cS x1 x2 x7 x8 (W .i64 (x9+1)))) none) (cS x1 x2 x7 x8 (W .i64 (x9+1))))))))))) none) ((uA N x2).bind λr8=>some r8)
def kT.l2(N:Nat):Nat→kT.ca
 |0,_,_,_,_,_=>none
 |n+1,x1,x2,x7,x8,x9=>kT.dY N (kT.l2 N n) x1 x2 x7 x8 x9
def kT.b(N:Nat)(fr:kT.ca)(a0:aj)(a1:ak):Option Bool:=
 fr a1 a0 a1 (ℓ a1) 0
def kT(a0:aj)(a1:ak):Option Bool:=kT.b N (kT.l2 N N) a0 a1
def Xr(a0 a1:aS):Option (aS×(Bool)):=
 (od N a0.2.1 a1.2.1 0).bind λr1=>(od N (W .u64 a0.1) (W .u64 a1.1) r1.2).bind λr4=>let v5:Int:=W .i64 r4.1;cond (k5 .bool (bh a0.1 0) (bh a1.1 0)) (cond (!(k5 .bool (bh v5 0) (bh a0.1 0))) (some (dC,false)) (some ((v5,(r1.1,())),true))) (some ((v5,(r1.1,())),true))
def G6(a0 a1:aS):Option (aS×(Bool)):=
 (np N a0.2.1 a1.2.1 0).bind λr1=>(np N (W .u64 a0.1) (W .u64 a1.1) r1.2).bind λr4=>let v5:Int:=W .i64 r4.1;cond (!(k5 .bool (bh a0.1 0) (bh a1.1 0))) (cond (!(k5 .bool (bh v5 0) (bh a0.1 0))) (some (dC,false)) (some ((v5,(r1.1,())),true))) (some ((v5,(r1.1,())),true))
def F80(a0:aS):Option (aS×(Bool)):=
 (G6 N dC a0).bind λr1=>some (r1.1,r1.2)
def G7(a0:aS):Option (aS×(Bool)):=
 cond (bh a0.1 0) ((F80 N a0).bind λr1=>some (r1.1,r1.2)) (some (a0,true))
abbrev eX.pB:=Int→aS→Int→Int→Int→ak→Int→Int→Option (aS×(Int))
abbrev eX.fw:=ak→Int→aS→Int→Int→Int→aW→Int→Int→Option (aS×(Int))
def eX.Ce(nI:eX.pB)(x3:Int)(x8:aS)(dp cw c9:Int)(zY:ak)(Kb xp:Int):Option (aS×(Int)):=
 cond (bh xp Kb) (cond (bJ xp (ℓ zY)) (cond (bf (γ zY xp.toNat aH).1 x3) (nI x3 x8 dp (γ zY xp.toNat aH).2.1 (γ zY xp.toNat aH).2.2.1 zY Kb (W .i64 (xp+1))) (nI x3 x8 dp cw c9 zY Kb (W .i64 (xp+1)))) none) ((Ei N dp).bind λr9=>(Ei N cw).bind λzX=>(Xr N r9 zX).bind λBn=>(Ei N dp).bind λAx=>(Ei N c9).bind λsN=>(G6 N Ax sN).bind λKp=>(G7 N Bn.1).bind λCn=>(G7 N Kp.1).bind λMk=>(Jz N Cn.1 Mk.1).bind λKq=>cond (bh Kq 0) (some (Mk.1,0)) (some (Cn.1,0)))
def eX.CT(N:Nat):Nat→eX.pB
 |0,_,_,_,_,_,_,_,_=>none
 |n+1,x3,x8,dp,cw,c9,zY,Kb,xp=>eX.Ce N (eX.CT N n) x3 x8 dp cw c9 zY Kb xp
def eX.pA(N:Nat)(ML:eX.pB)(fU:eX.fw)(x2:ak)(x3:Int)(x8:aS)(dp cw c9:Int)(Tj:aW)(XO Rx:Int):Option (aS×(Int)):=
 cond (bh Rx XO) (cond (bJ Rx (ℓ Tj)) (cond (bf (γ Tj Rx.toNat dC).1 x3) (fU x2 x3 x8 (γ Tj Rx.toNat dC).2.1 cw c9 Tj XO (W .i64 (Rx+1))) (fU x2 x3 x8 dp cw c9 Tj XO (W .i64 (Rx+1)))) none) (ML x3 x8 dp cw c9 x2 (ℓ x2) 0)
def eX.l7(N:Nat):Nat→eX.fw
 |0,_,_,_,_,_,_,_,_,_=>none
 |n+1,x2,x3,x8,dp,cw,c9,Tj,XO,Rx=>eX.pA N (eX.CT N N) (eX.l7 N n) x2 x3 x8 dp cw c9 Tj XO Rx
def eX.b(sH:eX.fw)(a0:aj)(a1:aW)(a2:ak)(a3:Int):Option (aS×(Int)):=
 (vZ N a0 a1).bind λr1=>cond (!r1) (some (dC,1)) ((kT N a0 a2).bind λr2=>cond (!r2) (some (dC,1)) (cond (bh a3 0) (some (dC,3)) (cond (cP (ℓ a0.1) a3) (some (dC,3)) (sH a2 a3 dC 0 0 0 a1 (ℓ a1) 0))))
def eX(a0:aj)(a1:aW)(a2:ak)(a3:Int):Option (aS×(Int)):=eX.b N (eX.l7 N N) a0 a1 a2 a3
def Ok(a0:aS):Option ((Int)×(Int)):=
 cond (cP 0 a0.1) (some ((W .u64 a0.1),a0.2.1)) ((np N 0 a0.2.1 0).bind λr2=>(np N 0 (W .u64 a0.1) r2.2).bind λr4=>some (r4.1,r2.1))
def O0(a0:aS)(a1:Int):Option (aS×(Bool)):=
 (Ok N a0).bind λr1=>(Vz N a1).bind λr2=>(Jt N r1.2 r2).bind λr3=>(Jt N r1.1 r2).bind λr4=>(od N r4.2 r3.1 0).bind λr5=>cond (!bf (W .u64 (r4.1+r5.2)) 0) (some (dC,false)) ((lS N (!(k5 .bool (bh a0.1 0) (bh a1 0))) r5.1 r3.2).bind λr7=>some (r7.1,r7.2))
abbrev mU.cQ:=aW→ak→aj→aS→gb→bl→Int→Int→Option (aS×(Int))
def mU.fX(dM:mU.cQ)(x1:aW)(x2:ak)(x3:aj)(x6:aS)(x8:gb)(XP:bl)(sO Bx:Int):Option (aS×(Int)):=
 cond (bh Bx sO) (cond (bJ Bx (ℓ XP)) ((eX N x3 x1 x2 Bx).bind λr4=>(O0 N r4.1 (γ XP Bx.toNat bQ).2.2.1).bind λr5=>cond (small (ℓ x8+ℓ ([r5.1]))) (dM x1 x2 x3 x6 (x8++([r5.1])) XP sO (W .i64 (Bx+1))) none) none) ((je N x8).bind λr8=>some (r8.1,0))
def mU.l5(N:Nat):Nat→mU.cQ
 |0,_,_,_,_,_,_,_,_=>none
 |n+1,x1,x2,x3,x6,x8,XP,sO,Bx=>mU.fX N (mU.l5 N n) x1 x2 x3 x6 x8 XP sO Bx
def mU.b(iV:mU.cQ)(a0:aj)(a1:aW)(a2:ak):Option (aS×(Int)):=
 (vZ N a0 a1).bind λr1=>cond (!r1) (some (dC,1)) ((kT N a0 a2).bind λr2=>cond (!r2) (some (dC,1)) (iV a1 a2 a0 dC ([]) a0.1 (ℓ a0.1) 0))
def mU(a0:aj)(a1:aW)(a2:ak):Option (aS×(Int)):=mU.b N (mU.l5 N N) a0 a1 a2
def Rr(a0:aj)(a1:ar)(a2:Int):Option (aS×(Int)):=
 (gL N a0 a1).bind λr1=>cond (!r1) (some (dC,1)) ((Ar N a1 a2).bind λr2=>cond (!r2) (some (dC,3)) ((wg N a1.2.2.2.1 a2).bind λr3=>(ej N a1.2.2.2.2.2.1 a2).bind λr4=>(mU N a0 r3 r4).bind λr5=>some (r5.1,r5.2)))
abbrev kY.cQ:=Int→(List Int)→bl→Int→Int→Option (List Int)
def kY.fX(N:Nat)(dM:kY.cQ)(x1:Int)(x5:List Int)(cw:bl)(c9 dV:Int):Option (List Int):=
 cond (bh dV c9) (cond (bJ dV (ℓ cw)) (cond (bf (γ cw dV.toNat bQ).2.1 x1) (cond (small (ℓ x5+ℓ ([(γ cw dV.toNat bQ).1]))) (dM x1 (x5++([(γ cw dV.toNat bQ).1])) cw c9 (W .i64 (dV+1))) none) (dM x1 x5 cw c9 (W .i64 (dV+1)))) none) (some x5)
def kY.l5(N:Nat):Nat→kY.cQ
 |0,_,_,_,_,_=>none
 |n+1,x1,x5,cw,c9,dV=>kY.fX N (kY.l5 N n) x1 x5 cw c9 dV
def kY.b(iV:kY.cQ)(a0:bl)(a1:Int):Option (List Int):=
 (iQ N a0).bind λr1=>cond (!r1) (some ([])) (iV a1 ([]) a0 (ℓ a0) 0)
def kY(a0:bl)(a1:Int):Option (List Int):=kY.b N (kY.l5 N N) a0 a1
abbrev mX.ca:=(List Int)→Int→Int→Int→Option Int
def mX.dY(N:Nat)(cS:mX.ca)(x0:List Int)(x1 x7 x8:Int):Option Int:=
 cond (bh x8 x7) (cond (bJ x8 (ℓ x0)) (cond (bf x1 (γ x0 x8.toNat 0)) (some x8) (cS x0 x1 x7 (W .i64 (x8+1)))) none) (some (-1))
def mX.l2(N:Nat):Nat→mX.ca
 |0,_,_,_,_=>none
 |n+1,x0,x1,x7,x8=>mX.dY N (mX.l2 N n) x0 x1 x7 x8
def mX.b(N:Nat)(fr:mX.ca)(a0:List Int)(a1:Int):Option Int:=
 fr a0 a1 (ℓ a0) 0
def mX(a0:List Int)(a1:Int):Option Int:=mX.b N (mX.l2 N N) a0 a1
def O9(a0:List Int)(a1:Int):Option Bool:=
 (mX N a0 a1).bind λr1=>some (cP 0 r1)
def Mz(a0:sw)(a1:List Int):Option Bool:=
 (O9 N a1 a0.2.1).bind λr1=>some r1
abbrev lq.ca:=bx→(((List Int)×(Unit))×(Unit))→Int→Int→Option Int
def lq.dY(cS:lq.ca)(x0:bx)(x1:((List Int)×(Unit))×(Unit))(x7 x8:Int):Option Int:=
 cond (bh x8 x7) (cond (bJ x8 (ℓ x0)) ((Mz N (γ x0 x8.toNat fZ) x1.1.1).bind λr2=>cond (r2) (some x8) (cS x0 ((x1.1.1,()),()) x7 (W .i64 (x8+1)))) none) (some (-1))
def lq.l2(N:Nat):Nat→lq.ca
 |0,_,_,_,_=>none
 |n+1,x0,x1,x7,x8=>lq.dY N (lq.l2 N n) x0 x1 x7 x8
def lq.b(N:Nat)(fr:lq.ca)(a0:bx)(a1:((List Int)×(Unit))×(Unit)):Option Int:=
 fr a0 ((a1.1.1,()),()) (ℓ a0) 0
def lq(a0:bx)(a1:((List Int)×(Unit))×(Unit)):Option Int:=lq.b N (lq.l2 N N) a0 a1
abbrev mZ.cQ:=bx→(((List Int)×(Unit))×(Unit))→Int→Int→Option bx
def mZ.fX(dM:mZ.cQ)(x0:bx)(x1:((List Int)×(Unit))×(Unit))(x5 x6:Int):Option bx:=
 cond (bh x6 (ℓ x0)) (cond (bJ x6 (ℓ x0)) ((Mz N (γ x0 x6.toNat fZ) x1.1.1).bind λr4=>cond (!r4) (cond (bJ x5 (ℓ x0)) (dM (List.set x0 x5.toNat (γ x0 x6.toNat fZ)) ((x1.1.1,()),()) (W .i64 (x5+1)) (W .i64 (x6+1))) none) (dM x0 ((x1.1.1,()),()) x5 (W .i64 (x6+1)))) none) (cond (lz x5 (ℓ x0) (ℓ x0) (ℓ x0)) (let v9:List ((Int)×((Int)×((Int)×((Int)×((Int)×((Int)×(Unit))))))):=List.take x5.toNat x0++List.replicate (ℓ x0-x5.toNat) fZ;cond (lz 0 x5 (ℓ v9) (ℓ v9)) (some (List.drop (0:Int).toNat (List.take x5.toNat v9))) none) none)
def mZ.l5(N:Nat):Nat→mZ.cQ
 |0,_,_,_,_=>none
 |n+1,x0,x1,x5,x6=>mZ.fX N (mZ.l5 N n) x0 x1 x5 x6
def mZ.b(iV:mZ.cQ)(a0:bx)(a1:((List Int)×(Unit))×(Unit)):Option bx:=
 (lq N a0 ((a1.1.1,()),())).bind λr1=>cond (bf r1 (-1)) (some a0) (iV a0 ((a1.1.1,()),()) r1 (W .i64 (r1+1)))
def mZ(a0:bx)(a1:((List Int)×(Unit))×(Unit)):Option bx:=mZ.b N (mZ.l5 N N) a0 a1
def Pd(a0:bx)(a1:List Int):Option bx:=
 (jU N a0).bind λr1=>cond (!r1) (some fv) ((fh N a0).bind λr2=>(mZ N r2 ((a1,()),())).bind λr3=>some r3)
def VG(a0:aj)(a1:ar)(a2:Int):Option (ar×(Int)):=
 (gL N a0 a1).bind λr1=>cond (!r1) (some ((fP,(fQ,(cj,(cj,(eH,(fv,())))))),1)) ((jt N a1.1 a2).bind λr2=>cond (bf r2 0) (some ((fP,(fQ,(cj,(cj,(eH,(fv,())))))),3)) ((L4 N a1).bind λr3=>(kY N a1.2.1 a2).bind λr4=>(Pd N a1.2.2.2.2.2.1 r4).bind λr5=>some ((r3.1,(r3.2.1,(r3.2.2.1,(r3.2.2.2.1,(r3.2.2.2.2.1,(r5,r3.2.2.2.2.2.2)))))),0)))
abbrev vf.bz:=ak→ak→Int→Option Bool
def vf.de(N:Nat)(cm:vf.bz)(x0 x1:ak)(x5:Int):Option Bool:=
 cond (bh x5 (ℓ x0)) (cond (bJ x5 (ℓ x0)) (cond (bJ x5 (ℓ x1)) (cond (!(k5 (.pair (.int .i64) (.pair (.int .i64) (.pair (.int .i64) .unit))) (γ x0 x5.toNat aH) (γ x1 x5.toNat aH))) (some false) (cm x0 x1 (W .i64 (x5+1)))) none) none) (some true)
def vf.l4(N:Nat):Nat→vf.bz
 |0,_,_,_=>none
 |n+1,x0,x1,x5=>vf.de N (vf.l4 N n) x0 x1 x5
def vf.b(N:Nat)(ed:vf.bz)(a0 a1:ak):Option Bool:=
 cond (!bf (ℓ a0) (ℓ a1)) (some false) (ed a0 a1 0)
def vf(a0 a1:ak):Option Bool:=vf.b N (vf.l4 N N) a0 a1
abbrev vg.bz:=(List Int)→(List Int)→Int→Option Bool
def vg.de(N:Nat)(cm:vg.bz)(x0 x1:List Int)(x5:Int):Option Bool:=
 cond (bh x5 (ℓ x0)) (cond (bJ x5 (ℓ x0)) (cond (bJ x5 (ℓ x1)) (cond (!bf (γ x0 x5.toNat 0) (γ x1 x5.toNat 0)) (some false) (cm x0 x1 (W .i64 (x5+1)))) none) none) (some true)
def vg.l4(N:Nat):Nat→vg.bz
 |0,_,_,_=>none
 |n+1,x0,x1,x5=>vg.de N (vg.l4 N n) x0 x1 x5
def vg.b(N:Nat)(ed:vg.bz)(a0 a1:List Int):Option Bool:=
 cond (!bf (ℓ a0) (ℓ a1)) (some false) (ed a0 a1 0)
def vg(a0 a1:List Int):Option Bool:=vg.b N (vg.l4 N N) a0 a1
abbrev tW.ca:=ak→Int→Option Bool
def tW.dY(N:Nat)(cS:tW.ca)(x0:ak)(x3:Int):Option Bool:=
 cond (bh x3 (ℓ x0)) (cond (bJ x3 (ℓ x0)) (cond (bh (γ x0 x3.toNat aH).1 0) (some false) (cond (bh 24 (γ x0 x3.toNat aH).1) (some false) (cond (bh (γ x0 x3.toNat aH).2.1 0) (some false) (cond (cP 6 (γ x0 x3.toNat aH).2.1) (some false) (cond (bf (γ x0 x3.toNat aH).2.2.1 0) (some false) (cond (bf (γ x0 x3.toNat aH).2.2.1 (-9223372036854775808)) (some false) (cond (bh 0 x3) (let v2:Int:=W .i64 (x3-1);cond (bJ v2 (ℓ x0)) (cond (bh (γ x0 x3.toNat aH).1 (γ x0 v2.toNat aH).1) (some false) (let v3:Int:=W .i64 (x3-1);cond (bJ v3 (ℓ x0)) (cond (bf (γ x0 x3.toNat aH).1 (γ x0 v3.toNat aH).1) (let v4:Int:=W .i64 (x3-1);cond (bJ v4 (ℓ x0)) (cond (cP (γ x0 x3.toNat aH).2.1 (γ x0 v4.toNat aH).2.1) (some false) (cS x0 (W .i64 (x3+1)))) none) (cS x0 (W .i64 (x3+1)))) none)) none) (cS x0 (W .i64 (x3+1)))))))))) none) (some true)
def tW.l2(N:Nat):Nat→tW.ca
 |0,_,_=>none
 |n+1,x0,x3=>tW.dY N (tW.l2 N n) x0 x3
def tW.b(N:Nat)(fr:tW.ca)(a0:ak):Option Bool:=
 fr a0 0
def tW(a0:ak):Option Bool:=tW.b N (tW.l2 N N) a0
abbrev we.bz:=ak→Int→Int→Int→Option Int
def we.de(N:Nat)(cm:we.bz)(x0:ak)(x1 x2 x7:Int):Option Int:=
 cond (bh x7 (ℓ x0)) (cond (bJ x7 (ℓ x0)) (cond (bf (γ x0 x7.toNat aH).1 x1) (cond (bJ x7 (ℓ x0)) (cond (bf (γ x0 x7.toNat aH).2.1 x2) (cond (bJ x7 (ℓ x0)) (some (γ x0 x7.toNat aH).2.2.1) none) (cm x0 x1 x2 (W .i64 (x7+1)))) none) (cm x0 x1 x2 (W .i64 (x7+1)))) none) (some 0)
def we.l4(N:Nat):Nat→we.bz
 |0,_,_,_,_=>none
 |n+1,x0,x1,x2,x7=>we.de N (we.l4 N n) x0 x1 x2 x7
def we.b(ed:we.bz)(a0:ak)(a1 a2:Int):Option Int:=
 (tW N a0).bind λr1=>cond (!r1) (some 0) (ed a0 a1 a2 0)
def we(a0:ak)(a1 a2:Int):Option Int:=we.b N (we.l4 N N) a0 a1 a2
def Oo(N:Nat)(a0 a1:Int):Option Bool:=
 cond (bf a0 1) (some (bf a1 0)) (cond (bf a0 2) (some (bf a1 0)) (cond (bf a0 3) (some (bf a1 0)) (cond (bf a0 4) (some (bf a1 0)) (cond (bf a0 5) (cond (cP 1 a1) (some (cP a1 24)) (some false)) (cond (bf a0 6) (cond (cP 1 a1) (some (cP a1 12)) (some false)) (cond (bf a0 7) (cond (cP 1 a1) (some (cP a1 12)) (some false)) (some false)))))))
abbrev jT.ca:=ak→Int→Option Bool
def jT.dY(cS:jT.ca)(x0:ak)(x3:Int):Option Bool:=
 cond (bh x3 (ℓ x0)) (cond (bJ x3 (ℓ x0)) (cond (bJ x3 (ℓ x0)) ((Oo N (γ x0 x3.toNat aH).1 (γ x0 x3.toNat aH).2.1).bind λr2=>cond (!r2) (some false) (cond (bJ x3 (ℓ x0)) (cond (bf (γ x0 x3.toNat aH).2.2.1 0) (some false) (cond (bh 0 x3) (cond (bJ x3 (ℓ x0)) (let v3:Int:=W .i64 (x3-1);cond (bJ v3 (ℓ x0)) (cond (bh (γ x0 x3.toNat aH).1 (γ x0 v3.toNat aH).1) (some false) (cond (bJ x3 (ℓ x0)) (let v4:Int:=W .i64 (x3-1);cond (bJ v4 (ℓ x0)) (cond (bf (γ x0 x3.toNat aH).1 (γ x0 v4.toNat aH).1) (cond (bJ x3 (ℓ x0)) (let v5:Int:=W .i64 (x3-1);cond (bJ v5 (ℓ x0)) (cond (cP (γ x0 x3.toNat aH).2.1 (γ x0 v5.toNat aH).2.1) (some false) (cS x0 (W .i64 (x3+1)))) none) none) (cS x0 (W .i64 (x3+1)))) none) none)) none) none) (cS x0 (W .i64 (x3+1))))) none)) none) none) (some true)
def jT.l2(N:Nat):Nat→jT.ca
 |0,_,_=>none
 |n+1,x0,x3=>jT.dY N (jT.l2 N n) x0 x3
def jT.b(N:Nat)(fr:jT.ca)(a0:ak):Option Bool:=
 fr a0 0
def jT(a0:ak):Option Bool:=jT.b N (jT.l2 N N) a0
abbrev uC.bz:=ak→Int→Int→Int→Option Int
def uC.de(N:Nat)(cm:uC.bz)(x0:ak)(x1 x2 x7:Int):Option Int:=
 cond (bh x7 (ℓ x0)) (cond (bJ x7 (ℓ x0)) (cond (bf (γ x0 x7.toNat aH).1 x1) (cond (bJ x7 (ℓ x0)) (cond (bf (γ x0 x7.toNat aH).2.1 x2) (cond (bJ x7 (ℓ x0)) (some (γ x0 x7.toNat aH).2.2.1) none) (cm x0 x1 x2 (W .i64 (x7+1)))) none) (cm x0 x1 x2 (W .i64 (x7+1)))) none) (some 0)
def uC.l4(N:Nat):Nat→uC.bz
 |0,_,_,_,_=>none
 |n+1,x0,x1,x2,x7=>uC.de N (uC.l4 N n) x0 x1 x2 x7
def uC.b(ed:uC.bz)(a0:ak)(a1 a2:Int):Option Int:=
 (jT N a0).bind λr1=>cond (!r1) (some 0) (ed a0 a1 a2 0)
def uC(a0:ak)(a1 a2:Int):Option Int:=uC.b N (uC.l4 N N) a0 a1 a2
def Xy:Option Bool:=
 (F92 N).bind λr1=>(pC N r1.1).bind λr2=>(nT N r1.1 r1.2 ([(1,(2,(0,(5,(90,())))))])).bind λr3=>(VF N r1.1 r3.1 0 110).bind λr4=>(Rr N r1.1 r3.1 2).bind λr5=>(VG N r1.1 r1.2 1).bind λr6=>(Rr N r1.1 r1.2 9).bind λr7=>cond (bf r2.2 0) ((vf N r2.1.2.2.1 r1.2.2.2.1).bind λr8=>cond (r8) ((vg N r2.1.2.2.2.2.1 ([100])).bind λr9=>cond (r9) (cond (bf r3.2 0) ((we N r3.1.2.2.2.1 1 0).bind λzX=>cond (bf zX 5) ((uC N r3.1.2.2.1 5 1).bind λBn=>cond (bf Bn 50) (cond (bf r4.2.2 0) (cond (bf (ℓ r4.2.1) 2) ((uC N r4.1.2.2.1 5 1).bind λAx=>cond (bf Ax 100) (cond (bf (ℓ r4.1.2.2.2.2.1) 1) (cond (bJ 0 (ℓ r4.1.2.2.2.2.1)) (cond (bf (γ r4.1.2.2.2.2.1 (0:Int).toNat 0) 110) (cond (bf r5.2 0) (cond (bf r5.1.2.1 10) (cond (bf r6.2 0) (cond (bf (ℓ r6.1.2.2.2.2.2.1) 0) (cond (bf r7.2 3) ((gL N r1.1 r1.2).bind λsN=>some sN) (some false)) (some false)) (some false)) (some false)) (some false)) (some false)) none) (some false)) (some false)) (some false)) (some false)) (some false)) (some false)) (some false)) (some false)) (some false)) (some false)
def Xz(N:Nat)(a0:aj)(a1:ar):Option Bool:=
 cond (cP (ℓ a0.1) 10) (cond (cP (ℓ a1.1) 16) (cond (cP (ℓ a1.2.1) 30) (cond (cP (ℓ a1.2.2.1) 60) (cond (cP (ℓ a1.2.2.2.1) 60) (cond (cP (ℓ a1.2.2.2.2.1) 10) (some (cP (ℓ a1.2.2.2.2.2.1) 40)) (some false)) (some false)) (some false)) (some false)) (some false)) (some false)
def Ao(N:Nat)(a0 a1 a2:Int):Option Bool:=
 cond (cP a1 a0) (some (cP a0 a2)) (some false)
abbrev uB.bz:=aj→Int→Option Bool
def uB.de(cm:uB.bz)(x1:aj)(x3:Int):Option Bool:=
 cond (bh x3 (ℓ x1.1)) (cond (bJ x3 (ℓ x1.1)) ((Ao N (γ x1.1 x3.toNat bQ).1 0 3).bind λr2=>cond (!r2) (some false) ((Ao N (γ x1.1 x3.toNat bQ).2.1 1 1000000000000).bind λr3=>cond (!r3) (some false) ((Ao N (γ x1.1 x3.toNat bQ).2.2.1 0 1000000000).bind λr4=>cond (!r4) (some false) ((Ao N (γ x1.1 x3.toNat bQ).2.2.2.1 0 1000000000).bind λr5=>cond (!r5) (some false) (cm x1 (W .i64 (x3+1))))))) none) (cond (cP 0 x1.2.1) ((Ao N x1.2.2.1 0 4).bind λr7=>cond (r7) ((Ao N x1.2.2.2.1 0 1000000).bind λr8=>cond (r8) ((Ao N x1.2.2.2.2.1 0 1000000).bind λr9=>cond (r9) ((Ao N x1.2.2.2.2.2.1 1 4611686018427387904).bind λzX=>cond (zX) (some (cP 0 x1.2.2.2.2.2.2.1)) (some false)) (some false)) (some false)) (some false)) (some false))
def uB.l4(N:Nat):Nat→uB.bz
 |0,_,_=>none
 |n+1,x1,x3=>uB.de N (uB.l4 N n) x1 x3
def uB.b(N:Nat)(ed:uB.bz)(a0:aj):Option Bool:=
 cond (bh (ℓ a0.1) 1) (some false) (cond (bh 6 (ℓ a0.1)) (some false) (ed a0 0))
def uB(a0:aj):Option Bool:=uB.b N (uB.l4 N N) a0
abbrev pL.fw:=aj→ar→ar→(List Int)→Int→Option (ar×(Int))
abbrev pL.MG:=aj→ar→ar→(List Int)→Option (ar×(Int))
def pL.pA(N:Nat)(fU:pL.fw)(x1:aj)(x2 x4:ar)(Cx:List Int)(x5:Int):Option (ar×(Int)):=
 cond (bh x5 (ℓ x1.1)) (cond (bJ x5 (ℓ x1.1)) (cond (small (ℓ Cx+ℓ ([(γ x1.1 x5.toNat bQ).2.1]))) (fU x1 x2 (x4.1,(x4.2.1,(x4.2.2.1,(x4.2.2.2.1,(eH,x4.2.2.2.2.2))))) (Cx++([(γ x1.1 x5.toNat bQ).2.1])) (W .i64 (x5+1))) none) none) (some ((x4.1,(x4.2.1,(x4.2.2.1,(x4.2.2.2.1,(Cx,x4.2.2.2.2.2))))),0))
def pL.l7(N:Nat):Nat→pL.fw
 |0,_,_,_,_,_=>none
 |n+1,x1,x2,x4,Cx,x5=>pL.pA N (pL.l7 N n) x1 x2 x4 Cx x5
def pL.LC(N:Nat)(sH:pL.fw)(x1:aj)(x2 x4:ar)(Cx:List Int):Option (ar×(Int)):=
 sH x1 x2 x4 Cx 0
def pL.j6(x1:aj)(x2 x4:ar)(Cx:List Int):Option (ar×(Int)):=pL.LC N (pL.l7 N N) x1 x2 x4 Cx
def pL.b(Cy:pL.MG)(a0:aj):Option (ar×(Int)):=
 (uB N a0).bind λr1=>cond (!r1) (some ((fP,(fQ,(cj,(cj,(eH,(fv,())))))),1)) (cond (!bf a0.2.1 0) (Cy a0 (fP,(fQ,(cj,(cj,(eH,(fv,())))))) (fP,(fQ,([(1,(0,((W .i64 (0-a0.2.1)),()))),(3,(0,(a0.2.1,())))],(cj,(eH,(fv,())))))) eH) (Cy a0 (fP,(fQ,(cj,(cj,(eH,(fv,())))))) (fP,(fQ,(cj,(cj,(eH,(fv,())))))) eH))
def pL(a0:aj):Option (ar×(Int)):=pL.b N (pL.j6 N) a0
abbrev wQ.bz:=aW→aW→Int→Option Bool
def wQ.de(N:Nat)(cm:wQ.bz)(x0 x1:aW)(x5:Int):Option Bool:=
 cond (bh x5 (ℓ x0)) (cond (bJ x5 (ℓ x0)) (cond (bJ x5 (ℓ x1)) (cond (!(k5 (.pair (.int .i64) (.pair (.int .i64) .unit)) (γ x0 x5.toNat dC) (γ x1 x5.toNat dC))) (some false) (cm x0 x1 (W .i64 (x5+1)))) none) none) (some true)
def wQ.l4(N:Nat):Nat→wQ.bz
 |0,_,_,_=>none
 |n+1,x0,x1,x5=>wQ.de N (wQ.l4 N n) x0 x1 x5
def wQ.b(N:Nat)(ed:wQ.bz)(a0 a1:aW):Option Bool:=
 cond (!bf (ℓ a0) (ℓ a1)) (some false) (ed a0 a1 0)
def wQ(a0 a1:aW):Option Bool:=wQ.b N (wQ.l4 N N) a0 a1
abbrev wR.bz:=bl→bl→Int→Option Bool
def wR.de(N:Nat)(cm:wR.bz)(x0 x1:bl)(x5:Int):Option Bool:=
 cond (bh x5 (ℓ x0)) (cond (bJ x5 (ℓ x0)) (cond (bJ x5 (ℓ x1)) (cond (!(k5 (.pair (.int .i64) (.pair (.int .i64) (.pair (.int .i64) (.pair (.int .i64) .unit)))) (γ x0 x5.toNat bQ) (γ x1 x5.toNat bQ))) (some false) (cm x0 x1 (W .i64 (x5+1)))) none) none) (some true)
def wR.l4(N:Nat):Nat→wR.bz
 |0,_,_,_=>none
 |n+1,x0,x1,x5=>wR.de N (wR.l4 N n) x0 x1 x5
def wR.b(N:Nat)(ed:wR.bz)(a0 a1:bl):Option Bool:=
 cond (!bf (ℓ a0) (ℓ a1)) (some false) (ed a0 a1 0)
def wR(a0 a1:bl):Option Bool:=wR.b N (wR.l4 N N) a0 a1
abbrev wS.bz:=ak→ak→Int→Option Bool
def wS.de(N:Nat)(cm:wS.bz)(x0 x1:ak)(x5:Int):Option Bool:=
 cond (bh x5 (ℓ x0)) (cond (bJ x5 (ℓ x0)) (cond (bJ x5 (ℓ x1)) (cond (!(k5 (.pair (.int .i64) (.pair (.int .i64) (.pair (.int .i64) .unit))) (γ x0 x5.toNat aH) (γ x1 x5.toNat aH))) (some false) (cm x0 x1 (W .i64 (x5+1)))) none) none) (some true)
def wS.l4(N:Nat):Nat→wS.bz
 |0,_,_,_=>none
 |n+1,x0,x1,x5=>wS.de N (wS.l4 N n) x0 x1 x5
def wS.b(N:Nat)(ed:wS.bz)(a0 a1:ak):Option Bool:=
 cond (!bf (ℓ a0) (ℓ a1)) (some false) (ed a0 a1 0)
def wS(a0 a1:ak):Option Bool:=wS.b N (wS.l4 N N) a0 a1
abbrev wT.bz:=bx→bx→Int→Option Bool
def wT.de(N:Nat)(cm:wT.bz)(x0 x1:bx)(x5:Int):Option Bool:=
 cond (bh x5 (ℓ x0)) (cond (bJ x5 (ℓ x0)) (cond (bJ x5 (ℓ x1)) (cond (!(k5 (.pair (.int .i64) (.pair (.int .i64) (.pair (.int .i64) (.pair (.int .i64) (.pair (.int .i64) (.pair (.int .i64) .unit)))))) (γ x0 x5.toNat fZ) (γ x1 x5.toNat fZ))) (some false) (cm x0 x1 (W .i64 (x5+1)))) none) none) (some true)
def wT.l4(N:Nat):Nat→wT.bz
 |0,_,_,_=>none
 |n+1,x0,x1,x5=>wT.de N (wT.l4 N n) x0 x1 x5
def wT.b(N:Nat)(ed:wT.bz)(a0 a1:bx):Option Bool:=
 cond (!bf (ℓ a0) (ℓ a1)) (some false) (ed a0 a1 0)
def wT(a0 a1:bx):Option Bool:=wT.b N (wT.l4 N N) a0 a1
def S7(a0 a1:ar):Option Bool:=
 (wQ N a0.1 a1.1).bind λr1=>cond (r1) ((wR N a0.2.1 a1.2.1).bind λr2=>cond (r2) ((vf N a0.2.2.1 a1.2.2.1).bind λr3=>cond (r3) ((wS N a0.2.2.2.1 a1.2.2.2.1).bind λr4=>cond (r4) ((vg N a0.2.2.2.2.1 a1.2.2.2.2.1).bind λr5=>cond (r5) ((wT N a0.2.2.2.2.2.1 a1.2.2.2.2.2.1).bind λr6=>some r6) (some false)) (some false)) (some false)) (some false)) (some false)
abbrev kH.ca:=aW→Int→Option Bool
def kH.dY(N:Nat)(cS:kH.ca)(x0:aW)(x3:Int):Option Bool:=
 cond (bh x3 (ℓ x0)) (cond (bJ x3 (ℓ x0)) (cond (bh (γ x0 x3.toNat dC).1 1) (some false) (cond (bJ x3 (ℓ x0)) (cond (bh 12 (γ x0 x3.toNat dC).1) (some false) (cond (bJ x3 (ℓ x0)) (cond (bh (γ x0 x3.toNat dC).2.1 1) (some false) (cond (bJ x3 (ℓ x0)) (cond (bh 4 (γ x0 x3.toNat dC).2.1) (some false) (cond (bh 0 x3) (cond (bJ x3 (ℓ x0)) (let v2:Int:=W .i64 (x3-1);cond (bJ v2 (ℓ x0)) (cond (cP (γ x0 x3.toNat dC).1 (γ x0 v2.toNat dC).1) (some false) (cS x0 (W .i64 (x3+1)))) none) none) (cS x0 (W .i64 (x3+1))))) none)) none)) none)) none) (some true)
def kH.l2(N:Nat):Nat→kH.ca
 |0,_,_=>none
 |n+1,x0,x3=>kH.dY N (kH.l2 N n) x0 x3
def kH.b(N:Nat)(fr:kH.ca)(a0:aW):Option Bool:=
 fr a0 0
def kH(a0:aW):Option Bool:=kH.b N (kH.l2 N N) a0
abbrev db.Tk:=bl→Int→jH→Int→Option Bool
abbrev db.Tg:=bl→Int→jH→Option Bool
abbrev db.ca:=bl→Int→Option Bool
def db.l8b(N:Nat)(cS:db.ca)(Tl:db.Tk)(x0:bl)(x3:Int)(x4:jH)(x5:Int):Option Bool:=
 cond (bh x5 x3) (cond (bf x4.2.2.1 1) (cond (bJ x5 (ℓ x0)) (cond (bf (γ x0 x5.toNat bQ).2.2.1 1) (cond (bJ x5 (ℓ x0)) (cond (bf (γ x0 x5.toNat bQ).2.1 x4.2.1) (some false) (Tl x0 x3 x4 (W .i64 (x5+1)))) none) (Tl x0 x3 x4 (W .i64 (x5+1)))) none) (Tl x0 x3 x4 (W .i64 (x5+1)))) (cS x0 (W .i64 (x3+1)))
def db.l8(N:Nat)(cS:db.ca):Nat→db.Tk
 |0,_,_,_,_=>none
 |n+1,x0,x3,x4,x5=>db.l8b N cS (db.l8 N cS n) x0 x3 x4 x5
def db.SV(N:Nat)(abR:db.Tk)(cS:db.ca)(x0:bl)(x3:Int)(x4:jH):Option Bool:=
 abR x0 x3 x4 0
def db.j7(cS:db.ca)(x0:bl)(x3:Int)(x4:jH):Option Bool:=db.SV N (db.l8 N cS N) cS x0 x3 x4
def db.dY(N:Nat)(Hl:db.Tg)(cS:db.ca)(x0:bl)(x3:Int):Option Bool:=
 cond (bh x3 (ℓ x0)) (cond (bJ x3 (ℓ x0)) (cond (bh (γ x0 x3.toNat bQ).1 1) (some false) (cond (bh 24 (γ x0 x3.toNat bQ).1) (some false) (cond (bh (γ x0 x3.toNat bQ).2.1 1) (some false) (cond (bh 12 (γ x0 x3.toNat bQ).2.1) (some false) (cond (!bf (γ x0 x3.toNat bQ).2.2.1 1) (cond (!bf (γ x0 x3.toNat bQ).2.2.1 2) (some false) (cond (bh (γ x0 x3.toNat bQ).2.2.2.1 0) (some false) (cond (bh 1000000000000 (γ x0 x3.toNat bQ).2.2.2.1) (some false) (cond (bh 0 x3) (let v2:Int:=W .i64 (x3-1);cond (bJ v2 (ℓ x0)) (cond (cP (γ x0 x3.toNat bQ).1 (γ x0 v2.toNat bQ).1) (some false) (Hl x0 x3 (γ x0 x3.toNat bQ))) none) (Hl x0 x3 (γ x0 x3.toNat bQ)))))) (cond (bh (γ x0 x3.toNat bQ).2.2.2.1 0) (some false) (cond (bh 1000000000000 (γ x0 x3.toNat bQ).2.2.2.1) (some false) (cond (bh 0 x3) (let v9:Int:=W .i64 (x3-1);cond (bJ v9 (ℓ x0)) (cond (cP (γ x0 x3.toNat bQ).1 (γ x0 v9.toNat bQ).1) (some false) (Hl x0 x3 (γ x0 x3.toNat bQ))) none) (Hl x0 x3 (γ x0 x3.toNat bQ)))))))))) none) (some true)
def db.l2(N:Nat):Nat→db.ca
 |0,_,_=>none
 |n+1,x0,x3=>db.dY N (db.j7 N (db.l2 N n)) (db.l2 N n) x0 x3
def db.b(N:Nat)(fr:db.ca)(a0:bl):Option Bool:=
 fr a0 0
def db(a0:bl):Option Bool:=db.b N (db.l2 N N) a0
abbrev kJ.ca:=aW→Int→Int→Option Int
def kJ.dY(N:Nat)(cS:kJ.ca)(x0:aW)(x1 x5:Int):Option Int:=
 cond (bh x5 (ℓ x0)) (cond (bJ x5 (ℓ x0)) (cond (bf (γ x0 x5.toNat dC).1 x1) (cond (bJ x5 (ℓ x0)) (some (γ x0 x5.toNat dC).2.1) none) (cS x0 x1 (W .i64 (x5+1)))) none) (some 0)
def kJ.l2(N:Nat):Nat→kJ.ca
 |0,_,_,_=>none
 |n+1,x0,x1,x5=>kJ.dY N (kJ.l2 N n) x0 x1 x5
def kJ.b(N:Nat)(fr:kJ.ca)(a0:aW)(a1:Int):Option Int:=
 fr a0 a1 0
def kJ(a0:aW)(a1:Int):Option Int:=kJ.b N (kJ.l2 N N) a0 a1
abbrev lh.bz:=aW→bl→Int→Option Bool
def lh.de(cm:lh.bz)(x0:aW)(x1:bl)(x5:Int):Option Bool:=
 cond (bh x5 (ℓ x1)) (cond (bJ x5 (ℓ x1)) ((kJ N x0 (γ x1 x5.toNat bQ).2.1).bind λr4=>cond (bf r4 0) (some false) (cm x0 x1 (W .i64 (x5+1)))) none) (some true)
def lh.l4(N:Nat):Nat→lh.bz
 |0,_,_,_=>none
 |n+1,x0,x1,x5=>lh.de N (lh.l4 N n) x0 x1 x5
def lh.b(ed:lh.bz)(a0:aW)(a1:bl):Option Bool:=
 (kH N a0).bind λr1=>cond (!r1) (some false) ((db N a1).bind λr2=>cond (!r2) (some false) (ed a0 a1 0))
def lh(a0:aW)(a1:bl):Option Bool:=lh.b N (lh.l4 N N) a0 a1
abbrev kE.ca:=(List Int)→Int→Option (List Int)
def kE.dY(N:Nat)(cS:kE.ca)(x0:List Int)(x3:Int):Option (List Int):=
 cond (bh 0 x3) (let v2:Int:=W .i64 (x3-1);cond (bJ v2 (ℓ x0)) (cond (bf (γ x0 v2.toNat 0) 0) (cS x0 (W .i64 (x3-1))) (cond (lz 0 x3 x3 (ℓ x0)) (some (List.drop (0:Int).toNat (List.take x3.toNat x0))) none)) none) (cond (lz 0 x3 x3 (ℓ x0)) (some (List.drop (0:Int).toNat (List.take x3.toNat x0))) none)
def kE.l2(N:Nat):Nat→kE.ca
 |0,_,_=>none
 |n+1,x0,x3=>kE.dY N (kE.l2 N n) x0 x3
def kE.b(N:Nat)(fr:kE.ca)(a0:List Int):Option (List Int):=
 fr a0 (ℓ a0:Int)
def kE(a0:List Int):Option (List Int):=kE.b N (kE.l2 N N) a0
def VA(a0:Int):Option (List Int):=
 cond (bh 32 0) none ((kE N ([(oD .and .u64 a0 4294967295),(shr .u64 a0 32)])).bind λr3=>some r3)
def Ju(a0:Bool)(a1:List Int):Option aK:=
 (kE N a1).bind λr1=>cond (a0) (some (bh 0 (ℓ r1:Int),(r1,()))) (some (false,(r1,())))
def B3(a0:Int):Option aK:=
 let v1:Int:=W .u64 a0;cond (bh a0 0) ((VA N (W .u64 (0-v1))).bind λr3=>(Ju N (bh a0 0) r3).bind λr4=>some r4) ((VA N v1).bind λr5=>(Ju N (bh a0 0) r5).bind λr6=>some r6)
def Og(N:Nat)(a0:List Int)(a1:Int):Option Int:=
 cond (bh a1 (ℓ a0)) (cond (bJ a1 (ℓ a0)) (some (γ a0 a1.toNat 0)) none) (some 0)
abbrev pz.MG:=(List Int)→(List Int)→(List Int)→Int→Int→Option (List Int)
abbrev pz.bz:=(List Int)→(List Int)→(List Int)→Int→Int→Option (List Int)
def pz.LC(cm:pz.bz)(x0 x1 x5:List Int)(x6 x7:Int):Option (List Int):=
 (Og N x0 x7).bind λr3=>(Og N x1 x7).bind λr4=>let v6:Int:=W .u64 (x6+(W .u64 (r3+r4)));let v7:Int:=oD .and .u64 v6 4294967295;cond (small (ℓ x5+ℓ ([v7]))) (cond (bh 32 0) none (cm x0 x1 (x5++([v7])) (shr .u64 v6 32) (W .i64 (x7+1)))) none
def pz.j6(cm:pz.bz)(x0 x1 x5:List Int)(x6 x7:Int):Option (List Int):=pz.LC N cm x0 x1 x5 x6 x7
def pz.de(N:Nat)(Cy:pz.MG)(cm:pz.bz)(x0 x1 x5:List Int)(x6 x7:Int):Option (List Int):=
 cond (bh x7 (ℓ x0)) (Cy x0 x1 x5 x6 x7) (cond (bh x7 (ℓ x1)) (Cy x0 x1 x5 x6 x7) (cond (bh 0 x6) (Cy x0 x1 x5 x6 x7) (some x5)))
def pz.l4(N:Nat):Nat→pz.bz
 |0,_,_,_,_,_=>none
 |n+1,x0,x1,x5,x6,x7=>pz.de N (pz.j6 N (pz.l4 N n)) (pz.l4 N n) x0 x1 x5 x6 x7
def pz.b(N:Nat)(ed:pz.bz)(a0 a1:List Int):Option (List Int):=
 ed a0 a1 ([]) 0 0
def pz(a0 a1:List Int):Option (List Int):=pz.b N (pz.l4 N N) a0 a1
abbrev wK.sI:=(List Int)→(List Int)→Int→Option Int
def wK.B4(N:Nat)(sJ:wK.sI)(x0 x1:List Int)(x5:Int):Option Int:=
 cond (cP 0 x5) (cond (bJ x5 (ℓ x0)) (cond (bJ x5 (ℓ x1)) (cond (bh (γ x0 x5.toNat 0) (γ x1 x5.toNat 0)) (some (-1)) (cond (bJ x5 (ℓ x0)) (cond (bJ x5 (ℓ x1)) (cond (bh (γ x1 x5.toNat 0) (γ x0 x5.toNat 0)) (some 1) (sJ x0 x1 (W .i64 (x5-1)))) none) none)) none) none) (some 0)
def wK.l6(N:Nat):Nat→wK.sI
 |0,_,_,_=>none
 |n+1,x0,x1,x5=>wK.B4 N (wK.l6 N n) x0 x1 x5
def wK.b(N:Nat)(Hm:wK.sI)(a0 a1:List Int):Option Int:=
 cond (!bf (ℓ a0) (ℓ a1)) (cond (bh (ℓ a0) (ℓ a1)) (some (-1)) (some 1)) (Hm a0 a1 (W .i64 ((ℓ a0:Int)-1)))
def wK(a0 a1:List Int):Option Int:=wK.b N (wK.l6 N N) a0 a1
abbrev w9.bz:=(List Int)→(List Int)→(List Int)→Int→Int→Option (List Int)
def w9.de(cm:w9.bz)(x0 x1 x5:List Int)(x6 x7:Int):Option (List Int):=
 cond (bh x7 (ℓ x0)) (cond (bJ x7 (ℓ x0)) ((Og N x1 x7).bind λr2=>let v3:Int:=W .u64 (r2+x6);cond (bh (γ x0 x7.toNat 0) v3) (let v5:Int:=W .u64 ((W .u64 ((γ x0 x7.toNat 0)+4294967296))-v3);cond (small (ℓ x5+ℓ ([v5]))) (cm x0 x1 (x5++([v5])) 1 (W .i64 (x7+1))) none) (let v8:Int:=W .u64 ((γ x0 x7.toNat 0)-v3);cond (small (ℓ x5+ℓ ([v8]))) (cm x0 x1 (x5++([v8])) 0 (W .i64 (x7+1))) none)) none) (some x5)
def w9.l4(N:Nat):Nat→w9.bz
 |0,_,_,_,_,_=>none
 |n+1,x0,x1,x5,x6,x7=>w9.de N (w9.l4 N n) x0 x1 x5 x6 x7
def w9.b(N:Nat)(ed:w9.bz)(a0 a1:List Int):Option (List Int):=
 ed a0 a1 ([]) 0 0
def w9(a0 a1:List Int):Option (List Int):=w9.b N (w9.l4 N N) a0 a1
def GD(a0 a1:aK):Option aK:=
 cond (k5 .bool a0.1 a1.1) ((pz N a0.2.1 a1.2.1).bind λr1=>(Ju N a0.1 r1).bind λr2=>some r2) ((wK N a0.2.1 a1.2.1).bind λr3=>cond (cP 0 r3) ((w9 N a0.2.1 a1.2.1).bind λr4=>(Ju N a0.1 r4).bind λr5=>some r5) ((w9 N a1.2.1 a0.2.1).bind λr6=>(Ju N a1.1 r6).bind λr7=>some r7))
abbrev kO.cQ:=ak→Int→aK→aK→Int→Option aK
def kO.fX(dM:kO.cQ)(x0:ak)(x1:Int)(x4 x5:aK)(x6:Int):Option aK:=
 cond (bh x6 (ℓ x0)) (cond (bJ x6 (ℓ x0)) (cond (bf (γ x0 x6.toNat aH).2.1 x1) (cond (bJ x6 (ℓ x0)) ((B3 N (γ x0 x6.toNat aH).2.2.1).bind λr3=>(GD N x5 r3).bind λr4=>dM x0 x1 x4 r4 (W .i64 (x6+1))) none) (dM x0 x1 x4 x5 (W .i64 (x6+1)))) none) (some x5)
def kO.l5(N:Nat):Nat→kO.cQ
 |0,_,_,_,_,_=>none
 |n+1,x0,x1,x4,x5,x6=>kO.fX N (kO.l5 N n) x0 x1 x4 x5 x6
def kO.b(iV:kO.cQ)(a0:ak)(a1:Int):Option aK:=
 (tW N a0).bind λr1=>cond (!r1) (some (false,rS)) (iV a0 a1 (false,rS) (false,rS) 0)
def kO(a0:ak)(a1:Int):Option aK:=kO.b N (kO.l5 N N) a0 a1
def Re(N:Nat)(a0:aK):Option Int:=
 cond (bf (ℓ a0.2.1) 0) (some 0) (cond (a0.1) (some (-1)) (some 1))
abbrev ll.ca:=ak→Int→Option Bool
def ll.dY(cS:ll.ca)(x0:ak)(x3:Int):Option Bool:=
 cond (bh x3 6) ((kO N x0 x3).bind λr2=>(Re N r2).bind λr3=>cond (!bf r3 0) (some false) (cS x0 (W .i64 (x3+1)))) ((tW N x0).bind λr5=>some r5)
def ll.l2(N:Nat):Nat→ll.ca
 |0,_,_=>none
 |n+1,x0,x3=>ll.dY N (ll.l2 N n) x0 x3
def ll.b(N:Nat)(fr:ll.ca)(a0:ak):Option Bool:=
 fr a0 0
def ll(a0:ak):Option Bool:=ll.b N (ll.l2 N N) a0
def y3(N:Nat)(a0:Int):Option Bool:=
 cond (cP 1 a0) (some (cP a0 1000000000000)) (some false)
def Ou(a0:sw):Option Bool:=
 cond (cP 1 a0.1) (cond (cP a0.1 1099511627776) (cond (cP 1 a0.2.1) (cond (cP a0.2.1 24) (cond (cP 0 a0.2.2.1) (cond (bh a0.2.2.1 6) (cond (bf a0.2.2.2.1 1) (cond (cP 1 a0.2.2.2.2.1) (cond (cP a0.2.2.2.2.1 1000000000) ((y3 N a0.2.2.2.2.2.1).bind λr1=>some r1) (some false)) (some false)) (cond (bf a0.2.2.2.1 2) (cond (cP 1 a0.2.2.2.2.1) (cond (cP a0.2.2.2.2.1 1000000000) ((y3 N a0.2.2.2.2.2.1).bind λr2=>some r2) (some false)) (some false)) (some false))) (some false)) (some false)) (some false)) (some false)) (some false)) (some false)
abbrev kI.bz:=bx→Int→Option Bool
def kI.de(cm:kI.bz)(x0:bx)(x3:Int):Option Bool:=
 cond (bh x3 (ℓ x0)) (cond (bJ x3 (ℓ x0)) ((Ou N (γ x0 x3.toNat fZ)).bind λr2=>cond (!r2) (some false) (cond (bh 0 x3) (cond (bJ x3 (ℓ x0)) (let v3:Int:=W .i64 (x3-1);cond (bJ v3 (ℓ x0)) (cond (cP (γ x0 x3.toNat fZ).1 (γ x0 v3.toNat fZ).1) (some false) (cm x0 (W .i64 (x3+1)))) none) none) (cm x0 (W .i64 (x3+1))))) none) (some true)
def kI.l4(N:Nat):Nat→kI.bz
 |0,_,_=>none
 |n+1,x0,x3=>kI.de N (kI.l4 N n) x0 x3
def kI.b(N:Nat)(ed:kI.bz)(a0:bx):Option Bool:=
 cond (bh 32 (ℓ a0)) (some false) (ed a0 0)
def kI(a0:bx):Option Bool:=kI.b N (kI.l4 N N) a0
abbrev kM.cQ:=ak→aK→aK→Int→Option aK
def kM.fX(dM:kM.cQ)(x0:ak)(x2 x3:aK)(x4:Int):Option aK:=
 cond (bh x4 (ℓ x0)) (cond (bJ x4 (ℓ x0)) ((B3 N (γ x0 x4.toNat aH).2.2.1).bind λr3=>(GD N x3 r3).bind λr4=>dM x0 x2 r4 (W .i64 (x4+1))) none) (some x3)
def kM.l5(N:Nat):Nat→kM.cQ
 |0,_,_,_,_=>none
 |n+1,x0,x2,x3,x4=>kM.fX N (kM.l5 N n) x0 x2 x3 x4
def kM.b(iV:kM.cQ)(a0:ak):Option aK:=
 (jT N a0).bind λr1=>cond (!r1) (some (false,rS)) (iV a0 (false,rS) (false,rS) 0)
def kM(a0:ak):Option aK:=kM.b N (kM.l5 N N) a0
abbrev ld.ca:=bl→Int→jH→Int→Option (jH×(Bool))
def ld.dY(N:Nat)(cS:ld.ca)(x0:bl)(x1:Int)(x4:jH)(x6:Int):Option (jH×(Bool)):=
 cond (bh x6 (ℓ x0)) (cond (bJ x6 (ℓ x0)) (cond (bf (γ x0 x6.toNat bQ).1 x1) (cond (bJ x6 (ℓ x0)) (some (γ x0 x6.toNat bQ,true)) none) (cS x0 x1 x4 (W .i64 (x6+1)))) none) (some (bQ,false))
def ld.l2(N:Nat):Nat→ld.ca
 |0,_,_,_,_=>none
 |n+1,x0,x1,x4,x6=>ld.dY N (ld.l2 N n) x0 x1 x4 x6
def ld.b(N:Nat)(fr:ld.ca)(a0:bl)(a1:Int):Option (jH×(Bool)):=
 fr a0 a1 bQ 0
def ld(a0:bl)(a1:Int):Option (jH×(Bool)):=ld.b N (ld.l2 N N) a0 a1
def LN(a0:bl)(a1:Int):Option (jH×(Bool)):=
 (db N a0).bind λr1=>cond (!r1) (some (bQ,false)) ((ld N a0 a1).bind λr2=>some (r2.1,r2.2))
def Ew(a0:ar)(a1:Int):Option Bool:=
 (LN N a0.2.1 a1).bind λr1=>cond (r1.2) (some true) (some (bf a1 0))
def Eo(a0:aW)(a1:Int):Option Int:=
 (kH N a0).bind λr1=>cond (!r1) (some 0) ((kJ N a0 a1).bind λr2=>some r2)
abbrev eV.zG:=aj→ar→Int→Option Bool
abbrev eV.MP:=aj→ar→Int→Option Bool
abbrev eV.qP:=aj→ar→Int→Option Bool
abbrev eV.sI:=aj→ar→Int→Option Bool
def eV.Cd(MH:eV.zG)(x2:aj)(x3:ar)(x9:Int):Option Bool:=
 cond (bh x9 (ℓ x3.2.2.2.2.2.1)) (cond (bJ x9 (ℓ x3.2.2.2.2.2.1)) ((Ew N x3 (γ x3.2.2.2.2.2.1 x9.toNat fZ).2.1).bind λr27=>cond (!r27) (some false) (cond (bJ x9 (ℓ x3.2.2.2.2.2.1)) (cond (cP (ℓ x2.1) (γ x3.2.2.2.2.2.1 x9.toNat fZ).2.2.1) (some false) (MH x2 x3 (W .i64 (x9+1)))) none)) none) (some true)
def eV.Cb(N:Nat):Nat→eV.zG
 |0,_,_,_=>none
 |n+1,x2,x3,x9=>eV.Cd N (eV.Cb N n) x2 x3 x9
def eV.OC(MI:eV.zG)(XQ:eV.MP)(x2:aj)(x3:ar)(x8:Int):Option Bool:=
 cond (bh x8 (ℓ x3.2.2.2.2.1)) (cond (bJ x8 (ℓ x3.2.2.2.2.1)) ((y3 N (γ x3.2.2.2.2.1 x8.toNat 0)).bind λr24=>cond (!r24) (some false) (XQ x2 x3 (W .i64 (x8+1)))) none) (MI x2 x3 0)
def eV.OB(N:Nat):Nat→eV.MP
 |0,_,_,_=>none
 |n+1,x2,x3,x8=>eV.OC N (eV.Cb N N) (eV.OB N n) x2 x3 x8
def eV.ua(XR:eV.MP)(BA:eV.qP)(x2:aj)(x3:ar)(x7:Int):Option Bool:=
 cond (bh x7 (ℓ x3.2.2.2.1)) (cond (bJ x7 (ℓ x3.2.2.2.1)) ((Ew N x3 (γ x3.2.2.2.1 x7.toNat aH).1).bind λXD=>cond (!XD) (some false) (cond (bJ x7 (ℓ x3.2.2.2.1)) (cond (cP (ℓ x2.1) (γ x3.2.2.2.1 x7.toNat aH).2.1) (some false) (BA x2 x3 (W .i64 (x7+1)))) none)) none) (XR x2 x3 0)
def eV.vd(N:Nat):Nat→eV.qP
 |0,_,_,_=>none
 |n+1,x2,x3,x7=>eV.ua N (eV.OB N N) (eV.vd N n) x2 x3 x7
def eV.B4(Ff:eV.qP)(sJ:eV.sI)(x2:aj)(x3:ar)(x5:Int):Option Bool:=
 cond (bh x5 (ℓ x3.2.2.1)) (cond (bJ x5 (ℓ x3.2.2.1)) (cond (bf (γ x3.2.2.1 x5.toNat aH).1 5) ((Ew N x3 (γ x3.2.2.1 x5.toNat aH).2.1).bind λr9=>cond (!r9) (some false) (cond (bf (γ x3.2.2.1 x5.toNat aH).1 6) ((Eo N x3.1 (γ x3.2.2.1 x5.toNat aH).2.1).bind λzX=>cond (bf zX 0) (some false) (sJ x2 x3 (W .i64 (x5+1)))) (cond (bf (γ x3.2.2.1 x5.toNat aH).1 7) ((Eo N x3.1 (γ x3.2.2.1 x5.toNat aH).2.1).bind λAx=>cond (bf Ax 0) (some false) (sJ x2 x3 (W .i64 (x5+1)))) (sJ x2 x3 (W .i64 (x5+1)))))) (cond (bf (γ x3.2.2.1 x5.toNat aH).1 6) ((Eo N x3.1 (γ x3.2.2.1 x5.toNat aH).2.1).bind λCn=>cond (bf Cn 0) (some false) (sJ x2 x3 (W .i64 (x5+1)))) (cond (bf (γ x3.2.2.1 x5.toNat aH).1 7) ((Eo N x3.1 (γ x3.2.2.1 x5.toNat aH).2.1).bind λKq=>cond (bf Kq 0) (some false) (sJ x2 x3 (W .i64 (x5+1)))) (sJ x2 x3 (W .i64 (x5+1)))))) none) (Ff x2 x3 0)
def eV.l6(N:Nat):Nat→eV.sI
 |0,_,_,_=>none
 |n+1,x2,x3,x5=>eV.B4 N (eV.vd N N) (eV.l6 N n) x2 x3 x5
def eV.b(Hm:eV.sI)(a0:aj)(a1:ar):Option Bool:=
 (uB N a0).bind λr1=>cond (!r1) (some false) ((lh N a1.1 a1.2.1).bind λr2=>cond (!r2) (some false) ((jT N a1.2.2.1).bind λr3=>cond (!r3) (some false) ((ll N a1.2.2.2.1).bind λr4=>cond (!r4) (some false) ((kI N a1.2.2.2.2.2.1).bind λr5=>cond (!r5) (some false) (cond (!bf (ℓ a1.2.2.2.2.1) (ℓ a0.1)) (some false) ((kM N a1.2.2.1).bind λr6=>(Re N r6).bind λr7=>cond (!bf r7 0) (some false) (Hm a0 a1 0)))))))
def eV(a0:aj)(a1:ar):Option Bool:=eV.b N (eV.l6 N N) a0 a1
def Mc(a0:nS):Option Bool:=
 cond (cP 0 a0.1) (cond (cP a0.1 24) (cond (cP 0 a0.2.1) (cond (cP a0.2.1 24) (cond (!bf a0.1 a0.2.1) (cond (cP 0 a0.2.2.1) (cond (bh a0.2.2.1 6) (cond (cP 1 a0.2.2.2.1) (cond (cP a0.2.2.2.1 1000000000) ((y3 N a0.2.2.2.2.1).bind λr1=>some r1) (some false)) (some false)) (some false)) (some false)) (some false)) (some false)) (some false)) (some false)) (some false)
abbrev ja.abS:=aK→aK→aK→(List Int)→Int→Int→Int→Option aK
abbrev ja.fw:=aK→aK→aK→(List Int)→Int→Int→Int→Option aK
abbrev ja.ly:=aK→aK→aK→(List Int)→Int→Option aK
def ja.j9b(ig:ja.ly)(fU:ja.fw)(x2 x3 x4:aK)(x5:List Int)(x6 x7 x8:Int):Option aK:=
 let v7:Int:=W .i64 (x6+x8);cond (bJ v7 (ℓ x5)) (cond (bJ x6 (ℓ x2.2.1)) ((Og N x3.2.1 x8).bind λr8=>let v11:Int:=W .u64 (x7+(W .u64 ((γ x5 v7.toNat 0)+(W .u64 ((γ x2.2.1 x6.toNat 0)*r8)))));let XN:Int:=W .i64 (x6+x8);cond (bJ XN (ℓ x5)) (cond (bh 32 0) none (fU x2 x3 x4 (List.set x5 XN.toNat (oD .and .u64 v11 4294967295)) x6 (shr .u64 v11 32) (W .i64 (x8+1)))) none) none) none
def ja.j9(ig:ja.ly)(fU:ja.fw)(x2 x3 x4:aK)(x5:List Int)(x6 x7 x8:Int):Option aK:=ja.j9b N ig fU x2 x3 x4 x5 x6 x7 x8
def ja.pA(N:Nat)(XS:ja.abS)(ig:ja.ly)(fU:ja.fw)(x2 x3 x4:aK)(x5:List Int)(x6 x7 x8:Int):Option aK:=
 cond (bh x8 (ℓ x3.2.1)) (XS x2 x3 x4 x5 x6 x7 x8) (cond (bh 0 x7) (XS x2 x3 x4 x5 x6 x7 x8) (ig x2 x3 x4 x5 (W .i64 (x6+1))))
def ja.l7(N:Nat)(ig:ja.ly):Nat→ja.fw
 |0,_,_,_,_,_,_,_=>none
 |n+1,x2,x3,x4,x5,x6,x7,x8=>ja.pA N (ja.j9 N ig (ja.l7 N ig n)) ig (ja.l7 N ig n) x2 x3 x4 x5 x6 x7 x8
def ja.zW(sH:ja.fw)(ig:ja.ly)(x2 x3 x4:aK)(x5:List Int)(x6:Int):Option aK:=
 cond (bh x6 (ℓ x2.2.1)) (sH x2 x3 x4 x5 x6 0 0) ((Ju N (!(k5 .bool x2.1 x3.1)) x5).bind λr18=>some r18)
def ja.l3(N:Nat):Nat→ja.ly
 |0,_,_,_,_,_=>none
 |n+1,x2,x3,x4,x5,x6=>ja.zW N (ja.l7 N (ja.l3 N n) N) (ja.l3 N n) x2 x3 x4 x5 x6
def ja.b(N:Nat)(Cz:ja.ly)(a0 a1:aK):Option aK:=
 let v2:Int:=W .i64 ((W .i64 ((ℓ a0.2.1:Int)+(ℓ a1.2.1:Int)))+1);cond (oC v2 v2) (Cz a0 a1 (false,rS) (List.replicate v2.toNat 0) 0) none
def ja(a0 a1:aK):Option aK:=ja.b N (ja.l3 N N) a0 a1
def JP(N:Nat)(a0:Int):Option ((Int)×(Int)):=
 cond (bf a0 0) (some (2,0)) (some (5,a0))
def Xe(a0:aK):Option aK:=
 (Ju N (!a0.1) a0.2.1).bind λr1=>some r1
def Md(a0:nS)(a1:Int):Option (cV×(Int)):=
 (Mc N a0).bind λr1=>cond (!r1) (some ([],1)) ((y3 N a1).bind λr2=>cond (!r2) (some ([],1)) ((B3 N (W .i64 (a1-a0.2.2.2.2.1))).bind λr4=>(B3 N a0.2.2.2.1).bind λr5=>(ja N r4 r5).bind λr6=>(Re N r6).bind λr7=>cond (bf r7 0) (some ([],0)) ((JP N a0.1).bind λr8=>(JP N a0.2.1).bind λr9=>(Xe N r6).bind λzX=>some ([(r8.1,(r8.2,(r6,()))),(r9.1,(r9.2,(zX,())))],0))))
def Xg(a0:aK):Option ((Int)×(Bool)):=
 cond (bh 2 (ℓ a0.2.1)) (some (0,false)) ((Og N a0.2.1 0).bind λr1=>(Og N a0.2.1 1).bind λr2=>cond (bh 32 0) none (let v4:Int:=oD .or .u64 r1 (W .u64 (shl .u64 r2 32));cond (a0.1) (cond (bh 9223372036854775808 v4) (some (0,false)) (some ((W .i64 (W .u64 (0-v4))),true))) (cond (bh 9223372036854775807 v4) (some (0,false)) (some ((W .i64 v4),true)))))
def OK(a0:aK):Option ((Int)×(Bool)):=
 (Xg N a0).bind λr1=>cond (!r1.2) (some (0,false)) (cond (bf r1.1 (-9223372036854775808)) (some (0,false)) (some (r1.1,true)))
abbrev ch.MQ:=ak→ak→ak→Int→Int→Int→Int→Bool→aK→Int→Option (ak×(Bool))
abbrev ch.MR:=ak→ak→ak→Int→Int→Int→Int→Bool→Option (ak×(Bool))
abbrev ch.fw:=ak→ak→ak→Int→Int→Int→Option (ak×(Bool))
abbrev ch.bz:=ak→ak→ak→Int→Int→Option (ak×(Bool))
def ch.OM(cm:ch.bz)(fU:ch.fw)(MS:ch.MQ)(x0 x1 x6:ak)(x7 x8:Int)(x9 dp:Int)(cw:Bool)(c9:aK)(dV:Int):Option (ak×(Bool)):=
 cond (bh dV (ℓ x1)) (cond (bJ dV (ℓ x1)) (cond (bf (γ x1 dV.toNat aH).1 x8) (cond (bJ dV (ℓ x1)) (cond (bf (γ x1 dV.toNat aH).2.1 x9) (cond (bJ dV (ℓ x1)) ((B3 N (γ x1 dV.toNat aH).2.2.1).bind λr6=>(GD N c9 r6).bind λr7=>MS x0 x1 x6 x7 x8 x9 dp true r7 (W .i64 (dV+1))) none) (MS x0 x1 x6 x7 x8 x9 dp cw c9 (W .i64 (dV+1)))) none) (MS x0 x1 x6 x7 x8 x9 dp cw c9 (W .i64 (dV+1)))) none) (cond (cw) ((B3 N dp).bind λBn=>(GD N c9 Bn).bind λAx=>(OK N Ax).bind λsN=>cond (!sN.2) (some ([],false)) (cond (!bf sN.1 0) (cond (small (ℓ x6+ℓ ([(x8,(x9,(sN.1,())))]))) (fU x0 x1 (x6++([(x8,(x9,(sN.1,())))])) x7 x8 (W .i64 (x9+1))) none) (fU x0 x1 x6 x7 x8 (W .i64 (x9+1))))) (cond (!bf dp 0) (cond (small (ℓ x6+ℓ ([(x8,(x9,(dp,())))]))) (fU x0 x1 (x6++([(x8,(x9,(dp,())))])) x7 x8 (W .i64 (x9+1))) none) (fU x0 x1 x6 x7 x8 (W .i64 (x9+1)))))
def ch.OL(N:Nat)(cm:ch.bz)(fU:ch.fw):Nat→ch.MQ
 |0,_,_,_,_,_,_,_,_,_,_=>none
 |n+1,x0,x1,x6,x7,x8,x9,dp,cw,c9,dV=>ch.OM N cm fU (ch.OL N cm fU n) x0 x1 x6 x7 x8 x9 dp cw c9 dV
def ch.GU(N:Nat)(XT:ch.MQ)(cm:ch.bz)(fU:ch.fw)(x0 x1 x6:ak)(x7 x8:Int)(x9 dp:Int)(cw:Bool):Option (ak×(Bool)):=
 XT x0 x1 x6 x7 x8 x9 dp cw (false,rS) 0
def ch.Nn(cm:ch.bz)(fU:ch.fw)(x0 x1 x6:ak)(x7 x8:Int)(x9 dp:Int)(cw:Bool):Option (ak×(Bool)):=ch.GU N (ch.OL N cm fU N) cm fU x0 x1 x6 x7 x8 x9 dp cw
def ch.pA(N:Nat)(uy:ch.MR)(cm:ch.bz)(fU:ch.fw)(x0 x1 x6:ak)(x7 x8 x9:Int):Option (ak×(Bool)):=
 cond (bh x9 6) (cond (bh x7 (ℓ x0)) (cond (bJ x7 (ℓ x0)) (cond (bf (γ x0 x7.toNat aH).1 x8) (cond (bJ x7 (ℓ x0)) (cond (bf (γ x0 x7.toNat aH).2.1 x9) (cond (bJ x7 (ℓ x0)) (uy x0 x1 x6 (W .i64 (x7+1)) x8 x9 (γ x0 x7.toNat aH).2.2.1 false) none) (uy x0 x1 x6 x7 x8 x9 0 false)) none) (uy x0 x1 x6 x7 x8 x9 0 false)) none) (uy x0 x1 x6 x7 x8 x9 0 false)) (cm x0 x1 x6 x7 (W .i64 (x8+1)))
def ch.l7(N:Nat)(cm:ch.bz):Nat→ch.fw
 |0,_,_,_,_,_,_=>none
 |n+1,x0,x1,x6,x7,x8,x9=>ch.pA N (ch.Nn N cm (ch.l7 N cm n)) cm (ch.l7 N cm n) x0 x1 x6 x7 x8 x9
def ch.de(N:Nat)(sH:ch.fw)(cm:ch.bz)(x0 x1 x6:ak)(x7 x8:Int):Option (ak×(Bool)):=
 cond (cP x8 24) (sH x0 x1 x6 x7 x8 0) (some (x6,true))
def ch.l4(N:Nat):Nat→ch.bz
 |0,_,_,_,_,_=>none
 |n+1,x0,x1,x6,x7,x8=>ch.de N (ch.l7 N (ch.l4 N n) N) (ch.l4 N n) x0 x1 x6 x7 x8
def ch.b(N:Nat)(ed:ch.bz)(a0 a1:ak):Option (ak×(Bool)):=
 ed a0 a1 ([]) 0 0
def ch(a0 a1:ak):Option (ak×(Bool)):=ch.b N (ch.l4 N N) a0 a1
abbrev ln.ly:=Int→Int→Int→cV→aK→Bool→Int→Option ((Int)×(Bool))
def ln.zW(ig:ln.ly)(x0 x1 x2:Int)(x3:cV)(dp:aK)(cw:Bool)(c9:Int):Option ((Int)×(Bool)):=
 cond (bh c9 (ℓ x3)) (cond (bJ c9 (ℓ x3)) (cond (bf (γ x3 c9.toNat (0,(0,((false,rS),())))).1 x1) (cond (bJ c9 (ℓ x3)) (cond (bf (γ x3 c9.toNat (0,(0,((false,rS),())))).2.1 x2) (cond (bJ c9 (ℓ x3)) ((GD N dp (γ x3 c9.toNat (0,(0,((false,rS),())))).2.2.1).bind λr2=>ig x0 x1 x2 x3 r2 true (W .i64 (c9+1))) none) (ig x0 x1 x2 x3 dp cw (W .i64 (c9+1)))) none) (ig x0 x1 x2 x3 dp cw (W .i64 (c9+1)))) none) (cond (!cw) (some (x0,true)) ((B3 N x0).bind λr6=>(GD N dp r6).bind λr7=>(Xg N r7).bind λr8=>some (r8.1,r8.2)))
def ln.l3(N:Nat):Nat→ln.ly
 |0,_,_,_,_,_,_,_=>none
 |n+1,x0,x1,x2,x3,dp,cw,c9=>ln.zW N (ln.l3 N n) x0 x1 x2 x3 dp cw c9
def ln.b(N:Nat)(Cz:ln.ly)(a0 a1 a2:Int)(a3:cV):Option ((Int)×(Bool)):=
 Cz a0 a1 a2 a3 (false,rS) false 0
def ln(a0 a1 a2:Int)(a3:cV):Option ((Int)×(Bool)):=ln.b N (ln.l3 N N) a0 a1 a2 a3
abbrev cU.MR:=ak→cV→ak→Int→Int→Int→Int→Option (ak×(Bool))
abbrev cU.fw:=ak→cV→ak→Int→Int→Int→Option (ak×(Bool))
abbrev cU.bz:=ak→cV→ak→Int→Int→Option (ak×(Bool))
def cU.GU(cm:cU.bz)(fU:cU.fw)(x0:ak)(x1:cV)(x6:ak)(x7 x8:Int)(x9 dp:Int):Option (ak×(Bool)):=
 (ln N dp x8 x9 x1).bind λr5=>cond (!r5.2) (some ([],false)) (cond (!bf r5.1 0) (cond (small (ℓ x6+ℓ ([(x8,(x9,(r5.1,())))]))) (fU x0 x1 (x6++([(x8,(x9,(r5.1,())))])) x7 x8 (W .i64 (x9+1))) none) (fU x0 x1 x6 x7 x8 (W .i64 (x9+1))))
def cU.Nn(cm:cU.bz)(fU:cU.fw)(x0:ak)(x1:cV)(x6:ak)(x7 x8:Int)(x9 dp:Int):Option (ak×(Bool)):=cU.GU N cm fU x0 x1 x6 x7 x8 x9 dp
def cU.pA(N:Nat)(uy:cU.MR)(cm:cU.bz)(fU:cU.fw)(x0:ak)(x1:cV)(x6:ak)(x7 x8 x9:Int):Option (ak×(Bool)):=
 cond (cP x9 24) (cond (bh x7 (ℓ x0)) (cond (bJ x7 (ℓ x0)) (cond (bf (γ x0 x7.toNat aH).1 x8) (cond (bJ x7 (ℓ x0)) (cond (bf (γ x0 x7.toNat aH).2.1 x9) (cond (bJ x7 (ℓ x0)) (uy x0 x1 x6 (W .i64 (x7+1)) x8 x9 (γ x0 x7.toNat aH).2.2.1) none) (uy x0 x1 x6 x7 x8 x9 0)) none) (uy x0 x1 x6 x7 x8 x9 0)) none) (uy x0 x1 x6 x7 x8 x9 0)) (cm x0 x1 x6 x7 (W .i64 (x8+1)))
def cU.l7(N:Nat)(cm:cU.bz):Nat→cU.fw
 |0,_,_,_,_,_,_=>none
 |n+1,x0,x1,x6,x7,x8,x9=>cU.pA N (cU.Nn N cm (cU.l7 N cm n)) cm (cU.l7 N cm n) x0 x1 x6 x7 x8 x9
def cU.de(N:Nat)(sH:cU.fw)(cm:cU.bz)(x0:ak)(x1:cV)(x6:ak)(x7 x8:Int):Option (ak×(Bool)):=
 cond (cP x8 7) (sH x0 x1 x6 x7 x8 0) (some (x6,true))
def cU.l4(N:Nat):Nat→cU.bz
 |0,_,_,_,_,_=>none
 |n+1,x0,x1,x6,x7,x8=>cU.de N (cU.l7 N (cU.l4 N n) N) (cU.l4 N n) x0 x1 x6 x7 x8
def cU.b(N:Nat)(ed:cU.bz)(a0:ak)(a1:cV):Option (ak×(Bool)):=
 ed a0 a1 ([]) 0 1
def cU(a0:ak)(a1:cV):Option (ak×(Bool)):=cU.b N (cU.l4 N N) a0 a1
def L6(a0:ar)(a1:ak)(a2:cV):Option (ar×(Int)):=
 (ch N a0.2.2.2.1 a1).bind λr1=>cond (!r1.2) (some ((fP,(fQ,(cj,(cj,(eH,(fv,())))))),2)) ((cU N a0.2.2.1 a2).bind λr2=>cond (!r2.2) (some ((fP,(fQ,(cj,(cj,(eH,(fv,())))))),2)) (some ((a0.1,(a0.2.1,(r2.1,(r1.1,a0.2.2.2.2)))),0)))
abbrev ov.MT:=e8→aj→ar→ar→ak→cV→Int→Option (ar×(Int))
abbrev ov.bz:=e8→aj→ar→ar→Int→Option (ar×(Int))
def ov.OU(XU:ov.MT)(x2:e8)(x3:aj)(x4 x6:ar)(x9:ak)(dp:cV)(cw:Int):Option (ar×(Int)):=
 cond (bh cw (ℓ x2)) (cond (bJ cw (ℓ x2)) ((Ew N x4 (γ x2 cw.toNat g9).1).bind λr6=>cond (!r6) (some ((fP,(fQ,(cj,(cj,(eH,(fv,())))))),3)) ((Ew N x4 (γ x2 cw.toNat g9).2.1).bind λr7=>cond (!r7) (some ((fP,(fQ,(cj,(cj,(eH,(fv,())))))),3)) (cond (cP (ℓ x3.1) (γ x2 cw.toNat g9).2.2.1) (some ((fP,(fQ,(cj,(cj,(eH,(fv,())))))),3)) (let v8:Int:=W .i64 (0-((γ x2 cw.toNat g9).2.2.2.1));cond (small (ℓ x9+ℓ ([((γ x2 cw.toNat g9).1,((γ x2 cw.toNat g9).2.2.1,((γ x2 cw.toNat g9).2.2.2.1,()))),((γ x2 cw.toNat g9).2.1,((γ x2 cw.toNat g9).2.2.1,(v8,())))]))) (cond (bJ (γ x2 cw.toNat g9).2.2.1 (ℓ x4.2.2.2.2.1)) ((Md N (γ x2 cw.toNat g9) (γ x4.2.2.2.2.1 (γ x2 cw.toNat g9).2.2.1.toNat 0)).bind λzX=>cond (small (ℓ dp+ℓ zX.1)) (XU x2 x3 x4 x6 (x9++([((γ x2 cw.toNat g9).1,((γ x2 cw.toNat g9).2.2.1,((γ x2 cw.toNat g9).2.2.2.1,()))),((γ x2 cw.toNat g9).2.1,((γ x2 cw.toNat g9).2.2.1,(v8,())))])) (dp++zX.1) (W .i64 (cw+1))) none) none) none)))) none) ((L6 N x4 x9 dp).bind λsN=>some (sN.1,sN.2))
def ov.Rk(N:Nat):Nat→ov.MT
 |0,_,_,_,_,_,_,_=>none
 |n+1,x2,x3,x4,x6,x9,dp,cw=>ov.OU N (ov.Rk N n) x2 x3 x4 x6 x9 dp cw
def ov.de(XV:ov.MT)(cm:ov.bz)(x2:e8)(x3:aj)(x4 x6:ar)(x8:Int):Option (ar×(Int)):=
 cond (bh x8 (ℓ x2)) (cond (bJ x8 (ℓ x2)) ((Mc N (γ x2 x8.toNat g9)).bind λr3=>cond (!r3) (some ((fP,(fQ,(cj,(cj,(eH,(fv,())))))),1)) (cm x2 x3 x4 x6 (W .i64 (x8+1)))) none) (XV x2 x3 x4 x6 ([]) ([]) 0)
def ov.l4(N:Nat):Nat→ov.bz
 |0,_,_,_,_,_=>none
 |n+1,x2,x3,x4,x6,x8=>ov.de N (ov.Rk N N) (ov.l4 N n) x2 x3 x4 x6 x8
def ov.b(ed:ov.bz)(a0:aj)(a1:ar)(a2:e8):Option (ar×(Int)):=
 (eV N a0 a1).bind λr1=>cond (!r1) (some ((fP,(fQ,(cj,(cj,(eH,(fv,())))))),1)) (cond (bh 200 (ℓ a2)) (some ((fP,(fQ,(cj,(cj,(eH,(fv,())))))),1)) (ed a2 a0 a1 (fP,(fQ,(cj,(cj,(eH,(fv,())))))) 0))
def ov(a0:aj)(a1:ar)(a2:e8):Option (ar×(Int)):=ov.b N (ov.l4 N N) a0 a1 a2
def SU(a0 a1:aK):Option aK:=
 (Xe N a1).bind λr1=>(GD N a0 r1).bind λr2=>some r2
abbrev kX.sI:=ak→Int→cV→aK→Int→Option (cV×(Int))
def kX.B4(sJ:kX.sI)(x0:ak)(x1:Int)(dp:cV)(cw:aK)(c9:Int):Option (cV×(Int)):=
 cond (bh c9 (ℓ x0)) (cond (bJ c9 (ℓ x0)) (cond (!bf (γ x0 c9.toNat aH).2.1 x1) (sJ x0 x1 dp cw (W .i64 (c9+1))) ((Re N cw).bind λr9=>cond (bf r9 0) (sJ x0 x1 dp cw (W .i64 (c9+1))) (cond (bJ c9 (ℓ x0)) ((JP N (γ x0 c9.toNat aH).1).bind λBn=>cond (bJ c9 (ℓ x0)) ((B3 N (γ x0 c9.toNat aH).2.2.1).bind λAx=>(ja N Ax cw).bind λsN=>cond (small (ℓ dp+ℓ ([(Bn.1,(Bn.2,(sN,())))]))) (sJ x0 x1 (dp++([(Bn.1,(Bn.2,(sN,())))])) cw (W .i64 (c9+1))) none) none) none))) none) (some (dp,0))
def kX.l6(N:Nat):Nat→kX.sI
 |0,_,_,_,_,_=>none
 |n+1,x0,x1,dp,cw,c9=>kX.B4 N (kX.l6 N n) x0 x1 dp cw c9
def kX.b(Hm:kX.sI)(a0:ak)(a1 a2 a3:Int):Option (cV×(Int)):=
 (tW N a0).bind λr1=>cond (!r1) (some ([],1)) ((y3 N a2).bind λr2=>cond (!r2) (some ([],1)) ((y3 N a3).bind λr3=>cond (!r3) (some ([],1)) ((B3 N a3).bind λr4=>(B3 N a2).bind λr5=>(SU N r4 r5).bind λr6=>Hm a0 a1 ([]) r6 0)))
def kX(a0:ak)(a1 a2 a3:Int):Option (cV×(Int)):=kX.b N (kX.l6 N N) a0 a1 a2 a3
def O8(a0:aj)(a1:ar)(a2 a3:Int):Option (ar×cV×(Int)):=
 (eV N a0 a1).bind λr1=>cond (!r1) (some ((fP,(fQ,(cj,(cj,(eH,(fv,())))))),([]:List ((Int)×((Int)×(((Bool)×((List Int)×(Unit)))×(Unit))))),1)) ((y3 N a3).bind λr2=>cond (!r2) (some ((fP,(fQ,(cj,(cj,(eH,(fv,())))))),([]:List ((Int)×((Int)×(((Bool)×((List Int)×(Unit)))×(Unit))))),1)) (cond (bh a2 0) (some ((fP,(fQ,(cj,(cj,(eH,(fv,())))))),([]:List ((Int)×((Int)×(((Bool)×((List Int)×(Unit)))×(Unit))))),3)) (cond (cP (ℓ a0.1) a2) (some ((fP,(fQ,(cj,(cj,(eH,(fv,())))))),([]:List ((Int)×((Int)×(((Bool)×((List Int)×(Unit)))×(Unit))))),3)) (cond (bJ a2 (ℓ a1.2.2.2.2.1)) ((kX N a1.2.2.2.1 a2 (γ a1.2.2.2.2.1 a2.toNat 0) a3).bind λr3=>(L6 N a1 cj r3.1).bind λr4=>cond (!bf r4.2 0) (some ((fP,(fQ,(cj,(cj,(eH,(fv,())))))),([]:List ((Int)×((Int)×(((Bool)×((List Int)×(Unit)))×(Unit))))),r4.2)) (cond (small (ℓ eH+ℓ a1.2.2.2.2.1)) (let v5:List Int:=eH++a1.2.2.2.2.1;cond (bJ a2 (ℓ v5)) (some ((r4.1.1,(r4.1.2.1,(r4.1.2.2.1,(r4.1.2.2.2.1,((List.set v5 a2.toNat a3),r4.1.2.2.2.2.2))))),r3.1,0)) none) none)) none))))
abbrev wh.cQ:=ak→Int→aW→Int→Option aW
def wh.fX(N:Nat)(dM:wh.cQ)(x0:ak)(x1:Int)(x5:aW)(x6:Int):Option aW:=
 cond (bh x6 (ℓ x0)) (cond (bJ x6 (ℓ x0)) (cond (bf (γ x0 x6.toNat aH).1 x1) (cond (bJ x6 (ℓ x0)) (cond (bJ x6 (ℓ x0)) (cond (small (ℓ x5+ℓ ([((γ x0 x6.toNat aH).2.1,((γ x0 x6.toNat aH).2.2.1,()))]))) (dM x0 x1 (x5++([((γ x0 x6.toNat aH).2.1,((γ x0 x6.toNat aH).2.2.1,()))])) (W .i64 (x6+1))) none) none) none) (dM x0 x1 x5 (W .i64 (x6+1)))) none) (some x5)
def wh.l5(N:Nat):Nat→wh.cQ
 |0,_,_,_,_=>none
 |n+1,x0,x1,x5,x6=>wh.fX N (wh.l5 N n) x0 x1 x5 x6
def wh.b(iV:wh.cQ)(a0:ak)(a1:Int):Option aW:=
 (tW N a0).bind λr1=>cond (!r1) (some ([])) (iV a0 a1 ([]) 0)
def wh(a0:ak)(a1:Int):Option aW:=wh.b N (wh.l5 N N) a0 a1
abbrev eb.fw:=bx→Int→ak→Int→dJ→Int→Option ak
abbrev eb.ly:=bx→Int→ak→Int→Option ak
def eb.pA(N:Nat)(ig:eb.ly)(fU:eb.fw)(x0:bx)(x1:Int)(x5:ak)(x6:Int)(x7:dJ)(x8:Int):Option ak:=
 cond (bh x8 (ℓ x0)) (cond (bJ x8 (ℓ x0)) (cond (!bf (γ x0 x8.toNat fZ).2.1 x1) (fU x0 x1 x5 x6 x7 (W .i64 (x8+1))) (cond (bJ x8 (ℓ x0)) (cond (!bf (γ x0 x8.toNat fZ).2.2.1 x6) (fU x0 x1 x5 x6 x7 (W .i64 (x8+1))) (cond (bJ x8 (ℓ x0)) (cond (bf (γ x0 x8.toNat fZ).2.2.2.1 1) (cond (bJ x8 (ℓ x0)) (fU x0 x1 x5 x6 (x7.1,((W .i64 (x7.2.1+((γ x0 x8.toNat fZ).2.2.2.2.1))),x7.2.2)) (W .i64 (x8+1))) none) (cond (bJ x8 (ℓ x0)) (fU x0 x1 x5 x6 (x7.1,(x7.2.1,((W .i64 (x7.2.2.1+((γ x0 x8.toNat fZ).2.2.2.2.1))),x7.2.2.2))) (W .i64 (x8+1))) none)) none)) none)) none) (cond (bh 0 x7.2.1) (cond (small (ℓ x5+ℓ ([x7]))) (ig x0 x1 (x5++([x7])) (W .i64 (x6+1))) none) (cond (bh 0 x7.2.2.1) (cond (small (ℓ x5+ℓ ([x7]))) (ig x0 x1 (x5++([x7])) (W .i64 (x6+1))) none) (ig x0 x1 x5 (W .i64 (x6+1)))))
def eb.l7(N:Nat)(ig:eb.ly):Nat→eb.fw
 |0,_,_,_,_,_,_=>none
 |n+1,x0,x1,x5,x6,x7,x8=>eb.pA N ig (eb.l7 N ig n) x0 x1 x5 x6 x7 x8
def eb.zW(N:Nat)(sH:eb.fw)(ig:eb.ly)(x0:bx)(x1:Int)(x5:ak)(x6:Int):Option ak:=
 cond (bh x6 6) (sH x0 x1 x5 x6 (x6,dC) 0) (some x5)
def eb.l3(N:Nat):Nat→eb.ly
 |0,_,_,_,_=>none
 |n+1,x0,x1,x5,x6=>eb.zW N (eb.l7 N (eb.l3 N n) N) (eb.l3 N n) x0 x1 x5 x6
def eb.b(N:Nat)(Cz:eb.ly)(a0:bx)(a1:Int):Option ak:=
 Cz a0 a1 ([]) 0
def eb(a0:bx)(a1:Int):Option ak:=eb.b N (eb.l3 N N) a0 a1
abbrev kP.bz:=aW→aj→Int→Option Bool
def kP.de(N:Nat)(cm:kP.bz)(x1:aW)(x2:aj)(x5:Int):Option Bool:=
 cond (bh x5 (ℓ x1)) (cond (bJ x5 (ℓ x1)) (cond (bh (γ x1 x5.toNat dC).1 0) (some false) (cond (bJ x5 (ℓ x1)) (cond (cP (ℓ x2.1) (γ x1 x5.toNat dC).1) (some false) (cond (bJ x5 (ℓ x1)) (cond (bf (γ x1 x5.toNat dC).2.1 0) (some false) (cond (bJ x5 (ℓ x1)) (cond (bf (γ x1 x5.toNat dC).2.1 (-9223372036854775808)) (some false) (cond (bh 0 x5) (cond (bJ x5 (ℓ x1)) (let v3:Int:=W .i64 (x5-1);cond (bJ v3 (ℓ x1)) (cond (cP (γ x1 x5.toNat dC).1 (γ x1 v3.toNat dC).1) (some false) (cm x1 x2 (W .i64 (x5+1)))) none) none) (cm x1 x2 (W .i64 (x5+1))))) none)) none)) none)) none) (some true)
def kP.l4(N:Nat):Nat→kP.bz
 |0,_,_,_=>none
 |n+1,x1,x2,x5=>kP.de N (kP.l4 N n) x1 x2 x5
def kP.b(ed:kP.bz)(a0:aj)(a1:aW):Option Bool:=
 (uB N a0).bind λr1=>cond (!r1) (some false) (ed a1 a0 0)
def kP(a0:aj)(a1:aW):Option Bool:=kP.b N (kP.l4 N N) a0 a1
abbrev kU.cQ:=ak→aj→Int→Int→Option Bool
def kU.fX(N:Nat)(dM:kU.cQ)(x1:ak)(x2:aj)(x5 x6:Int):Option Bool:=
 cond (bh x6 (ℓ x1)) (cond (bJ x6 (ℓ x1)) (cond (bh (γ x1 x6.toNat aH).1 0) (some false) (cond (cP (ℓ x2.1) (γ x1 x6.toNat aH).1) (some false) (cond (bh (γ x1 x6.toNat aH).2.1 0) (some false) (cond (bh x5 (γ x1 x6.toNat aH).2.1) (some false) (cond (bh (γ x1 x6.toNat aH).2.2.1 0) (some false) (cond (bh x5 (γ x1 x6.toNat aH).2.2.1) (some false) (cond (bf (γ x1 x6.toNat aH).2.1 0) (cond (bf (γ x1 x6.toNat aH).2.2.1 0) (some false) (cond (bh 0 x6) (let v3:Int:=W .i64 (x6-1);cond (bJ v3 (ℓ x1)) (cond (cP (γ x1 x6.toNat aH).1 (γ x1 v3.toNat aH).1) (some false) (dM x1 x2 x5 (W .i64 (x6+1)))) none) (dM x1 x2 x5 (W .i64 (x6+1))))) (cond (bh 0 x6) (let v6:Int:=W .i64 (x6-1);cond (bJ v6 (ℓ x1)) (cond (cP (γ x1 x6.toNat aH).1 (γ x1 v6.toNat aH).1) (some false) (dM x1 x2 x5 (W .i64 (x6+1)))) none) (dM x1 x2 x5 (W .i64 (x6+1))))))))))) none) (some true)
def kU.l5(N:Nat):Nat→kU.cQ
 |0,_,_,_,_=>none
 |n+1,x1,x2,x5,x6=>kU.fX N (kU.l5 N n) x1 x2 x5 x6
def kU.b(iV:kU.cQ)(a0:aj)(a1:ak):Option Bool:=
 (uB N a0).bind λr1=>cond (!r1) (some false) (iV a1 a0 33000000000 0)
def kU(a0:aj)(a1:ak):Option Bool:=kU.b N (kU.l5 N N) a0 a1
def SS(a0:aK):Option aK:=
 (Ju N false a0.2.1).bind λr1=>some r1
def VB(a0 a1:aK):Option Int:=
 (SU N a0 a1).bind λr1=>(Re N r1).bind λr2=>some r2
abbrev eY.qP:=ak→Int→aK→aK→aK→aK→Int→Option (aK×(Int))
abbrev eY.fw:=aW→ak→Int→aK→aK→aK→aK→Int→Option (aK×(Int))
def eY.ua(BA:eY.qP)(x2:ak)(x3:Int)(x8 dp:aK)(cw c9:aK)(gv:Int):Option (aK×(Int)):=
 cond (bh gv (ℓ x2)) (cond (bJ gv (ℓ x2)) (cond (bf (γ x2 gv.toNat aH).1 x3) (cond (bJ gv (ℓ x2)) ((B3 N (γ x2 gv.toNat aH).2.1).bind λr8=>cond (bJ gv (ℓ x2)) ((B3 N (γ x2 gv.toNat aH).2.2.1).bind λr9=>BA x2 x3 x8 dp r8 r9 (W .i64 (gv+1))) none) none) (BA x2 x3 x8 dp cw c9 (W .i64 (gv+1)))) none) ((GD N dp cw).bind λAx=>(SS N Ax).bind λsN=>(SU N dp c9).bind λKp=>(SS N Kp).bind λCn=>(VB N Cn sN).bind λMk=>cond (bh 0 Mk) (some (Cn,0)) (some (sN,0)))
def eY.vd(N:Nat):Nat→eY.qP
 |0,_,_,_,_,_,_,_=>none
 |n+1,x2,x3,x8,dp,cw,c9,gv=>eY.ua N (eY.vd N n) x2 x3 x8 dp cw c9 gv
def eY.pA(Ff:eY.qP)(fU:eY.fw)(x1:aW)(x2:ak)(x3:Int)(x8 dp:aK)(cw c9:aK)(dV:Int):Option (aK×(Int)):=
 cond (bh dV (ℓ x1)) (cond (bJ dV (ℓ x1)) (cond (bf (γ x1 dV.toNat dC).1 x3) (cond (bJ dV (ℓ x1)) ((B3 N (γ x1 dV.toNat dC).2.1).bind λr4=>fU x1 x2 x3 x8 r4 cw c9 (W .i64 (dV+1))) none) (fU x1 x2 x3 x8 dp cw c9 (W .i64 (dV+1)))) none) (Ff x2 x3 x8 dp cw c9 0)
def eY.l7(N:Nat):Nat→eY.fw
 |0,_,_,_,_,_,_,_,_=>none
 |n+1,x1,x2,x3,x8,dp,cw,c9,dV=>eY.pA N (eY.vd N N) (eY.l7 N n) x1 x2 x3 x8 dp cw c9 dV
def eY.b(sH:eY.fw)(a0:aj)(a1:aW)(a2:ak)(a3:Int):Option (aK×(Int)):=
 (kP N a0 a1).bind λr1=>cond (!r1) (some ((false,rS),1)) ((kU N a0 a2).bind λr2=>cond (!r2) (some ((false,rS),1)) (cond (bh a3 0) (some ((false,rS),3)) (cond (cP (ℓ a0.1) a3) (some ((false,rS),3)) (sH a1 a2 a3 (false,rS) (false,rS) (false,rS) (false,rS) 0))))
def eY(a0:aj)(a1:aW)(a2:ak)(a3:Int):Option (aK×(Int)):=eY.b N (eY.l7 N N) a0 a1 a2 a3
abbrev mV.cQ:=aW→ak→aj→aK→aK→Int→Option (aK×(Int))
def mV.fX(dM:mV.cQ)(x1:aW)(x2:ak)(x3:aj)(x6 x8:aK)(x9:Int):Option (aK×(Int)):=
 cond (bh x9 (ℓ x3.1)) ((eY N x3 x1 x2 x9).bind λr4=>cond (bJ x9 (ℓ x3.1)) ((B3 N (γ x3.1 x9.toNat bQ).2.2.1).bind λr5=>(ja N r4.1 r5).bind λr6=>(GD N x8 r6).bind λr7=>dM x1 x2 x3 x6 r7 (W .i64 (x9+1))) none) (some (x8,0))
def mV.l5(N:Nat):Nat→mV.cQ
 |0,_,_,_,_,_,_=>none
 |n+1,x1,x2,x3,x6,x8,x9=>mV.fX N (mV.l5 N n) x1 x2 x3 x6 x8 x9
def mV.b(iV:mV.cQ)(a0:aj)(a1:aW)(a2:ak):Option (aK×(Int)):=
 (kP N a0 a1).bind λr1=>cond (!r1) (some ((false,rS),1)) ((kU N a0 a2).bind λr2=>cond (!r2) (some ((false,rS),1)) (iV a1 a2 a0 (false,rS) (false,rS) 0))
def mV(a0:aj)(a1:aW)(a2:ak):Option (aK×(Int)):=mV.b N (mV.l5 N N) a0 a1 a2
def Pg(a0:aj)(a1:ar)(a2:Int)(a3:bx):Option aK:=
 cond (small (ℓ fv+ℓ a1.2.2.2.2.2.1)) (let v1:List ((Int)×((Int)×((Int)×((Int)×((Int)×((Int)×(Unit))))))):=fv++a1.2.2.2.2.2.1;cond (small (ℓ v1+ℓ a3)) ((wh N a1.2.2.2.1 a2).bind λr3=>(eb N (v1++a3) a2).bind λr4=>(mV N a0 r3 r4).bind λr5=>some r5.1) none) none
def Pf(a0:aj)(a1:ar)(a2:Int):Option (aK×(Int)):=
 (eV N a0 a1).bind λr1=>cond (!r1) (some ((false,rS),1)) ((LN N a1.2.1 a2).bind λr2=>cond (!r2.2) (some ((false,rS),3)) ((Pg N a0 a1 a2 fv).bind λr3=>some (r3,0)))
abbrev kZ.cQ:=bl→Int→(List Int)→Int→Option (List Int)
def kZ.fX(N:Nat)(dM:kZ.cQ)(x0:bl)(x1:Int)(x5:List Int)(x6:Int):Option (List Int):=
 cond (bh x6 (ℓ x0)) (cond (bJ x6 (ℓ x0)) (cond (bf (γ x0 x6.toNat bQ).2.1 x1) (cond (bJ x6 (ℓ x0)) (cond (small (ℓ x5+ℓ ([(γ x0 x6.toNat bQ).1]))) (dM x0 x1 (x5++([(γ x0 x6.toNat bQ).1])) (W .i64 (x6+1))) none) none) (dM x0 x1 x5 (W .i64 (x6+1)))) none) (some x5)
def kZ.l5(N:Nat):Nat→kZ.cQ
 |0,_,_,_,_=>none
 |n+1,x0,x1,x5,x6=>kZ.fX N (kZ.l5 N n) x0 x1 x5 x6
def kZ.b(iV:kZ.cQ)(a0:bl)(a1:Int):Option (List Int):=
 (db N a0).bind λr1=>cond (!r1) (some ([])) (iV a0 a1 ([]) 0)
def kZ(a0:bl)(a1:Int):Option (List Int):=kZ.b N (kZ.l5 N N) a0 a1
abbrev ek.Hn:=bx→(List Int)→bx→Int→Bool→Int→Option bx
abbrev ek.cQ:=bx→(List Int)→bx→Int→Option bx
def ek.OY(N:Nat)(dM:ek.cQ)(Ho:ek.Hn)(x0:bx)(x1:List Int)(x5:bx)(x6:Int)(x7:Bool)(x8:Int):Option bx:=
 cond (bh x8 (ℓ x1)) (cond (x7) (Ho x0 x1 x5 x6 true (W .i64 (x8+1))) (cond (bJ x8 (ℓ x1)) (cond (bJ x6 (ℓ x0)) (Ho x0 x1 x5 x6 (bf (γ x1 x8.toNat 0) (γ x0 x6.toNat fZ).2.1) (W .i64 (x8+1))) none) none)) (cond (!x7) (cond (bJ x6 (ℓ x0)) (cond (small (ℓ x5+ℓ ([γ x0 x6.toNat fZ]))) (dM x0 x1 (x5++([γ x0 x6.toNat fZ])) (W .i64 (x6+1))) none) none) (dM x0 x1 x5 (W .i64 (x6+1))))
def ek.l9(N:Nat)(dM:ek.cQ):Nat→ek.Hn
 |0,_,_,_,_,_,_=>none
 |n+1,x0,x1,x5,x6,x7,x8=>ek.OY N dM (ek.l9 N dM n) x0 x1 x5 x6 x7 x8
def ek.fX(N:Nat)(Ti:ek.Hn)(dM:ek.cQ)(x0:bx)(x1:List Int)(x5:bx)(x6:Int):Option bx:=
 cond (bh x6 (ℓ x0)) (Ti x0 x1 x5 x6 false 0) (some x5)
def ek.l5(N:Nat):Nat→ek.cQ
 |0,_,_,_,_=>none
 |n+1,x0,x1,x5,x6=>ek.fX N (ek.l9 N (ek.l5 N n) N) (ek.l5 N n) x0 x1 x5 x6
def ek.b(iV:ek.cQ)(a0:bx)(a1:List Int):Option bx:=
 (kI N a0).bind λr1=>cond (!r1) (some ([])) (iV a0 a1 ([]) 0)
def ek(a0:bx)(a1:List Int):Option bx:=ek.b N (ek.l5 N N) a0 a1
def Pe(a0:aj)(a1:ar)(a2:Int):Option (ar×(Int)):=
 (eV N a0 a1).bind λr1=>cond (!r1) (some ((fP,(fQ,(cj,(cj,(eH,(fv,())))))),1)) ((Eo N a1.1 a2).bind λr2=>cond (bf r2 0) (some ((fP,(fQ,(cj,(cj,(eH,(fv,())))))),3)) ((kZ N a1.2.1 a2).bind λr3=>(ek N a1.2.2.2.2.2.1 r3).bind λr4=>some ((a1.1,(a1.2.1,(a1.2.2.1,(a1.2.2.2.1,(a1.2.2.2.2.1,(r4,a1.2.2.2.2.2.2)))))),0)))
def O3(a0:aS):Option aK:=
 (B3 N a0.1).bind λr1=>(Ju N false ([0,0,1])).bind λr2=>(ja N r1 r2).bind λr3=>(VA N a0.2.1).bind λr4=>(Ju N false r4).bind λr5=>(GD N r3 r5).bind λr6=>some r6
def Mo(a0:aS)(a1:aK):Option Bool:=
 (O3 N a0).bind λr1=>(VB N r1 a1).bind λr2=>some (bf r2 0)
abbrev lx.bz:=bD→cV→Int→Option Bool
def lx.de(cm:lx.bz)(x0:bD)(x1:cV)(x5:Int):Option Bool:=
 cond (bh x5 (ℓ x0)) (cond (bJ x5 (ℓ x0)) (cond (bJ x5 (ℓ x1)) (cond (!bf (γ x0 x5.toNat (0,(0,(dC,())))).1 (γ x1 x5.toNat (0,(0,((false,rS),())))).1) (some false) (cond (bJ x5 (ℓ x0)) (cond (bJ x5 (ℓ x1)) (cond (!bf (γ x0 x5.toNat (0,(0,(dC,())))).2.1 (γ x1 x5.toNat (0,(0,((false,rS),())))).2.1) (some false) (cond (bJ x5 (ℓ x0)) (cond (bJ x5 (ℓ x1)) ((Mo N (γ x0 x5.toNat (0,(0,(dC,())))).2.2.1 (γ x1 x5.toNat (0,(0,((false,rS),())))).2.2.1).bind λr2=>cond (!r2) (some false) (cm x0 x1 (W .i64 (x5+1)))) none) none)) none) none)) none) none) (some true)
def lx.l4(N:Nat):Nat→lx.bz
 |0,_,_,_=>none
 |n+1,x0,x1,x5=>lx.de N (lx.l4 N n) x0 x1 x5
def lx.b(N:Nat)(ed:lx.bz)(a0:bD)(a1:cV):Option Bool:=
 cond (!bf (ℓ a0) (ℓ a1)) (some false) (ed a0 a1 0)
def lx(a0:bD)(a1:cV):Option Bool:=lx.b N (lx.l4 N N) a0 a1
def Xw(a0:aj)(a1:ar)(a2:e8)(a3 a4:Int)(a5 a6:Int):Option Bool:=
 (nT N a0 a1 a2).bind λr1=>(ov N a0 a1 a2).bind λr2=>(VF N a0 a1 a3 a6).bind λr3=>(O8 N a0 a1 a3 a6).bind λr4=>(Rr N a0 a1 a4).bind λr5=>(Pf N a0 a1 a4).bind λr6=>(VG N a0 a1 a5).bind λr7=>(Pe N a0 a1 a5).bind λr8=>cond (bf r1.2 r2.2) (cond (bf r3.2.2 r4.2.2) (cond (bf r5.2 r6.2) (cond (bf r7.2 r8.2) ((S7 N r1.1 r2.1).bind λr9=>cond (r9) ((S7 N r3.1 r4.1).bind λzX=>cond (zX) ((lx N r3.2.1 r4.2.1).bind λBn=>cond (Bn) ((Mo N r5.1 r6.1).bind λAx=>cond (Ax) ((S7 N r7.1 r8.1).bind λsN=>cond (sN) ((gL N a0 a1).bind λKp=>(eV N a0 a1).bind λCn=>some (k5 .bool Kp Cn)) (some false)) (some false)) (some false)) (some false)) (some false)) (some false)) (some false)) (some false)) (some false)
def F7(a0:aj)(a1:ar)(a2:e8)(a3 a4:Int)(a5 a6:Int):Option Bool:=
 (Xy N).bind λr1=>cond (!r1) (some false) ((Xz N a0 a1).bind λr2=>cond (!r2) (some true) (cond (bh 30 (ℓ a2)) (some true) ((pC N a0).bind λr3=>(pL N a0).bind λr4=>cond (bf r3.2 r4.2) ((S7 N r3.1 r4.1).bind λr5=>cond (r5) ((Xw N a0 a1 a2 a3 a4 a5 a6).bind λr6=>some r6) (some false)) (some false))))
end
end VM.F
