/- A part of the proof of LotSlices of layer 23: the functions as equations between values, printed by a program. -/
import Derived.Test.YthnjnpjmbabcaaaVm0
set_option linter.all false
open List renaming length→ℓ, getD→γ
namespace VM.F
open Go VM
set_option maxRecDepth 100000
noncomputable section
variable (N:Nat)
abbrev mc:Ty:=(.pair .str .unit)
abbrev eP:Ty:=(.pair .str (.pair (.int .u64) .unit))
abbrev sH:Ty:=(.pair (.int .i64) (.pair (.int .i64) .unit))
abbrev bU:Ty:=(.pair (.int .i64) (.pair (.int .u64) .unit))
abbrev e8:Ty:=(.pair .bool (.pair (.slice (.int .u64)) .unit))
abbrev GP:Ty:=(.pair (.int .i64) sH)
abbrev me:Ty:=(.pair (.int .i64) (.pair (.int .i64) (.pair .bool (.pair (.int .u8) .unit))))
abbrev DQ:Ty:=(.pair (.int .i64) GP)
abbrev Lb:Ty:=(.pair (.int .i64) (.pair (.int .i64) DQ))
abbrev qy:Ty:=(.pair (.int .i64) (.pair (.slice sH) DQ))
abbrev bQ:Ty:=(.pair (.slice DQ) Lb)
abbrev mz:Ty:=(.pair (.slice sH) (.pair (.slice DQ) (.pair (.slice GP) (.pair (.slice GP) (.pair (.slice (.int .i64)) (.pair (.slice Lb) .unit))))))
abbrev GQ:=Ty.den mc
abbrev GR:=List (Ty.den mc)
abbrev Ab:=Ty.den eP
abbrev Ac:=List (Ty.den eP)
abbrev j2:=Ty.den sH
abbrev aH:=List (Ty.den sH)
abbrev aA:=Ty.den bU
abbrev kf:=List (Ty.den bU)
abbrev bf:=Ty.den e8
abbrev B3:=List (Ty.den e8)
abbrev zN:=Ty.den GP
abbrev bF:=List (Ty.den GP)
abbrev GS:=Ty.den me
abbrev GU:=List (Ty.den me)
abbrev vW:=Ty.den DQ
abbrev cz:=List (Ty.den DQ)
abbrev Fp:=Ty.den Lb
abbrev qj:=List (Ty.den Lb)
abbrev nG:=Ty.den qy
abbrev aX:=List (Ty.den qy)
abbrev al:=Ty.den bQ
abbrev OD:=List (Ty.den bQ)
abbrev ch:=Ty.den mz
abbrev Sl:=List (Ty.den mz)
def QB(N:Nat):Option (al×ch):=
 some (([(0,(100,(0,(2,())))),(1,(7,cO))],(0,(0,(0,(0,(3,(0,()))))))),([(1,(1,()))],([(1,(1,(1,(0,()))))],(QH,([(0,(0,(7,()))),(0,(1,((-2),()))),(1,(0,((-7),()))),(1,(1,(2,())))],([100,7],(QI,())))))))
def DP(N:Nat)(a0 a1 a2:Int):Option Bool:=
 cond (dK a1 a0) (some (dK a0 a2)) (some false)
abbrev q6.cZ:=al→cz→Int→Int→Option Bool
def q6.gN(eQ:q6.cZ)(x1:al)(ey:cz)(fX jQ:Int):Option Bool:=
 cond (bu jQ fX) (cond (c9 jQ (ℓ ey)) ((DP N (γ ey jQ.toNat bC).1 0 3).bind λr3=>cond (!r3) (some false) ((DP N (γ ey jQ.toNat bC).2.1 1 1000000000000).bind λr4=>cond (!r4) (some false) ((DP N (γ ey jQ.toNat bC).2.2.1 0 1000000000).bind λr5=>cond (!r5) (some false) ((DP N (γ ey jQ.toNat bC).2.2.2.1 0 1000000000).bind λr6=>cond (!r6) (some false) (eQ x1 ey fX (W .i64 (jQ+1))))))) none) (cond (dK 0 x1.2.1) ((DP N x1.2.2.1 0 4).bind λr8=>cond (r8) ((DP N x1.2.2.2.1 0 1000000).bind λr9=>cond (r9) ((DP N x1.2.2.2.2.1 0 1000000).bind λLc=>cond (Lc) ((DP N x1.2.2.2.2.2.1 1 4611686018427387904).bind λLd=>cond (Ld) (some (dK 0 x1.2.2.2.2.2.2.1)) (some false)) (some false)) (some false)) (some false)) (some false))
def q6.l4(N:Nat):Nat→q6.cZ
 |0,_,_,_,_=>none
 |n+1,x1,ey,fX,jQ=>q6.gN N (q6.l4 N n) x1 ey fX jQ
def q6.b(kg:q6.cZ)(a0:al):Option Bool:=
 (DP N (ℓ a0.1) 1 6).bind λr1=>cond (!r1) (some false) (kg a0 a0.1 (ℓ a0.1) 0)
def q6(a0:al):Option Bool:=q6.b N (q6.l4 N N) a0
abbrev sa.dI:=aH→aH→Int→Int→Option Bool
def sa.jg(N:Nat)(iB:sa.dI)(x0 x5:aH)(x6 x7:Int):Option Bool:=
 cond (bu x7 x6) (cond (c9 x7 (ℓ x5)) (cond (bu (γ x5 x7.toNat cO).1 1) (some false) (cond (bu 12 (γ x5 x7.toNat cO).1) (some false) (cond (bu (γ x5 x7.toNat cO).2.1 1) (some false) (cond (bu 4 (γ x5 x7.toNat cO).2.1) (some false) (cond (bu 0 x7) (let v2:Int:=W .i64 (x7-1);cond (c9 v2 (ℓ x0)) (cond (dK (γ x5 x7.toNat cO).1 (γ x0 v2.toNat cO).1) (some false) (iB x0 x5 x6 (W .i64 (x7+1)))) none) (iB x0 x5 x6 (W .i64 (x7+1)))))))) none) (some true)
def sa.l2(N:Nat):Nat→sa.dI
 |0,_,_,_,_=>none
 |n+1,x0,x5,x6,x7=>sa.jg N (sa.l2 N n) x0 x5 x6 x7
def sa.b(N:Nat)(mf:sa.dI)(a0:aH):Option Bool:=
 mf a0 a0 (ℓ a0) 0
def sa(a0:aH):Option Bool:=sa.b N (sa.l2 N N) a0
abbrev oP.g7:=cz→(List Bool)→cz→Int→Int→Option Bool
def oP.wH(N:Nat)(fC:oP.g7)(x0:cz)(x3:List Bool)(x6:cz)(x7 x8:Int):Option Bool:=
 cond (bu x8 x7) (cond (c9 x8 (ℓ x6)) (cond (bu (γ x6 x8.toNat bC).1 1) (some false) (cond (bu 24 (γ x6 x8.toNat bC).1) (some false) (cond (bu (γ x6 x8.toNat bC).2.1 1) (some false) (cond (bu 12 (γ x6 x8.toNat bC).2.1) (some false) (cond (!cg (γ x6 x8.toNat bC).2.2.1 1) (cond (!cg (γ x6 x8.toNat bC).2.2.1 2) (some false) (cond (bu (γ x6 x8.toNat bC).2.2.2.1 0) (some false) (cond (bu 1000000000000 (γ x6 x8.toNat bC).2.2.2.1) (some false) (cond (bu 0 x8) (let v2:Int:=W .i64 (x8-1);cond (c9 v2 (ℓ x0)) (cond (dK (γ x6 x8.toNat bC).1 (γ x0 v2.toNat bC).1) (some false) (cond (cg (γ x6 x8.toNat bC).2.2.1 1) (cond (c9 (γ x6 x8.toNat bC).2.1 13) (cond (γ x3 (γ x6 x8.toNat bC).2.1.toNat false) (some false) (cond (c9 (γ x6 x8.toNat bC).2.1 13) (fC x0 (List.set x3 (γ x6 x8.toNat bC).2.1.toNat true) x6 x7 (W .i64 (x8+1))) none)) none) (fC x0 x3 x6 x7 (W .i64 (x8+1))))) none) (cond (cg (γ x6 x8.toNat bC).2.2.1 1) (cond (c9 (γ x6 x8.toNat bC).2.1 13) (cond (γ x3 (γ x6 x8.toNat bC).2.1.toNat false) (some false) (cond (c9 (γ x6 x8.toNat bC).2.1 13) (fC x0 (List.set x3 (γ x6 x8.toNat bC).2.1.toNat true) x6 x7 (W .i64 (x8+1))) none)) none) (fC x0 x3 x6 x7 (W .i64 (x8+1)))))))) (cond (bu (γ x6 x8.toNat bC).2.2.2.1 0) (some false) (cond (bu 1000000000000 (γ x6 x8.toNat bC).2.2.2.1) (some false) (cond (bu 0 x8) (let v7:Int:=W .i64 (x8-1);cond (c9 v7 (ℓ x0)) (cond (dK (γ x6 x8.toNat bC).1 (γ x0 v7.toNat bC).1) (some false) (cond (cg (γ x6 x8.toNat bC).2.2.1 1) (cond (c9 (γ x6 x8.toNat bC).2.1 13) (cond (γ x3 (γ x6 x8.toNat bC).2.1.toNat false) (some false) (cond (c9 (γ x6 x8.toNat bC).2.1 13) (fC x0 (List.set x3 (γ x6 x8.toNat bC).2.1.toNat true) x6 x7 (W .i64 (x8+1))) none)) none) (fC x0 x3 x6 x7 (W .i64 (x8+1))))) none) (cond (cg (γ x6 x8.toNat bC).2.2.1 1) (cond (c9 (γ x6 x8.toNat bC).2.1 13) (cond (γ x3 (γ x6 x8.toNat bC).2.1.toNat false) (some false) (cond (c9 (γ x6 x8.toNat bC).2.1 13) (fC x0 (List.set x3 (γ x6 x8.toNat bC).2.1.toNat true) x6 x7 (W .i64 (x8+1))) none)) none) (fC x0 x3 x6 x7 (W .i64 (x8+1)))))))))))) none) (some true)
def oP.l3(N:Nat):Nat→oP.g7
 |0,_,_,_,_,_=>none
 |n+1,x0,x3,x6,x7,x8=>oP.wH N (oP.l3 N n) x0 x3 x6 x7 x8
def oP.b(N:Nat)(xS:oP.g7)(a0:cz):Option Bool:=
 xS a0 (List.replicate 13 false) a0 (ℓ a0) 0
def oP(a0:cz):Option Bool:=oP.b N (oP.l3 N N) a0
abbrev qC.cZ:=Int→aH→Int→Int→Option Int
def qC.gN(N:Nat)(eQ:qC.cZ)(x1:Int)(dJ:aH)(ey fX:Int):Option Int:=
 cond (bu fX ey) (cond (c9 fX (ℓ dJ)) (cond (cg (γ dJ fX.toNat cO).1 x1) (some (γ dJ fX.toNat cO).2.1) (eQ x1 dJ ey (W .i64 (fX+1)))) none) (some 0)
def qC.l4(N:Nat):Nat→qC.cZ
 |0,_,_,_,_=>none
 |n+1,x1,dJ,ey,fX=>qC.gN N (qC.l4 N n) x1 dJ ey fX
def qC.b(kg:qC.cZ)(a0:aH)(a1:Int):Option Int:=
 (sa N a0).bind λr1=>cond (!r1) (some 0) (kg a1 a0 (ℓ a0) 0)
def qC(a0:aH)(a1:Int):Option Int:=qC.b N (qC.l4 N N) a0 a1
abbrev sE.cZ:=aH→cz→Int→Int→Option Bool
def sE.gN(eQ:sE.cZ)(x0:aH)(dB:cz)(mI fZ:Int):Option Bool:=
 cond (bu fZ mI) (cond (c9 fZ (ℓ dB)) ((qC N x0 (γ dB fZ.toNat bC).2.1).bind λr4=>cond (cg r4 0) (some false) (eQ x0 dB mI (W .i64 (fZ+1)))) none) (some true)
def sE.l4(N:Nat):Nat→sE.cZ
 |0,_,_,_,_=>none
 |n+1,x0,dB,mI,fZ=>sE.gN N (sE.l4 N n) x0 dB mI fZ
def sE.b(kg:sE.cZ)(a0:aH)(a1:cz):Option Bool:=
 (sa N a0).bind λr1=>cond (!r1) (some false) ((oP N a1).bind λr2=>cond (!r2) (some false) (kg a0 a1 (ℓ a1) 0))
def sE(a0:aH)(a1:cz):Option Bool:=sE.b N (sE.l4 N N) a0 a1
def Ql(N:Nat)(a0 a1:Int):Option Bool:=
 cond (cg a0 1) (some (cg a1 0)) (cond (cg a0 2) (some (cg a1 0)) (cond (cg a0 3) (some (cg a1 0)) (cond (cg a0 4) (some (cg a1 0)) (cond (cg a0 5) (cond (dK 1 a1) (some (dK a1 24)) (some false)) (cond (cg a0 6) (cond (dK 1 a1) (some (dK a1 12)) (some false)) (cond (cg a0 7) (cond (dK 1 a1) (some (dK a1 12)) (some false)) (some false)))))))
def Qm(N:Nat)(a0 a1:Int)(a2:zN):Option Int:=
 cond (!cg a0 a2.1) (some (W .i64 (a0-a2.1))) (some (W .i64 (a1-a2.2.1)))
abbrev sb.dI:=bF→bF→Int→Int→Option Bool
def sb.jg(iB:sb.dI)(x0 x5:bF)(x6 x7:Int):Option Bool:=
 cond (bu x7 x6) (cond (c9 x7 (ℓ x5)) ((Ql N (γ x5 x7.toNat eu).1 (γ x5 x7.toNat eu).2.1).bind λr2=>cond (!r2) (some false) (cond (cg (γ x5 x7.toNat eu).2.2.1 0) (some false) (cond (bu 0 x7) (let v3:Int:=W .i64 (x7-1);cond (c9 v3 (ℓ x0)) ((Qm N (γ x5 x7.toNat eu).1 (γ x5 x7.toNat eu).2.1 (γ x0 v3.toNat eu)).bind λr4=>cond (dK r4 0) (some false) (iB x0 x5 x6 (W .i64 (x7+1)))) none) (iB x0 x5 x6 (W .i64 (x7+1)))))) none) (some true)
def sb.l2(N:Nat):Nat→sb.dI
 |0,_,_,_,_=>none
 |n+1,x0,x5,x6,x7=>sb.jg N (sb.l2 N n) x0 x5 x6 x7
def sb.b(N:Nat)(mf:sb.dI)(a0:bF):Option Bool:=
 mf a0 a0 (ℓ a0) 0
def sb(a0:bF):Option Bool:=sb.b N (sb.l2 N N) a0
def F8(N:Nat)(a0:Int):Option aA:=
 cond (bu 63 0) none (some ((shr .i64 a0 63),((W .u64 a0),())))
abbrev rZ.g7:=aA→Int→Int→Int→kf→Int→Int→Option (aA×(Bool))
def rZ.wH(fC:rZ.g7)(x2:aA)(x4 x5 x6:Int)(dJ:kf)(ey fX:Int):Option (aA×(Bool)):=
 cond (bu fX ey) (cond (c9 fX (ℓ dJ)) ((jE N x6 (γ dJ fX.toNat cO).2.1 0).bind λr2=>(jE N x5 (W .u64 (γ dJ fX.toNat cO).1) r2.2).bind λr4=>cond (bu 63 0) none (fC x2 (W .i64 ((W .i64 (x4+(shr .i64 (γ dJ fX.toNat cO).1 63)))+(W .i64 r4.2))) r4.1 r2.1 dJ ey (W .i64 (fX+1)))) none) (cond (bu 63 0) none (cond (!cg x4 (shr .i64 (W .i64 x5) 63)) (some (cO,false)) (some (((W .i64 x5),(x6,())),true))))
def rZ.l3(N:Nat):Nat→rZ.g7
 |0,_,_,_,_,_,_,_=>none
 |n+1,x2,x4,x5,x6,dJ,ey,fX=>rZ.wH N (rZ.l3 N n) x2 x4 x5 x6 dJ ey fX
def rZ.b(N:Nat)(xS:rZ.g7)(a0:kf):Option (aA×(Bool)):=
 xS cO 0 0 0 a0 (ℓ a0) 0
def rZ(a0:kf):Option (aA×(Bool)):=rZ.b N (rZ.l3 N N) a0
abbrev sf.oM:=aA→kf→bF→Int→Int→Option aA
def sf.xE(xT:sf.oM)(x2:aA)(x3:kf)(fX:bF)(jQ jn:Int):Option aA:=
 cond (bu jn jQ) (cond (c9 jn (ℓ fX)) ((F8 N (γ fX jn.toNat eu).2.2.1).bind λr3=>cond (small (ℓ x3+ℓ ([r3]))) (xT x2 (x3++([r3])) fX jQ (W .i64 (jn+1))) none) none) ((rZ N x3).bind λr6=>some r6.1)
def sf.l5(N:Nat):Nat→sf.oM
 |0,_,_,_,_,_=>none
 |n+1,x2,x3,fX,jQ,jn=>sf.xE N (sf.l5 N n) x2 x3 fX jQ jn
def sf.b(Bb:sf.oM)(a0:bF):Option aA:=
 (sb N a0).bind λr1=>cond (!r1) (some cO) (Bb cO ([]) a0 (ℓ a0) 0)
def sf(a0:bF):Option aA:=sf.b N (sf.l5 N N) a0
def Ou(N:Nat)(a0 a1:aA):Option Int:=
 cond (bu a0.1 a1.1) (some (-1)) (cond (cg a0.1 a1.1) (cond (bu a0.2.1 a1.2.1) (some (-1)) (cond (kW (.pair (.int .i64) (.pair (.int .u64) .unit)) a0 a1) (some 0) (some 1))) (cond (kW (.pair (.int .i64) (.pair (.int .u64) .unit)) a0 a1) (some 0) (some 1)))
def MO(a0:aA):Option Int:=
 (Ou N a0 cO).bind λr1=>some r1
def Qn(N:Nat)(a0 a1:Int):Option Bool:=
 cond (dK 0 a0) (cond (dK a0 24) (cond (dK 0 a1) (some (bu a1 6)) (some false)) (some false)) (some false)
def Ot(N:Nat)(a0:Int):Option Bool:=
 some (!cg a0 (-9223372036854775808))
def Sa(N:Nat)(a0 a1:Int)(a2:zN):Option Int:=
 cond (!cg a0 a2.1) (some (W .i64 (a0-a2.1))) (some (W .i64 (a1-a2.2.1)))
abbrev q8.dI:=bF→bF→Int→Int→Option Bool
def q8.jg(iB:q8.dI)(x0 x5:bF)(x6 x7:Int):Option Bool:=
 cond (bu x7 x6) (cond (c9 x7 (ℓ x5)) ((Qn N (γ x5 x7.toNat eu).1 (γ x5 x7.toNat eu).2.1).bind λr2=>cond (!r2) (some false) (cond (cg (γ x5 x7.toNat eu).2.2.1 0) (some false) ((Ot N (γ x5 x7.toNat eu).2.2.1).bind λr3=>cond (!r3) (some false) (cond (bu 0 x7) (let v4:Int:=W .i64 (x7-1);cond (c9 v4 (ℓ x0)) ((Sa N (γ x5 x7.toNat eu).1 (γ x5 x7.toNat eu).2.1 (γ x0 v4.toNat eu)).bind λr5=>cond (dK r5 0) (some false) (iB x0 x5 x6 (W .i64 (x7+1)))) none) (iB x0 x5 x6 (W .i64 (x7+1))))))) none) (some true)
def q8.l2(N:Nat):Nat→q8.dI
 |0,_,_,_,_=>none
 |n+1,x0,x5,x6,x7=>q8.jg N (q8.l2 N n) x0 x5 x6 x7
def q8.b(N:Nat)(mf:q8.dI)(a0:bF):Option Bool:=
 mf a0 a0 (ℓ a0) 0
def q8(a0:bF):Option Bool:=q8.b N (q8.l2 N N) a0
abbrev sg.oM:=Int→aA→kf→bF→Int→Int→Option aA
def sg.xE(xT:sg.oM)(x1:Int)(x4:aA)(x5:kf)(jn:bF)(dB mI:Int):Option aA:=
 cond (bu mI dB) (cond (c9 mI (ℓ jn)) (cond (cg (γ jn mI.toNat eu).2.1 x1) ((F8 N (γ jn mI.toNat eu).2.2.1).bind λr3=>cond (small (ℓ x5+ℓ ([r3]))) (xT x1 x4 (x5++([r3])) jn dB (W .i64 (mI+1))) none) (xT x1 x4 x5 jn dB (W .i64 (mI+1)))) none) ((rZ N x5).bind λr7=>some r7.1)
def sg.l5(N:Nat):Nat→sg.oM
 |0,_,_,_,_,_,_=>none
 |n+1,x1,x4,x5,jn,dB,mI=>sg.xE N (sg.l5 N n) x1 x4 x5 jn dB mI
def sg.b(Bb:sg.oM)(a0:bF)(a1:Int):Option aA:=
 (q8 N a0).bind λr1=>cond (!r1) (some cO) (Bb a1 cO ([]) a0 (ℓ a0) 0)
def sg(a0:bF)(a1:Int):Option aA:=sg.b N (sg.l5 N N) a0 a1
abbrev sF.dI:=bF→Int→Option Bool
def sF.jg(iB:sF.dI)(x0:bF)(x4:Int):Option Bool:=
 cond (bu x4 6) ((sg N x0 x4).bind λr2=>(MO N r2).bind λr3=>cond (!cg r3 0) (some false) (iB x0 (W .i64 (x4+1)))) ((q8 N x0).bind λr5=>some r5)
def sF.l2(N:Nat):Nat→sF.dI
 |0,_,_=>none
 |n+1,x0,x4=>sF.jg N (sF.l2 N n) x0 x4
def sF.b(N:Nat)(mf:sF.dI)(a0:bF):Option Bool:=
 mf a0 0
def sF(a0:bF):Option Bool:=sF.b N (sF.l2 N N) a0
def Qo(N:Nat)(a0:Fp):Option Bool:=
 cond (dK 1 a0.1) (cond (dK a0.1 1099511627776) (cond (dK 1 a0.2.1) (cond (dK a0.2.1 24) (cond (dK 0 a0.2.2.1) (cond (bu a0.2.2.1 6) (cond (cg a0.2.2.2.1 1) (cond (dK 1 a0.2.2.2.2.1) (cond (dK a0.2.2.2.2.1 1000000000) (cond (dK 1 a0.2.2.2.2.2.1) (some (dK a0.2.2.2.2.2.1 1000000000000)) (some false)) (some false)) (some false)) (cond (cg a0.2.2.2.1 2) (cond (dK 1 a0.2.2.2.2.1) (cond (dK a0.2.2.2.2.1 1000000000) (cond (dK 1 a0.2.2.2.2.2.1) (some (dK a0.2.2.2.2.2.1 1000000000000)) (some false)) (some false)) (some false)) (some false))) (some false)) (some false)) (some false)) (some false)) (some false)) (some false)
abbrev sD.dI:=qj→qj→Int→Int→Option Bool
def sD.jg(iB:sD.dI)(x0 x5:qj)(x6 x7:Int):Option Bool:=
 cond (bu x7 x6) (cond (c9 x7 (ℓ x5)) ((Qo N (γ x5 x7.toNat Au)).bind λr2=>cond (!r2) (some false) (cond (bu 0 x7) (let v3:Int:=W .i64 (x7-1);cond (c9 v3 (ℓ x0)) (cond (dK (γ x5 x7.toNat Au).1 (γ x0 v3.toNat Au).1) (some false) (iB x0 x5 x6 (W .i64 (x7+1)))) none) (iB x0 x5 x6 (W .i64 (x7+1))))) none) (some (dK (ℓ x0) 32))
def sD.l2(N:Nat):Nat→sD.dI
 |0,_,_,_,_=>none
 |n+1,x0,x5,x6,x7=>sD.jg N (sD.l2 N n) x0 x5 x6 x7
def sD.b(N:Nat)(mf:sD.dI)(a0:qj):Option Bool:=
 mf a0 a0 (ℓ a0) 0
def sD(a0:qj):Option Bool:=sD.b N (sD.l2 N N) a0
abbrev se.cZ:=Int→vW→cz→Int→Int→Option (vW×(Bool))
def se.gN(N:Nat)(eQ:se.cZ)(x1:Int)(x4:vW)(fX:cz)(jQ jn:Int):Option (vW×(Bool)):=
 cond (bu jn jQ) (cond (c9 jn (ℓ fX)) (cond (cg (γ fX jn.toNat bC).1 x1) (some (γ fX jn.toNat bC,true)) (eQ x1 x4 fX jQ (W .i64 (jn+1)))) none) (some (bC,false))
def se.l4(N:Nat):Nat→se.cZ
 |0,_,_,_,_,_=>none
 |n+1,x1,x4,fX,jQ,jn=>se.gN N (se.l4 N n) x1 x4 fX jQ jn
def se.b(kg:se.cZ)(a0:cz)(a1:Int):Option (vW×(Bool)):=
 (oP N a0).bind λr1=>cond (!r1) (some (bC,false)) (kg a1 bC a0 (ℓ a0) 0)
def se(a0:cz)(a1:Int):Option (vW×(Bool)):=se.b N (se.l4 N N) a0 a1
def MP(a0:ch)(a1:Int):Option Bool:=
 (se N a0.2.1 a1).bind λr1=>some r1.2
def Qp(N:Nat)(a0:Int):Option Bool:=
 cond (dK 1 a0) (some (dK a0 1000000000000)) (some false)
def Qq(a0:Int):Option Bool:=
 (Qp N a0).bind λr1=>some (!r1)
abbrev vz.dI:=(List Int)→Unit→Int→Int→Option Int
def vz.jg(iB:vz.dI)(x0:List Int)(x1:Unit)(x7 x8:Int):Option Int:=
 cond (bu x8 x7) (cond (c9 x8 (ℓ x0)) ((Qq N (γ x0 x8.toNat 0)).bind λr2=>cond (r2) (some x8) (iB x0 () x7 (W .i64 (x8+1)))) none) (some (-1))
def vz.l2(N:Nat):Nat→vz.dI
 |0,_,_,_,_=>none
 |n+1,x0,x1,x7,x8=>vz.jg N (vz.l2 N n) x0 x1 x7 x8
def vz.b(N:Nat)(mf:vz.dI)(a0:List Int)(a1:Unit):Option Int:=
 mf a0 () (ℓ a0) 0
def vz(a0:List Int)(a1:Unit):Option Int:=vz.b N (vz.l2 N N) a0 a1
def Qr(a0:List Int)(a1:Unit):Option Bool:=
 (vz N a0 ()).bind λr1=>some (dK 0 r1)
abbrev fi.Gd:=al→ch→qj→Int→Int→Option Bool
abbrev fi.Ge:=al→ch→bF→Int→Int→Option Bool
abbrev fi.cZ:=al→ch→bF→Int→Int→Option Bool
def fi.H8(OE:fi.Gd)(x2:al)(x3:ch)(DA:qj)(Iv Bc:Int):Option Bool:=
 cond (bu Bc Iv) (cond (c9 Bc (ℓ DA)) ((MP N x3 (γ DA Bc.toNat Au).2.1).bind λWI=>cond (!WI) (some false) (cond (dK (ℓ x2.1) (γ DA Bc.toNat Au).2.2.1) (some false) (OE x2 x3 DA Iv (W .i64 (Bc+1))))) none) ((Qr N x3.2.2.2.2.1 ()).bind λWJ=>some (!WJ))
def fi.H6(N:Nat):Nat→fi.Gd
 |0,_,_,_,_,_=>none
 |n+1,x2,x3,DA,Iv,Bc=>fi.H8 N (fi.H6 N n) x2 x3 DA Iv Bc
def fi.H7(OF:fi.Gd)(Jg:fi.Ge)(x2:al)(x3:ch)(Iw:bF)(vn sm:Int):Option Bool:=
 cond (bu sm vn) (cond (c9 sm (ℓ Iw)) (cond (!cg (γ Iw sm.toNat eu).1 0) ((MP N x3 (γ Iw sm.toNat eu).1).bind λQC=>cond (!QC) (some false) (cond (dK (ℓ x2.1) (γ Iw sm.toNat eu).2.1) (some false) (Jg x2 x3 Iw vn (W .i64 (sm+1))))) (cond (dK (ℓ x2.1) (γ Iw sm.toNat eu).2.1) (some false) (Jg x2 x3 Iw vn (W .i64 (sm+1))))) none) (OF x2 x3 x3.2.2.2.2.2.1 (ℓ x3.2.2.2.2.2.1) 0)
def fi.H5(N:Nat):Nat→fi.Ge
 |0,_,_,_,_,_=>none
 |n+1,x2,x3,Iw,vn,sm=>fi.H7 N (fi.H6 N N) (fi.H5 N n) x2 x3 Iw vn sm
def fi.gN(OG:fi.Ge)(eQ:fi.cZ)(x2:al)(x3:ch)(DB:bF)(Le B7:Int):Option Bool:=
 cond (bu B7 Le) (cond (c9 B7 (ℓ DB)) (cond (cg (γ DB B7.toNat eu).1 5) ((MP N x3 (γ DB B7.toNat eu).2.1).bind λr9=>cond (!r9) (some false) (eQ x2 x3 DB Le (W .i64 (B7+1)))) (cond (cg (γ DB B7.toNat eu).1 6) ((qC N x3.1 (γ DB B7.toNat eu).2.1).bind λLd=>cond (cg Ld 0) (some false) (eQ x2 x3 DB Le (W .i64 (B7+1)))) (cond (cg (γ DB B7.toNat eu).1 7) ((qC N x3.1 (γ DB B7.toNat eu).2.1).bind λWK=>cond (cg WK 0) (some false) (eQ x2 x3 DB Le (W .i64 (B7+1)))) (eQ x2 x3 DB Le (W .i64 (B7+1)))))) none) (OG x2 x3 x3.2.2.2.1 (ℓ x3.2.2.2.1) 0)
def fi.l4(N:Nat):Nat→fi.cZ
 |0,_,_,_,_,_=>none
 |n+1,x2,x3,DB,Le,B7=>fi.gN N (fi.H5 N N) (fi.l4 N n) x2 x3 DB Le B7
def fi.b(kg:fi.cZ)(a0:al)(a1:ch):Option Bool:=
 (q6 N a0).bind λr1=>cond (!r1) (some false) ((sE N a1.1 a1.2.1).bind λr2=>cond (!r2) (some false) ((sb N a1.2.2.1).bind λr3=>cond (!r3) (some false) ((sf N a1.2.2.1).bind λr4=>(MO N r4).bind λr5=>cond (!cg r5 0) (some false) ((sF N a1.2.2.2.1).bind λr6=>cond (!r6) (some false) ((sD N a1.2.2.2.2.2.1).bind λr7=>cond (!r7) (some false) (cond (!cg (ℓ a1.2.2.2.2.1) (ℓ a0.1)) (some false) (kg a0 a1 a1.2.2.1 (ℓ a1.2.2.1) 0)))))))
def fi(a0:al)(a1:ch):Option Bool:=fi.b N (fi.l4 N N) a0 a1
abbrev sh.oM:=Int→aH→bF→Int→Int→Option aH
def sh.xE(N:Nat)(xT:sh.oM)(x1:Int)(x5:aH)(ey:bF)(fX jQ:Int):Option aH:=
 cond (bu jQ fX) (cond (c9 jQ (ℓ ey)) (cond (cg (γ ey jQ.toNat eu).1 x1) (cond (small (ℓ x5+ℓ ([((γ ey jQ.toNat eu).2.1,((γ ey jQ.toNat eu).2.2.1,()))]))) (xT x1 (x5++([((γ ey jQ.toNat eu).2.1,((γ ey jQ.toNat eu).2.2.1,()))])) ey fX (W .i64 (jQ+1))) none) (xT x1 x5 ey fX (W .i64 (jQ+1)))) none) (some x5)
def sh.l5(N:Nat):Nat→sh.oM
 |0,_,_,_,_,_=>none
 |n+1,x1,x5,ey,fX,jQ=>sh.xE N (sh.l5 N n) x1 x5 ey fX jQ
def sh.b(Bb:sh.oM)(a0:bF)(a1:Int):Option aH:=
 (q8 N a0).bind λr1=>cond (!r1) (some ([])) (Bb a1 ([]) a0 (ℓ a0) 0)
def sh(a0:bF)(a1:Int):Option aH:=sh.b N (sh.l5 N N) a0 a1
def I7(N:Nat)(a0:Int):Option Int:=
 cond (bu a0 0) (some (W .u64 (0-(W .u64 a0)))) (some (W .u64 a0))
def Qt(a0 a1:aA):Option (aA×(Bool)):=
 (jE N a0.2.1 a1.2.1 0).bind λr1=>(jE N (W .u64 a0.1) (W .u64 a1.1) r1.2).bind λr4=>let v5:Int:=W .i64 r4.1;cond (kW .bool (bu a0.1 0) (bu a1.1 0)) (cond (!(kW .bool (bu v5 0) (bu a0.1 0))) (some (cO,false)) (some ((v5,(r1.1,())),true))) (some ((v5,(r1.1,())),true))
def Oc(N:Nat)(a0 a1:Int):Option ((Int)×(Int)):=
 let v1:Int:=ik .and .u64 a0 4294967295;cond (bu 32 0) none (let v2:Int:=shr .u64 a0 32;let v3:Int:=ik .and .u64 a1 4294967295;cond (bu 32 0) none (let v4:Int:=shr .u64 a1 32;cond (bu 32 0) none (let v8:Int:=W .u64 ((W .u64 (v2*v3))+(shr .u64 (W .u64 (v1*v3)) 32));cond (bu 32 0) none (cond (bu 32 0) none (some ((W .u64 ((W .u64 ((W .u64 (v2*v4))+(shr .u64 v8 32)))+(shr .u64 (W .u64 ((ik .and .u64 v8 4294967295)+(W .u64 (v1*v4)))) 32))),(W .u64 (a0*a1))))))))
def Qd(a0 a1:Int):Option ((Int)×(Int)):=
 (Oc N a0 a1).bind λr1=>some (r1.1,r1.2)
abbrev uH.Lf:=Int→Int→aA→Option (aA×(Bool))
def uH.KN(x1 x2:Int)(x6:aA):Option (aA×(Bool)):=
 (jF N 0 x2 0).bind λr3=>(jF N 0 x1 r3.2).bind λr4=>some (((W .i64 r4.1),(r3.1,())),true)
def uH.j7(x1 x2:Int)(x6:aA):Option (aA×(Bool)):=uH.KN N x1 x2 x6
def uH.b(N:Nat)(Gf:uH.Lf)(a0:Bool)(a1 a2:Int):Option (aA×(Bool)):=
 cond (!a0) (cond (dK 9223372036854775808 a1) (some (cO,false)) (some (((W .i64 a1),(a2,())),true))) (cond (bu 9223372036854775808 a1) (some (cO,false)) (cond (cg a1 9223372036854775808) (cond (bu 0 a2) (some (cO,false)) (Gf a1 a2 cO)) (Gf a1 a2 cO)))
def uH(a0:Bool)(a1 a2:Int):Option (aA×(Bool)):=uH.b N (uH.j7 N) a0 a1 a2
def MM(a0 a1:Int):Option aA:=
 (I7 N a0).bind λr1=>(I7 N a1).bind λr2=>(Oc N r1 r2).bind λr3=>(uH N (!(kW .bool (bu a0 0) (bu a1 0))) r3.1 r3.2).bind λr4=>some r4.1
abbrev F5.cZ:=Int→aA→Int→Option Int
def F5.gN(eQ:F5.cZ)(x1:Int)(x2:aA)(x5:Int):Option Int:=
 cond (bu x5 3) ((MM N x5 x1).bind λr3=>(Ou N r3 x2).bind λr4=>cond (bu r4 0) (eQ x1 x2 (W .i64 (x5+1))) (some x5)) (some x5)
def F5.l4(N:Nat):Nat→F5.cZ
 |0,_,_,_=>none
 |n+1,x1,x2,x5=>F5.gN N (F5.l4 N n) x1 x2 x5
def F5.b(kg:F5.cZ)(a0:aA)(a1:Int):Option Int:=
 (MO N a0).bind λr1=>cond (bu r1 1) (some 0) (cond (bu a1 1) (some 0) (kg a1 a0 1))
def F5(a0:aA)(a1:Int):Option Int:=F5.b N (F5.l4 N N) a0 a1
def Sf(N:Nat)(a0:Int):Option Bool:=
 some (bu a0 0)
abbrev jx.dI:=(List Int)→Unit→Int→Int→Option Int
def jx.jg(iB:jx.dI)(x0:List Int)(x1:Unit)(x7 x8:Int):Option Int:=
 cond (bu x8 x7) (cond (c9 x8 (ℓ x0)) ((Sf N (γ x0 x8.toNat 0)).bind λr2=>cond (r2) (some x8) (iB x0 () x7 (W .i64 (x8+1)))) none) (some (-1))
def jx.l2(N:Nat):Nat→jx.dI
 |0,_,_,_,_=>none
 |n+1,x0,x1,x7,x8=>jx.jg N (jx.l2 N n) x0 x1 x7 x8
def jx.b(N:Nat)(mf:jx.dI)(a0:List Int)(a1:Unit):Option Int:=
 mf a0 () (ℓ a0) 0
def jx(a0:List Int)(a1:Unit):Option Int:=jx.b N (jx.l2 N N) a0 a1
def K6(a0:List Int)(a1:Unit):Option Bool:=
 (jx N a0 ()).bind λr1=>some (dK 0 r1)
def Qu(a0:List Int):Option Bool:=
 cond (dK (ℓ a0) 64) ((K6 N a0 ()).bind λr1=>some (!r1)) (some false)
abbrev uI.g7:=Int→Int→(List Int)→Int→Int→Option ((Int)×(Bool))
def uI.wH(fC:uI.g7)(x4 x5:Int)(dJ:List Int)(ey fX:Int):Option ((Int)×(Bool)):=
 cond (bu fX ey) (cond (c9 fX (ℓ dJ)) ((jE N x5 (W .u64 (γ dJ fX.toNat 0)) 0).bind λr3=>cond (bu 63 0) none (fC (W .i64 ((W .i64 (x4+(shr .i64 (γ dJ fX.toNat 0) 63)))+(W .i64 r3.2))) r3.1 dJ ey (W .i64 (fX+1)))) none) (cond (bu 63 0) none (cond (!cg x4 (shr .i64 (W .i64 x5) 63)) (some (0,false)) (some ((W .i64 x5),true))))
def uI.l3(N:Nat):Nat→uI.g7
 |0,_,_,_,_,_=>none
 |n+1,x4,x5,dJ,ey,fX=>uI.wH N (uI.l3 N n) x4 x5 dJ ey fX
def uI.b(N:Nat)(xS:uI.g7)(a0:List Int):Option ((Int)×(Bool)):=
 xS 0 0 a0 (ℓ a0) 0
def uI(a0:List Int):Option ((Int)×(Bool)):=uI.b N (uI.l3 N N) a0
def Qj(a0:aA):Option ((Int)×(Int)):=
 cond (dK 0 a0.1) (some ((W .u64 a0.1),a0.2.1)) ((jF N 0 a0.2.1 0).bind λr2=>(jF N 0 (W .u64 a0.1) r2.2).bind λr4=>some (r4.1,r2.1))
abbrev oO.Lf:=Int→Int→Option Int
abbrev oO.Sm:=Int→Int→Option Int
def oO.KN(N:Nat)(x0 x2:Int):Option Int:=
 cond (dK 256 x0) (cond (bu 8 0) none (let v8:Int:=W .u8 (shr .u64 x0 8);cond (c9 v8 (ByteArray.size (strOf [0,1,2,2,3,3,3,3,4,4,4,4,4,4,4,4,5,5,5,5,5,5,5,5,5,5,5,5,5,5,5,5,6,6,6,6,6,6,6,6,6,6,6,6,6,6,6,6,6,6,6,6,6,6,6,6,6,6,6,6,6,6,6,6,7,7,7,7,7,7,7,7,7,7,7,7,7,7,7,7,7,7,7,7,7,7,7,7,7,7,7,7,7,7,7,7,7,7,7,7,7,7,7,7,7,7,7,7,7,7,7,7,7,7,7,7,7,7,7,7,7,7,7,7,7,7,7,7,8,8,8,8,8,8,8,8,8,8,8,8,8,8,8,8,8,8,8,8,8,8,8,8,8,8,8,8,8,8,8,8,8,8,8,8,8,8,8,8,8,8,8,8,8,8,8,8,8,8,8,8,8,8,8,8,8,8,8,8,8,8,8,8,8,8,8,8,8,8,8,8,8,8,8,8,8,8,8,8,8,8,8,8,8,8,8,8,8,8,8,8,8,8,8,8,8,8,8,8,8,8,8,8,8,8,8,8,8,8,8,8,8,8,8,8,8,8,8,8,8,8,8,8,8,8,8,8]))) (some (W .i64 ((W .i64 (x2+8))+(W .i64 (((strOf [0,1,2,2,3,3,3,3,4,4,4,4,4,4,4,4,5,5,5,5,5,5,5,5,5,5,5,5,5,5,5,5,6,6,6,6,6,6,6,6,6,6,6,6,6,6,6,6,6,6,6,6,6,6,6,6,6,6,6,6,6,6,6,6,7,7,7,7,7,7,7,7,7,7,7,7,7,7,7,7,7,7,7,7,7,7,7,7,7,7,7,7,7,7,7,7,7,7,7,7,7,7,7,7,7,7,7,7,7,7,7,7,7,7,7,7,7,7,7,7,7,7,7,7,7,7,7,7,8,8,8,8,8,8,8,8,8,8,8,8,8,8,8,8,8,8,8,8,8,8,8,8,8,8,8,8,8,8,8,8,8,8,8,8,8,8,8,8,8,8,8,8,8,8,8,8,8,8,8,8,8,8,8,8,8,8,8,8,8,8,8,8,8,8,8,8,8,8,8,8,8,8,8,8,8,8,8,8,8,8,8,8,8,8,8,8,8,8,8,8,8,8,8,8,8,8,8,8,8,8,8,8,8,8,8,8,8,8,8,8,8,8,8,8,8,8,8,8,8,8,8,8,8,8,8,8]).data.getD v8.toNat 0).toNat:Int))))) none)) (let v11:Int:=W .u8 x0;cond (c9 v11 (ByteArray.size (strOf [0,1,2,2,3,3,3,3,4,4,4,4,4,4,4,4,5,5,5,5,5,5,5,5,5,5,5,5,5,5,5,5,6,6,6,6,6,6,6,6,6,6,6,6,6,6,6,6,6,6,6,6,6,6,6,6,6,6,6,6,6,6,6,6,7,7,7,7,7,7,7,7,7,7,7,7,7,7,7,7,7,7,7,7,7,7,7,7,7,7,7,7,7,7,7,7,7,7,7,7,7,7,7,7,7,7,7,7,7,7,7,7,7,7,7,7,7,7,7,7,7,7,7,7,7,7,7,7,8,8,8,8,8,8,8,8,8,8,8,8,8,8,8,8,8,8,8,8,8,8,8,8,8,8,8,8,8,8,8,8,8,8,8,8,8,8,8,8,8,8,8,8,8,8,8,8,8,8,8,8,8,8,8,8,8,8,8,8,8,8,8,8,8,8,8,8,8,8,8,8,8,8,8,8,8,8,8,8,8,8,8,8,8,8,8,8,8,8,8,8,8,8,8,8,8,8,8,8,8,8,8,8,8,8,8,8,8,8,8,8,8,8,8,8,8,8,8,8,8,8,8,8,8,8,8,8]))) (some (W .i64 (x2+(W .i64 (((strOf [0,1,2,2,3,3,3,3,4,4,4,4,4,4,4,4,5,5,5,5,5,5,5,5,5,5,5,5,5,5,5,5,6,6,6,6,6,6,6,6,6,6,6,6,6,6,6,6,6,6,6,6,6,6,6,6,6,6,6,6,6,6,6,6,7,7,7,7,7,7,7,7,7,7,7,7,7,7,7,7,7,7,7,7,7,7,7,7,7,7,7,7,7,7,7,7,7,7,7,7,7,7,7,7,7,7,7,7,7,7,7,7,7,7,7,7,7,7,7,7,7,7,7,7,7,7,7,7,8,8,8,8,8,8,8,8,8,8,8,8,8,8,8,8,8,8,8,8,8,8,8,8,8,8,8,8,8,8,8,8,8,8,8,8,8,8,8,8,8,8,8,8,8,8,8,8,8,8,8,8,8,8,8,8,8,8,8,8,8,8,8,8,8,8,8,8,8,8,8,8,8,8,8,8,8,8,8,8,8,8,8,8,8,8,8,8,8,8,8,8,8,8,8,8,8,8,8,8,8,8,8,8,8,8,8,8,8,8,8,8,8,8,8,8,8,8,8,8,8,8,8,8,8,8,8,8]).data.getD v11.toNat 0).toNat:Int))))) none)
def oO.j7(x0 x2:Int):Option Int:=oO.KN N x0 x2
def oO.RQ(N:Nat)(Gf:oO.Lf)(x0 x2:Int):Option Int:=
 cond (dK 65536 x0) (cond (bu 16 0) none (Gf (shr .u64 x0 16) (W .i64 (x2+16)))) (Gf x0 x2)
def oO.j4(x0 x2:Int):Option Int:=oO.RQ N (oO.j7 N) x0 x2
def oO.b(N:Nat)(OH:oO.Sm)(a0:Int):Option Int:=
 cond (dK 4294967296 a0) (cond (bu 32 0) none (OH (shr .u64 a0 32) 32)) (OH a0 0)
def oO(a0:Int):Option Int:=oO.b N (oO.j4 N) a0
def Qe(a0:Int):Option Int:=
 (oO N a0).bind λr1=>some (W .i64 (64-r1))
abbrev eO.OI:=Int→Int→Int→Int→Int→Int→Option ((Int)×(Int))
abbrev eO.Gg:=Int→Int→Int→Int→Int→Int→Int→Int→Int→Option ((Int)×(Int))
abbrev eO.OJ:=Int→Int→Int→Int→Int→Int→Int→Int→Option ((Int)×(Int))
abbrev eO.Gh:=Int→Int→Int→Int→Int→Int→Int→Int→Int→Option ((Int)×(Int))
def eO.KT(N:Nat)(x2 x8:Int)(jn dB:Int)(fZ wZ:Int):Option ((Int)×(Int)):=
 cond (bu x8 0) none (some ((W .u64 ((W .u64 (dB*4294967296))+wZ)),(shr .u64 (W .u64 ((W .u64 ((W .u64 (fZ*4294967296))+jn))-(W .u64 (wZ*x2)))) x8)))
def eO.I9(x2 x8:Int)(jn dB:Int)(fZ wZ:Int):Option ((Int)×(Int)):=eO.KT N x2 x8 jn dB fZ wZ
def eO.KR(N:Nat)(Gi:eO.OI)(Jh:eO.Gg)(x2 x8:Int)(x9 dJ:Int)(jn dB:Int)(mI fZ wZ:Int):Option ((Int)×(Int)):=
 cond (dK 4294967296 wZ) (let v30:Int:=W .u64 (wZ-1);let OK:Int:=W .u64 (mI+x9);cond (dK 4294967296 OK) (Gi x2 x8 jn dB fZ v30) (Jh x2 x8 x9 dJ jn dB OK fZ v30)) (cond (bu (W .u64 ((W .u64 (4294967296*mI))+jn)) (W .u64 (wZ*dJ))) (let TS:Int:=W .u64 (wZ-1);let TT:Int:=W .u64 (mI+x9);cond (dK 4294967296 TT) (Gi x2 x8 jn dB fZ TS) (Jh x2 x8 x9 dJ jn dB TT fZ TS)) (Gi x2 x8 jn dB fZ wZ))
def eO.KQ(N:Nat):Nat→eO.Gg
 |0,_,_,_,_,_,_,_,_,_=>none
 |n+1,x2,x8,x9,dJ,jn,dB,mI,fZ,wZ=>eO.KR N (eO.I9 N) (eO.KQ N n) x2 x8 x9 dJ jn dB mI fZ wZ
def eO.KS(N:Nat)(OL:eO.Gg)(x2 x8:Int)(x9 dJ:Int)(ey jQ:Int)(jn dB:Int):Option ((Int)×(Int)):=
 let Sn:Int:=W .u64 ((W .u64 ((W .u64 (ey*4294967296))+jQ))-(W .u64 (dB*x2)));cond (cg x9 0) none (let TU:Int:=W .u64 (quo Sn x9);OL x2 x8 x9 dJ jn dB (W .u64 (Sn-(W .u64 (TU*x9)))) Sn TU)
def eO.I8(x2 x8:Int)(x9 dJ:Int)(ey jQ:Int)(jn dB:Int):Option ((Int)×(Int)):=eO.KS N (eO.KQ N N) x2 x8 x9 dJ ey jQ jn dB
def eO.KP(N:Nat)(Gj:eO.OJ)(Ji:eO.Gh)(x2 x8:Int)(x9 dJ:Int)(ey jQ:Int)(jn dB mI:Int):Option ((Int)×(Int)):=
 cond (dK 4294967296 dB) (let TV:Int:=W .u64 (dB-1);let v20:Int:=W .u64 (mI+x9);cond (dK 4294967296 v20) (Gj x2 x8 x9 dJ ey jQ jn TV) (Ji x2 x8 x9 dJ ey jQ jn TV v20)) (cond (bu (W .u64 ((W .u64 (4294967296*mI))+jQ)) (W .u64 (dB*dJ))) (let TW:Int:=W .u64 (dB-1);let TX:Int:=W .u64 (mI+x9);cond (dK 4294967296 TX) (Gj x2 x8 x9 dJ ey jQ jn TW) (Ji x2 x8 x9 dJ ey jQ jn TW TX)) (Gj x2 x8 x9 dJ ey jQ jn dB))
def eO.KO(N:Nat):Nat→eO.Gh
 |0,_,_,_,_,_,_,_,_,_=>none
 |n+1,x2,x8,x9,dJ,ey,jQ,jn,dB,mI=>eO.KP N (eO.I8 N) (eO.KO N n) x2 x8 x9 dJ ey jQ jn dB mI
def eO.b(OM:eO.Gh)(a0 a1 a2:Int):Option ((Int)×(Int)):=
 cond (cg a2 0) none (cond (dK a2 a0) none (cond (cg a0 0) (cond (cg a2 0) none (cond (cg a2 0) none (some ((W .u64 (quo a1 a2)),(rem a1 a2))))) ((Qe N a2).bind λr3=>let v4:Int:=W .u64 r3;cond (bu v4 0) none (let v5:Int:=W .u64 (shl .u64 a2 v4);cond (bu 32 0) none (let v6:Int:=shr .u64 v5 32;cond (bu v4 0) none (let v9:Int:=W .u64 (64-v4);cond (bu v9 0) none (let v11:Int:=ik .or .u64 (W .u64 (shl .u64 a0 v4)) (shr .u64 a1 v9);cond (bu v4 0) none (let ON:Int:=W .u64 (shl .u64 a1 v4);cond (bu 32 0) none (cond (cg v6 0) none (let OO:Int:=W .u64 (quo v11 v6);OM v5 v4 v6 (ik .and .u64 v5 4294967295) v11 (shr .u64 ON 32) (ik .and .u64 ON 4294967295) OO (W .u64 (v11-(W .u64 (OO*v6))))))))))))))
def eO(a0 a1 a2:Int):Option ((Int)×(Int)):=eO.b N (eO.KO N N) a0 a1 a2
abbrev wI.OP:=aA→Int→Int→Int→Option (aA×(Int)×(Bool))
def wI.HT(x4:aA)(dJ ey fX:Int):Option (aA×(Int)×(Bool)):=
 (uH N true dJ fX).bind λLd=>some (Ld.1,(W .i64 ey),true)
def wI.MN(x4:aA)(dJ ey fX:Int):Option (aA×(Int)×(Bool)):=wI.HT N x4 dJ ey fX
def wI.b(Jj:wI.OP)(a0:aA)(a1:Int):Option (aA×(Int)×(Bool)):=
 cond (bu a1 1) (some (cO,0,false)) ((Qj N a0).bind λr1=>let v2:Int:=W .u64 a1;(eO N 0 r1.1 v2).bind λr3=>(eO N r3.2 r1.2 v2).bind λr4=>cond (dK 0 a0.1) (some (((W .i64 r3.1),(r4.1,())),(W .i64 r4.2),true)) (cond (bu 0 r4.2) ((jE N r4.1 1 0).bind λr7=>Jj cO (W .u64 (r3.1+r7.2)) (W .u64 (v2-r4.2)) r7.1) (Jj cO r3.1 r4.2 r4.1)))
def wI(a0:aA)(a1:Int):Option (aA×(Int)×(Bool)):=wI.b N (wI.MN N) a0 a1
def KW(N:Nat)(a0:aA):Option ((Int)×(Bool)):=
 cond (bu 63 0) none (cond (!cg a0.1 (shr .i64 (W .i64 a0.2.1) 63)) (some (0,false)) (some ((W .i64 a0.2.1),true)))
def Se(N:Nat)(a0:List Int):Option (List Int):=
 cond (jD 0 (ℓ a0) (ℓ a0) (ℓ a0)) (some (List.drop (0:Int).toNat (List.take (ℓ a0:Int).toNat a0))) none
abbrev kT.Bd:=(List Int)→(List Int)→Int→Int→Int→Int→Option (List Int)
abbrev kT.g7:=(List Int)→(List Int)→Int→Int→Option (List Int)
def kT.Ja(fC:kT.g7)(Lg:kT.Bd)(x0 x3:List Int)(x4 x5:Int)(dJ ey:Int):Option (List Int):=
 cond (bu 0 x5) (let v4:Int:=W .i64 (x5-1);cond (c9 v4 (ℓ x3)) (cond (c9 (γ x3 v4.toNat 0) (ℓ x0)) (cond (c9 x4 (ℓ x0)) (cond (bu (γ x0 (γ x3 v4.toNat 0).toNat 0) (γ x0 x4.toNat 0)) (Lg x0 x3 x4 (W .i64 (x5-1)) dJ ey) ((lr N x3 x5 ([x4])).bind λr6=>fC x0 r6 dJ (W .i64 (ey+1)))) none) none) none) ((lr N x3 x5 ([x4])).bind λr8=>fC x0 r8 dJ (W .i64 (ey+1)))
def kT.l6(N:Nat)(fC:kT.g7):Nat→kT.Bd
 |0,_,_,_,_,_,_=>none
 |n+1,x0,x3,x4,x5,dJ,ey=>kT.Ja N fC (kT.l6 N fC n) x0 x3 x4 x5 dJ ey
def kT.wH(Lh:kT.Bd)(fC:kT.g7)(x0 x3:List Int)(dJ ey:Int):Option (List Int):=
 cond (bu ey dJ) (Lh x0 x3 ey (ℓ x3) dJ ey) ((Se N x3).bind λLc=>some Lc)
def kT.l3(N:Nat):Nat→kT.g7
 |0,_,_,_,_=>none
 |n+1,x0,x3,dJ,ey=>kT.wH N (kT.l6 N (kT.l3 N n) N) (kT.l3 N n) x0 x3 dJ ey
def kT.b(N:Nat)(xS:kT.g7)(a0:List Int):Option (List Int):=
 cond (gU 0 (ℓ a0)) (xS a0 (List.replicate (0:Int).toNat 0) (ℓ a0) 0) none
def kT(a0:List Int):Option (List Int):=kT.b N (kT.l3 N N) a0
abbrev hZ.mA:=(List Int)→(List Int)→Int→Int→Option ((List Int)×(Int))
abbrev hZ.vo:=Int→Int→(List Int)→(List Int)→Int→(List Int)→Int→Int→Option ((List Int)×(Int))
abbrev hZ.Li:=Int→(List Int)→Int→Option ((List Int)×(Int))
def hZ.z2(N:Nat)(mB:hZ.mA)(x8 Jk:List Int)(QD Ix:Int):Option ((List Int)×(Int)):=
 cond (bu Ix QD) (cond (c9 Ix (ℓ Jk)) (cond (c9 (γ Jk Ix.toNat 0) (ℓ x8)) (cond (c9 (γ Jk Ix.toNat 0) (ℓ x8)) (mB (List.set x8 (γ Jk Ix.toNat 0).toNat (W .i64 ((γ x8 (γ Jk Ix.toNat 0).toNat 0)+1))) Jk QD (W .i64 (Ix+1))) none) none) none) (some (x8,0))
def hZ.xO(N:Nat):Nat→hZ.mA
 |0,_,_,_,_=>none
 |n+1,x8,Jk,QD,Ix=>hZ.z2 N (hZ.xO N n) x8 Jk QD Ix
def hZ.z5(Gk:hZ.mA)(B8:hZ.vo)(x0 x6:Int)(x8 x9:List Int)(dJ:Int)(Gl:List Int)(Ap DR:Int):Option ((List Int)×(Int)):=
 cond (bu DR Ap) (cond (c9 DR (ℓ Gl)) ((MM N x0 (γ Gl DR.toNat 0)).bind λr7=>(wI N r7 x6).bind λr8=>(KW N r8.1).bind λr9=>cond (c9 DR (ℓ x8)) (let v10:List Int:=List.set x8 DR.toNat r9.1;cond (c9 DR (ℓ x9)) (cond (c9 DR (ℓ v10)) (B8 x0 x6 v10 (List.set x9 DR.toNat r8.2.1) (W .i64 (dJ-(γ v10 DR.toNat 0))) Gl Ap (W .i64 (DR+1))) none) none) none) none) ((kT N x9).bind λSo=>cond (jD 0 dJ (ℓ So) (ℓ So)) (let OO:List Int:=List.drop (0:Int).toNat (List.take dJ.toNat So);Gk x8 OO (ℓ OO) 0) none)
def hZ.A2(N:Nat):Nat→hZ.vo
 |0,_,_,_,_,_,_,_,_=>none
 |n+1,x0,x6,x8,x9,dJ,Gl,Ap,DR=>hZ.z5 N (hZ.xO N N) (hZ.A2 N n) x0 x6 x8 x9 dJ Gl Ap DR
def hZ.Jb(N:Nat)(Gm:hZ.vo)(x0:Int)(x1:List Int)(x6:Int):Option ((List Int)×(Int)):=
 cond (gU (ℓ x1) (ℓ x1)) (let v4:List Int:=List.replicate (ℓ x1:Int).toNat 0;cond (gU (ℓ x1) (ℓ x1)) (cond (cg x0 0) (some (v4,0)) (Gm x0 x6 v4 (List.replicate (ℓ x1:Int).toNat 0) x0 x1 (ℓ x1) 0)) none) none
def hZ.j8(x0:Int)(x1:List Int)(x6:Int):Option ((List Int)×(Int)):=hZ.Jb N (hZ.A2 N N) x0 x1 x6
def hZ.b(Gn:hZ.Li)(a0:Int)(a1:List Int):Option ((List Int)×(Int)):=
 cond (bu a0 0) (some ([],1)) ((Qu N a1).bind λr1=>cond (!r1) (some ([],1)) ((uI N a1).bind λr2=>cond (!r2.2) (some ([],2)) (cond (cg r2.1 0) (cond (bu 0 a0) (some ([],1)) (Gn a0 a1 r2.1)) (Gn a0 a1 r2.1))))
def hZ(a0:Int)(a1:List Int):Option ((List Int)×(Int)):=hZ.b N (hZ.j8 N) a0 a1
def Qv(a0 a1:Int):Option ((List Int)×(Int)):=
 cond (bu a0 0) (some ([],1)) (cond (bu a1 1) (some ([],1)) (cond (bu 64 a1) (some ([],1)) ((pB N ([1]) a1).bind λr1=>(hZ N a0 r1).bind λr2=>some (r2.1,r2.2))))
abbrev rf.dI:=aH→al→aH→Int→Int→Option Bool
def rf.jg(iB:rf.dI)(x1:aH)(x2:al)(x7:aH)(x8 x9:Int):Option Bool:=
 cond (bu x9 x8) (cond (c9 x9 (ℓ x7)) (cond (bu (γ x7 x9.toNat cO).1 0) (some false) (cond (dK (ℓ x2.1) (γ x7 x9.toNat cO).1) (some false) (cond (cg (γ x7 x9.toNat cO).2.1 0) (some false) ((Ot N (γ x7 x9.toNat cO).2.1).bind λr2=>cond (!r2) (some false) (cond (bu 0 x9) (let v3:Int:=W .i64 (x9-1);cond (c9 v3 (ℓ x1)) (cond (dK (γ x7 x9.toNat cO).1 (γ x1 v3.toNat cO).1) (some false) (iB x1 x2 x7 x8 (W .i64 (x9+1)))) none) (iB x1 x2 x7 x8 (W .i64 (x9+1)))))))) none) ((q6 N x2).bind λr6=>some r6)
def rf.l2(N:Nat):Nat→rf.dI
 |0,_,_,_,_,_=>none
 |n+1,x1,x2,x7,x8,x9=>rf.jg N (rf.l2 N n) x1 x2 x7 x8 x9
def rf.b(N:Nat)(mf:rf.dI)(a0:al)(a1:aH):Option Bool:=
 mf a1 a0 a1 (ℓ a1) 0
def rf(a0:al)(a1:aH):Option Bool:=rf.b N (rf.l2 N N) a0 a1
def Sb(N:Nat)(a0:vW):Option Int:=
 some a0.2.2.2.1
abbrev sG.oM:=Unit→al→aA→kf→aH→Int→Int→Option (aA×(Int))
def sG.xE(xT:sG.oM)(x2:Unit)(x3:al)(x6:aA)(x8:kf)(wZ:aH)(QE yg:Int):Option (aA×(Int)):=
 cond (bu yg QE) (cond (c9 yg (ℓ wZ)) ((I7 N (γ wZ yg.toNat cO).2.1).bind λr3=>cond (c9 (γ wZ yg.toNat cO).1 (ℓ x3.1)) ((Sb N (γ x3.1 (γ wZ yg.toNat cO).1.toNat bC)).bind λr5=>(MM N (W .i64 r3) r5).bind λr6=>cond (small (ℓ x8+ℓ ([r6]))) (xT () x3 x6 (x8++([r6])) wZ QE (W .i64 (yg+1))) none) none) none) ((rZ N x8).bind λr9=>some (r9.1,0))
def sG.l5(N:Nat):Nat→sG.oM
 |0,_,_,_,_,_,_,_=>none
 |n+1,x2,x3,x6,x8,wZ,QE,yg=>sG.xE N (sG.l5 N n) x2 x3 x6 x8 wZ QE yg
def sG.b(Bb:sG.oM)(a0:al)(a1:aH)(a2:Unit):Option (aA×(Int)):=
 (rf N a0 a1).bind λr1=>cond (!r1) (some (cO,1)) (Bb () a0 cO ([]) a1 (ℓ a1) 0)
def sG(a0:al)(a1:aH)(a2:Unit):Option (aA×(Int)):=sG.b N (sG.l5 N N) a0 a1 a2
def Qs(a0:al)(a1:aH):Option (aA×(Int)):=
 (sG N a0 a1 ()).bind λr1=>some (r1.1,r1.2)
def Si(a0 a1:aA):Option (aA×(Bool)):=
 (jF N a0.2.1 a1.2.1 0).bind λr1=>(jF N (W .u64 a0.1) (W .u64 a1.1) r1.2).bind λr4=>let v5:Int:=W .i64 r4.1;cond (!(kW .bool (bu a0.1 0) (bu a1.1 0))) (cond (!(kW .bool (bu v5 0) (bu a0.1 0))) (some (cO,false)) (some ((v5,(r1.1,())),true))) (some ((v5,(r1.1,())),true))
def Qw(a0:aA):Option (aA×(Bool)):=
 (Si N cO a0).bind λr1=>some (r1.1,r1.2)
abbrev bM.OQ:=Int→al→aH→aX→(List aH)→j2→Int→Int→Int→aH→Int→Int→(List Int)→Int→Int→Option (aX×(Int))
abbrev bM.Ad:=Int→al→aH→aX→(List aH)→j2→Int→aH→Int→Int→(List Int)→Int→Int→Option (aX×(Int))
abbrev bM.Gp:=Int→al→aH→aX→Int→(List aH)→Int→Int→Option (aX×(Int))
abbrev bM.mA:=Int→al→aH→aX→(List aH)→Int→aH→Int→Int→Option (aX×(Int))
abbrev bM.vo:=Int→al→aH→aX→Int→aH→aA→Int→Int→Int→Option (aX×(Int))
abbrev bM.nE:=Int→al→aH→aX→Int→Option (aX×(Int))
def bM.K9(N:Nat)(gR:bM.nE)(mB:bM.mA)(Ae:bM.Ad)(x2:Int)(x3:al)(x8:aH)(x9:aX)(dB:List aH)(fZ:j2)(yg OR og:Int)(vn:aH)(sm yh:Int)(sI:List Int)(vZ oN:Int):Option (aX×(Int)):=
 cond (!cg OR 0) (cond (c9 yg (ℓ dB)) (cond (small (ℓ (γ dB yg.toNat eS)+ℓ ([(fZ.1,(OR,()))]))) (cond (c9 yg (ℓ dB)) (cond (cg (yg.toNat:Nat) (yg.toNat:Nat)) (Ae x2 x3 x8 x9 (List.set dB yg.toNat ((γ dB yg.toNat eS)++([(fZ.1,(OR,()))]))) fZ og vn sm yh sI vZ (W .i64 (oN+1))) none) none) none) none) (Ae x2 x3 x8 x9 dB fZ og vn sm yh sI vZ (W .i64 (oN+1)))
def bM.MR(gR:bM.nE)(mB:bM.mA)(Ae:bM.Ad)(x2:Int)(x3:al)(x8:aH)(x9:aX)(dB:List aH)(fZ:j2)(yg OR og:Int)(vn:aH)(sm yh:Int)(sI:List Int)(vZ oN:Int):Option (aX×(Int)):=bM.K9 N gR mB Ae x2 x3 x8 x9 dB fZ yg OR og vn sm yh sI vZ oN
def bM.Iq(N:Nat)(Jl:bM.OQ)(gR:bM.nE)(mB:bM.mA)(Ae:bM.Ad)(x2:Int)(x3:al)(x8:aH)(x9:aX)(dB:List aH)(fZ:j2)(og:Int)(vn:aH)(sm yh:Int)(sI:List Int)(vZ oN:Int):Option (aX×(Int)):=
 cond (bu oN vZ) (cond (c9 oN (ℓ sI)) (cond (bu fZ.2.1 0) (Jl x2 x3 x8 x9 dB fZ oN (W .i64 (0-(γ sI oN.toNat 0))) og vn sm yh sI vZ oN) (Jl x2 x3 x8 x9 dB fZ oN (γ sI oN.toNat 0) og vn sm yh sI vZ oN)) none) (mB x2 x3 x8 x9 dB og vn sm (W .i64 (yh+1)))
def bM.GN(N:Nat)(gR:bM.nE)(mB:bM.mA):Nat→bM.Ad
 |0,_,_,_,_,_,_,_,_,_,_,_,_,_=>none
 |n+1,x2,x3,x8,x9,dB,fZ,og,vn,sm,yh,sI,vZ,oN=>bM.Iq N (bM.MR N gR mB (bM.GN N gR mB n)) gR mB (bM.GN N gR mB n) x2 x3 x8 x9 dB fZ og vn sm yh sI vZ oN
def bM.It(gR:bM.nE)(Jm:bM.Gp)(x2:Int)(x3:al)(x8:aH)(x9:aX)(og:Int)(xU:List aH)(Gq wa:Int):Option (aX×(Int)):=
 cond (bu wa Gq) (cond (c9 wa (ℓ xU)) (cond (cg (ℓ (γ xU wa.toNat eS):Int) 0) (Jm x2 x3 x8 x9 og xU Gq (W .i64 (wa+1))) ((Qs N x3 (γ xU wa.toNat eS)).bind λWL=>(Qw N WL.1).bind λWM=>(KW N WM.1).bind λSp=>cond (!Sp.2) (some ([],2)) (let OK:Int:=W .i64 (x2+(ℓ x9:Int));cond (small (ℓ x9+ℓ ([(OK,(γ xU wa.toNat eS,(Sp.1,(1,cO))))]))) (Jm x2 x3 x8 (x9++([(OK,(γ xU wa.toNat eS,(Sp.1,(1,cO))))])) og xU Gq (W .i64 (wa+1))) none))) none) (gR x2 x3 x8 x9 (W .i64 (og+1)))
def bM.GO(N:Nat)(gR:bM.nE):Nat→bM.Gp
 |0,_,_,_,_,_,_,_,_=>none
 |n+1,x2,x3,x8,x9,og,xU,Gq,wa=>bM.It N gR (bM.GO N gR n) x2 x3 x8 x9 og xU Gq wa
def bM.z2(OS:bM.Ad)(OT:bM.Gp)(gR:bM.nE)(mB:bM.mA)(x2:Int)(x3:al)(x8:aH)(x9:aX)(dB:List aH)(og:Int)(vn:aH)(sm yh:Int):Option (aX×(Int)):=
 cond (bu yh sm) (cond (c9 yh (ℓ vn)) ((I7 N (γ vn yh.toNat cO).2.1).bind λWN=>(Qv N (W .i64 WN) (ℓ dB)).bind λQC=>OS x2 x3 x8 x9 dB (γ vn yh.toNat cO) og vn sm yh QC.1 (ℓ QC.1) 0) none) (OT x2 x3 x8 x9 og dB (ℓ dB) 0)
def bM.xO(N:Nat)(gR:bM.nE):Nat→bM.mA
 |0,_,_,_,_,_,_,_,_,_=>none
 |n+1,x2,x3,x8,x9,dB,og,vn,sm,yh=>bM.z2 N (bM.GN N gR (bM.xO N gR n) N) (bM.GO N gR N) gR (bM.xO N gR n) x2 x3 x8 x9 dB og vn sm yh
def bM.z5(Gk:bM.mA)(gR:bM.nE)(B8:bM.vo)(x2:Int)(x3:al)(x8:aH)(x9:aX)(dJ:Int)(ey:aH)(fX:aA)(og Gl Ap:Int):Option (aX×(Int)):=
 cond (bu Ap Gl) (cond (c9 Ap (ℓ x8)) (cond (c9 (γ x8 Ap.toNat cO).1 (ℓ x3.1)) (cond (cg (γ x3.1 (γ x8 Ap.toNat cO).1.toNat bC).1 dJ) (cond (small (ℓ ey+ℓ ([γ x8 Ap.toNat cO]))) ((I7 N (γ x8 Ap.toNat cO).2.1).bind λr6=>(F8 N (W .i64 r6)).bind λr8=>(Qt N fX r8).bind λr9=>B8 x2 x3 x8 x9 dJ (ey++([γ x8 Ap.toNat cO])) r9.1 og Gl (W .i64 (Ap+1))) none) (B8 x2 x3 x8 x9 dJ ey fX og Gl (W .i64 (Ap+1)))) none) none) ((F5 N fX x3.2.2.2.2.2.1).bind λLj=>cond (gU Lj Lj) (Gk x2 x3 x8 x9 (List.replicate Lj.toNat eS) og ey (ℓ ey) 0) none)
def bM.A2(N:Nat)(gR:bM.nE):Nat→bM.vo
 |0,_,_,_,_,_,_,_,_,_,_=>none
 |n+1,x2,x3,x8,x9,dJ,ey,fX,og,Gl,Ap=>bM.z5 N (bM.xO N gR N) gR (bM.A2 N gR n) x2 x3 x8 x9 dJ ey fX og Gl Ap
def bM.QA(N:Nat)(Gm:bM.vo)(gR:bM.nE)(x2:Int)(x3:al)(x8:aH)(x9:aX)(og:Int):Option (aX×(Int)):=
 cond (bu og 4) (Gm x2 x3 x8 x9 og ([]) cO og (ℓ x8) 0) (some (x9,0))
def bM.l8(N:Nat):Nat→bM.nE
 |0,_,_,_,_,_=>none
 |n+1,x2,x3,x8,x9,og=>bM.QA N (bM.A2 N (bM.l8 N n) N) (bM.l8 N n) x2 x3 x8 x9 og
def bM.b(Sq:bM.nE)(a0:al)(a1:ch)(a2:Int):Option (aX×(Int)):=
 (fi N a0 a1).bind λr1=>cond (!r1) (some ([],1)) (cond (bu a2 1) (some ([],1)) (cond (bu 1099511627764 a2) (some ([],1)) ((sh N a1.2.2.2.1 0).bind λr2=>cond (cg (ℓ r2) 0) (some ([],3)) (Sq a2 a0 r2 ([]) 0))))
def bM(a0:al)(a1:ch)(a2:Int):Option (aX×(Int)):=bM.b N (bM.l8 N N) a0 a1 a2
abbrev sl.dI:=Int→nG→aX→Int→Int→Option (nG×(Bool))
def sl.jg(N:Nat)(iB:sl.dI)(x1:Int)(x4:nG)(x8:aX)(x9 dJ:Int):Option (nG×(Bool)):=
 cond (bu dJ x9) (cond (c9 dJ (ℓ x8)) (cond (cg (γ x8 dJ.toNat (0,(eS,bC))).1 x1) (cond (small (ℓ (γ x8 dJ.toNat (0,(eS,bC))).2.1)) (some (((γ x8 dJ.toNat (0,(eS,bC))).1,((γ x8 dJ.toNat (0,(eS,bC))).2.1,(γ x8 dJ.toNat (0,(eS,bC))).2.2)),true)) none) (iB x1 x4 x8 x9 (W .i64 (dJ+1)))) none) (some ((0,(eS,bC)),false))
def sl.l2(N:Nat):Nat→sl.dI
 |0,_,_,_,_,_=>none
 |n+1,x1,x4,x8,x9,dJ=>sl.jg N (sl.l2 N n) x1 x4 x8 x9 dJ
def sl.b(N:Nat)(mf:sl.dI)(a0:aX)(a1:Int):Option (nG×(Bool)):=
 mf a1 (0,(eS,bC)) a0 (ℓ a0) 0
def sl(a0:aX)(a1:Int):Option (nG×(Bool)):=sl.b N (sl.l2 N N) a0 a1
abbrev oQ.cZ:=aH→aH→Int→Option Bool
def oQ.gN(N:Nat)(eQ:oQ.cZ)(x0 x1:aH)(x5:Int):Option Bool:=
 cond (bu x5 (ℓ x0)) (cond (c9 x5 (ℓ x0)) (cond (c9 x5 (ℓ x1)) (cond (!(kW (.pair (.int .i64) (.pair (.int .i64) .unit)) (γ x0 x5.toNat cO) (γ x1 x5.toNat cO))) (some false) (eQ x0 x1 (W .i64 (x5+1)))) none) none) (some true)
def oQ.l4(N:Nat):Nat→oQ.cZ
 |0,_,_,_=>none
 |n+1,x0,x1,x5=>oQ.gN N (oQ.l4 N n) x0 x1 x5
def oQ.b(N:Nat)(kg:oQ.cZ)(a0 a1:aH):Option Bool:=
 cond (!cg (ℓ a0) (ℓ a1)) (some false) (kg a0 a1 0)
def oQ(a0 a1:aH):Option Bool:=oQ.b N (oQ.l4 N N) a0 a1
abbrev kX.Li:=aX→al→nG→aX→Int→Int→Option Bool
abbrev kX.cZ:=aX→al→aX→Int→Int→Option Bool
def kX.Jb(N:Nat)(eQ:kX.cZ)(x1:aX)(x2:al)(x6:nG)(dB:aX)(mI fZ:Int):Option Bool:=
 cond (cg x6.2.2.2.1 1) (cond (!cg x6.2.2.2.2.1 0) (some false) (cond (!cg x6.2.2.2.2.2.1 0) (some false) (eQ x1 x2 dB mI (W .i64 (fZ+1))))) (cond (cg x6.2.2.2.1 3) (cond (!cg x6.2.2.2.2.1 0) (some false) (cond (!cg x6.2.2.2.2.2.1 0) (some false) (eQ x1 x2 dB mI (W .i64 (fZ+1))))) (cond (cg x6.2.2.2.1 2) (cond (bu x6.2.2.2.2.1 1) (some false) (cond (bu 12 x6.2.2.2.2.1) (some false) (cond (bu x6.2.2.2.2.2.1 (-1152921504606846976)) (some false) (cond (bu 1152921504606846976 x6.2.2.2.2.2.1) (some false) (eQ x1 x2 dB mI (W .i64 (fZ+1))))))) (some false)))
def kX.j8(eQ:kX.cZ)(x1:aX)(x2:al)(x6:nG)(dB:aX)(mI fZ:Int):Option Bool:=kX.Jb N eQ x1 x2 x6 dB mI fZ
def kX.gN(Gn:kX.Li)(eQ:kX.cZ)(x1:aX)(x2:al)(dB:aX)(mI fZ:Int):Option Bool:=
 cond (bu fZ mI) (cond (c9 fZ (ℓ dB)) (cond (bu (γ dB fZ.toNat (0,(eS,bC))).1 1) (some false) (cond (bu 1099511627776 (γ dB fZ.toNat (0,(eS,bC))).1) (some false) (cond (bu 0 fZ) (let v3:Int:=W .i64 (fZ-1);cond (c9 v3 (ℓ x1)) (cond (dK (γ dB fZ.toNat (0,(eS,bC))).1 (γ x1 v3.toNat (0,(eS,bC))).1) (some false) (cond (cg (ℓ (γ dB fZ.toNat (0,(eS,bC))).2.1:Int) 0) (some false) ((rf N x2 (γ dB fZ.toNat (0,(eS,bC))).2.1).bind λr4=>cond (!r4) (some false) (cond (bu 0 (γ dB fZ.toNat (0,(eS,bC))).2.2.1) (some false) (Gn x1 x2 (γ dB fZ.toNat (0,(eS,bC))) dB mI fZ))))) none) (cond (cg (ℓ (γ dB fZ.toNat (0,(eS,bC))).2.1:Int) 0) (some false) ((rf N x2 (γ dB fZ.toNat (0,(eS,bC))).2.1).bind λr9=>cond (!r9) (some false) (cond (bu 0 (γ dB fZ.toNat (0,(eS,bC))).2.2.1) (some false) (Gn x1 x2 (γ dB fZ.toNat (0,(eS,bC))) dB mI fZ))))))) none) (some true)
def kX.l4(N:Nat):Nat→kX.cZ
 |0,_,_,_,_,_=>none
 |n+1,x1,x2,dB,mI,fZ=>kX.gN N (kX.j8 N (kX.l4 N n)) (kX.l4 N n) x1 x2 dB mI fZ
def kX.b(kg:kX.cZ)(a0:al)(a1:aX):Option Bool:=
 (q6 N a0).bind λr1=>cond (!r1) (some false) (cond (bu 12 (ℓ a1)) (some false) (kg a1 a0 a1 (ℓ a1) 0))
def kX(a0:al)(a1:aX):Option Bool:=kX.b N (kX.l4 N N) a0 a1
def F4:Option Bool:=
 (QB N).bind λr1=>(bM N r1.1 r1.2 5).bind λr2=>(sl N r2.1 7).bind λr3=>(bM N r1.1 (r1.2.1,(r1.2.2.1,(r1.2.2.2.1,(QH,r1.2.2.2.2.2)))) 5).bind λr4=>cond (cg r2.2 0) (cond (cg (ℓ r2.1) 4) (cond (c9 0 (ℓ r2.1)) (cond (cg (γ r2.1 (0:Int).toNat (0,(eS,bC))).1 5) (cond (c9 0 (ℓ r2.1)) ((oQ N (γ r2.1 (0:Int).toNat (0,(eS,bC))).2.1 ([(0,(3,()))])).bind λr5=>cond (r5) (cond (c9 0 (ℓ r2.1)) (cond (cg (γ r2.1 (0:Int).toNat (0,(eS,bC))).2.2.1 (-6)) (cond (c9 0 (ℓ r2.1)) (cond (cg (γ r2.1 (0:Int).toNat (0,(eS,bC))).2.2.2.1 1) (cond (r3.2) ((oQ N r3.1.2.1 ([(0,(2,()))])).bind λr6=>cond (r6) (cond (c9 3 (ℓ r2.1)) ((oQ N (γ r2.1 (3:Int).toNat (0,(eS,bC))).2.1 ([(1,((-2),()))])).bind λr7=>cond (r7) (cond (cg r4.2 3) ((kX N r1.1 r2.1).bind λr8=>cond (r8) ((F8 N 7).bind λr9=>(F5 N r9 3).bind λLc=>cond (cg Lc 3) ((F8 N 6).bind λLd=>(F5 N Ld 3).bind λLj=>some (cg Lj 2)) (some false)) (some false)) (some false)) (some false)) none) (some false)) (some false)) (some false)) none) (some false)) none) (some false)) none) (some false)) none) (some false)) (some false)
abbrev rV.dI:=(List Int)→Int→Option (List Int)
def rV.jg(N:Nat)(iB:rV.dI)(x0:List Int)(x3:Int):Option (List Int):=
 cond (bu 0 x3) (let v2:Int:=W .i64 (x3-1);cond (c9 v2 (ℓ x0)) (cond (cg (γ x0 v2.toNat 0) 0) (iB x0 (W .i64 (x3-1))) (cond (jD 0 x3 x3 (ℓ x0)) (some (List.drop (0:Int).toNat (List.take x3.toNat x0))) none)) none) (cond (jD 0 x3 x3 (ℓ x0)) (some (List.drop (0:Int).toNat (List.take x3.toNat x0))) none)
def rV.l2(N:Nat):Nat→rV.dI
 |0,_,_=>none
 |n+1,x0,x3=>rV.jg N (rV.l2 N n) x0 x3
def rV.b(N:Nat)(mf:rV.dI)(a0:List Int):Option (List Int):=
 mf a0 (ℓ a0:Int)
def rV(a0:List Int):Option (List Int):=rV.b N (rV.l2 N N) a0
def ML(a0:Int):Option (List Int):=
 cond (bu 32 0) none ((rV N ([(ik .and .u64 a0 4294967295),(shr .u64 a0 32)])).bind λr3=>some r3)
def DO(a0:Bool)(a1:List Int):Option bf:=
 (rV N a1).bind λr1=>cond (a0) (some (bu 0 (ℓ r1:Int),(r1,()))) (some (false,(r1,())))
def F9(a0:Int):Option bf:=
 let v1:Int:=W .u64 a0;cond (bu a0 0) ((ML N (W .u64 (0-v1))).bind λr3=>(DO N (bu a0 0) r3).bind λr4=>some r4) ((ML N v1).bind λr5=>(DO N (bu a0 0) r5).bind λr6=>some r6)
def KU(N:Nat)(a0:List Int)(a1:Int):Option Int:=
 cond (bu a1 (ℓ a0)) (cond (c9 a1 (ℓ a0)) (some (γ a0 a1.toNat 0)) none) (some 0)
abbrev fD.Sr:=bf→bf→bf→(List Int)→Int→Int→Int→Option bf
abbrev fD.Gr:=bf→bf→bf→(List Int)→Int→Int→Int→Option bf
abbrev fD.g7:=bf→bf→bf→(List Int)→Int→Option bf
def fD.R4(fC:fD.g7)(Iy:fD.Gr)(x2 x3 x4:bf)(x5:List Int)(x6 x7 x8:Int):Option bf:=
 let v7:Int:=W .i64 (x6+x8);cond (c9 v7 (ℓ x5)) (cond (c9 x6 (ℓ x2.2.1)) ((KU N x3.2.1 x8).bind λr8=>let v11:Int:=W .u64 (x7+(W .u64 ((γ x5 v7.toNat 0)+(W .u64 ((γ x2.2.1 x6.toNat 0)*r8)))));let ON:Int:=W .i64 (x6+x8);cond (c9 ON (ℓ x5)) (cond (bu 32 0) none (Iy x2 x3 x4 (List.set x5 ON.toNat (ik .and .u64 v11 4294967295)) x6 (shr .u64 v11 32) (W .i64 (x8+1)))) none) none) none
def fD.j9(fC:fD.g7)(Iy:fD.Gr)(x2 x3 x4:bf)(x5:List Int)(x6 x7 x8:Int):Option bf:=fD.R4 N fC Iy x2 x3 x4 x5 x6 x7 x8
def fD.R3(N:Nat)(OU:fD.Sr)(fC:fD.g7)(Iy:fD.Gr)(x2 x3 x4:bf)(x5:List Int)(x6 x7 x8:Int):Option bf:=
 cond (bu x8 (ℓ x3.2.1)) (OU x2 x3 x4 x5 x6 x7 x8) (cond (bu 0 x7) (OU x2 x3 x4 x5 x6 x7 x8) (fC x2 x3 x4 x5 (W .i64 (x6+1))))
def fD.l7(N:Nat)(fC:fD.g7):Nat→fD.Gr
 |0,_,_,_,_,_,_,_=>none
 |n+1,x2,x3,x4,x5,x6,x7,x8=>fD.R3 N (fD.j9 N fC (fD.l7 N fC n)) fC (fD.l7 N fC n) x2 x3 x4 x5 x6 x7 x8
def fD.wH(Ss:fD.Gr)(fC:fD.g7)(x2 x3 x4:bf)(x5:List Int)(x6:Int):Option bf:=
 cond (bu x6 (ℓ x2.2.1)) (Ss x2 x3 x4 x5 x6 0 0) ((DO N (!(kW .bool x2.1 x3.1)) x5).bind λWO=>some WO)
def fD.l3(N:Nat):Nat→fD.g7
 |0,_,_,_,_,_=>none
 |n+1,x2,x3,x4,x5,x6=>fD.wH N (fD.l7 N (fD.l3 N n) N) (fD.l3 N n) x2 x3 x4 x5 x6
def fD.b(N:Nat)(xS:fD.g7)(a0 a1:bf):Option bf:=
 let v2:Int:=W .i64 ((W .i64 ((ℓ a0.2.1:Int)+(ℓ a1.2.1:Int)))+1);cond (gU v2 v2) (xS a0 a1 (false,SS) (List.replicate v2.toNat 0) 0) none
def fD(a0 a1:bf):Option bf:=fD.b N (fD.l3 N N) a0 a1
abbrev mu.Su:=(List Int)→(List Int)→(List Int)→Int→Int→Option (List Int)
abbrev mu.cZ:=(List Int)→(List Int)→(List Int)→Int→Int→Option (List Int)
def mu.R1(eQ:mu.cZ)(x0 x1 x5:List Int)(x6 x7:Int):Option (List Int):=
 (KU N x0 x7).bind λr3=>(KU N x1 x7).bind λr4=>let v6:Int:=W .u64 (x6+(W .u64 (r3+r4)));let v7:Int:=ik .and .u64 v6 4294967295;cond (small (ℓ x5+ℓ ([v7]))) (cond (bu 32 0) none (eQ x0 x1 (x5++([v7])) (shr .u64 v6 32) (W .i64 (x7+1)))) none
def mu.j6(eQ:mu.cZ)(x0 x1 x5:List Int)(x6 x7:Int):Option (List Int):=mu.R1 N eQ x0 x1 x5 x6 x7
def mu.gN(N:Nat)(Lk:mu.Su)(eQ:mu.cZ)(x0 x1 x5:List Int)(x6 x7:Int):Option (List Int):=
 cond (bu x7 (ℓ x0)) (Lk x0 x1 x5 x6 x7) (cond (bu x7 (ℓ x1)) (Lk x0 x1 x5 x6 x7) (cond (bu 0 x6) (Lk x0 x1 x5 x6 x7) (some x5)))
def mu.l4(N:Nat):Nat→mu.cZ
 |0,_,_,_,_,_=>none
 |n+1,x0,x1,x5,x6,x7=>mu.gN N (mu.j6 N (mu.l4 N n)) (mu.l4 N n) x0 x1 x5 x6 x7
def mu.b(N:Nat)(kg:mu.cZ)(a0 a1:List Int):Option (List Int):=
 kg a0 a1 ([]) 0 0
def mu(a0 a1:List Int):Option (List Int):=mu.b N (mu.l4 N N) a0 a1
abbrev sC.Bd:=(List Int)→(List Int)→Int→Option Int
def sC.Ja(N:Nat)(Lg:sC.Bd)(x0 x1:List Int)(x5:Int):Option Int:=
 cond (dK 0 x5) (cond (c9 x5 (ℓ x0)) (cond (c9 x5 (ℓ x1)) (cond (bu (γ x0 x5.toNat 0) (γ x1 x5.toNat 0)) (some (-1)) (cond (c9 x5 (ℓ x0)) (cond (c9 x5 (ℓ x1)) (cond (bu (γ x1 x5.toNat 0) (γ x0 x5.toNat 0)) (some 1) (Lg x0 x1 (W .i64 (x5-1)))) none) none)) none) none) (some 0)
def sC.l6(N:Nat):Nat→sC.Bd
 |0,_,_,_=>none
 |n+1,x0,x1,x5=>sC.Ja N (sC.l6 N n) x0 x1 x5
def sC.b(N:Nat)(Lh:sC.Bd)(a0 a1:List Int):Option Int:=
 cond (!cg (ℓ a0) (ℓ a1)) (cond (bu (ℓ a0) (ℓ a1)) (some (-1)) (some 1)) (Lh a0 a1 (W .i64 ((ℓ a0:Int)-1)))
def sC(a0 a1:List Int):Option Int:=sC.b N (sC.l6 N N) a0 a1
abbrev sW.cZ:=(List Int)→(List Int)→(List Int)→Int→Int→Option (List Int)
def sW.gN(eQ:sW.cZ)(x0 x1 x5:List Int)(x6 x7:Int):Option (List Int):=
 cond (bu x7 (ℓ x0)) (cond (c9 x7 (ℓ x0)) ((KU N x1 x7).bind λr2=>let v3:Int:=W .u64 (r2+x6);cond (bu (γ x0 x7.toNat 0) v3) (let v5:Int:=W .u64 ((W .u64 ((γ x0 x7.toNat 0)+4294967296))-v3);cond (small (ℓ x5+ℓ ([v5]))) (eQ x0 x1 (x5++([v5])) 1 (W .i64 (x7+1))) none) (let v8:Int:=W .u64 ((γ x0 x7.toNat 0)-v3);cond (small (ℓ x5+ℓ ([v8]))) (eQ x0 x1 (x5++([v8])) 0 (W .i64 (x7+1))) none)) none) (some x5)
def sW.l4(N:Nat):Nat→sW.cZ
 |0,_,_,_,_,_=>none
 |n+1,x0,x1,x5,x6,x7=>sW.gN N (sW.l4 N n) x0 x1 x5 x6 x7
def sW.b(N:Nat)(kg:sW.cZ)(a0 a1:List Int):Option (List Int):=
 kg a0 a1 ([]) 0 0
def sW(a0 a1:List Int):Option (List Int):=sW.b N (sW.l4 N N) a0 a1
def Om(a0 a1:bf):Option bf:=
 cond (kW .bool a0.1 a1.1) ((mu N a0.2.1 a1.2.1).bind λr1=>(DO N a0.1 r1).bind λr2=>some r2) ((sC N a0.2.1 a1.2.1).bind λr3=>cond (dK 0 r3) ((sW N a0.2.1 a1.2.1).bind λr4=>(DO N a0.1 r4).bind λr5=>some r5) ((sW N a1.2.1 a0.2.1).bind λr6=>(DO N a1.1 r6).bind λr7=>some r7))
def F7(a0:aA):Option bf:=
 (F9 N a0.1).bind λr1=>(DO N false ([0,0,1])).bind λr2=>(fD N r1 r2).bind λr3=>(ML N a0.2.1).bind λr4=>(DO N false r4).bind λr5=>(Om N r3 r5).bind λr6=>some r6
def Oo(N:Nat)(a0:bf):Option Int:=
 cond (cg (ℓ a0.2.1) 0) (some 0) (cond (a0.1) (some (-1)) (some 1))
def Qg(a0:bf):Option bf:=
 (DO N (!a0.1) a0.2.1).bind λr1=>some r1
def Qh(a0 a1:bf):Option bf:=
 (Qg N a1).bind λr1=>(Om N a0 r1).bind λr2=>some r2
def Qi(a0 a1:bf):Option Int:=
 (Qh N a0 a1).bind λr1=>(Oo N r1).bind λr2=>some r2
abbrev F6.cZ:=Int→bf→Int→Option Int
def F6.gN(eQ:F6.cZ)(x1:Int)(x2:bf)(x5:Int):Option Int:=
 cond (bu x5 3) ((F9 N x5).bind λr3=>(F9 N x1).bind λr4=>(fD N r3 r4).bind λr5=>(Qi N r5 x2).bind λr6=>cond (bu r6 0) (eQ x1 x2 (W .i64 (x5+1))) (some x5)) (some x5)
def F6.l4(N:Nat):Nat→F6.cZ
 |0,_,_,_=>none
 |n+1,x1,x2,x5=>F6.gN N (F6.l4 N n) x1 x2 x5
def F6.b(kg:F6.cZ)(a0:bf)(a1:Int):Option Int:=
 (Oo N a0).bind λr1=>cond (dK r1 0) (some 0) (cond (bu a1 1) (some 0) (kg a1 a0 1))
def F6(a0:bf)(a1:Int):Option Int:=F6.b N (F6.l4 N N) a0 a1
def F3(a0:aA)(a1 a2 a3:Int):Option Bool:=
 (F4 N).bind λr1=>cond (!r1) (some false) ((F5 N a0 a1).bind λr2=>(F7 N a0).bind λr3=>(F6 N r3 a1).bind λr4=>cond (cg r2 r4) ((F8 N (W .i64 a2)).bind λr6=>(F5 N r6 (W .i64 a3)).bind λr8=>(F9 N (W .i64 a2)).bind λLc=>(F6 N Lc (W .i64 a3)).bind λLj=>some (cg r8 Lj)) (some false))
end
end VM.F
