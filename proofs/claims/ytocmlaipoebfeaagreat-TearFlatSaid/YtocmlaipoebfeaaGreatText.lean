/- A part of the proof of TearFlat of layer 29: the functions as equations between values, printed by a program. -/
import Derived.Test.YtocmlaipoebfeaaGreatVm0
set_option linter.all false
namespace VM.F
open Go VM
set_option maxRecDepth 100000
noncomputable section
abbrev vw:Ty:=(.pair .str .unit)
abbrev ly:Ty:=(.pair .str (.pair (.int .u64) .unit))
abbrev ka:Ty:=(.pair (.int .i64) (.pair (.int .i64) .unit))
abbrev ig:Ty:=(.pair (.int .i64) (.pair (.int .u64) .unit))
abbrev cT:Ty:=(.pair .bool (.pair (.slice (.int .u64)) .unit))
abbrev fI:Ty:=(.pair (.slice (.int .u64)) (.pair (.int .i64) .unit))
abbrev jA:Ty:=(.pair (.int .i64) ka)
abbrev vx:Ty:=(.pair (.int .i64) (.pair (.int .i64) (.pair .bool (.pair (.int .u8) .unit))))
abbrev eR:Ty:=(.pair (.int .i64) jA)
abbrev B9:Ty:=(.pair (.int .i64) (.pair (.int .i64) (.pair ig .unit)))
abbrev tk:Ty:=(.pair (.int .i64) eR)
abbrev rW:Ty:=(.pair (.int .i64) (.pair (.int .i64) (.pair cT .unit)))
abbrev m6:Ty:=(.pair (.int .i64) tk)
abbrev pv:Ty:=(.pair (.int .i64) (.pair (.int .i64) m6))
abbrev jF:Ty:=(.pair (.int .i64) (.pair (.slice ka) eR))
abbrev gv:Ty:=(.pair (.int .i64) (.pair (.int .i64) (.pair (.slice tk) (.pair (.int .i64) .unit))))
abbrev aB:Ty:=(.pair (.slice eR) m6)
abbrev aJ:Ty:=(.pair (.slice ka) (.pair (.slice eR) (.pair (.slice jA) (.pair (.slice jA) (.pair (.slice (.int .i64)) (.pair (.slice m6) .unit))))))
abbrev pz:Ty:=(.pair (.int .i64) (.pair (.int .i64) (.pair (.int .i64) (.pair (.int .i64) (.pair (.slice eR) (.pair (.slice jF) (.pair (.slice eR) (.pair (.slice (.int .i64)) (.pair (.slice ka) (.pair (.slice ka) .unit))))))))))
abbrev ew:Ty:=(.pair (.int .i64) (.pair (.int .i64) (.pair aJ (.pair pz (.pair gv .unit)))))
abbrev YT:=Ty.den vw
abbrev YU:=List (Ty.den vw)
abbrev Ob:=Ty.den ly
abbrev Oc:=List (Ty.den ly)
abbrev FF:=Ty.den ka
abbrev aG:=List (Ty.den ka)
abbrev cN:=Ty.den ig
abbrev lz:=List (Ty.den ig)
abbrev aF:=Ty.den cT
abbrev pt:=List (Ty.den cT)
abbrev bb:=Ty.den fI
abbrev ata:=List (Ty.den fI)
abbrev dd:=Ty.den jA
abbrev au:=List (Ty.den jA)
abbrev YV:=Ty.den vx
abbrev YW:=List (Ty.den vx)
abbrev cy:=Ty.den eR
abbrev aO:=List (Ty.den eR)
abbrev vl:=Ty.den B9
abbrev dZ:=List (Ty.den B9)
abbrev tg:=Ty.den tk
abbrev bL:=List (Ty.den tk)
abbrev ahR:=Ty.den rW
abbrev bE:=List (Ty.den rW)
abbrev gu:=Ty.den m6
abbrev br:=List (Ty.den m6)
abbrev ia:=Ty.den pv
abbrev jE:=List (Ty.den pv)
abbrev jb:=Ty.den jF
abbrev bz:=List (Ty.den jF)
abbrev dT:=Ty.den gv
abbrev anD:=List (Ty.den gv)
abbrev ag:=Ty.den aB
abbrev anE:=List (Ty.den aB)
abbrev aq:=Ty.den aJ
abbrev atb:=List (Ty.den aJ)
abbrev alC:=Ty.den pz
abbrev alD:=List (Ty.den pz)
abbrev aU:=Ty.den ew
abbrev are:=List (Ty.den ew)
def F86(N:Nat):Option (ag×aq):=
 some (([((0:Int),((100:Int),df))],((0:Int),((0:Int),((0:Int),((0:Int),((1:Int),((0:Int),()))))))),([((1:Int),((1:Int),()))],([((1:Int),((1:Int),((1:Int),((0:Int),())))),((2:Int),((1:Int),((2:Int),((0:Int),())))),((3:Int),((1:Int),((2:Int),((0:Int),()))))],(bK,([((0:Int),((0:Int),((3:Int),()))),((1:Int),((0:Int),((-4:Int),()))),((2:Int),((0:Int),((-2:Int),()))),((3:Int),((0:Int),((3:Int),())))],([(100:Int)],(eh,())))))))
def Dz(N:Nat)(a0:Int)(a1:Int)(a2:Int):Option (Bool):=
 cond (c0 a1 a0) (some (c0 a0 a2)) (some false)
abbrev DA.bI:=ag→aO→Int→Int→Option (Bool)
def DA.dH(N:Nat)(ct:DA.bI)(x1:ag)(aV:aO)(bc:Int)(cf:Int):Option (Bool):=
 cond (aS cf bc) (cond (aZ cf (List.length aV)) ((Dz N ((List.getD aV cf.toNat a7).1) (0:Int) (3:Int)).bind λr3=>cond (!r3) (some false) ((Dz N (((List.getD aV cf.toNat a7).2).1) (1:Int) (1000000000000:Int)).bind λr4=>cond (!r4) (some false) ((Dz N ((((List.getD aV cf.toNat a7).2).2).1) (0:Int) (1000000000:Int)).bind λr5=>cond (!r5) (some false) ((Dz N (((((List.getD aV cf.toNat a7).2).2).2).1) (0:Int) (1000000000:Int)).bind λr6=>cond (!r6) (some false) (ct x1 aV bc (W .i64 (cf+1))))))) (none)) (cond (c0 0 x1.2.1) ((Dz N x1.2.2.1 (0:Int) (4:Int)).bind λr8=>cond (r8) ((Dz N x1.2.2.2.1 (0:Int) (1000000:Int)).bind λr9=>cond (r9) ((Dz N x1.2.2.2.2.1 (0:Int) (1000000:Int)).bind λm7=>cond (m7) ((Dz N x1.2.2.2.2.2.1 (1:Int) (4611686018427387904:Int)).bind λpG=>cond (pG) (some (c0 0 x1.2.2.2.2.2.2.1)) (some false)) (some false)) (some false)) (some false)) (some false))
def DA.l4(N:Nat):Nat→DA.bI
 |0,_,_,_,_=>none
 |n+1,x1,aV,bc,cf=>DA.dH N (DA.l4 N n) x1 aV bc cf
def DA.b(N:Nat)(e7:DA.bI)(a0:ag):Option (Bool):=
 (Dz N (List.length a0.1:Int) (1:Int) (6:Int)).bind λr1=>cond (!r1) (some false) (e7 a0 a0.1 (List.length a0.1:Int) (0:Int))
def DA(N:Nat)(a0:ag):Option (Bool):=DA.b N (DA.l4 N N) a0
abbrev pe.de:=aG→aG→Int→Int→Option (Bool)
def pe.gV(N:Nat)(eS:pe.de)(x0:aG)(x5:aG)(x6:Int)(x7:Int):Option (Bool):=
 cond (aS x7 x6) (cond (aZ x7 (List.length x5)) (cond (aS ((List.getD x5 x7.toNat df).1) (1:Int)) (some false) (cond (aS 12 ((List.getD x5 x7.toNat df).1)) (some false) (cond (aS (((List.getD x5 x7.toNat df).2).1) (1:Int)) (some false) (cond (aS 4 (((List.getD x5 x7.toNat df).2).1)) (some false) (cond (aS 0 x7) (let v2:Int:=W .i64 (x7-1);cond (aZ v2 (List.length x0)) (cond (c0 ((List.getD x5 x7.toNat df).1) ((List.getD x0 v2.toNat df).1)) (some false) (eS x0 x5 x6 (W .i64 (x7+1)))) (none)) (eS x0 x5 x6 (W .i64 (x7+1)))))))) (none)) (some true)
def pe.l2(N:Nat):Nat→pe.de
 |0,_,_,_,_=>none
 |n+1,x0,x5,x6,x7=>pe.gV N (pe.l2 N n) x0 x5 x6 x7
def pe.b(N:Nat)(jo:pe.de)(a0:aG):Option (Bool):=
 jo a0 a0 (List.length a0:Int) (0:Int)
def pe(N:Nat)(a0:aG):Option (Bool):=pe.b N (pe.l2 N N) a0
abbrev mW.dv:=aO→(List (Bool))→aO→Int→Int→Option (Bool)
def mW.lB(N:Nat)(c7:mW.dv)(x0:aO)(x3:List (Bool))(x6:aO)(x7:Int)(x8:Int):Option (Bool):=
 cond (aS x8 x7) (cond (aZ x8 (List.length x6)) (cond (aS ((List.getD x6 x8.toNat a7).1) (1:Int)) (some false) (cond (aS 24 ((List.getD x6 x8.toNat a7).1)) (some false) (cond (aS (((List.getD x6 x8.toNat a7).2).1) (1:Int)) (some false) (cond (aS 12 (((List.getD x6 x8.toNat a7).2).1)) (some false) (cond (!aM ((((List.getD x6 x8.toNat a7).2).2).1) (1:Int)) (cond (!aM ((((List.getD x6 x8.toNat a7).2).2).1) (2:Int)) (some false) (cond (aS (((((List.getD x6 x8.toNat a7).2).2).2).1) (0:Int)) (some false) (cond (aS 1000000000000 (((((List.getD x6 x8.toNat a7).2).2).2).1)) (some false) (cond (aS 0 x8) (let v2:Int:=W .i64 (x8-1);cond (aZ v2 (List.length x0)) (cond (c0 ((List.getD x6 x8.toNat a7).1) ((List.getD x0 v2.toNat a7).1)) (some false) (cond (aM ((((List.getD x6 x8.toNat a7).2).2).1) (1:Int)) (cond (aZ (((List.getD x6 x8.toNat a7).2).1) 13) (cond (List.getD x3 (((List.getD x6 x8.toNat a7).2).1).toNat false) (some false) (cond (aZ (((List.getD x6 x8.toNat a7).2).1) 13) (c7 x0 (List.set x3 (((List.getD x6 x8.toNat a7).2).1).toNat true) x6 x7 (W .i64 (x8+1))) (none))) (none)) (c7 x0 x3 x6 x7 (W .i64 (x8+1))))) (none)) (cond (aM ((((List.getD x6 x8.toNat a7).2).2).1) (1:Int)) (cond (aZ (((List.getD x6 x8.toNat a7).2).1) 13) (cond (List.getD x3 (((List.getD x6 x8.toNat a7).2).1).toNat false) (some false) (cond (aZ (((List.getD x6 x8.toNat a7).2).1) 13) (c7 x0 (List.set x3 (((List.getD x6 x8.toNat a7).2).1).toNat true) x6 x7 (W .i64 (x8+1))) (none))) (none)) (c7 x0 x3 x6 x7 (W .i64 (x8+1)))))))) (cond (aS (((((List.getD x6 x8.toNat a7).2).2).2).1) (0:Int)) (some false) (cond (aS 1000000000000 (((((List.getD x6 x8.toNat a7).2).2).2).1)) (some false) (cond (aS 0 x8) (let v7:Int:=W .i64 (x8-1);cond (aZ v7 (List.length x0)) (cond (c0 ((List.getD x6 x8.toNat a7).1) ((List.getD x0 v7.toNat a7).1)) (some false) (cond (aM ((((List.getD x6 x8.toNat a7).2).2).1) (1:Int)) (cond (aZ (((List.getD x6 x8.toNat a7).2).1) 13) (cond (List.getD x3 (((List.getD x6 x8.toNat a7).2).1).toNat false) (some false) (cond (aZ (((List.getD x6 x8.toNat a7).2).1) 13) (c7 x0 (List.set x3 (((List.getD x6 x8.toNat a7).2).1).toNat true) x6 x7 (W .i64 (x8+1))) (none))) (none)) (c7 x0 x3 x6 x7 (W .i64 (x8+1))))) (none)) (cond (aM ((((List.getD x6 x8.toNat a7).2).2).1) (1:Int)) (cond (aZ (((List.getD x6 x8.toNat a7).2).1) 13) (cond (List.getD x3 (((List.getD x6 x8.toNat a7).2).1).toNat false) (some false) (cond (aZ (((List.getD x6 x8.toNat a7).2).1) 13) (c7 x0 (List.set x3 (((List.getD x6 x8.toNat a7).2).1).toNat true) x6 x7 (W .i64 (x8+1))) (none))) (none)) (c7 x0 x3 x6 x7 (W .i64 (x8+1)))))))))))) (none)) (some true)
def mW.l3(N:Nat):Nat→mW.dv
 |0,_,_,_,_,_=>none
 |n+1,x0,x3,x6,x7,x8=>mW.lB N (mW.l3 N n) x0 x3 x6 x7 x8
def mW.b(N:Nat)(mF:mW.dv)(a0:aO):Option (Bool):=
 mF a0 (List.replicate 13 false) a0 (List.length a0:Int) (0:Int)
def mW(N:Nat)(a0:aO):Option (Bool):=mW.b N (mW.l3 N N) a0
abbrev Bf.bI:=Int→aG→Int→Int→Option (Int)
def Bf.dH(N:Nat)(ct:Bf.bI)(x1:Int)(bg:aG)(aV:Int)(bc:Int):Option (Int):=
 cond (aS bc aV) (cond (aZ bc (List.length bg)) (cond (aM ((List.getD bg bc.toNat df).1) x1) (some (((List.getD bg bc.toNat df).2).1)) (ct x1 bg aV (W .i64 (bc+1)))) (none)) (some (0:Int))
def Bf.l4(N:Nat):Nat→Bf.bI
 |0,_,_,_,_=>none
 |n+1,x1,bg,aV,bc=>Bf.dH N (Bf.l4 N n) x1 bg aV bc
def Bf.b(N:Nat)(e7:Bf.bI)(a0:aG)(a1:Int):Option (Int):=
 (pe N a0).bind λr1=>cond (!r1) (some (0:Int)) (e7 a1 a0 (List.length a0:Int) (0:Int))
def Bf(N:Nat)(a0:aG)(a1:Int):Option (Int):=Bf.b N (Bf.l4 N N) a0 a1
abbrev DE.bI:=aG→aO→Int→Int→Option (Bool)
def DE.dH(N:Nat)(ct:DE.bI)(x0:aG)(dg:aO)(ei:Int)(eO:Int):Option (Bool):=
 cond (aS eO ei) (cond (aZ eO (List.length dg)) ((Bf N x0 (((List.getD dg eO.toNat a7).2).1)).bind λr4=>cond (aM r4 0) (some false) (ct x0 dg ei (W .i64 (eO+1)))) (none)) (some true)
def DE.l4(N:Nat):Nat→DE.bI
 |0,_,_,_,_=>none
 |n+1,x0,dg,ei,eO=>DE.dH N (DE.l4 N n) x0 dg ei eO
def DE.b(N:Nat)(e7:DE.bI)(a0:aG)(a1:aO):Option (Bool):=
 (pe N a0).bind λr1=>cond (!r1) (some false) ((mW N a1).bind λr2=>cond (!r2) (some false) (e7 a0 a1 (List.length a1:Int) (0:Int)))
def DE(N:Nat)(a0:aG)(a1:aO):Option (Bool):=DE.b N (DE.l4 N N) a0 a1
def Qf(N:Nat)(a0:Int)(a1:Int):Option (Bool):=
 cond (aM a0 1) (some (aM a1 0)) (cond (aM a0 2) (some (aM a1 0)) (cond (aM a0 3) (some (aM a1 0)) (cond (aM a0 4) (some (aM a1 0)) (cond (aM a0 5) (cond (c0 1 a1) (some (c0 a1 24)) (some false)) (cond (aM a0 6) (cond (c0 1 a1) (some (c0 a1 12)) (some false)) (cond (aM a0 7) (cond (c0 1 a1) (some (c0 a1 12)) (some false)) (some false)))))))
def Qh(N:Nat)(a0:Int)(a1:Int)(a2:dd):Option (Int):=
 cond (!aM a0 a2.1) (some (W .i64 (a0-a2.1))) (some (W .i64 (a1-a2.2.1)))
abbrev BC.de:=au→au→Int→Int→Option (Bool)
def BC.gV(N:Nat)(eS:BC.de)(x0:au)(x5:au)(x6:Int)(x7:Int):Option (Bool):=
 cond (aS x7 x6) (cond (aZ x7 (List.length x5)) ((Qf N ((List.getD x5 x7.toNat bf).1) (((List.getD x5 x7.toNat bf).2).1)).bind λr2=>cond (!r2) (some false) (cond (aM ((((List.getD x5 x7.toNat bf).2).2).1) (0:Int)) (some false) (cond (aS 0 x7) (let v3:Int:=W .i64 (x7-1);cond (aZ v3 (List.length x0)) ((Qh N ((List.getD x5 x7.toNat bf).1) (((List.getD x5 x7.toNat bf).2).1) (List.getD x0 v3.toNat bf)).bind λr4=>cond (c0 r4 0) (some false) (eS x0 x5 x6 (W .i64 (x7+1)))) (none)) (eS x0 x5 x6 (W .i64 (x7+1)))))) (none)) (some true)
def BC.l2(N:Nat):Nat→BC.de
 |0,_,_,_,_=>none
 |n+1,x0,x5,x6,x7=>BC.gV N (BC.l2 N n) x0 x5 x6 x7
def BC.b(N:Nat)(jo:BC.de)(a0:au):Option (Bool):=
 jo a0 a0 (List.length a0:Int) (0:Int)
def BC(N:Nat)(a0:au):Option (Bool):=BC.b N (BC.l2 N N) a0
def Z4(N:Nat)(a0:Int):Option cN:=
 cond (aS 63 0) (none) (some ((shr .i64 a0 63),((W .u64 a0),())))
abbrev nE.dv:=cN→Int→Int→Int→lz→Int→Int→Option (cN×(Bool))
def nE.lB(N:Nat)(c7:nE.dv)(x2:cN)(x4:Int)(x5:Int)(x6:Int)(bg:lz)(aV:Int)(bc:Int):Option (cN×(Bool)):=
 cond (aS bc aV) (cond (aZ bc (List.length bg)) ((vB N x6 (((List.getD bg bc.toNat df).2).1) (0:Int)).bind λr2=>(vB N x5 (W .u64 ((List.getD bg bc.toNat df).1)) r2.2).bind λr4=>cond (aS 63 0) (none) (c7 x2 (W .i64 ((W .i64 (x4+(shr .i64 ((List.getD bg bc.toNat df).1) (63:Int))))+(W .i64 r4.2))) r4.1 r2.1 bg aV (W .i64 (bc+1)))) (none)) (cond (aS 63 0) (none) (cond (!aM x4 (shr .i64 (W .i64 x5) 63)) (some (df,false)) (some (((W .i64 x5),(x6,())),true))))
def nE.l3(N:Nat):Nat→nE.dv
 |0,_,_,_,_,_,_,_=>none
 |n+1,x2,x4,x5,x6,bg,aV,bc=>nE.lB N (nE.l3 N n) x2 x4 x5 x6 bg aV bc
def nE.b(N:Nat)(mF:nE.dv)(a0:lz):Option (cN×(Bool)):=
 mF df (0:Int) (0:Int) (0:Int) a0 (List.length a0:Int) (0:Int)
def nE(N:Nat)(a0:lz):Option (cN×(Bool)):=nE.b N (nE.l3 N N) a0
abbrev CR.bY:=cN→lz→au→Int→Int→Option cN
def CR.fi(N:Nat)(bV:CR.bY)(x2:cN)(x3:lz)(bc:au)(cf:Int)(ca:Int):Option cN:=
 cond (aS ca cf) (cond (aZ ca (List.length bc)) ((Z4 N ((((List.getD bc ca.toNat bf).2).2).1)).bind λr3=>cond (small (List.length x3+List.length ([r3]))) (bV x2 (x3++([r3])) bc cf (W .i64 (ca+1))) (none)) (none)) ((nE N x3).bind λr6=>some r6.1)
def CR.l5(N:Nat):Nat→CR.bY
 |0,_,_,_,_,_=>none
 |n+1,x2,x3,bc,cf,ca=>CR.fi N (CR.l5 N n) x2 x3 bc cf ca
def CR.b(N:Nat)(gh:CR.bY)(a0:au):Option cN:=
 (BC N a0).bind λr1=>cond (!r1) (some df) (gh df ([]) a0 (List.length a0:Int) (0:Int))
def CR(N:Nat)(a0:au):Option cN:=CR.b N (CR.l5 N N) a0
def aac(N:Nat)(a0:cN)(a1:cN):Option (Int):=
 cond (aS a0.1 a1.1) (some (-1:Int)) (cond (aM a0.1 a1.1) (cond (aS a0.2.1 a1.2.1) (some (-1:Int)) (cond (oR (.pair (.int .i64) (.pair (.int .u64) .unit)) a0 a1) (some (0:Int)) (some (1:Int)))) (cond (oR (.pair (.int .i64) (.pair (.int .u64) .unit)) a0 a1) (some (0:Int)) (some (1:Int))))
def F78(N:Nat)(a0:cN):Option (Int):=
 (aac N a0 df).bind λr1=>some r1
def Ws(N:Nat)(a0:Int)(a1:Int):Option (Bool):=
 cond (c0 0 a0) (cond (c0 a0 24) (cond (c0 0 a1) (some (aS a1 6)) (some false)) (some false)) (some false)
def TC(N:Nat)(a0:Int):Option (Bool):=
 some (!aM a0 (-9223372036854775808))
def TB(N:Nat)(a0:Int)(a1:Int)(a2:dd):Option (Int):=
 cond (!aM a0 a2.1) (some (W .i64 (a0-a2.1))) (some (W .i64 (a1-a2.2.1)))
abbrev oe.de:=au→au→Int→Int→Option (Bool)
def oe.gV(N:Nat)(eS:oe.de)(x0:au)(x5:au)(x6:Int)(x7:Int):Option (Bool):=
 cond (aS x7 x6) (cond (aZ x7 (List.length x5)) ((Ws N ((List.getD x5 x7.toNat bf).1) (((List.getD x5 x7.toNat bf).2).1)).bind λr2=>cond (!r2) (some false) (cond (aM ((((List.getD x5 x7.toNat bf).2).2).1) (0:Int)) (some false) ((TC N ((((List.getD x5 x7.toNat bf).2).2).1)).bind λr3=>cond (!r3) (some false) (cond (aS 0 x7) (let v4:Int:=W .i64 (x7-1);cond (aZ v4 (List.length x0)) ((TB N ((List.getD x5 x7.toNat bf).1) (((List.getD x5 x7.toNat bf).2).1) (List.getD x0 v4.toNat bf)).bind λr5=>cond (c0 r5 0) (some false) (eS x0 x5 x6 (W .i64 (x7+1)))) (none)) (eS x0 x5 x6 (W .i64 (x7+1))))))) (none)) (some true)
def oe.l2(N:Nat):Nat→oe.de
 |0,_,_,_,_=>none
 |n+1,x0,x5,x6,x7=>oe.gV N (oe.l2 N n) x0 x5 x6 x7
def oe.b(N:Nat)(jo:oe.de)(a0:au):Option (Bool):=
 jo a0 a0 (List.length a0:Int) (0:Int)
def oe(N:Nat)(a0:au):Option (Bool):=oe.b N (oe.l2 N N) a0
abbrev ph.bY:=Int→cN→lz→au→Int→Int→Option cN
def ph.fi(N:Nat)(bV:ph.bY)(x1:Int)(x4:cN)(x5:lz)(ca:au)(dg:Int)(ei:Int):Option cN:=
 cond (aS ei dg) (cond (aZ ei (List.length ca)) (cond (aM (((List.getD ca ei.toNat bf).2).1) x1) ((Z4 N ((((List.getD ca ei.toNat bf).2).2).1)).bind λr3=>cond (small (List.length x5+List.length ([r3]))) (bV x1 x4 (x5++([r3])) ca dg (W .i64 (ei+1))) (none)) (bV x1 x4 x5 ca dg (W .i64 (ei+1)))) (none)) ((nE N x5).bind λr7=>some r7.1)
def ph.l5(N:Nat):Nat→ph.bY
 |0,_,_,_,_,_,_=>none
 |n+1,x1,x4,x5,ca,dg,ei=>ph.fi N (ph.l5 N n) x1 x4 x5 ca dg ei
def ph.b(N:Nat)(gh:ph.bY)(a0:au)(a1:Int):Option cN:=
 (oe N a0).bind λr1=>cond (!r1) (some df) (gh a1 df ([]) a0 (List.length a0:Int) (0:Int))
def ph(N:Nat)(a0:au)(a1:Int):Option cN:=ph.b N (ph.l5 N N) a0 a1
abbrev DF.de:=au→Int→Option (Bool)
def DF.gV(N:Nat)(eS:DF.de)(x0:au)(x4:Int):Option (Bool):=
 cond (aS x4 6) ((ph N x0 x4).bind λr2=>(F78 N r2).bind λr3=>cond (!aM r3 0) (some false) (eS x0 (W .i64 (x4+1)))) ((oe N x0).bind λr5=>some r5)
def DF.l2(N:Nat):Nat→DF.de
 |0,_,_=>none
 |n+1,x0,x4=>DF.gV N (DF.l2 N n) x0 x4
def DF.b(N:Nat)(jo:DF.de)(a0:au):Option (Bool):=
 jo a0 (0:Int)
def DF(N:Nat)(a0:au):Option (Bool):=DF.b N (DF.l2 N N) a0
def Z8(N:Nat)(a0:gu):Option (Bool):=
 cond (c0 1 a0.1) (cond (c0 a0.1 1099511627776) (cond (c0 1 a0.2.1) (cond (c0 a0.2.1 24) (cond (c0 0 a0.2.2.1) (cond (aS a0.2.2.1 6) (cond (aM a0.2.2.2.1 1) (cond (c0 1 a0.2.2.2.2.1) (cond (c0 a0.2.2.2.2.1 1000000000) (cond (c0 1 a0.2.2.2.2.2.1) (some (c0 a0.2.2.2.2.2.1 1000000000000)) (some false)) (some false)) (some false)) (cond (aM a0.2.2.2.1 2) (cond (c0 1 a0.2.2.2.2.1) (cond (c0 a0.2.2.2.2.1 1000000000) (cond (c0 1 a0.2.2.2.2.2.1) (some (c0 a0.2.2.2.2.2.1 1000000000000)) (some false)) (some false)) (some false)) (some false))) (some false)) (some false)) (some false)) (some false)) (some false)) (some false)
abbrev DC.de:=br→br→Int→Int→Option (Bool)
def DC.gV(N:Nat)(eS:DC.de)(x0:br)(x5:br)(x6:Int)(x7:Int):Option (Bool):=
 cond (aS x7 x6) (cond (aZ x7 (List.length x5)) ((Z8 N (List.getD x5 x7.toNat fy)).bind λr2=>cond (!r2) (some false) (cond (aS 0 x7) (let v3:Int:=W .i64 (x7-1);cond (aZ v3 (List.length x0)) (cond (c0 ((List.getD x5 x7.toNat fy).1) ((List.getD x0 v3.toNat fy).1)) (some false) (eS x0 x5 x6 (W .i64 (x7+1)))) (none)) (eS x0 x5 x6 (W .i64 (x7+1))))) (none)) (some (c0 (List.length x0:Int) 32))
def DC.l2(N:Nat):Nat→DC.de
 |0,_,_,_,_=>none
 |n+1,x0,x5,x6,x7=>DC.gV N (DC.l2 N n) x0 x5 x6 x7
def DC.b(N:Nat)(jo:DC.de)(a0:br):Option (Bool):=
 jo a0 a0 (List.length a0:Int) (0:Int)
def DC(N:Nat)(a0:br):Option (Bool):=DC.b N (DC.l2 N N) a0
abbrev pf.bI:=Int→cy→aO→Int→Int→Option (cy×(Bool))
def pf.dH(N:Nat)(ct:pf.bI)(x1:Int)(x4:cy)(bc:aO)(cf:Int)(ca:Int):Option (cy×(Bool)):=
 cond (aS ca cf) (cond (aZ ca (List.length bc)) (cond (aM ((List.getD bc ca.toNat a7).1) x1) (some (List.getD bc ca.toNat a7,true)) (ct x1 x4 bc cf (W .i64 (ca+1)))) (none)) (some (a7,false))
def pf.l4(N:Nat):Nat→pf.bI
 |0,_,_,_,_,_=>none
 |n+1,x1,x4,bc,cf,ca=>pf.dH N (pf.l4 N n) x1 x4 bc cf ca
def pf.b(N:Nat)(e7:pf.bI)(a0:aO)(a1:Int):Option (cy×(Bool)):=
 (mW N a0).bind λr1=>cond (!r1) (some (a7,false)) (e7 a1 a7 a0 (List.length a0:Int) (0:Int))
def pf(N:Nat)(a0:aO)(a1:Int):Option (cy×(Bool)):=pf.b N (pf.l4 N N) a0 a1
def F82(N:Nat)(a0:aq)(a1:Int):Option (Bool):=
 (pf N a0.2.1 a1).bind λr1=>some r1.2
def F85(N:Nat)(a0:Int):Option (Bool):=
 cond (c0 1 a0) (some (c0 a0 1000000000000)) (some false)
def F84(N:Nat)(a0:Int):Option (Bool):=
 (F85 N a0).bind λr1=>some (!r1)
abbrev sq.de:=(List (Int))→Unit→Int→Int→Option (Int)
def sq.gV(N:Nat)(eS:sq.de)(x0:List (Int))(x1:Unit)(x7:Int)(x8:Int):Option (Int):=
 cond (aS x8 x7) (cond (aZ x8 (List.length x0)) ((F84 N (List.getD x0 x8.toNat (0:Int))).bind λr2=>cond (r2) (some x8) (eS x0 () x7 (W .i64 (x8+1)))) (none)) (some (-1:Int))
def sq.l2(N:Nat):Nat→sq.de
 |0,_,_,_,_=>none
 |n+1,x0,x1,x7,x8=>sq.gV N (sq.l2 N n) x0 x1 x7 x8
def sq.b(N:Nat)(jo:sq.de)(a0:List (Int))(a1:Unit):Option (Int):=
 jo a0 () (List.length a0:Int) (0:Int)
def sq(N:Nat)(a0:List (Int))(a1:Unit):Option (Int):=sq.b N (sq.l2 N N) a0 a1
def F83(N:Nat)(a0:List (Int))(a1:Unit):Option (Bool):=
 (sq N a0 ()).bind λr1=>some (c0 0 r1)
abbrev lC.rX:=ag→aq→br→Int→Int→Option (Bool)
abbrev lC.jQ:=ag→aq→au→Int→Int→Option (Bool)
abbrev lC.bI:=ag→aq→au→Int→Int→Option (Bool)
def lC.vV(N:Nat)(GM:lC.rX)(x2:ag)(x3:aq)(su:br)(abg:Int)(Q6:Int):Option (Bool):=
 cond (aS Q6 abg) (cond (aZ Q6 (List.length su)) ((F82 N x3 (((List.getD su Q6.toNat fy).2).1)).bind λPK=>cond (!PK) (some false) (cond (c0 (List.length x2.1:Int) ((((List.getD su Q6.toNat fy).2).2).1)) (some false) (GM x2 x3 su abg (W .i64 (Q6+1))))) (none)) ((F83 N x3.2.2.2.2.1 ()).bind λGN=>some (!GN))
def lC.w4(N:Nat):Nat→lC.rX
 |0,_,_,_,_,_=>none
 |n+1,x2,x3,su,abg,Q6=>lC.vV N (lC.w4 N n) x2 x3 su abg Q6
def lC.so(N:Nat)(GO:lC.rX)(iU:lC.jQ)(x2:ag)(x3:aq)(x83:au)(X4:Int)(Q7:Int):Option (Bool):=
 cond (aS Q7 X4) (cond (aZ Q7 (List.length x83)) (cond (!aM ((List.getD x83 Q7.toNat bf).1) (0:Int)) ((F82 N x3 ((List.getD x83 Q7.toNat bf).1)).bind λBh=>cond (!Bh) (some false) (cond (c0 (List.length x2.1:Int) (((List.getD x83 Q7.toNat bf).2).1)) (some false) (iU x2 x3 x83 X4 (W .i64 (Q7+1))))) (cond (c0 (List.length x2.1:Int) (((List.getD x83 Q7.toNat bf).2).1)) (some false) (iU x2 x3 x83 X4 (W .i64 (Q7+1))))) (none)) (GO x2 x3 x3.2.2.2.2.2.1 (List.length x3.2.2.2.2.2.1:Int) (0:Int))
def lC.sQ(N:Nat):Nat→lC.jQ
 |0,_,_,_,_,_=>none
 |n+1,x2,x3,x83,X4,Q7=>lC.so N (lC.w4 N N) (lC.sQ N n) x2 x3 x83 X4 Q7
def lC.dH(N:Nat)(A9:lC.jQ)(ct:lC.bI)(x2:ag)(x3:aq)(UJ:au)(x58:Int)(SF:Int):Option (Bool):=
 cond (aS SF x58) (cond (aZ SF (List.length UJ)) (cond (aM ((List.getD UJ SF.toNat bf).1) (5:Int)) ((F82 N x3 (((List.getD UJ SF.toNat bf).2).1)).bind λr9=>cond (!r9) (some false) (ct x2 x3 UJ x58 (W .i64 (SF+1)))) (cond (aM ((List.getD UJ SF.toNat bf).1) (6:Int)) ((Bf N x3.1 (((List.getD UJ SF.toNat bf).2).1)).bind λpG=>cond (aM pG 0) (some false) (ct x2 x3 UJ x58 (W .i64 (SF+1)))) (cond (aM ((List.getD UJ SF.toNat bf).1) (7:Int)) ((Bf N x3.1 (((List.getD UJ SF.toNat bf).2).1)).bind λsv=>cond (aM sv 0) (some false) (ct x2 x3 UJ x58 (W .i64 (SF+1)))) (ct x2 x3 UJ x58 (W .i64 (SF+1)))))) (none)) (A9 x2 x3 x3.2.2.2.1 (List.length x3.2.2.2.1:Int) (0:Int))
def lC.l4(N:Nat):Nat→lC.bI
 |0,_,_,_,_,_=>none
 |n+1,x2,x3,UJ,x58,SF=>lC.dH N (lC.sQ N N) (lC.l4 N n) x2 x3 UJ x58 SF
def lC.b(N:Nat)(e7:lC.bI)(a0:ag)(a1:aq):Option (Bool):=
 (DA N a0).bind λr1=>cond (!r1) (some false) ((DE N a1.1 a1.2.1).bind λr2=>cond (!r2) (some false) ((BC N a1.2.2.1).bind λr3=>cond (!r3) (some false) ((CR N a1.2.2.1).bind λr4=>(F78 N r4).bind λr5=>cond (!aM r5 0) (some false) ((DF N a1.2.2.2.1).bind λr6=>cond (!r6) (some false) ((DC N a1.2.2.2.2.2.1).bind λr7=>cond (!r7) (some false) (cond (!aM (List.length a1.2.2.2.2.1:Int) (List.length a0.1:Int)) (some false) (e7 a0 a1 a1.2.2.1 (List.length a1.2.2.1:Int) (0:Int))))))))
def lC(N:Nat)(a0:ag)(a1:aq):Option (Bool):=lC.b N (lC.l4 N N) a0 a1
abbrev DL.bI:=Int→Int→au→Int→Int→Option (Int)
def DL.dH(N:Nat)(ct:DL.bI)(x1:Int)(x2:Int)(bc:au)(cf:Int)(ca:Int):Option (Int):=
 cond (aS ca cf) (cond (aZ ca (List.length bc)) (cond (aM ((List.getD bc ca.toNat bf).1) x1) (cond (aM (((List.getD bc ca.toNat bf).2).1) x2) (some ((((List.getD bc ca.toNat bf).2).2).1)) (ct x1 x2 bc cf (W .i64 (ca+1)))) (ct x1 x2 bc cf (W .i64 (ca+1)))) (none)) (some (0:Int))
def DL.l4(N:Nat):Nat→DL.bI
 |0,_,_,_,_,_=>none
 |n+1,x1,x2,bc,cf,ca=>DL.dH N (DL.l4 N n) x1 x2 bc cf ca
def DL.b(N:Nat)(e7:DL.bI)(a0:au)(a1:Int)(a2:Int):Option (Int):=
 (oe N a0).bind λr1=>cond (!r1) (some (0:Int)) (e7 a1 a2 a0 (List.length a0:Int) (0:Int))
def DL(N:Nat)(a0:au)(a1:Int)(a2:Int):Option (Int):=DL.b N (DL.l4 N N) a0 a1 a2
def F96(N:Nat)(a0:Int):Option (Int):=
 cond (aS a0 0) (some (W .u64 (0-(W .u64 a0)))) (some (W .u64 a0))
def ahX(N:Nat)(a0:Int):Option (Bool):=
 some (aS a0 0)
abbrev ll.de:=(List (Int))→Unit→Int→Int→Option (Int)
def ll.gV(N:Nat)(eS:ll.de)(x0:List (Int))(x1:Unit)(x7:Int)(x8:Int):Option (Int):=
 cond (aS x8 x7) (cond (aZ x8 (List.length x0)) ((ahX N (List.getD x0 x8.toNat (0:Int))).bind λr2=>cond (r2) (some x8) (eS x0 () x7 (W .i64 (x8+1)))) (none)) (some (-1:Int))
def ll.l2(N:Nat):Nat→ll.de
 |0,_,_,_,_=>none
 |n+1,x0,x1,x7,x8=>ll.gV N (ll.l2 N n) x0 x1 x7 x8
def ll.b(N:Nat)(jo:ll.de)(a0:List (Int))(a1:Unit):Option (Int):=
 jo a0 () (List.length a0:Int) (0:Int)
def ll(N:Nat)(a0:List (Int))(a1:Unit):Option (Int):=ll.b N (ll.l2 N N) a0 a1
def ahY(N:Nat)(a0:List (Int))(a1:Unit):Option (Bool):=
 (ll N a0 ()).bind λr1=>some (c0 0 r1)
def TZ(N:Nat)(a0:List (Int)):Option (Bool):=
 cond (c0 (List.length a0:Int) 64) ((ahY N a0 ()).bind λr1=>some (!r1)) (some false)
abbrev qa.dv:=Int→Int→(List (Int))→Int→Int→Option ((Int)×(Bool))
def qa.lB(N:Nat)(c7:qa.dv)(x4:Int)(x5:Int)(bg:List (Int))(aV:Int)(bc:Int):Option ((Int)×(Bool)):=
 cond (aS bc aV) (cond (aZ bc (List.length bg)) ((vB N x5 (W .u64 (List.getD bg bc.toNat (0:Int))) (0:Int)).bind λr3=>cond (aS 63 0) (none) (c7 (W .i64 ((W .i64 (x4+(shr .i64 (List.getD bg bc.toNat (0:Int)) (63:Int))))+(W .i64 r3.2))) r3.1 bg aV (W .i64 (bc+1)))) (none)) (cond (aS 63 0) (none) (cond (!aM x4 (shr .i64 (W .i64 x5) 63)) (some ((0:Int),false)) (some ((W .i64 x5),true))))
def qa.l3(N:Nat):Nat→qa.dv
 |0,_,_,_,_,_=>none
 |n+1,x4,x5,bg,aV,bc=>qa.lB N (qa.l3 N n) x4 x5 bg aV bc
def qa.b(N:Nat)(mF:qa.dv)(a0:List (Int)):Option ((Int)×(Bool)):=
 mF (0:Int) (0:Int) a0 (List.length a0:Int) (0:Int)
def qa(N:Nat)(a0:List (Int)):Option ((Int)×(Bool)):=qa.b N (qa.l3 N N) a0
def ZP(N:Nat)(a0:Int)(a1:Int):Option ((Int)×(Int)):=
 let v1:Int:=mR .and .u64 a0 4294967295;cond (aS 32 0) (none) (let v2:Int:=shr .u64 a0 32;let v3:Int:=mR .and .u64 a1 4294967295;cond (aS 32 0) (none) (let v4:Int:=shr .u64 a1 32;cond (aS 32 0) (none) (let v8:Int:=W .u64 ((W .u64 (v2*v3))+(shr .u64 (W .u64 (v1*v3)) (32:Int)));cond (aS 32 0) (none) (cond (aS 32 0) (none) (some ((W .u64 ((W .u64 ((W .u64 (v2*v4))+(shr .u64 v8 32)))+(shr .u64 (W .u64 ((mR .and .u64 v8 4294967295)+(W .u64 (v1*v4)))) (32:Int)))),(W .u64 (a0*a1))))))))
abbrev rr.Q8:=Int→Int→cN→Option (cN×(Bool))
def rr.PG(N:Nat)(x1:Int)(x2:Int)(x6:cN):Option (cN×(Bool)):=
 (vC N (0:Int) x2 (0:Int)).bind λr3=>(vC N (0:Int) x1 r3.2).bind λr4=>some (((W .i64 r4.1),(r3.1,())),true)
def rr.j7(N:Nat)(x1:Int)(x2:Int)(x6:cN):Option (cN×(Bool)):=rr.PG N x1 x2 x6
def rr.b(N:Nat)(Cb:rr.Q8)(a0:Bool)(a1:Int)(a2:Int):Option (cN×(Bool)):=
 cond (!a0) (cond (c0 9223372036854775808 a1) (some (df,false)) (some (((W .i64 a1),(a2,())),true))) (cond (aS 9223372036854775808 a1) (some (df,false)) (cond (aM a1 9223372036854775808) (cond (aS 0 a2) (some (df,false)) (Cb a1 a2 df)) (Cb a1 a2 df)))
def rr(N:Nat)(a0:Bool)(a1:Int)(a2:Int):Option (cN×(Bool)):=rr.b N (rr.j7 N) a0 a1 a2
def Z0(N:Nat)(a0:Int)(a1:Int):Option cN:=
 (F96 N a0).bind λr1=>(F96 N a1).bind λr2=>(ZP N r1 r2).bind λr3=>(rr N (!(oR .bool (aS a0 0) (aS a1 0))) r3.1 r3.2).bind λr4=>some r4.1
def Z1(N:Nat)(a0:cN):Option ((Int)×(Int)):=
 cond (c0 0 a0.1) (some ((W .u64 a0.1),a0.2.1)) ((vC N (0:Int) a0.2.1 (0:Int)).bind λr2=>(vC N (0:Int) (W .u64 a0.1) r2.2).bind λr4=>some (r4.1,r2.1))
abbrev mT.Q8:=Int→Int→Option (Int)
abbrev mT.atc:=Int→Int→Option (Int)
def mT.PG(N:Nat)(x0:Int)(x2:Int):Option (Int):=
 cond (c0 256 x0) (cond (aS 8 0) (none) (let v8:Int:=W .u8 (shr .u64 x0 8);cond (aZ v8 (ByteArray.size (strOf [0,1,2,2,3,3,3,3,4,4,4,4,4,4,4,4,5,5,5,5,5,5,5,5,5,5,5,5,5,5,5,5,6,6,6,6,6,6,6,6,6,6,6,6,6,6,6,6,6,6,6,6,6,6,6,6,6,6,6,6,6,6,6,6,7,7,7,7,7,7,7,7,7,7,7,7,7,7,7,7,7,7,7,7,7,7,7,7,7,7,7,7,7,7,7,7,7,7,7,7,7,7,7,7,7,7,7,7,7,7,7,7,7,7,7,7,7,7,7,7,7,7,7,7,7,7,7,7,8,8,8,8,8,8,8,8,8,8,8,8,8,8,8,8,8,8,8,8,8,8,8,8,8,8,8,8,8,8,8,8,8,8,8,8,8,8,8,8,8,8,8,8,8,8,8,8,8,8,8,8,8,8,8,8,8,8,8,8,8,8,8,8,8,8,8,8,8,8,8,8,8,8,8,8,8,8,8,8,8,8,8,8,8,8,8,8,8,8,8,8,8,8,8,8,8,8,8,8,8,8,8,8,8,8,8,8,8,8,8,8,8,8,8,8,8,8,8,8,8,8,8,8,8,8,8,8]))) (some (W .i64 ((W .i64 (x2+8))+(W .i64 (((strOf [0,1,2,2,3,3,3,3,4,4,4,4,4,4,4,4,5,5,5,5,5,5,5,5,5,5,5,5,5,5,5,5,6,6,6,6,6,6,6,6,6,6,6,6,6,6,6,6,6,6,6,6,6,6,6,6,6,6,6,6,6,6,6,6,7,7,7,7,7,7,7,7,7,7,7,7,7,7,7,7,7,7,7,7,7,7,7,7,7,7,7,7,7,7,7,7,7,7,7,7,7,7,7,7,7,7,7,7,7,7,7,7,7,7,7,7,7,7,7,7,7,7,7,7,7,7,7,7,8,8,8,8,8,8,8,8,8,8,8,8,8,8,8,8,8,8,8,8,8,8,8,8,8,8,8,8,8,8,8,8,8,8,8,8,8,8,8,8,8,8,8,8,8,8,8,8,8,8,8,8,8,8,8,8,8,8,8,8,8,8,8,8,8,8,8,8,8,8,8,8,8,8,8,8,8,8,8,8,8,8,8,8,8,8,8,8,8,8,8,8,8,8,8,8,8,8,8,8,8,8,8,8,8,8,8,8,8,8,8,8,8,8,8,8,8,8,8,8,8,8,8,8,8,8,8,8]).data.getD v8.toNat 0).toNat:Int))))) (none))) (let v11:Int:=W .u8 x0;cond (aZ v11 (ByteArray.size (strOf [0,1,2,2,3,3,3,3,4,4,4,4,4,4,4,4,5,5,5,5,5,5,5,5,5,5,5,5,5,5,5,5,6,6,6,6,6,6,6,6,6,6,6,6,6,6,6,6,6,6,6,6,6,6,6,6,6,6,6,6,6,6,6,6,7,7,7,7,7,7,7,7,7,7,7,7,7,7,7,7,7,7,7,7,7,7,7,7,7,7,7,7,7,7,7,7,7,7,7,7,7,7,7,7,7,7,7,7,7,7,7,7,7,7,7,7,7,7,7,7,7,7,7,7,7,7,7,7,8,8,8,8,8,8,8,8,8,8,8,8,8,8,8,8,8,8,8,8,8,8,8,8,8,8,8,8,8,8,8,8,8,8,8,8,8,8,8,8,8,8,8,8,8,8,8,8,8,8,8,8,8,8,8,8,8,8,8,8,8,8,8,8,8,8,8,8,8,8,8,8,8,8,8,8,8,8,8,8,8,8,8,8,8,8,8,8,8,8,8,8,8,8,8,8,8,8,8,8,8,8,8,8,8,8,8,8,8,8,8,8,8,8,8,8,8,8,8,8,8,8,8,8,8,8,8,8]))) (some (W .i64 (x2+(W .i64 (((strOf [0,1,2,2,3,3,3,3,4,4,4,4,4,4,4,4,5,5,5,5,5,5,5,5,5,5,5,5,5,5,5,5,6,6,6,6,6,6,6,6,6,6,6,6,6,6,6,6,6,6,6,6,6,6,6,6,6,6,6,6,6,6,6,6,7,7,7,7,7,7,7,7,7,7,7,7,7,7,7,7,7,7,7,7,7,7,7,7,7,7,7,7,7,7,7,7,7,7,7,7,7,7,7,7,7,7,7,7,7,7,7,7,7,7,7,7,7,7,7,7,7,7,7,7,7,7,7,7,8,8,8,8,8,8,8,8,8,8,8,8,8,8,8,8,8,8,8,8,8,8,8,8,8,8,8,8,8,8,8,8,8,8,8,8,8,8,8,8,8,8,8,8,8,8,8,8,8,8,8,8,8,8,8,8,8,8,8,8,8,8,8,8,8,8,8,8,8,8,8,8,8,8,8,8,8,8,8,8,8,8,8,8,8,8,8,8,8,8,8,8,8,8,8,8,8,8,8,8,8,8,8,8,8,8,8,8,8,8,8,8,8,8,8,8,8,8,8,8,8,8,8,8,8,8,8,8]).data.getD v11.toNat 0).toNat:Int))))) (none))
def mT.j7(N:Nat)(x0:Int)(x2:Int):Option (Int):=mT.PG N x0 x2
def mT.j4b(N:Nat)(Cb:mT.Q8)(x0:Int)(x2:Int):Option (Int):=
 cond (c0 65536 x0) (cond (aS 16 0) (none) (Cb (shr .u64 x0 16) (W .i64 (x2+16)))) (Cb x0 x2)
def mT.j4(N:Nat)(x0:Int)(x2:Int):Option (Int):=mT.j4b N (mT.j7 N) x0 x2
def mT.b(N:Nat)(anF:mT.atc)(a0:Int):Option (Int):=
 cond (c0 4294967296 a0) (cond (aS 32 0) (none) (anF (shr .u64 a0 32) (32:Int))) (anF a0 (0:Int))
def mT(N:Nat)(a0:Int):Option (Int):=mT.b N (mT.j4 N) a0
def ZR(N:Nat)(a0:Int):Option (Int):=
 (mT N a0).bind λr1=>some (W .i64 ((64:Int)-r1))
abbrev eD.anG:=Int→Int→Int→Int→Int→Int→Option ((Int)×(Int))
abbrev eD.rY:=Int→Int→Int→Int→Int→Int→Int→Int→Int→Option ((Int)×(Int))
abbrev eD.X5:=Int→Int→Int→Int→Int→Int→Int→Int→Option ((Int)×(Int))
abbrev eD.GP:=Int→Int→Int→Int→Int→Int→Int→Int→Int→Option ((Int)×(Int))
def eD.ahK(N:Nat)(x2:Int)(x8:Int)(ca:Int)(dg:Int)(eO:Int)(kb:Int):Option ((Int)×(Int)):=
 cond (aS x8 0) (none) (some ((W .u64 ((W .u64 (dg*4294967296))+kb)),(shr .u64 (W .u64 ((W .u64 ((W .u64 (eO*4294967296))+ca))-(W .u64 (kb*x2)))) x8)))
def eD.j28(N:Nat)(x2:Int)(x8:Int)(ca:Int)(dg:Int)(eO:Int)(kb:Int):Option ((Int)×(Int)):=eD.ahK N x2 x8 ca dg eO kb
def eD.Dx(N:Nat)(X6:eD.anG)(rZ:eD.rY)(x2:Int)(x8:Int)(x9:Int)(bg:Int)(ca:Int)(dg:Int)(ei:Int)(eO:Int)(kb:Int):Option ((Int)×(Int)):=
 cond (c0 4294967296 kb) (let v30:Int:=W .u64 (kb-1);let v31:Int:=W .u64 (ei+x9);cond (c0 4294967296 v31) (X6 x2 x8 ca dg eO v30) (rZ x2 x8 x9 bg ca dg v31 eO v30)) (cond (aS (W .u64 ((W .u64 ((4294967296:Int)*ei))+ca)) (W .u64 (kb*bg))) (let v43:Int:=W .u64 (kb-1);let v44:Int:=W .u64 (ei+x9);cond (c0 4294967296 v44) (X6 x2 x8 ca dg eO v43) (rZ x2 x8 x9 bg ca dg v44 eO v43)) (X6 x2 x8 ca dg eO kb))
def eD.CK(N:Nat):Nat→eD.rY
 |0,_,_,_,_,_,_,_,_,_=>none
 |n+1,x2,x8,x9,bg,ca,dg,ei,eO,kb=>eD.Dx N (eD.j28 N) (eD.CK N n) x2 x8 x9 bg ca dg ei eO kb
def eD.Qa(N:Nat)(Od:eD.rY)(x2:Int)(x8:Int)(x9:Int)(bg:Int)(aV:Int)(cf:Int)(ca:Int)(dg:Int):Option ((Int)×(Int)):=
 let v25:Int:=W .u64 ((W .u64 ((W .u64 (aV*4294967296))+cf))-(W .u64 (dg*x2)));cond (aM x9 0) (none) (let v26:Int:=W .u64 (quo v25 x9);Od x2 x8 x9 bg ca dg (W .u64 (v25-(W .u64 (v26*x9)))) v25 v26)
def eD.U2(N:Nat)(x2:Int)(x8:Int)(x9:Int)(bg:Int)(aV:Int)(cf:Int)(ca:Int)(dg:Int):Option ((Int)×(Int)):=eD.Qa N (eD.CK N N) x2 x8 x9 bg aV cf ca dg
def eD.MT(N:Nat)(Jt:eD.X5)(SG:eD.GP)(x2:Int)(x8:Int)(x9:Int)(bg:Int)(aV:Int)(cf:Int)(ca:Int)(dg:Int)(ei:Int):Option ((Int)×(Int)):=
 cond (c0 4294967296 dg) (let v19:Int:=W .u64 (dg-1);let v20:Int:=W .u64 (ei+x9);cond (c0 4294967296 v20) (Jt x2 x8 x9 bg aV cf ca v19) (SG x2 x8 x9 bg aV cf ca v19 v20)) (cond (aS (W .u64 ((W .u64 ((4294967296:Int)*ei))+cf)) (W .u64 (dg*bg))) (let v48:Int:=W .u64 (dg-1);let v49:Int:=W .u64 (ei+x9);cond (c0 4294967296 v49) (Jt x2 x8 x9 bg aV cf ca v48) (SG x2 x8 x9 bg aV cf ca v48 v49)) (Jt x2 x8 x9 bg aV cf ca dg))
def eD.MS(N:Nat):Nat→eD.GP
 |0,_,_,_,_,_,_,_,_,_=>none
 |n+1,x2,x8,x9,bg,aV,cf,ca,dg,ei=>eD.MT N (eD.U2 N) (eD.MS N n) x2 x8 x9 bg aV cf ca dg ei
def eD.b(N:Nat)(X8:eD.GP)(a0:Int)(a1:Int)(a2:Int):Option ((Int)×(Int)):=
 cond (aM a2 0) (none) (cond (c0 a2 a0) (none) (cond (aM a0 0) (cond (aM a2 0) (none) (cond (aM a2 0) (none) (some ((W .u64 (quo a1 a2)),(rem a1 a2))))) ((ZR N a2).bind λr3=>let v4:Int:=W .u64 r3;cond (aS v4 0) (none) (let v5:Int:=W .u64 (shl .u64 a2 v4);cond (aS 32 0) (none) (let v6:Int:=shr .u64 v5 32;cond (aS v4 0) (none) (let v9:Int:=W .u64 ((64:Int)-v4);cond (aS v9 0) (none) (let v11:Int:=mR .or .u64 (W .u64 (shl .u64 a0 v4)) (shr .u64 a1 v9);cond (aS v4 0) (none) (let v12:Int:=W .u64 (shl .u64 a1 v4);cond (aS 32 0) (none) (cond (aM v6 0) (none) (let U5:Int:=W .u64 (quo v11 v6);X8 v5 v4 v6 (mR .and .u64 v5 4294967295) v11 (shr .u64 v12 32) (mR .and .u64 v12 4294967295) U5 (W .u64 (v11-(W .u64 (U5*v6))))))))))))))
def eD(N:Nat)(a0:Int)(a1:Int)(a2:Int):Option ((Int)×(Int)):=eD.b N (eD.MS N N) a0 a1 a2
abbrev ug.Oe:=cN→Int→Int→Int→Option (cN×(Int)×(Bool))
def ug.As(N:Nat)(x4:cN)(bg:Int)(aV:Int)(bc:Int):Option (cN×(Int)×(Bool)):=
 (rr N true bg bc).bind λpG=>some (pG.1,(W .i64 aV),true)
def ug.Kf(N:Nat)(x4:cN)(bg:Int)(aV:Int)(bc:Int):Option (cN×(Int)×(Bool)):=ug.As N x4 bg aV bc
def ug.b(N:Nat)(vM:ug.Oe)(a0:cN)(a1:Int):Option (cN×(Int)×(Bool)):=
 cond (aS a1 1) (some (df,(0:Int),false)) ((Z1 N a0).bind λr1=>let v2:Int:=W .u64 a1;(eD N (0:Int) r1.1 v2).bind λr3=>(eD N r3.2 r1.2 v2).bind λr4=>cond (c0 0 a0.1) (some (((W .i64 r3.1),(r4.1,())),(W .i64 r4.2),true)) (cond (aS 0 r4.2) ((vB N r4.1 (1:Int) (0:Int)).bind λr7=>vM df (W .u64 (r3.1+r7.2)) (W .u64 (v2-r4.2)) r7.1) (vM df r3.1 r4.2 r4.1)))
def ug(N:Nat)(a0:cN)(a1:Int):Option (cN×(Int)×(Bool)):=ug.b N (ug.Kf N) a0 a1
def Kh(N:Nat)(a0:cN):Option ((Int)×(Bool)):=
 cond (aS 63 0) (none) (cond (!aM a0.1 (shr .i64 (W .i64 a0.2.1) 63)) (some ((0:Int),false)) (some ((W .i64 a0.2.1),true)))
def ahW(N:Nat)(a0:List (Int)):Option (List (Int)):=
 cond (jt 0 (List.length a0:Int) (List.length a0:Int) (List.length a0:Int)) (some (List.drop (0:Int).toNat (List.take (List.length a0:Int).toNat a0))) (none)
abbrev iR.iV:=(List (Int))→(List (Int))→Int→Int→Int→Int→Option (List (Int))
abbrev iR.dv:=(List (Int))→(List (Int))→Int→Int→Option (List (Int))
def iR.tb(N:Nat)(c7:iR.dv)(jG:iR.iV)(x0:List (Int))(x3:List (Int))(x4:Int)(x5:Int)(bg:Int)(aV:Int):Option (List (Int)):=
 cond (aS 0 x5) (let v4:Int:=W .i64 (x5-1);cond (aZ v4 (List.length x3)) (cond (aZ (List.getD x3 v4.toNat (0:Int)) (List.length x0)) (cond (aZ x4 (List.length x0)) (cond (aS (List.getD x0 (List.getD x3 v4.toNat (0:Int)).toNat (0:Int)) (List.getD x0 x4.toNat (0:Int))) (jG x0 x3 x4 (W .i64 (x5-1)) bg aV) ((kM N x3 x5 ([x4])).bind λr6=>c7 x0 r6 bg (W .i64 (aV+1)))) (none)) (none)) (none)) ((kM N x3 x5 ([x4])).bind λr8=>c7 x0 r8 bg (W .i64 (aV+1)))
def iR.l6(N:Nat)(c7:iR.dv):Nat→iR.iV
 |0,_,_,_,_,_,_=>none
 |n+1,x0,x3,x4,x5,bg,aV=>iR.tb N c7 (iR.l6 N c7 n) x0 x3 x4 x5 bg aV
def iR.lB(N:Nat)(vy:iR.iV)(c7:iR.dv)(x0:List (Int))(x3:List (Int))(bg:Int)(aV:Int):Option (List (Int)):=
 cond (aS aV bg) (vy x0 x3 aV (List.length x3:Int) bg aV) ((ahW N x3).bind λm7=>some m7)
def iR.l3(N:Nat):Nat→iR.dv
 |0,_,_,_,_=>none
 |n+1,x0,x3,bg,aV=>iR.lB N (iR.l6 N (iR.l3 N n) N) (iR.l3 N n) x0 x3 bg aV
def iR.b(N:Nat)(mF:iR.dv)(a0:List (Int)):Option (List (Int)):=
 cond (gI 0 (List.length a0:Int)) (mF a0 (List.replicate (0:Int).toNat (0:Int)) (List.length a0:Int) (0:Int)) (none)
def iR(N:Nat)(a0:List (Int)):Option (List (Int)):=iR.b N (iR.l3 N N) a0
abbrev gj.xm:=(List (Int))→(List (Int))→Int→Int→Option ((List (Int))×(Int))
abbrev gj.gz:=Int→Int→(List (Int))→(List (Int))→Int→(List (Int))→Int→Int→Option ((List (Int))×(Int))
abbrev gj.Q9:=Int→(List (Int))→Int→Option ((List (Int))×(Int))
def gj.AT(N:Nat)(xn:gj.xm)(x8:List (Int))(x88:List (Int))(x89:Int)(x90:Int):Option ((List (Int))×(Int)):=
 cond (aS x90 x89) (cond (aZ x90 (List.length x88)) (cond (aZ (List.getD x88 x90.toNat (0:Int)) (List.length x8)) (cond (aZ (List.getD x88 x90.toNat (0:Int)) (List.length x8)) (xn (List.set x8 (List.getD x88 x90.toNat (0:Int)).toNat (W .i64 ((List.getD x8 (List.getD x88 x90.toNat (0:Int)).toNat (0:Int))+1))) x88 x89 (W .i64 (x90+1))) (none)) (none)) (none)) (some (x8,(0:Int)))
def gj.y5(N:Nat):Nat→gj.xm
 |0,_,_,_,_=>none
 |n+1,x8,x88,x89,x90=>gj.AT N (gj.y5 N n) x8 x88 x89 x90
def gj.mX(N:Nat)(Of:gj.xm)(jc:gj.gz)(x0:Int)(x6:Int)(x8:List (Int))(x9:List (Int))(bg:Int)(x50:List (Int))(x51:Int)(U6:Int):Option ((List (Int))×(Int)):=
 cond (aS U6 x51) (cond (aZ U6 (List.length x50)) ((Z0 N x0 (List.getD x50 U6.toNat (0:Int))).bind λr7=>(ug N r7 x6).bind λr8=>(Kh N r8.1).bind λr9=>cond (aZ U6 (List.length x8)) (let v10:List (Int):=List.set x8 U6.toNat r9.1;cond (aZ U6 (List.length x9)) (cond (aZ U6 (List.length v10)) (jc x0 x6 v10 (List.set x9 U6.toNat r8.2.1) (W .i64 (bg-(List.getD v10 U6.toNat (0:Int)))) x50 x51 (W .i64 (U6+1))) (none)) (none)) (none)) (none)) ((iR N x9).bind λoh=>cond (jt 0 bg (List.length oh:Int) (List.length oh:Int)) (let U5:List (Int):=List.drop (0:Int).toNat (List.take bg.toNat oh);Of x8 U5 (List.length U5:Int) (0:Int)) (none))
def gj.oF(N:Nat):Nat→gj.gz
 |0,_,_,_,_,_,_,_,_=>none
 |n+1,x0,x6,x8,x9,bg,x50,x51,U6=>gj.mX N (gj.y5 N N) (gj.oF N n) x0 x6 x8 x9 bg x50 x51 U6
def gj.PI(N:Nat)(uC:gj.gz)(x0:Int)(x1:List (Int))(x6:Int):Option ((List (Int))×(Int)):=
 cond (gI (List.length x1:Int) (List.length x1:Int)) (let v4:List (Int):=List.replicate (List.length x1:Int).toNat (0:Int);cond (gI (List.length x1:Int) (List.length x1:Int)) (cond (aM x0 0) (some (v4,(0:Int))) (uC x0 x6 v4 (List.replicate (List.length x1:Int).toNat (0:Int)) x0 x1 (List.length x1:Int) (0:Int))) (none)) (none)
def gj.j8(N:Nat)(x0:Int)(x1:List (Int))(x6:Int):Option ((List (Int))×(Int)):=gj.PI N (gj.oF N N) x0 x1 x6
def gj.b(N:Nat)(GQ:gj.Q9)(a0:Int)(a1:List (Int)):Option ((List (Int))×(Int)):=
 cond (aS a0 0) (some ([],(1:Int))) ((TZ N a1).bind λr1=>cond (!r1) (some ([],(1:Int))) ((qa N a1).bind λr2=>cond (!r2.2) (some ([],(2:Int))) (cond (aM r2.1 0) (cond (aS 0 a0) (some ([],(1:Int))) (GQ a0 a1 r2.1)) (GQ a0 a1 r2.1))))
def gj(N:Nat)(a0:Int)(a1:List (Int)):Option ((List (Int))×(Int)):=gj.b N (gj.j8 N) a0 a1
abbrev nW.sa:=(List (Int))→(List (Int))→(List (Int))→Int→(List (Int))→Int→Int→Option ((List (Int))×(Int)×(Int))
abbrev nW.X9:=(List (Int))→(List (Int))→(List (Int))→Int→(List (Int))→Int→Int→Option ((List (Int))×(Int)×(Int))
abbrev nW.eN:=(List (Int))→(List (Int))→(List (Int))→Int→Option ((List (Int))×(Int)×(Int))
def nW.yl(N:Nat)(dY:nW.eN)(Ba:nW.sa)(x1:List (Int))(x2:List (Int))(aV:List (Int))(bc:Int)(X4:List (Int))(Q7:Int)(SH:Int):Option ((List (Int))×(Int)×(Int)):=
 cond (aS SH Q7) (cond (aZ SH (List.length X4)) (cond (aZ SH (List.length x2)) (cond (aZ SH (List.length aV)) (let YX:Int:=mn (List.getD X4 SH.toNat (0:Int)) (W .i64 ((List.getD x2 SH.toNat (0:Int))-(List.getD aV SH.toNat (0:Int))));cond (aZ SH (List.length aV)) (cond (aZ SH (List.length aV)) (Ba x1 x2 (List.set aV SH.toNat (W .i64 ((List.getD aV SH.toNat (0:Int))+YX))) (W .i64 (bc-YX)) X4 Q7 (W .i64 (SH+1))) (none)) (none)) (none)) (none)) (none)) (dY x1 x2 aV bc)
def nW.AY(N:Nat)(dY:nW.eN):Nat→nW.sa
 |0,_,_,_,_,_,_,_=>none
 |n+1,x1,x2,aV,bc,X4,Q7,SH=>nW.yl N dY (nW.AY N dY n) x1 x2 aV bc X4 Q7 SH
def nW.ah0(N:Nat)(GR:nW.sa)(dY:nW.eN)(af7:nW.X9)(x1:List (Int))(x2:List (Int))(aV:List (Int))(bc:Int)(cf:List (Int))(Hl:Int)(yD:Int):Option ((List (Int))×(Int)×(Int)):=
 cond (aS yD Hl) (cond (aZ yD (List.length aV)) (cond (aZ yD (List.length x2)) (cond (aS (List.getD aV yD.toNat (0:Int)) (List.getD x2 yD.toNat (0:Int))) (cond (aZ yD (List.length x1)) (cond (aZ yD (List.length cf)) (af7 x1 x2 aV bc (List.set cf yD.toNat (List.getD x1 yD.toNat (0:Int))) Hl (W .i64 (yD+1))) (none)) (none)) (af7 x1 x2 aV bc cf Hl (W .i64 (yD+1)))) (none)) (none)) ((gj N bc cf).bind λpG=>cond (!aM pG.2 0) (some (aV,bc,(0:Int))) (GR x1 x2 aV bc pG.1 (List.length pG.1:Int) (0:Int)))
def nW.l10(N:Nat)(dY:nW.eN):Nat→nW.X9
 |0,_,_,_,_,_,_,_=>none
 |n+1,x1,x2,aV,bc,cf,Hl,yD=>nW.ah0 N (nW.AY N dY N) dY (nW.l10 N dY n) x1 x2 aV bc cf Hl yD
def nW.pN(N:Nat)(anI:nW.X9)(dY:nW.eN)(x1:List (Int))(x2:List (Int))(aV:List (Int))(bc:Int):Option ((List (Int))×(Int)×(Int)):=
 cond (aS 0 bc) (cond (gI (List.length x1:Int) (List.length x1:Int)) (anI x1 x2 aV bc (List.replicate (List.length x1:Int).toNat (0:Int)) (List.length x1:Int) (0:Int)) (none)) (some (aV,bc,(0:Int)))
def nW.l7(N:Nat):Nat→nW.eN
 |0,_,_,_,_=>none
 |n+1,x1,x2,aV,bc=>nW.pN N (nW.l10 N (nW.l7 N n) N) (nW.l7 N n) x1 x2 aV bc
def nW.b(N:Nat)(tt:nW.eN)(a0:Int)(a1:List (Int))(a2:List (Int)):Option ((List (Int))×(Int)×(Int)):=
 cond (aS a0 0) (some ([],(0:Int),(1:Int))) ((TZ N a1).bind λr1=>cond (!r1) (some ([],(0:Int),(1:Int))) (cond (!aM (List.length a2:Int) (List.length a1:Int)) (some ([],(0:Int),(1:Int))) ((TZ N a2).bind λr2=>cond (!r2) (some ([],(0:Int),(1:Int))) ((qa N a1).bind λr3=>cond (!r3.2) (some ([],(0:Int),(2:Int))) (cond (gI (List.length a1:Int) (List.length a1:Int)) (tt a1 a2 (List.replicate (List.length a1:Int).toNat (0:Int)) a0) (none))))))
def nW(N:Nat)(a0:Int)(a1:List (Int))(a2:List (Int)):Option ((List (Int))×(Int)×(Int)):=nW.b N (nW.l7 N N) a0 a1 a2
abbrev qo.xm:=Int→Int→(List (Int))→au→(List (Int))→Int→Int→Option (au×(Int))
abbrev qo.sb:=Int→Int→(List (Int))→(List (Int))→au→Int→Int→Option (au×(Int))
def qo.AT(N:Nat)(xn:qo.xm)(x2:Int)(x8:Int)(x9:List (Int))(ei:au)(Ya:List (Int))(x96:Int)(Lo:Int):Option (au×(Int)):=
 cond (aS Lo x96) (cond (aZ Lo (List.length Ya)) (cond (aS x8 0) (let YY:Int:=W .i64 (0-(List.getD Ya Lo.toNat (0:Int)));cond (!aM YY 0) (cond (aZ Lo (List.length x9)) (cond (small (List.length ei+List.length ([(List.getD x9 Lo.toNat (0:Int),(x2,(YY,())))]))) (xn x2 x8 x9 (ei++([(List.getD x9 Lo.toNat (0:Int),(x2,(YY,())))])) Ya x96 (W .i64 (Lo+1))) (none)) (none)) (xn x2 x8 x9 ei Ya x96 (W .i64 (Lo+1)))) (cond (!aM (List.getD Ya Lo.toNat (0:Int)) (0:Int)) (cond (aZ Lo (List.length x9)) (cond (small (List.length ei+List.length ([(List.getD x9 Lo.toNat (0:Int),(x2,(List.getD Ya Lo.toNat (0:Int),())))]))) (xn x2 x8 x9 (ei++([(List.getD x9 Lo.toNat (0:Int),(x2,(List.getD Ya Lo.toNat (0:Int),())))])) Ya x96 (W .i64 (Lo+1))) (none)) (none)) (xn x2 x8 x9 ei Ya x96 (W .i64 (Lo+1))))) (none)) (some (ei,(0:Int)))
def qo.y5(N:Nat):Nat→qo.xm
 |0,_,_,_,_,_,_,_=>none
 |n+1,x2,x8,x9,ei,Ya,x96,Lo=>qo.AT N (qo.y5 N n) x2 x8 x9 ei Ya x96 Lo
def qo.uv(N:Nat)(Of:qo.xm)(s4:qo.sb)(x2:Int)(x8:Int)(x9:List (Int))(bg:List (Int))(UK:au)(x42:Int)(SJ:Int):Option (au×(Int)):=
 cond (aS SJ x42) (cond (aZ SJ (List.length UK)) (cond (!aM ((List.getD UK SJ.toNat bf).1) (0:Int)) (cond (aM (((List.getD UK SJ.toNat bf).2).1) x2) (cond (!(oR .bool (aS ((((List.getD UK SJ.toNat bf).2).2).1) (0:Int)) (aS x8 0))) (cond (small (List.length x9+List.length ([(List.getD UK SJ.toNat bf).1]))) ((F96 N ((((List.getD UK SJ.toNat bf).2).2).1)).bind λr5=>let v6:Int:=W .i64 r5;cond (small (List.length bg+List.length ([v6]))) (s4 x2 x8 (x9++([(List.getD UK SJ.toNat bf).1])) (bg++([v6])) UK x42 (W .i64 (SJ+1))) (none)) (none)) (s4 x2 x8 x9 bg UK x42 (W .i64 (SJ+1)))) (s4 x2 x8 x9 bg UK x42 (W .i64 (SJ+1)))) (s4 x2 x8 x9 bg UK x42 (W .i64 (SJ+1)))) (none)) ((F96 N x8).bind λpZ=>(nW N (W .i64 pZ) bg bg).bind λoh=>cond (!aM oh.2.2 0) (some ([],oh.2.2)) (Of x2 x8 x9 ([((0:Int),(x2,((W .i64 (0-x8)),())))]) oh.1 (List.length oh.1:Int) (0:Int)))
def qo.xi(N:Nat):Nat→qo.sb
 |0,_,_,_,_,_,_,_=>none
 |n+1,x2,x8,x9,bg,UK,x42,SJ=>qo.uv N (qo.y5 N N) (qo.xi N n) x2 x8 x9 bg UK x42 SJ
def qo.b(N:Nat)(GU:qo.sb)(a0:ag)(a1:aq)(a2:Int):Option (au×(Int)):=
 (lC N a0 a1).bind λr1=>cond (!r1) (some ([],(1:Int))) (cond (aS a2 0) (some ([],(3:Int))) (cond (c0 (List.length a0.1:Int) a2) (some ([],(3:Int))) ((DL N a1.2.2.2.1 (0:Int) a2).bind λr2=>cond (aM r2 0) (some ([],(0:Int))) (GU a2 r2 ([]) ([]) a1.2.2.2.1 (List.length a1.2.2.2.1:Int) (0:Int)))))
def qo(N:Nat)(a0:ag)(a1:aq)(a2:Int):Option (au×(Int)):=qo.b N (qo.xi N N) a0 a1 a2
def aap(N:Nat)(a0:aq):Option aq:=
 (ou N a0.1).bind λr1=>(ou N a0.2.1).bind λr2=>(ou N a0.2.2.1).bind λr3=>(ou N a0.2.2.2.1).bind λr4=>(ou N a0.2.2.2.2.1).bind λr5=>(ou N a0.2.2.2.2.2.1).bind λr6=>some (r1,(r2,(r3,(r4,(r5,(r6,()))))))
abbrev gD.iV:=au→Int→lz→Int→au→Int→Int→Option (Bool)
abbrev gD.de:=au→Int→Option (Bool)
def gD.tb(N:Nat)(eS:gD.de)(jG:gD.iV)(x0:au)(x3:Int)(x4:lz)(x9:Int)(bc:au)(cf:Int)(ca:Int):Option (Bool):=
 cond (aS ca cf) (cond (aZ ca (List.length bc)) (cond (aM (((List.getD bc ca.toNat bf).2).1) x3) ((Z4 N ((((List.getD bc ca.toNat bf).2).2).1)).bind λr3=>cond (small (List.length x4+List.length ([r3]))) (jG x0 x3 (x4++([r3])) x9 bc cf (W .i64 (ca+1))) (none)) (jG x0 x3 x4 x9 bc cf (W .i64 (ca+1)))) (none)) ((nE N x4).bind λr7=>cond (!r7.2) (some false) ((F78 N r7.1).bind λr8=>cond (!aM r8 0) (some false) (eS x0 (W .i64 (x9+1)))))
def gD.l6(N:Nat)(eS:gD.de):Nat→gD.iV
 |0,_,_,_,_,_,_,_=>none
 |n+1,x0,x3,x4,x9,bc,cf,ca=>gD.tb N eS (gD.l6 N eS n) x0 x3 x4 x9 bc cf ca
def gD.gV(N:Nat)(vy:gD.iV)(eS:gD.de)(x0:au)(x9:Int):Option (Bool):=
 cond (aS x9 6) (vy x0 x9 ([]) x9 x0 (List.length x0:Int) (0:Int)) (some true)
def gD.l2(N:Nat):Nat→gD.de
 |0,_,_=>none
 |n+1,x0,x9=>gD.gV N (gD.l6 N (gD.l2 N n) N) (gD.l2 N n) x0 x9
def gD.b(N:Nat)(jo:gD.de)(a0:au):Option (Bool):=
 jo a0 (0:Int)
def gD(N:Nat)(a0:au):Option (Bool):=gD.b N (gD.l2 N N) a0
def aaf(N:Nat)(a0:au):Option au:=
 cond (jt 0 (List.length a0:Int) (List.length a0:Int) (List.length a0:Int)) (some (List.drop (0:Int).toNat (List.take (List.length a0:Int).toNat a0))) (none)
abbrev cn.anJ:=au→au→dd→Int→au→Int→Int→Option (au×(Int))
abbrev cn.jQ:=au→au→dd→Int→au→Int→Int→Option (au×(Int))
abbrev cn.Yb:=au→au→dd→lz→au→Int→Int→au→Int→Int→Option (au×(Int))
abbrev cn.II:=au→au→au→Int→Int→Option (au×(Int))
abbrev cn.gz:=au→au→au→Int→Int→Option (au×(Int))
abbrev cn.bI:=au→au→au→Int→Int→Option (au×(Int))
def cn.ahO(N:Nat)(jc:cn.gz)(x1:au)(x8:au)(bg:dd)(aV:Int)(Og:au)(Hl:Int)(yD:Int):Option (au×(Int)):=
 cond (aM aV (List.length x8:Int)) ((kM N x8 aV ([(bg.1,(bg.2.1,((0:Int),())))])).bind λsv=>jc x1 sv Og Hl (W .i64 (yD+1))) (cond (aZ aV (List.length x8)) ((TB N bg.1 bg.2.1 (List.getD x8 aV.toNat bf)).bind λtu=>cond (!aM tu 0) ((kM N x8 aV ([(bg.1,(bg.2.1,((0:Int),())))])).bind λCc=>jc x1 Cc Og Hl (W .i64 (yD+1))) (jc x1 x8 Og Hl (W .i64 (yD+1)))) (none))
def cn.j18(N:Nat)(jc:cn.gz)(x1:au)(x8:au)(bg:dd)(aV:Int)(Og:au)(Hl:Int)(yD:Int):Option (au×(Int)):=cn.ahO N jc x1 x8 bg aV Og Hl yD
def cn.so(N:Nat)(af8:cn.anJ)(jc:cn.gz)(iU:cn.jQ)(x1:au)(x8:au)(bg:dd)(aV:Int)(Og:au)(Hl:Int)(yD:Int):Option (au×(Int)):=
 cond (aS aV (List.length x8:Int)) (cond (aZ aV (List.length x8)) ((TB N bg.1 bg.2.1 (List.getD x8 aV.toNat bf)).bind λm7=>cond (aS 0 m7) (iU x1 x8 bg (W .i64 (aV+1)) Og Hl yD) (af8 x1 x8 bg aV Og Hl yD)) (none)) (af8 x1 x8 bg aV Og Hl yD)
def cn.sQ(N:Nat)(jc:cn.gz):Nat→cn.jQ
 |0,_,_,_,_,_,_,_=>none
 |n+1,x1,x8,bg,aV,Og,Hl,yD=>cn.so N (cn.j18 N jc) jc (cn.sQ N jc n) x1 x8 bg aV Og Hl yD
def cn.aag(N:Nat)(Ju:cn.II)(Yc:cn.Yb)(x1:au)(bc:au)(ca:dd)(dg:lz)(Bb:au)(DQ:Int)(su:Int)(K3:au)(UL:Int)(HX:Int):Option (au×(Int)):=
 cond (aS HX UL) (cond (aZ HX (List.length K3)) (cond (aM ((List.getD K3 HX.toNat bf).1) ca.1) (cond (aM (((List.getD K3 HX.toNat bf).2).1) ca.2.1) ((Z4 N ((((List.getD K3 HX.toNat bf).2).2).1)).bind λGN=>cond (small (List.length dg+List.length ([GN]))) (Yc x1 bc ca (dg++([GN])) Bb DQ su K3 UL (W .i64 (HX+1))) (none)) (Yc x1 bc ca dg Bb DQ su K3 UL (W .i64 (HX+1)))) (Yc x1 bc ca dg Bb DQ su K3 UL (W .i64 (HX+1)))) (none)) ((nE N dg).bind λr28=>(Kh N r28.1).bind λJv=>cond (!Jv.2) (some (bK,(2:Int))) ((TC N Jv.1).bind λRa=>cond (!Ra) (some (bK,(2:Int))) (cond (!aM Jv.1 0) (cond (small (List.length bc+List.length ([(ca.1,(ca.2.1,(Jv.1,())))]))) (Ju x1 (bc++([(ca.1,(ca.2.1,(Jv.1,())))])) Bb DQ (W .i64 (su+1))) (none)) (Ju x1 bc Bb DQ (W .i64 (su+1))))))
def cn.l27(N:Nat)(Ju:cn.II):Nat→cn.Yb
 |0,_,_,_,_,_,_,_,_,_,_=>none
 |n+1,x1,bc,ca,dg,Bb,DQ,su,K3,UL,HX=>cn.aag N Ju (cn.l27 N Ju n) x1 bc ca dg Bb DQ su K3 UL HX
def cn.aai(N:Nat)(anK:cn.Yb)(Ju:cn.II)(x1:au)(bc:au)(Bb:au)(DQ:Int)(su:Int):Option (au×(Int)):=
 cond (aS su DQ) (cond (aZ su (List.length Bb)) ((Z4 N ((((List.getD Bb su.toNat bf).2).2).1)).bind λPK=>anK x1 bc (List.getD Bb su.toNat bf) ([PK]) Bb DQ su x1 (List.length x1:Int) (0:Int)) (none)) ((aaf N bc).bind λYd=>some (Yd,(0:Int)))
def cn.l23(N:Nat):Nat→cn.II
 |0,_,_,_,_,_=>none
 |n+1,x1,bc,Bb,DQ,su=>cn.aai N (cn.l27 N (cn.l23 N n) N) (cn.l23 N n) x1 bc Bb DQ su
def cn.mX(N:Nat)(A9:cn.jQ)(anL:cn.II)(jc:cn.gz)(x1:au)(x8:au)(Og:au)(Hl:Int)(yD:Int):Option (au×(Int)):=
 cond (aS yD Hl) (cond (aZ yD (List.length Og)) (A9 x1 x8 (List.getD Og yD.toNat bf) (0:Int) Og Hl yD) (none)) (cond (gI 0 (List.length x8:Int)) (anL x1 (List.replicate (0:Int).toNat bf) x8 (List.length x8:Int) (0:Int)) (none))
def cn.oF(N:Nat):Nat→cn.gz
 |0,_,_,_,_,_=>none
 |n+1,x1,x8,Og,Hl,yD=>cn.mX N (cn.sQ N (cn.oF N n) N) (cn.l23 N N) (cn.oF N n) x1 x8 Og Hl yD
def cn.dH(N:Nat)(uC:cn.gz)(ct:cn.bI)(x0:au)(x1:au)(x30:au)(x31:Int)(x32:Int):Option (au×(Int)):=
 cond (aS x32 x31) (cond (aZ x32 (List.length x30)) ((Ws N ((List.getD x30 x32.toNat bf).1) (((List.getD x30 x32.toNat bf).2).1)).bind λr3=>cond (!r3) (some (bK,(1:Int))) ((TC N ((((List.getD x30 x32.toNat bf).2).2).1)).bind λr4=>cond (!r4) (some (bK,(1:Int))) (ct x0 x1 x30 x31 (W .i64 (x32+1))))) (none)) ((gD N x1).bind λr6=>cond (!r6) (some (bK,(1:Int))) ((ou N x0).bind λr7=>uC x1 r7 x1 (List.length x1:Int) (0:Int)))
def cn.l4(N:Nat):Nat→cn.bI
 |0,_,_,_,_,_=>none
 |n+1,x0,x1,x30,x31,x32=>cn.dH N (cn.oF N N) (cn.l4 N n) x0 x1 x30 x31 x32
def cn.b(N:Nat)(e7:cn.bI)(a0:au)(a1:au):Option (au×(Int)):=
 (oe N a0).bind λr1=>cond (!r1) (some (bK,(1:Int))) (cond (aS 400 (List.length a1:Int)) (some (bK,(1:Int))) (e7 a0 a1 a1 (List.length a1:Int) (0:Int)))
def cn(N:Nat)(a0:au)(a1:au):Option (au×(Int)):=cn.b N (cn.l4 N N) a0 a1
def ahQ(N:Nat)(a0:au):Option au:=
 cond (jt 0 (List.length a0:Int) (List.length a0:Int) (List.length a0:Int)) (some (List.drop (0:Int).toNat (List.take (List.length a0:Int).toNat a0))) (none)
abbrev cq.X5:=dZ→au→vl→Int→dZ→Int→Int→Option (au×(Int))
abbrev cq.GV:=dZ→au→vl→Int→dZ→Int→Int→Option (au×(Int))
abbrev cq.GW:=dZ→au→dd→lz→au→Int→Int→dZ→Int→Int→Option (au×(Int))
abbrev cq.IS:=dZ→au→au→Int→Int→Option (au×(Int))
abbrev cq.jQ:=dZ→au→dZ→Int→Int→Option (au×(Int))
abbrev cq.bY:=au→dZ→lz→dZ→Int→Int→Option (au×(Int))
def cq.Qa(N:Nat)(iU:cq.jQ)(x1:dZ)(aV:au)(cf:vl)(ca:Int)(Oh:dZ)(PL:Int)(Lp:Int):Option (au×(Int)):=
 cond (aM ca (List.length aV:Int)) ((kM N aV ca ([(cf.1,(cf.2.1,((0:Int),())))])).bind λtu=>iU x1 tu Oh PL (W .i64 (Lp+1))) (cond (aZ ca (List.length aV)) ((Qh N cf.1 cf.2.1 (List.getD aV ca.toNat bf)).bind λBh=>cond (!aM Bh 0) ((kM N aV ca ([(cf.1,(cf.2.1,((0:Int),())))])).bind λBi=>iU x1 Bi Oh PL (W .i64 (Lp+1))) (iU x1 aV Oh PL (W .i64 (Lp+1)))) (none))
def cq.U2(N:Nat)(iU:cq.jQ)(x1:dZ)(aV:au)(cf:vl)(ca:Int)(Oh:dZ)(PL:Int)(Lp:Int):Option (au×(Int)):=cq.Qa N iU x1 aV cf ca Oh PL Lp
def cq.Qs(N:Nat)(Jt:cq.X5)(iU:cq.jQ)(Ye:cq.GV)(x1:dZ)(aV:au)(cf:vl)(ca:Int)(Oh:dZ)(PL:Int)(Lp:Int):Option (au×(Int)):=
 cond (aS ca (List.length aV:Int)) (cond (aZ ca (List.length aV)) ((Qh N cf.1 cf.2.1 (List.getD aV ca.toNat bf)).bind λpZ=>cond (aS 0 pZ) (Ye x1 aV cf (W .i64 (ca+1)) Oh PL Lp) (Jt x1 aV cf ca Oh PL Lp)) (none)) (Jt x1 aV cf ca Oh PL Lp)
def cq.TP(N:Nat)(iU:cq.jQ):Nat→cq.GV
 |0,_,_,_,_,_,_,_=>none
 |n+1,x1,aV,cf,ca,Oh,PL,Lp=>cq.Qs N (cq.U2 N iU) iU (cq.TP N iU n) x1 aV cf ca Oh PL Lp
def cq.Ku(N:Nat)(Jw:cq.IS)(C9:cq.GW)(x1:dZ)(dg:au)(eO:dd)(kb:lz)(Bc:au)(DR:Int)(zd:Int)(HY:dZ)(UM:Int)(GX:Int):Option (au×(Int)):=
 cond (aS GX UM) (cond (aZ GX (List.length HY)) (cond (aM ((List.getD HY GX.toNat ((0:Int),((0:Int),(df,())))).1) eO.1) (cond (aM (((List.getD HY GX.toNat ((0:Int),((0:Int),(df,())))).2).1) eO.2.1) (cond (small (List.length kb+List.length ([(((List.getD HY GX.toNat ((0:Int),((0:Int),(df,())))).2).2).1]))) (C9 x1 dg eO (kb++([(((List.getD HY GX.toNat ((0:Int),((0:Int),(df,())))).2).2).1])) Bc DR zd HY UM (W .i64 (GX+1))) (none)) (C9 x1 dg eO kb Bc DR zd HY UM (W .i64 (GX+1)))) (C9 x1 dg eO kb Bc DR zd HY UM (W .i64 (GX+1)))) (none)) ((nE N kb).bind λJv=>(Kh N Jv.1).bind λRa=>cond (!Jv.2) (some (bK,(2:Int))) (cond (!Ra.2) (some (bK,(2:Int))) (cond (!aM Ra.1 0) (cond (small (List.length dg+List.length ([(eO.1,(eO.2.1,(Ra.1,())))]))) (Jw x1 (dg++([(eO.1,(eO.2.1,(Ra.1,())))])) Bc DR (W .i64 (zd+1))) (none)) (Jw x1 dg Bc DR (W .i64 (zd+1))))))
def cq.Nk(N:Nat)(Jw:cq.IS):Nat→cq.GW
 |0,_,_,_,_,_,_,_,_,_,_=>none
 |n+1,x1,dg,eO,kb,Bc,DR,zd,HY,UM,GX=>cq.Ku N Jw (cq.Nk N Jw n) x1 dg eO kb Bc DR zd HY UM GX
def cq.aam(N:Nat)(Yf:cq.GW)(Jw:cq.IS)(x1:dZ)(dg:au)(Bc:au)(DR:Int)(zd:Int):Option (au×(Int)):=
 cond (aS zd DR) (cond (aZ zd (List.length Bc)) ((Z4 N ((((List.getD Bc zd.toNat bf).2).2).1)).bind λGN=>Yf x1 dg (List.getD Bc zd.toNat bf) ([GN]) Bc DR zd x1 (List.length x1:Int) (0:Int)) (none)) ((ahQ N dg).bind λYd=>some (Yd,(0:Int)))
def cq.l26(N:Nat):Nat→cq.IS
 |0,_,_,_,_,_=>none
 |n+1,x1,dg,Bc,DR,zd=>cq.aam N (cq.Nk N (cq.l26 N n) N) (cq.l26 N n) x1 dg Bc DR zd
def cq.so(N:Nat)(Yg:cq.GV)(anM:cq.IS)(iU:cq.jQ)(x1:dZ)(aV:au)(Oh:dZ)(PL:Int)(Lp:Int):Option (au×(Int)):=
 cond (aS Lp PL) (cond (aZ Lp (List.length Oh)) (Yg x1 aV (List.getD Oh Lp.toNat ((0:Int),((0:Int),(df,())))) (0:Int) Oh PL Lp) (none)) (cond (gI 0 (List.length aV:Int)) (anM x1 (List.replicate (0:Int).toNat bf) aV (List.length aV:Int) (0:Int)) (none))
def cq.sQ(N:Nat):Nat→cq.jQ
 |0,_,_,_,_,_=>none
 |n+1,x1,aV,Oh,PL,Lp=>cq.so N (cq.TP N (cq.sQ N n) N) (cq.l26 N N) (cq.sQ N n) x1 aV Oh PL Lp
def cq.fi(N:Nat)(A9:cq.jQ)(bV:cq.bY)(x0:au)(x1:dZ)(x6:lz)(x36:dZ)(x37:Int)(x38:Int):Option (au×(Int)):=
 cond (aS x38 x37) (cond (aZ x38 (List.length x36)) ((Qf N ((List.getD x36 x38.toNat ((0:Int),((0:Int),(df,())))).1) (((List.getD x36 x38.toNat ((0:Int),((0:Int),(df,())))).2).1)).bind λr4=>cond (!r4) (some (bK,(1:Int))) (cond (small (List.length x6+List.length ([(((List.getD x36 x38.toNat ((0:Int),((0:Int),(df,())))).2).2).1]))) (bV x0 x1 (x6++([(((List.getD x36 x38.toNat ((0:Int),((0:Int),(df,())))).2).2).1])) x36 x37 (W .i64 (x38+1))) (none))) (none)) ((nE N x6).bind λr7=>cond (!r7.2) (some (bK,(1:Int))) ((F78 N r7.1).bind λr8=>cond (!aM r8 0) (some (bK,(1:Int))) ((ou N x0).bind λr9=>A9 x1 r9 x1 (List.length x1:Int) (0:Int))))
def cq.l5(N:Nat):Nat→cq.bY
 |0,_,_,_,_,_,_=>none
 |n+1,x0,x1,x6,x36,x37,x38=>cq.fi N (cq.sQ N N) (cq.l5 N n) x0 x1 x6 x36 x37 x38
def cq.b(N:Nat)(gh:cq.bY)(a0:au)(a1:dZ):Option (au×(Int)):=
 (BC N a0).bind λr1=>cond (!r1) (some (bK,(1:Int))) (cond (aS 400 (List.length a1:Int)) (some (bK,(1:Int))) (cond (gI 0 (List.length a1:Int)) (gh a0 a1 (List.replicate (0:Int).toNat df) a1 (List.length a1:Int) (0:Int)) (none)))
def cq(N:Nat)(a0:au)(a1:dZ):Option (au×(Int)):=cq.b N (cq.l5 N N) a0 a1
def F65(N:Nat)(a0:aq)(a1:au)(a2:dZ):Option (aq×(Int)):=
 (aap N a0).bind λr1=>(cn N a0.2.2.2.1 a1).bind λr2=>cond (!aM r2.2 0) (some ((cw,(dh,(bK,(bK,(dV,(eh,())))))),r2.2)) ((cq N a0.2.2.1 a2).bind λr3=>cond (!aM r3.2 0) (some ((cw,(dh,(bK,(bK,(dV,(eh,())))))),r3.2)) (some ((r1.1,(r1.2.1,(r3.1,(r2.1,r1.2.2.2.2)))),(0:Int))))
abbrev DP.bY:=ag→aq→aq→au→Int→Int→Option (aq×(Int))
def DP.fi(N:Nat)(bV:DP.bY)(x2:ag)(x3:aq)(x4:aq)(x6:au)(eO:Int)(kb:Int):Option (aq×(Int)):=
 cond (aS kb eO) ((qo N x2 x3 kb).bind λr3=>cond (!aM r3.2 0) (some ((cw,(dh,(bK,(bK,(dV,(eh,())))))),r3.2)) (cond (small (List.length x6+List.length r3.1)) (bV x2 x3 x4 (x6++r3.1) eO (W .i64 (kb+1))) (none))) ((F65 N x3 x6 ([]:List ((Int)×((Int)×(((Int)×((Int)×(Unit)))×(Unit)))))).bind λr6=>some (r6.1,r6.2))
def DP.l5(N:Nat):Nat→DP.bY
 |0,_,_,_,_,_,_=>none
 |n+1,x2,x3,x4,x6,eO,kb=>DP.fi N (DP.l5 N n) x2 x3 x4 x6 eO kb
def DP.b(N:Nat)(gh:DP.bY)(a0:ag)(a1:aq):Option (aq×(Int)):=
 (lC N a0 a1).bind λr1=>cond (!r1) (some ((cw,(dh,(bK,(bK,(dV,(eh,())))))),(1:Int))) (gh a0 a1 (cw,(dh,(bK,(bK,(dV,(eh,())))))) ([]) (List.length a0.1:Int) (0:Int))
def DP(N:Nat)(a0:ag)(a1:aq):Option (aq×(Int)):=DP.b N (DP.l5 N N) a0 a1
abbrev B4.bI:=au→au→Int→Option (Bool)
def B4.dH(N:Nat)(ct:B4.bI)(x0:au)(x1:au)(x5:Int):Option (Bool):=
 cond (aS x5 (List.length x0:Int)) (cond (aZ x5 (List.length x0)) (cond (aZ x5 (List.length x1)) (cond (!(oR (.pair (.int .i64) (.pair (.int .i64) (.pair (.int .i64) .unit))) (List.getD x0 x5.toNat bf) (List.getD x1 x5.toNat bf))) (some false) (ct x0 x1 (W .i64 (x5+1)))) (none)) (none)) (some true)
def B4.l4(N:Nat):Nat→B4.bI
 |0,_,_,_=>none
 |n+1,x0,x1,x5=>B4.dH N (B4.l4 N n) x0 x1 x5
def B4.b(N:Nat)(e7:B4.bI)(a0:au)(a1:au):Option (Bool):=
 cond (!aM (List.length a0:Int) (List.length a1:Int)) (some false) (e7 a0 a1 (0:Int))
def B4(N:Nat)(a0:au)(a1:au):Option (Bool):=B4.b N (B4.l4 N N) a0 a1
abbrev BJ.bI:=au→au→Int→Option (Bool)
def BJ.dH(N:Nat)(ct:BJ.bI)(x0:au)(x1:au)(x5:Int):Option (Bool):=
 cond (aS x5 (List.length x0:Int)) (cond (aZ x5 (List.length x0)) (cond (aZ x5 (List.length x1)) (cond (!(oR (.pair (.int .i64) (.pair (.int .i64) (.pair (.int .i64) .unit))) (List.getD x0 x5.toNat bf) (List.getD x1 x5.toNat bf))) (some false) (ct x0 x1 (W .i64 (x5+1)))) (none)) (none)) (some true)
def BJ.l4(N:Nat):Nat→BJ.bI
 |0,_,_,_=>none
 |n+1,x0,x1,x5=>BJ.dH N (BJ.l4 N n) x0 x1 x5
def BJ.b(N:Nat)(e7:BJ.bI)(a0:au)(a1:au):Option (Bool):=
 cond (!aM (List.length a0:Int) (List.length a1:Int)) (some false) (e7 a0 a1 (0:Int))
def BJ(N:Nat)(a0:au)(a1:au):Option (Bool):=BJ.b N (BJ.l4 N N) a0 a1
def F26(N:Nat):Option (Bool):=
 (F86 N).bind λr1=>(qo N r1.1 r1.2 (0:Int)).bind λr2=>(DP N r1.1 r1.2).bind λr3=>(qo N r1.1 r1.2 (1:Int)).bind λr4=>cond (aM r2.2 0) ((B4 N r2.1 ([((0:Int),((0:Int),((-3:Int),()))),((1:Int),((0:Int),((2:Int),()))),((2:Int),((0:Int),((1:Int),())))])).bind λr5=>cond (r5) (cond (aM r3.2 0) ((BJ N r3.1.2.2.2.1 ([((1:Int),((0:Int),((-2:Int),()))),((2:Int),((0:Int),((-1:Int),()))),((3:Int),((0:Int),((3:Int),())))])).bind λr6=>cond (r6) (some (aM r4.2 3)) (some false)) (some false)) (some false)) (some false)
def F13(N:Nat)(a0:List (Int)):Option bb:=
 some (a0,((0:Int),()))
def F42(N:Nat)(a0:bb):Option ((Int)×bb):=
 cond (aS a0.2.1 (List.length a0.1:Int)) (cond (aZ a0.2.1 (List.length a0.1)) (some (List.getD a0.1 a0.2.1.toNat (0:Int),(a0.1,((W .i64 (a0.2.1+1)),a0.2.2)))) (none)) (some ((0:Int),(a0.1,((W .i64 (a0.2.1+1)),a0.2.2))))
def tj(N:Nat)(a0:bb)(a1:Int):Option ((Int)×bb):=
 (F42 N a0).bind λr1=>let v2:Int:=W .u64 a1;cond (aM v2 0) (none) (some ((W .i64 (rem r1.1 v2)),r1.2))
def YS(N:Nat)(a0:bb)(a1:Int):Option ((Bool)×bb):=
 (tj N a0 a1).bind λr1=>some (aM r1.1 (W .i64 (a1-1)),r1.2)
def Ln(N:Nat)(a0:bb):Option ((Int)×bb):=
 (F42 N a0).bind λr1=>cond (aM 8 0) (none) (let v2:Int:=rem r1.1 8;cond (aM v2 0) (cond (aS 1 0) (none) (some ((W .i64 (shr .u64 r1.1 1)),r1.2))) (cond (aM v2 1) (cond (aS 3 0) (none) (cond (aM 1000000000000 0) (none) (some ((W .i64 (rem (shr .u64 r1.1 3) 1000000000000)),r1.2)))) (cond (aM v2 2) (cond (aS 3 0) (none) (cond (aM 2 0) (none) (some ((W .i64 (rem (shr .u64 r1.1 3) 2)),r1.2)))) (cond (aS 3 0) (none) (cond (aM 5000 0) (none) (some ((W .i64 (rem (shr .u64 r1.1 3) 5000)),r1.2)))))))
abbrev vv.Q9:=bb→ag→ag→aO→Int→cy→Option (ag×bb)
abbrev vv.dv:=bb→ag→ag→aO→Int→Option (ag×bb)
def vv.PI(N:Nat)(c7:vv.dv)(x0:bb)(x2:ag)(x3:ag)(UN:aO)(x4:Int)(x5:cy):Option (ag×bb):=
 (YS N x0 (12:Int)).bind λoh=>cond (oh.1) ((Ln N oh.2).bind λtu=>cond (aM 1000000001 0) (none) (let Yh:Int:=rem tu.1 1000000001;(Ln N tu.2).bind λBh=>cond (aM 1000000001 0) (none) (let v18:Int:=rem Bh.1 1000000001;cond (small (List.length UN+List.length ([(x5.1,(x5.2.1,(Yh,(v18,x5.2.2.2.2))))]))) (c7 Bh.2 x2 (dh,x3.2) (UN++([(x5.1,(x5.2.1,(Yh,(v18,x5.2.2.2.2))))])) (W .i64 (x4-1))) (none)))) (cond (small (List.length UN+List.length ([x5]))) (c7 oh.2 x2 (dh,x3.2) (UN++([x5])) (W .i64 (x4-1))) (none))
def vv.j8(N:Nat)(c7:vv.dv)(x0:bb)(x2:ag)(x3:ag)(UN:aO)(x4:Int)(x5:cy):Option (ag×bb):=vv.PI N c7 x0 x2 x3 UN x4 x5
def vv.lB(N:Nat)(GQ:vv.Q9)(c7:vv.dv)(x0:bb)(x2:ag)(x3:ag)(UN:aO)(x4:Int):Option (ag×bb):=
 cond (aS 0 x4) ((tj N x0 (3:Int)).bind λr4=>(tj N r4.2 (300:Int)).bind λr5=>(tj N r5.2 (12:Int)).bind λr7=>(tj N r7.2 (6:Int)).bind λr8=>(YS N r8.2 (12:Int)).bind λr9=>cond (r9.1) ((Ln N r9.2).bind λm7=>cond (aM 1000000000000 0) (none) (GQ m7.2 x2 x3 UN x4 (r4.1,((W .i64 ((1:Int)+(rem m7.1 1000000000000))),(r7.1,(r8.1,())))))) (GQ r9.2 x2 x3 UN x4 (r4.1,((W .i64 ((1:Int)+r5.1)),(r7.1,(r8.1,())))))) ((tj N x0 (300:Int)).bind λGN=>(tj N GN.2 (5:Int)).bind λLq=>(tj N Lq.2 (3:Int)).bind λLr=>(tj N Lr.2 (3:Int)).bind λDa=>(tj N Da.2 (20:Int)).bind λUO=>let v28:Int:=W .i64 ((1:Int)+UO.1);(tj N UO.2 (100:Int)).bind λJv=>(YS N Jv.2 (15:Int)).bind λRa=>cond (Ra.1) ((Ln N Ra.2).bind λSK=>some ((UN,(SK.1,(Lq.1,(Lr.1,(Da.1,(v28,(Jv.1,x3.2.2.2.2.2.2.2))))))),SK.2)) (some ((UN,(GN.1,(Lq.1,(Lr.1,(Da.1,(v28,(Jv.1,x3.2.2.2.2.2.2.2))))))),Ra.2)))
def vv.l3(N:Nat):Nat→vv.dv
 |0,_,_,_,_,_=>none
 |n+1,x0,x2,x3,UN,x4=>vv.lB N (vv.j8 N (vv.l3 N n)) (vv.l3 N n) x0 x2 x3 UN x4
def vv.b(N:Nat)(mF:vv.dv)(a0:bb):Option (ag×bb):=
 (tj N a0 (4:Int)).bind λr1=>mF r1.2 (dh,fy) (dh,fy) dh (W .i64 ((1:Int)+r1.1))
def vv(N:Nat)(a0:bb):Option (ag×bb):=vv.b N (vv.l3 N N) a0
abbrev fP.gz:=bb→jE→Int→Option (jE×bb)
abbrev fP.oM:=bb→jE→Int→Option (jE×bb)
abbrev fP.dv:=bb→jE→Int→Option (jE×bb)
def fP.mX(N:Nat)(jc:fP.gz)(x0:bb)(x5:jE)(x8:Int):Option (jE×bb):=
 cond (c0 x8 7) ((tj N x0 (3000:Int)).bind λtu=>let Yh:Int:=W .i64 ((200:Int)+tu.1);(tj N tu.2 (200:Int)).bind λBh=>let v18:Int:=W .i64 ((20:Int)+Bh.1);cond (small (List.length x5+List.length ([((3:Int),((0:Int),(x8,((0:Int),((0:Int),((0:Int),(Yh,((0:Int),())))))))),((6:Int),((0:Int),(x8,((0:Int),((0:Int),((0:Int),(v18,((0:Int),()))))))))]))) (jc Bh.2 (x5++([((3:Int),((0:Int),(x8,((0:Int),((0:Int),((0:Int),(Yh,((0:Int),())))))))),((6:Int),((0:Int),(x8,((0:Int),((0:Int),((0:Int),(v18,((0:Int),()))))))))])) (W .i64 (x8+1))) (none)) (some (x5,x0))
def fP.oF(N:Nat):Nat→fP.gz
 |0,_,_,_=>none
 |n+1,x0,x5,x8=>fP.mX N (fP.oF N n) x0 x5 x8
def fP.zg(N:Nat)(uC:fP.gz)(uD:fP.oM)(x0:bb)(x5:jE)(x7:Int):Option (jE×bb):=
 cond (c0 x7 7) ((tj N x0 (2:Int)).bind λm7=>let v11:Int:=W .i64 ((1:Int)+m7.1);cond (small (List.length x5+List.length ([((2:Int),(v11,(x7,((0:Int),((2:Int),bf)))))]))) (uD m7.2 (x5++([((2:Int),(v11,(x7,((0:Int),((2:Int),bf)))))])) (W .i64 (x7+1))) (none)) (uC x0 x5 (1:Int))
def fP.l9(N:Nat):Nat→fP.oM
 |0,_,_,_=>none
 |n+1,x0,x5,x7=>fP.zg N (fP.oF N N) (fP.l9 N n) x0 x5 x7
def fP.lB(N:Nat)(Cd:fP.oM)(c7:fP.dv)(x0:bb)(x5:jE)(x6:Int):Option (jE×bb):=
 cond (c0 x6 4) (cond (small (List.length x5+List.length ([((1:Int),(x6,fy)),((2:Int),(x6,(x6,((0:Int),((1:Int),bf)))))]))) (let v2:List ((Int)×((Int)×((Int)×((Int)×((Int)×((Int)×((Int)×((Int)×(Unit))))))))):=x5++([((1:Int),(x6,fy)),((2:Int),(x6,(x6,((0:Int),((1:Int),bf)))))]);(YS N x0 (5:Int)).bind λr3=>cond (!r3.1) ((tj N r3.2 (400:Int)).bind λr4=>let v5:Int:=W .i64 ((1:Int)+r4.1);cond (small (List.length v2+List.length ([((5:Int),(x6,((0:Int),((0:Int),((0:Int),((0:Int),(v5,((0:Int),()))))))))]))) (c7 r4.2 (v2++([((5:Int),(x6,((0:Int),((0:Int),((0:Int),((0:Int),(v5,((0:Int),()))))))))])) (W .i64 (x6+1))) (none)) (c7 r3.2 v2 (W .i64 (x6+1)))) (none)) (Cd x0 x5 (5:Int))
def fP.l3(N:Nat):Nat→fP.dv
 |0,_,_,_=>none
 |n+1,x0,x5,x6=>fP.lB N (fP.l9 N N) (fP.l3 N n) x0 x5 x6
def fP.b(N:Nat)(mF:fP.dv)(a0:bb)(a1:ag):Option (jE×bb):=
 mF a0 ([]) (1:Int)
def fP(N:Nat)(a0:bb)(a1:ag):Option (jE×bb):=fP.b N (fP.l3 N N) a0 a1
def T3(N:Nat)(a0:bb)(a1:ag)(a2:Int):Option (ia×bb):=
 cond (aZ a2 (List.length a1.1)) ((tj N a0 (61:Int)).bind λr1=>(YS N r1.2 (20:Int)).bind λr6=>cond (r6.1) ((Ln N r6.2).bind λr7=>cond (aM 1000000000000 0) (none) (some (((9:Int),((0:Int),((0:Int),(a2,((0:Int),((0:Int),((0:Int),((W .i64 ((1:Int)+(rem r7.1 1000000000000))),())))))))),r7.2))) (some (((9:Int),((0:Int),((0:Int),(a2,((0:Int),((0:Int),((0:Int),((mx 1 (mn 1000000000000 (W .i64 ((W .i64 ((((List.getD a1.1 a2.toNat a7).2).1)+r1.1))-30)))),())))))))),r6.2))) (none)
def Xd(N:Nat)(a0:bb)(a1:ag):Option (ia×bb):=
 (tj N a0 (List.length a1.1:Int)).bind λr1=>(tj N r1.2 (7:Int)).bind λr2=>let v3:Int:=W .i64 ((1:Int)+r2.1);(tj N r2.2 (2:Int)).bind λr4=>let v5:Int:=W .i64 ((1:Int)+r4.1);(tj N r4.2 (30:Int)).bind λr6=>cond (aZ r1.1 (List.length a1.1)) ((tj N r6.2 (21:Int)).bind λr8=>(YS N r8.2 (30:Int)).bind λsv=>cond (sv.1) ((Ln N sv.2).bind λoh=>cond (aM 1000000000 0) (none) ((Ln N oh.2).bind λBh=>cond (aM 1000000000000 0) (none) (some (((7:Int),((0:Int),(v3,(r1.1,(v5,((0:Int),((W .i64 ((1:Int)+(rem oh.1 1000000000))),((W .i64 ((1:Int)+(rem Bh.1 1000000000000))),())))))))),Bh.2)))) (some (((7:Int),((0:Int),(v3,(r1.1,(v5,((0:Int),((W .i64 ((1:Int)+r6.1)),((mx 1 (mn 1000000000000 (W .i64 ((W .i64 ((((List.getD a1.1 r1.1.toNat a7).2).1)+r8.1))-10)))),())))))))),sv.2))) (none)
def Xe(N:Nat)(a0:bb)(a1:ag):Option (ia×bb):=
 (tj N a0 (4:Int)).bind λr1=>let v2:Int:=W .i64 ((1:Int)+r1.1);(tj N r1.2 (7:Int)).bind λr3=>let v4:Int:=W .i64 ((1:Int)+r3.1);(tj N r3.2 (List.length a1.1:Int)).bind λr5=>(tj N r5.2 (36:Int)).bind λr6=>let v7:Int:=W .i64 ((1:Int)+r6.1);cond (aM v7 1) (some ((v7,(v2,fy)),r6.2)) (cond (aM v7 11) (some ((v7,(v2,fy)),r6.2)) (cond (aM v7 12) (some ((v7,(v2,fy)),r6.2)) (cond (aM v7 13) (some ((v7,(v2,fy)),r6.2)) (cond (aM v7 2) ((tj N r6.2 (2:Int)).bind λr8=>some ((v7,(v2,(v4,((0:Int),((W .i64 ((1:Int)+r8.1)),bf))))),r8.2)) (cond (aM v7 3) ((Ln N r6.2).bind λm7=>some ((v7,((0:Int),(v4,((0:Int),((0:Int),((0:Int),((mx m7.1 1),((0:Int),())))))))),m7.2)) (cond (aM v7 4) ((Ln N r6.2).bind λpZ=>some ((v7,((0:Int),(v4,((0:Int),((0:Int),((0:Int),((mx pZ.1 1),((0:Int),())))))))),pZ.2)) (cond (aM v7 5) ((Ln N r6.2).bind λoh=>some ((v7,(v2,((0:Int),((0:Int),((0:Int),((0:Int),((mx oh.1 1),((0:Int),())))))))),oh.2)) (cond (aM v7 22) ((Ln N r6.2).bind λCc=>some ((v7,(v2,((0:Int),((0:Int),((0:Int),((0:Int),((mx Cc.1 1),((0:Int),())))))))),Cc.2)) (cond (aM v7 6) ((Ln N r6.2).bind λBi=>cond (aM 1000000000001 0) (none) (some ((v7,((0:Int),(v4,((0:Int),((0:Int),((0:Int),((rem Bi.1 1000000000001),((0:Int),())))))))),Bi.2))) (cond (aM v7 8) ((tj N r6.2 (40:Int)).bind λOi=>some ((v7,((0:Int),(v4,((0:Int),((0:Int),((W .i64 ((1:Int)+Oi.1)),df)))))),Oi.2)) (cond (aM v7 9) ((T3 N r6.2 a1 r5.1).bind λPM=>some (PM.1,PM.2)) (cond (aM v7 10) ((tj N r6.2 (3:Int)).bind λGN=>some ((v7,((0:Int),((0:Int),((0:Int),((0:Int),((0:Int),((W .i64 ((1:Int)+GN.1)),((0:Int),())))))))),GN.2)) (cond (aM v7 14) (some ((v7,(v2,(v4,ny))),r6.2)) (cond (aM v7 15) (some ((v7,zz7),r6.2)) (cond (aM v7 16) (some ((v7,zz7),r6.2)) (cond (aM v7 18) (some ((v7,zz7),r6.2)) (cond (aM v7 20) (some ((v7,zz7),r6.2)) (cond (aM v7 21) (some ((v7,zz7),r6.2)) (cond (aM v7 17) ((tj N r6.2 (60:Int)).bind λLr=>(tj N Lr.2 (20:Int)).bind λUO=>cond (aZ r5.1 (List.length a1.1)) (some ((v7,((0:Int),(v4,((0:Int),((0:Int),((W .i64 ((1:Int)+Lr.1)),((W .i64 ((1:Int)+UO.1)),(((List.getD a1.1 r5.1.toNat a7).2).1,())))))))),UO.2)) (none)) (cond (aM v7 19) ((tj N r6.2 (60:Int)).bind λJv=>(tj N Jv.2 (80:Int)).bind λSK=>some ((v7,(v2,((0:Int),((0:Int),((0:Int),((W .i64 ((1:Int)+Jv.1)),((0:Int),((W .i64 (SK.1-60)),())))))))),SK.2)) ((Xd N r6.2 a1).bind λr33=>some (r33.1,r33.2))))))))))))))))))))))
abbrev Ei.dv:=bb→ag→jE→Int→Option (jE×bb)
def Ei.lB(N:Nat)(c7:Ei.dv)(x0:bb)(x4:ag)(x7:jE)(x8:Int):Option (jE×bb):=
 cond (aS 0 x8) ((tj N x0 (8:Int)).bind λr5=>cond (aM r5.1 0) ((Xe N r5.2 x4).bind λr6=>cond (small (List.length x7+List.length ([r6.1]))) (c7 r6.2 x4 (x7++([r6.1])) (W .i64 (x8-1))) (none)) (cond (aM r5.1 1) ((tj N r5.2 (List.length x4.1:Int)).bind λr9=>(T3 N r9.2 x4 r9.1).bind λm7=>cond (small (List.length x7+List.length ([m7.1]))) (c7 m7.2 x4 (x7++([m7.1])) (W .i64 (x8-1))) (none)) ((Xd N r5.2 x4).bind λsv=>cond (small (List.length x7+List.length ([sv.1]))) (c7 sv.2 x4 (x7++([sv.1])) (W .i64 (x8-1))) (none)))) (some (x7,x0))
def Ei.l3(N:Nat):Nat→Ei.dv
 |0,_,_,_,_=>none
 |n+1,x0,x4,x7,x8=>Ei.lB N (Ei.l3 N n) x0 x4 x7 x8
def Ei.b(N:Nat)(mF:Ei.dv)(a0:bb)(a1:ag)(a2:Int):Option (jE×bb):=
 (fP N a0 a1).bind λr1=>(tj N r1.2 (W .i64 (a2+1))).bind λr3=>mF r3.2 a1 r1.1 r3.1
def Ei(N:Nat)(a0:bb)(a1:ag)(a2:Int):Option (jE×bb):=Ei.b N (Ei.l3 N N) a0 a1 a2
abbrev DN.dv:=bb→ag→jE→Int→Option (jE×bb)
def DN.lB(N:Nat)(c7:DN.dv)(x0:bb)(x3:ag)(x5:jE)(x6:Int):Option (jE×bb):=
 cond (aS 0 x6) ((YS N x0 (2:Int)).bind λr3=>cond (r3.1) ((tj N r3.2 (List.length x3.1:Int)).bind λr4=>(T3 N r4.2 x3 r4.1).bind λr5=>cond (small (List.length x5+List.length ([r5.1]))) (c7 r5.2 x3 (x5++([r5.1])) (W .i64 (x6-1))) (none)) ((Xe N r3.2 x3).bind λr8=>cond (small (List.length x5+List.length ([r8.1]))) (c7 r8.2 x3 (x5++([r8.1])) (W .i64 (x6-1))) (none))) (some (x5,x0))
def DN.l3(N:Nat):Nat→DN.dv
 |0,_,_,_,_=>none
 |n+1,x0,x3,x5,x6=>DN.lB N (DN.l3 N n) x0 x3 x5 x6
def DN.b(N:Nat)(mF:DN.dv)(a0:bb)(a1:ag):Option (jE×bb):=
 (tj N a0 (3:Int)).bind λr1=>mF r1.2 a1 ([]) r1.1
def DN(N:Nat)(a0:bb)(a1:ag):Option (jE×bb):=DN.b N (DN.l3 N N) a0 a1
def HI(N:Nat)(a0:Int)(a1:Int)(a2:Int):Option (Bool):=
 cond (c0 a1 a0) (some (c0 a0 a2)) (some false)
abbrev my.bI:=ag→Int→Option (Bool)
def my.dH(N:Nat)(ct:my.bI)(x1:ag)(x3:Int):Option (Bool):=
 cond (aS x3 (List.length x1.1:Int)) (cond (aZ x3 (List.length x1.1)) ((HI N ((List.getD x1.1 x3.toNat a7).1) (0:Int) (3:Int)).bind λr2=>cond (!r2) (some false) ((HI N (((List.getD x1.1 x3.toNat a7).2).1) (1:Int) (1000000000000:Int)).bind λr3=>cond (!r3) (some false) ((HI N ((((List.getD x1.1 x3.toNat a7).2).2).1) (0:Int) (1000000000:Int)).bind λr4=>cond (!r4) (some false) ((HI N (((((List.getD x1.1 x3.toNat a7).2).2).2).1) (0:Int) (1000000000:Int)).bind λr5=>cond (!r5) (some false) (ct x1 (W .i64 (x3+1))))))) (none)) (cond (c0 0 x1.2.1) ((HI N x1.2.2.1 (0:Int) (4:Int)).bind λr7=>cond (r7) ((HI N x1.2.2.2.1 (0:Int) (1000000:Int)).bind λr8=>cond (r8) ((HI N x1.2.2.2.2.1 (0:Int) (1000000:Int)).bind λr9=>cond (r9) ((HI N x1.2.2.2.2.2.1 (1:Int) (4611686018427387904:Int)).bind λm7=>cond (m7) (some (c0 0 x1.2.2.2.2.2.2.1)) (some false)) (some false)) (some false)) (some false)) (some false))
def my.l4(N:Nat):Nat→my.bI
 |0,_,_=>none
 |n+1,x1,x3=>my.dH N (my.l4 N n) x1 x3
def my.b(N:Nat)(e7:my.bI)(a0:ag):Option (Bool):=
 cond (aS (List.length a0.1:Int) 1) (some false) (cond (aS 6 (List.length a0.1:Int)) (some false) (e7 a0 (0:Int)))
def my(N:Nat)(a0:ag):Option (Bool):=my.b N (my.l4 N N) a0
abbrev ib.eN:=ag→aq→aq→(List (Int))→Int→Option (aq×(Int))
abbrev ib.Yi:=ag→aq→aq→(List (Int))→Option (aq×(Int))
def ib.pN(N:Nat)(dY:ib.eN)(x1:ag)(x2:aq)(x4:aq)(x4l:List (Int))(x5:Int):Option (aq×(Int)):=
 cond (aS x5 (List.length x1.1:Int)) (cond (aZ x5 (List.length x1.1)) (cond (small (List.length x4l+List.length ([((List.getD x1.1 x5.toNat a7).2).1]))) (dY x1 x2 (x4.1,(x4.2.1,(x4.2.2.1,(x4.2.2.2.1,(dV,x4.2.2.2.2.2))))) (x4l++([((List.getD x1.1 x5.toNat a7).2).1])) (W .i64 (x5+1))) (none)) (none)) (some ((x4.1,(x4.2.1,(x4.2.2.1,(x4.2.2.2.1,(x4l,x4.2.2.2.2.2))))),(0:Int)))
def ib.l7(N:Nat):Nat→ib.eN
 |0,_,_,_,_,_=>none
 |n+1,x1,x2,x4,x4l,x5=>ib.pN N (ib.l7 N n) x1 x2 x4 x4l x5
def ib.Tw(N:Nat)(tt:ib.eN)(x1:ag)(x2:aq)(x4:aq)(x4l:List (Int)):Option (aq×(Int)):=
 tt x1 x2 x4 x4l (0:Int)
def ib.j6(N:Nat)(x1:ag)(x2:aq)(x4:aq)(x4l:List (Int)):Option (aq×(Int)):=ib.Tw N (ib.l7 N N) x1 x2 x4 x4l
def ib.b(N:Nat)(K4:ib.Yi)(a0:ag):Option (aq×(Int)):=
 (my N a0).bind λr1=>cond (!r1) (some ((cw,(dh,(bK,(bK,(dV,(eh,())))))),(1:Int))) (cond (!aM a0.2.1 0) (K4 a0 (cw,(dh,(bK,(bK,(dV,(eh,())))))) (cw,(dh,([((1:Int),((0:Int),((W .i64 (0-a0.2.1)),()))),((3:Int),((0:Int),(a0.2.1,())))],(bK,(dV,(eh,())))))) dV) (K4 a0 (cw,(dh,(bK,(bK,(dV,(eh,())))))) (cw,(dh,(bK,(bK,(dV,(eh,())))))) dV))
def ib(N:Nat)(a0:ag):Option (aq×(Int)):=ib.b N (ib.j6 N) a0
def aij(N:Nat)(a0:ag):Option (aU×(Int)):=
 (ib N a0).bind λr1=>cond (!aM r1.2 0) (some (((0:Int),((0:Int),((cw,(dh,(bK,(bK,(dV,(eh,())))))),(((0:Int),((0:Int),((0:Int),((0:Int),(dh,(([]:List ((Int)×((List ((Int)×((Int)×(Unit))))×((Int)×((Int)×((Int)×((Int)×(Unit)))))))),(dh,(dV,(cw,(cw,())))))))))),(((0:Int),((0:Int),(DZ,((0:Int),())))),()))))),r1.2)) (some (((0:Int),((1:Int),(r1.1,(((0:Int),((0:Int),((0:Int),((0:Int),(dh,(([]:List ((Int)×((List ((Int)×((Int)×(Unit))))×((Int)×((Int)×((Int)×((Int)×(Unit)))))))),(dh,(dV,(cw,(cw,())))))))))),(((0:Int),((0:Int),(DZ,((0:Int),())))),()))))),(0:Int)))
def ah4(N:Nat)(a0:Int):Option (Bool):=
 cond (c0 1 a0) (some (c0 a0 22)) (some false)
def aaC(N:Nat)(a0:Int):Option (ByteArray):=
 cond (aM a0 1) (some (strOf [77])) (cond (aM a0 11) (some (strOf [77])) (cond (aM a0 12) (some (strOf [77])) (cond (aM a0 13) (some (strOf [77])) (cond (aM a0 2) (some (strOf [77,65,83])) (cond (aM a0 3) (some (strOf [65,81])) (cond (aM a0 4) (some (strOf [65,81])) (cond (aM a0 6) (some (strOf [65,81])) (cond (aM a0 5) (some (strOf [77,81])) (cond (aM a0 22) (some (strOf [77,81])) (cond (aM a0 7) (some (strOf [65,73,83,81,80])) (cond (aM a0 8) (some (strOf [65,68])) (cond (aM a0 9) (some (strOf [73,80])) (cond (aM a0 10) (some (strOf [81])) (cond (aM a0 14) (some (strOf [77,65])) (cond (aM a0 17) (some (strOf [65,68,81,80])) (cond (aM a0 19) (some (strOf [77,68,80])) (some (strOf []))))))))))))))))))
def ah2(N:Nat)(a0:Int):Option ((Int)×(Int)):=
 cond (aM a0 6) (some ((0:Int),(1000000000000:Int))) (cond (aM a0 7) (some ((1:Int),(1000000000:Int))) (cond (aM a0 17) (some ((1:Int),(1000000000:Int))) (cond (aM a0 10) (some ((1:Int),(1000000:Int))) (some ((1:Int),(9223372036854775807:Int))))))
def ah3(N:Nat)(a0:Int):Option ((Int)×(Int)):=
 cond (aM a0 19) (some ((-1152921504606846976:Int),(1152921504606846976:Int))) (some ((1:Int),(1000000000000:Int)))
def aaD(N:Nat)(a0:Int)(a1:Int):Option ((Int)×(Int)):=
 cond (aM a1 77) (some ((1:Int),(12:Int))) (cond (aM a1 65) (some ((1:Int),(24:Int))) (cond (aM a1 73) (some ((0:Int),(5:Int))) (cond (aM a1 83) (some ((1:Int),(2:Int))) (cond (aM a1 68) (some ((1:Int),(1099511627776:Int))) (cond (aM a1 81) ((ah2 N a0).bind λr1=>some (r1.1,r1.2)) ((ah3 N a0).bind λr2=>some (r2.1,r2.2)))))))
def aaE(N:Nat)(a0:ia)(a1:Int):Option (Int):=
 cond (aM a1 77) (some a0.2.1) (cond (aM a1 65) (some a0.2.2.1) (cond (aM a1 73) (some a0.2.2.2.1) (cond (aM a1 83) (some a0.2.2.2.2.1) (cond (aM a1 68) (some a0.2.2.2.2.2.1) (cond (aM a1 81) (some a0.2.2.2.2.2.2.1) (some a0.2.2.2.2.2.2.2.1))))))
def aaF(N:Nat)(a0:ia)(a1:Int)(a2:Int):Option ia:=
 cond (aM a1 77) (some (a0.1,(a2,a0.2.2))) (cond (aM a1 65) (some (a0.1,(a0.2.1,(a2,a0.2.2.2)))) (cond (aM a1 73) (some (a0.1,(a0.2.1,(a0.2.2.1,(a2,a0.2.2.2.2))))) (cond (aM a1 83) (some (a0.1,(a0.2.1,(a0.2.2.1,(a0.2.2.2.1,(a2,a0.2.2.2.2.2)))))) (cond (aM a1 68) (some (a0.1,(a0.2.1,(a0.2.2.1,(a0.2.2.2.1,(a0.2.2.2.2.1,(a2,a0.2.2.2.2.2.2))))))) (cond (aM a1 81) (some (a0.1,(a0.2.1,(a0.2.2.1,(a0.2.2.2.1,(a0.2.2.2.2.1,(a0.2.2.2.2.2.1,(a2,a0.2.2.2.2.2.2.2)))))))) (some (a0.1,(a0.2.1,(a0.2.2.1,(a0.2.2.2.1,(a0.2.2.2.2.1,(a0.2.2.2.2.2.1,(a0.2.2.2.2.2.2.1,(a2,a0.2.2.2.2.2.2.2.2))))))))))))))
abbrev rM.iV:=ia→ByteArray→ia→Int→Option (Bool)
def rM.tb(N:Nat)(jG:rM.iV)(x1:ia)(x3:ByteArray)(x4:ia)(x5:Int):Option (Bool):=
 cond (aS x5 (ByteArray.size x3:Int)) (cond (aZ x5 (ByteArray.size x3)) ((aaD N x1.1 ((x3.data.getD x5.toNat 0).toNat:Int)).bind λr4=>cond (aZ x5 (ByteArray.size x3)) ((aaE N x1 ((x3.data.getD x5.toNat 0).toNat:Int)).bind λr5=>cond (aS r5 r4.1) (some false) (cond (aS r4.2 r5) (some false) (cond (aZ x5 (ByteArray.size x3)) ((aaF N x4 ((x3.data.getD x5.toNat 0).toNat:Int) r5).bind λr6=>jG x1 x3 r6 (W .i64 (x5+1))) (none)))) (none)) (none)) (some (oR (.pair (.int .i64) (.pair (.int .i64) (.pair (.int .i64) (.pair (.int .i64) (.pair (.int .i64) (.pair (.int .i64) (.pair (.int .i64) (.pair (.int .i64) .unit)))))))) x4 x1))
def rM.l6(N:Nat):Nat→rM.iV
 |0,_,_,_,_=>none
 |n+1,x1,x3,x4,x5=>rM.tb N (rM.l6 N n) x1 x3 x4 x5
def rM.b(N:Nat)(vy:rM.iV)(a0:ia):Option (Bool):=
 (ah4 N a0.1).bind λr1=>cond (!r1) (some false) ((aaC N a0.1).bind λr2=>vy a0 r2 (a0.1,zz7) (0:Int))
def rM(N:Nat)(a0:ia):Option (Bool):=rM.b N (rM.l6 N N) a0
abbrev od.de:=aG→Int→Option (Bool)
def od.gV(N:Nat)(eS:od.de)(x0:aG)(x3:Int):Option (Bool):=
 cond (aS x3 (List.length x0:Int)) (cond (aZ x3 (List.length x0)) (cond (aS ((List.getD x0 x3.toNat df).1) (1:Int)) (some false) (cond (aZ x3 (List.length x0)) (cond (aS 12 ((List.getD x0 x3.toNat df).1)) (some false) (cond (aZ x3 (List.length x0)) (cond (aS (((List.getD x0 x3.toNat df).2).1) (1:Int)) (some false) (cond (aZ x3 (List.length x0)) (cond (aS 4 (((List.getD x0 x3.toNat df).2).1)) (some false) (cond (aS 0 x3) (cond (aZ x3 (List.length x0)) (let v2:Int:=W .i64 (x3-1);cond (aZ v2 (List.length x0)) (cond (c0 ((List.getD x0 x3.toNat df).1) ((List.getD x0 v2.toNat df).1)) (some false) (eS x0 (W .i64 (x3+1)))) (none)) (none)) (eS x0 (W .i64 (x3+1))))) (none))) (none))) (none))) (none)) (some true)
def od.l2(N:Nat):Nat→od.de
 |0,_,_=>none
 |n+1,x0,x3=>od.gV N (od.l2 N n) x0 x3
def od.b(N:Nat)(jo:od.de)(a0:aG):Option (Bool):=
 jo a0 (0:Int)
def od(N:Nat)(a0:aG):Option (Bool):=od.b N (od.l2 N N) a0
abbrev mV.de:=aG→Int→Int→Option (Int)
def mV.gV(N:Nat)(eS:mV.de)(x0:aG)(x1:Int)(x5:Int):Option (Int):=
 cond (aS x5 (List.length x0:Int)) (cond (aZ x5 (List.length x0)) (cond (aM ((List.getD x0 x5.toNat df).1) x1) (cond (aZ x5 (List.length x0)) (some (((List.getD x0 x5.toNat df).2).1)) (none)) (eS x0 x1 (W .i64 (x5+1)))) (none)) (some (0:Int))
def mV.l2(N:Nat):Nat→mV.de
 |0,_,_,_=>none
 |n+1,x0,x1,x5=>mV.gV N (mV.l2 N n) x0 x1 x5
def mV.b(N:Nat)(jo:mV.de)(a0:aG)(a1:Int):Option (Int):=
 jo a0 a1 (0:Int)
def mV(N:Nat)(a0:aG)(a1:Int):Option (Int):=mV.b N (mV.l2 N N) a0 a1
abbrev iv.Rb:=aG→Int→aG→Int→Option (aG×(Int))
abbrev iv.eN:=aG→Int→aG→Int→Option (aG×(Int))
def iv.M7(N:Nat)(x0:aG)(x1:Int)(x6:aG)(x7:Int):Option (aG×(Int)):=
 cond (jt 0 x7 (List.length x0:Int) (List.length x0:Int)) (let v6:List ((Int)×((Int)×(Unit))):=List.drop (0:Int).toNat (List.take x7.toNat x0);cond (small (List.length x6+List.length v6)) (let v7:List ((Int)×((Int)×(Unit))):=x6++v6;cond (small (List.length v7+List.length ([(x1,((1:Int),()))]))) (let v8:List ((Int)×((Int)×(Unit))):=v7++([(x1,((1:Int),()))]);cond (jt x7 (List.length x0:Int) (List.length x0:Int) (List.length x0:Int)) (let v9:List ((Int)×((Int)×(Unit))):=List.drop x7.toNat (List.take (List.length x0:Int).toNat x0);cond (small (List.length v8+List.length v9)) (some ((v8++v9),(0:Int))) (none)) (none)) (none)) (none)) (none)
def iv.j9(N:Nat)(x0:aG)(x1:Int)(x6:aG)(x7:Int):Option (aG×(Int)):=iv.M7 N x0 x1 x6 x7
def iv.pN(N:Nat)(GY:iv.Rb)(dY:iv.eN)(x0:aG)(x1:Int)(x6:aG)(x7:Int):Option (aG×(Int)):=
 cond (aS x7 (List.length x0:Int)) (cond (aZ x7 (List.length x0)) (cond (aS ((List.getD x0 x7.toNat df).1) x1) (dY x0 x1 x6 (W .i64 (x7+1))) (GY x0 x1 x6 x7)) (none)) (GY x0 x1 x6 x7)
def iv.l7(N:Nat):Nat→iv.eN
 |0,_,_,_,_=>none
 |n+1,x0,x1,x6,x7=>iv.pN N (iv.j9 N) (iv.l7 N n) x0 x1 x6 x7
def iv.b(N:Nat)(tt:iv.eN)(a0:aG)(a1:Int):Option (aG×(Int)):=
 (od N a0).bind λr1=>cond (!r1) (some ([],(1:Int))) (cond (aS a1 1) (some ([],(1:Int))) (cond (aS 12 a1) (some ([],(1:Int))) ((mV N a0 a1).bind λr2=>cond (!aM r2 0) (some ([],(4:Int))) (tt a0 a1 ([]) (0:Int)))))
def iv(N:Nat)(a0:aG)(a1:Int):Option (aG×(Int)):=iv.b N (iv.l7 N N) a0 a1
def fF(N:Nat)(a0:Int):Option dd:=
 some (a0,df)
abbrev mh.jq:=aO→Int→cy→Int→Option (Bool)
abbrev mh.Q8:=aO→Int→cy→Option (Bool)
abbrev mh.de:=aO→Int→Option (Bool)
def mh.CQ(N:Nat)(eS:mh.de)(fU:mh.jq)(x0:aO)(x3:Int)(x4:cy)(x5:Int):Option (Bool):=
 cond (aS x5 x3) (cond (aM x4.2.2.1 1) (cond (aZ x5 (List.length x0)) (cond (aM ((((List.getD x0 x5.toNat a7).2).2).1) (1:Int)) (cond (aZ x5 (List.length x0)) (cond (aM (((List.getD x0 x5.toNat a7).2).1) x4.2.1) (some false) (fU x0 x3 x4 (W .i64 (x5+1)))) (none)) (fU x0 x3 x4 (W .i64 (x5+1)))) (none)) (fU x0 x3 x4 (W .i64 (x5+1)))) (eS x0 (W .i64 (x3+1)))
def mh.l8(N:Nat)(eS:mh.de):Nat→mh.jq
 |0,_,_,_,_=>none
 |n+1,x0,x3,x4,x5=>mh.CQ N eS (mh.l8 N eS n) x0 x3 x4 x5
def mh.PG(N:Nat)(GZ:mh.jq)(eS:mh.de)(x0:aO)(x3:Int)(x4:cy):Option (Bool):=
 GZ x0 x3 x4 (0:Int)
def mh.j7(N:Nat)(eS:mh.de)(x0:aO)(x3:Int)(x4:cy):Option (Bool):=mh.PG N (mh.l8 N eS N) eS x0 x3 x4
def mh.gV(N:Nat)(Cb:mh.Q8)(eS:mh.de)(x0:aO)(x3:Int):Option (Bool):=
 cond (aS x3 (List.length x0:Int)) (cond (aZ x3 (List.length x0)) (cond (aS ((List.getD x0 x3.toNat a7).1) (1:Int)) (some false) (cond (aS 24 ((List.getD x0 x3.toNat a7).1)) (some false) (cond (aS (((List.getD x0 x3.toNat a7).2).1) (1:Int)) (some false) (cond (aS 12 (((List.getD x0 x3.toNat a7).2).1)) (some false) (cond (!aM ((((List.getD x0 x3.toNat a7).2).2).1) (1:Int)) (cond (!aM ((((List.getD x0 x3.toNat a7).2).2).1) (2:Int)) (some false) (cond (aS (((((List.getD x0 x3.toNat a7).2).2).2).1) (0:Int)) (some false) (cond (aS 1000000000000 (((((List.getD x0 x3.toNat a7).2).2).2).1)) (some false) (cond (aS 0 x3) (let v2:Int:=W .i64 (x3-1);cond (aZ v2 (List.length x0)) (cond (c0 ((List.getD x0 x3.toNat a7).1) ((List.getD x0 v2.toNat a7).1)) (some false) (Cb x0 x3 (List.getD x0 x3.toNat a7))) (none)) (Cb x0 x3 (List.getD x0 x3.toNat a7)))))) (cond (aS (((((List.getD x0 x3.toNat a7).2).2).2).1) (0:Int)) (some false) (cond (aS 1000000000000 (((((List.getD x0 x3.toNat a7).2).2).2).1)) (some false) (cond (aS 0 x3) (let v9:Int:=W .i64 (x3-1);cond (aZ v9 (List.length x0)) (cond (c0 ((List.getD x0 x3.toNat a7).1) ((List.getD x0 v9.toNat a7).1)) (some false) (Cb x0 x3 (List.getD x0 x3.toNat a7))) (none)) (Cb x0 x3 (List.getD x0 x3.toNat a7)))))))))) (none)) (some true)
def mh.l2(N:Nat):Nat→mh.de
 |0,_,_=>none
 |n+1,x0,x3=>mh.gV N (mh.j7 N (mh.l2 N n)) (mh.l2 N n) x0 x3
def mh.b(N:Nat)(jo:mh.de)(a0:aO):Option (Bool):=
 jo a0 (0:Int)
def mh(N:Nat)(a0:aO):Option (Bool):=mh.b N (mh.l2 N N) a0
abbrev oD.bI:=aG→aO→Int→Option (Bool)
def oD.dH(N:Nat)(ct:oD.bI)(x0:aG)(x1:aO)(x5:Int):Option (Bool):=
 cond (aS x5 (List.length x1:Int)) (cond (aZ x5 (List.length x1)) ((mV N x0 (((List.getD x1 x5.toNat a7).2).1)).bind λr4=>cond (aM r4 0) (some false) (ct x0 x1 (W .i64 (x5+1)))) (none)) (some true)
def oD.l4(N:Nat):Nat→oD.bI
 |0,_,_,_=>none
 |n+1,x0,x1,x5=>oD.dH N (oD.l4 N n) x0 x1 x5
def oD.b(N:Nat)(e7:oD.bI)(a0:aG)(a1:aO):Option (Bool):=
 (od N a0).bind λr1=>cond (!r1) (some false) ((mh N a1).bind λr2=>cond (!r2) (some false) (e7 a0 a1 (0:Int)))
def oD(N:Nat)(a0:aG)(a1:aO):Option (Bool):=oD.b N (oD.l4 N N) a0 a1
abbrev og.de:=aO→Int→cy→Int→Option (cy×(Bool))
def og.gV(N:Nat)(eS:og.de)(x0:aO)(x1:Int)(x4:cy)(x6:Int):Option (cy×(Bool)):=
 cond (aS x6 (List.length x0:Int)) (cond (aZ x6 (List.length x0)) (cond (aM ((List.getD x0 x6.toNat a7).1) x1) (cond (aZ x6 (List.length x0)) (some (List.getD x0 x6.toNat a7,true)) (none)) (eS x0 x1 x4 (W .i64 (x6+1)))) (none)) (some (a7,false))
def og.l2(N:Nat):Nat→og.de
 |0,_,_,_,_=>none
 |n+1,x0,x1,x4,x6=>og.gV N (og.l2 N n) x0 x1 x4 x6
def og.b(N:Nat)(jo:og.de)(a0:aO)(a1:Int):Option (cy×(Bool)):=
 jo a0 a1 a7 (0:Int)
def og(N:Nat)(a0:aO)(a1:Int):Option (cy×(Bool)):=og.b N (og.l2 N N) a0 a1
abbrev yX.bI:=aO→Int→Int→Option (Int)
def yX.dH(N:Nat)(ct:yX.bI)(x0:aO)(x1:Int)(x5:Int):Option (Int):=
 cond (aS x5 (List.length x0:Int)) (cond (aZ x5 (List.length x0)) (cond (aM (((List.getD x0 x5.toNat a7).2).1) x1) (cond (aZ x5 (List.length x0)) (cond (aM ((((List.getD x0 x5.toNat a7).2).2).1) (1:Int)) (cond (aZ x5 (List.length x0)) (some ((List.getD x0 x5.toNat a7).1)) (none)) (ct x0 x1 (W .i64 (x5+1)))) (none)) (ct x0 x1 (W .i64 (x5+1)))) (none)) (some (0:Int))
def yX.l4(N:Nat):Nat→yX.bI
 |0,_,_,_=>none
 |n+1,x0,x1,x5=>yX.dH N (yX.l4 N n) x0 x1 x5
def yX.b(N:Nat)(e7:yX.bI)(a0:aO)(a1:Int):Option (Int):=
 (mh N a0).bind λr1=>cond (!r1) (some (0:Int)) (e7 a0 a1 (0:Int))
def yX(N:Nat)(a0:aO)(a1:Int):Option (Int):=yX.b N (yX.l4 N N) a0 a1
abbrev fm.G0:=aO→cy→aO→Int→Option (aO×(Int))
abbrev fm.gz:=aO→cy→aO→Int→Option (aO×(Int))
abbrev fm.Oj:=aO→cy→Option (aO×(Int))
def fm.vW(N:Nat)(x1:aO)(x5:cy)(aV:aO)(bc:Int):Option (aO×(Int)):=
 cond (jt 0 bc (List.length x1:Int) (List.length x1:Int)) (let v10:List ((Int)×((Int)×((Int)×((Int)×(Unit))))):=List.drop (0:Int).toNat (List.take bc.toNat x1);cond (small (List.length aV+List.length v10)) (let v11:List ((Int)×((Int)×((Int)×((Int)×(Unit))))):=aV++v10;cond (small (List.length v11+List.length ([x5]))) (let v12:List ((Int)×((Int)×((Int)×((Int)×(Unit))))):=v11++([x5]);cond (jt bc (List.length x1:Int) (List.length x1:Int) (List.length x1:Int)) (let v13:List ((Int)×((Int)×((Int)×((Int)×(Unit))))):=List.drop bc.toNat (List.take (List.length x1:Int).toNat x1);cond (small (List.length v12+List.length v13)) (some ((v12++v13),(0:Int))) (none)) (none)) (none)) (none)) (none)
def fm.BT(N:Nat)(x1:aO)(x5:cy)(aV:aO)(bc:Int):Option (aO×(Int)):=fm.vW N x1 x5 aV bc
def fm.mX(N:Nat)(vN:fm.G0)(jc:fm.gz)(x1:aO)(x5:cy)(aV:aO)(bc:Int):Option (aO×(Int)):=
 cond (aS bc (List.length x1:Int)) (cond (aZ bc (List.length x1)) (cond (aS ((List.getD x1 bc.toNat a7).1) x5.1) (jc x1 x5 aV (W .i64 (bc+1))) (vN x1 x5 aV bc)) (none)) (vN x1 x5 aV bc)
def fm.oF(N:Nat):Nat→fm.gz
 |0,_,_,_,_=>none
 |n+1,x1,x5,aV,bc=>fm.mX N (fm.BT N) (fm.oF N n) x1 x5 aV bc
def fm.BV(N:Nat)(uC:fm.gz)(x1:aO)(x5:cy):Option (aO×(Int)):=
 uC x1 x5 ([]) (0:Int)
def fm.Jd(N:Nat)(x1:aO)(x5:cy):Option (aO×(Int)):=fm.BV N (fm.oF N N) x1 x5
def fm.b(N:Nat)(Db:fm.Oj)(a0:aG)(a1:aO)(a2:cy):Option (aO×(Int)):=
 (oD N a0 a1).bind λr1=>cond (!r1) (some ([],(1:Int))) ((mh N ([a2])).bind λr2=>cond (!r2) (some ([],(1:Int))) ((mV N a0 a2.2.1).bind λr3=>cond (aM r3 0) (some ([],(3:Int))) (cond (!aM r3 1) (some ([],(7:Int))) ((og N a1 a2.1).bind λr4=>cond (r4.2) (some ([],(4:Int))) (cond (aM a2.2.2.1 1) ((yX N a1 a2.2.1).bind λr5=>cond (!aM r5 0) (some ([],(4:Int))) (Db a1 a2)) (Db a1 a2))))))
def fm(N:Nat)(a0:aG)(a1:aO)(a2:cy):Option (aO×(Int)):=fm.b N (fm.Jd N) a0 a1 a2
def DD(N:Nat)(a0:aO)(a1:Int):Option (cy×(Bool)):=
 (mh N a0).bind λr1=>cond (!r1) (some (a7,false)) ((og N a0 a1).bind λr2=>some (r2.1,r2.2))
def QQ(N:Nat)(a0:aU)(a1:Int):Option (Bool):=
 (DD N a0.2.2.1.2.1 a1).bind λr1=>some r1.2
abbrev oz.de:=(List (Int))→Int→Option (List (Int))
def oz.gV(N:Nat)(eS:oz.de)(x0:List (Int))(x3:Int):Option (List (Int)):=
 cond (aS 0 x3) (let v2:Int:=W .i64 (x3-1);cond (aZ v2 (List.length x0)) (cond (aM (List.getD x0 v2.toNat (0:Int)) (0:Int)) (eS x0 (W .i64 (x3-1))) (cond (jt 0 x3 x3 (List.length x0:Int)) (some (List.drop (0:Int).toNat (List.take x3.toNat x0))) (none))) (none)) (cond (jt 0 x3 x3 (List.length x0:Int)) (some (List.drop (0:Int).toNat (List.take x3.toNat x0))) (none))
def oz.l2(N:Nat):Nat→oz.de
 |0,_,_=>none
 |n+1,x0,x3=>oz.gV N (oz.l2 N n) x0 x3
def oz.b(N:Nat)(jo:oz.de)(a0:List (Int)):Option (List (Int)):=
 jo a0 (List.length a0:Int)
def oz(N:Nat)(a0:List (Int)):Option (List (Int)):=oz.b N (oz.l2 N N) a0
def F67(N:Nat)(a0:Int):Option (List (Int)):=
 cond (aS 32 0) (none) ((oz N ([(mR .and .u64 a0 4294967295),(shr .u64 a0 32)])).bind λr3=>some r3)
def Wk(N:Nat)(a0:Bool)(a1:List (Int)):Option aF:=
 (oz N a1).bind λr1=>cond (a0) (some (aS 0 (List.length r1:Int),(r1,()))) (some (false,(r1,())))
def kt(N:Nat)(a0:Int):Option aF:=
 let v1:Int:=W .u64 a0;cond (aS a0 0) ((F67 N (W .u64 (0-v1))).bind λr3=>(Wk N (aS a0 0) r3).bind λr4=>some r4) ((F67 N v1).bind λr5=>(Wk N (aS a0 0) r5).bind λr6=>some r6)
def U3(N:Nat)(a0:aF):Option aF:=
 (Wk N (!a0.1) a0.2.1).bind λr1=>some r1
def BX(N:Nat)(a0:Int)(a1:Int)(a2:Int)(a3:Int)(a4:aF):Option bE:=
 (U3 N a4).bind λr1=>some ([(a0,(a1,(r1,()))),(a2,(a3,(a4,())))])
def ZS(N:Nat)(a0:List (Int))(a1:Int):Option (Int):=
 cond (aS a1 (List.length a0:Int)) (cond (aZ a1 (List.length a0)) (some (List.getD a0 a1.toNat (0:Int))) (none)) (some (0:Int))
abbrev vK.Yi:=(List (Int))→(List (Int))→(List (Int))→Int→Int→Option (List (Int))
abbrev vK.bI:=(List (Int))→(List (Int))→(List (Int))→Int→Int→Option (List (Int))
def vK.Tw(N:Nat)(ct:vK.bI)(x0:List (Int))(x1:List (Int))(x5:List (Int))(x6:Int)(x7:Int):Option (List (Int)):=
 (ZS N x0 x7).bind λr3=>(ZS N x1 x7).bind λr4=>let v6:Int:=W .u64 (x6+(W .u64 (r3+r4)));let v7:Int:=mR .and .u64 v6 4294967295;cond (small (List.length x5+List.length ([v7]))) (cond (aS 32 0) (none) (ct x0 x1 (x5++([v7])) (shr .u64 v6 32) (W .i64 (x7+1)))) (none)
def vK.j6(N:Nat)(ct:vK.bI)(x0:List (Int))(x1:List (Int))(x5:List (Int))(x6:Int)(x7:Int):Option (List (Int)):=vK.Tw N ct x0 x1 x5 x6 x7
def vK.dH(N:Nat)(K4:vK.Yi)(ct:vK.bI)(x0:List (Int))(x1:List (Int))(x5:List (Int))(x6:Int)(x7:Int):Option (List (Int)):=
 cond (aS x7 (List.length x0:Int)) (K4 x0 x1 x5 x6 x7) (cond (aS x7 (List.length x1:Int)) (K4 x0 x1 x5 x6 x7) (cond (aS 0 x6) (K4 x0 x1 x5 x6 x7) (some x5)))
def vK.l4(N:Nat):Nat→vK.bI
 |0,_,_,_,_,_=>none
 |n+1,x0,x1,x5,x6,x7=>vK.dH N (vK.j6 N (vK.l4 N n)) (vK.l4 N n) x0 x1 x5 x6 x7
def vK.b(N:Nat)(e7:vK.bI)(a0:List (Int))(a1:List (Int)):Option (List (Int)):=
 e7 a0 a1 ([]) (0:Int) (0:Int)
def vK(N:Nat)(a0:List (Int))(a1:List (Int)):Option (List (Int)):=vK.b N (vK.l4 N N) a0 a1
abbrev Dy.iV:=(List (Int))→(List (Int))→Int→Option (Int)
def Dy.tb(N:Nat)(jG:Dy.iV)(x0:List (Int))(x1:List (Int))(x5:Int):Option (Int):=
 cond (c0 0 x5) (cond (aZ x5 (List.length x0)) (cond (aZ x5 (List.length x1)) (cond (aS (List.getD x0 x5.toNat (0:Int)) (List.getD x1 x5.toNat (0:Int))) (some (-1:Int)) (cond (aZ x5 (List.length x0)) (cond (aZ x5 (List.length x1)) (cond (aS (List.getD x1 x5.toNat (0:Int)) (List.getD x0 x5.toNat (0:Int))) (some (1:Int)) (jG x0 x1 (W .i64 (x5-1)))) (none)) (none))) (none)) (none)) (some (0:Int))
def Dy.l6(N:Nat):Nat→Dy.iV
 |0,_,_,_=>none
 |n+1,x0,x1,x5=>Dy.tb N (Dy.l6 N n) x0 x1 x5
def Dy.b(N:Nat)(vy:Dy.iV)(a0:List (Int))(a1:List (Int)):Option (Int):=
 cond (!aM (List.length a0:Int) (List.length a1:Int)) (cond (aS (List.length a0:Int) (List.length a1:Int)) (some (-1:Int)) (some (1:Int))) (vy a0 a1 (W .i64 ((List.length a0:Int)-1)))
def Dy(N:Nat)(a0:List (Int))(a1:List (Int)):Option (Int):=Dy.b N (Dy.l6 N N) a0 a1
abbrev D6.bI:=(List (Int))→(List (Int))→(List (Int))→Int→Int→Option (List (Int))
def D6.dH(N:Nat)(ct:D6.bI)(x0:List (Int))(x1:List (Int))(x5:List (Int))(x6:Int)(x7:Int):Option (List (Int)):=
 cond (aS x7 (List.length x0:Int)) (cond (aZ x7 (List.length x0)) ((ZS N x1 x7).bind λr2=>let v3:Int:=W .u64 (r2+x6);cond (aS (List.getD x0 x7.toNat (0:Int)) v3) (let v5:Int:=W .u64 ((W .u64 ((List.getD x0 x7.toNat (0:Int))+4294967296))-v3);cond (small (List.length x5+List.length ([v5]))) (ct x0 x1 (x5++([v5])) (1:Int) (W .i64 (x7+1))) (none)) (let v8:Int:=W .u64 ((List.getD x0 x7.toNat (0:Int))-v3);cond (small (List.length x5+List.length ([v8]))) (ct x0 x1 (x5++([v8])) (0:Int) (W .i64 (x7+1))) (none))) (none)) (some x5)
def D6.l4(N:Nat):Nat→D6.bI
 |0,_,_,_,_,_=>none
 |n+1,x0,x1,x5,x6,x7=>D6.dH N (D6.l4 N n) x0 x1 x5 x6 x7
def D6.b(N:Nat)(e7:D6.bI)(a0:List (Int))(a1:List (Int)):Option (List (Int)):=
 e7 a0 a1 ([]) (0:Int) (0:Int)
def D6(N:Nat)(a0:List (Int))(a1:List (Int)):Option (List (Int)):=D6.b N (D6.l4 N N) a0 a1
def Am(N:Nat)(a0:aF)(a1:aF):Option aF:=
 cond (oR .bool a0.1 a1.1) ((vK N a0.2.1 a1.2.1).bind λr1=>(Wk N a0.1 r1).bind λr2=>some r2) ((Dy N a0.2.1 a1.2.1).bind λr3=>cond (c0 0 r3) ((D6 N a0.2.1 a1.2.1).bind λr4=>(Wk N a0.1 r4).bind λr5=>some r5) ((D6 N a1.2.1 a0.2.1).bind λr6=>(Wk N a1.1 r6).bind λr7=>some r7))
def wX(N:Nat)(a0:aF):Option ((Int)×(Bool)):=
 cond (aS 2 (List.length a0.2.1:Int)) (some ((0:Int),false)) ((ZS N a0.2.1 (0:Int)).bind λr1=>(ZS N a0.2.1 (1:Int)).bind λr2=>cond (aS 32 0) (none) (let v4:Int:=mR .or .u64 r1 (W .u64 (shl .u64 r2 32));cond (a0.1) (cond (aS 9223372036854775808 v4) (some ((0:Int),false)) (some ((W .i64 (W .u64 (0-v4))),true))) (cond (aS 9223372036854775807 v4) (some ((0:Int),false)) (some ((W .i64 v4),true)))))
def Qq(N:Nat)(a0:aF):Option ((Int)×(Bool)):=
 (wX N a0).bind λr1=>cond (!r1.2) (some ((0:Int),false)) (cond (aM r1.1 (-9223372036854775808)) (some ((0:Int),false)) (some (r1.1,true)))
abbrev cr.G1:=au→au→au→Int→Int→Int→Int→Bool→aF→Int→Option (au×(Bool))
abbrev cr.Oe:=au→au→au→Int→Int→Int→Int→Bool→Option (au×(Bool))
abbrev cr.eN:=au→au→au→Int→Int→Int→Option (au×(Bool))
abbrev cr.bI:=au→au→au→Int→Int→Option (au×(Bool))
def cr.HN(N:Nat)(ct:cr.bI)(dY:cr.eN)(Jx:cr.G1)(x0:au)(x1:au)(x6:au)(x7:Int)(x8:Int)(x9:Int)(bg:Int)(aV:Bool)(bc:aF)(cf:Int):Option (au×(Bool)):=
 cond (aS cf (List.length x1:Int)) (cond (aZ cf (List.length x1)) (cond (aM ((List.getD x1 cf.toNat bf).1) x8) (cond (aZ cf (List.length x1)) (cond (aM (((List.getD x1 cf.toNat bf).2).1) x9) (cond (aZ cf (List.length x1)) ((kt N ((((List.getD x1 cf.toNat bf).2).2).1)).bind λr6=>(Am N bc r6).bind λr7=>Jx x0 x1 x6 x7 x8 x9 bg true r7 (W .i64 (cf+1))) (none)) (Jx x0 x1 x6 x7 x8 x9 bg aV bc (W .i64 (cf+1)))) (none)) (Jx x0 x1 x6 x7 x8 x9 bg aV bc (W .i64 (cf+1)))) (none)) (cond (aV) ((kt N bg).bind λpG=>(Am N bc pG).bind λpZ=>(Qq N pZ).bind λsv=>cond (!sv.2) (some ([],false)) (cond (!aM sv.1 0) (cond (small (List.length x6+List.length ([(x8,(x9,(sv.1,())))]))) (dY x0 x1 (x6++([(x8,(x9,(sv.1,())))])) x7 x8 (W .i64 (x9+1))) (none)) (dY x0 x1 x6 x7 x8 (W .i64 (x9+1))))) (cond (!aM bg 0) (cond (small (List.length x6+List.length ([(x8,(x9,(bg,())))]))) (dY x0 x1 (x6++([(x8,(x9,(bg,())))])) x7 x8 (W .i64 (x9+1))) (none)) (dY x0 x1 x6 x7 x8 (W .i64 (x9+1)))))
def cr.IM(N:Nat)(ct:cr.bI)(dY:cr.eN):Nat→cr.G1
 |0,_,_,_,_,_,_,_,_,_,_=>none
 |n+1,x0,x1,x6,x7,x8,x9,bg,aV,bc,cf=>cr.HN N ct dY (cr.IM N ct dY n) x0 x1 x6 x7 x8 x9 bg aV bc cf
def cr.As(N:Nat)(Yj:cr.G1)(ct:cr.bI)(dY:cr.eN)(x0:au)(x1:au)(x6:au)(x7:Int)(x8:Int)(x9:Int)(bg:Int)(aV:Bool):Option (au×(Bool)):=
 Yj x0 x1 x6 x7 x8 x9 bg aV (false,pH) (0:Int)
def cr.Kf(N:Nat)(ct:cr.bI)(dY:cr.eN)(x0:au)(x1:au)(x6:au)(x7:Int)(x8:Int)(x9:Int)(bg:Int)(aV:Bool):Option (au×(Bool)):=cr.As N (cr.IM N ct dY N) ct dY x0 x1 x6 x7 x8 x9 bg aV
def cr.pN(N:Nat)(vM:cr.Oe)(ct:cr.bI)(dY:cr.eN)(x0:au)(x1:au)(x6:au)(x7:Int)(x8:Int)(x9:Int):Option (au×(Bool)):=
 cond (aS x9 6) (cond (aS x7 (List.length x0:Int)) (cond (aZ x7 (List.length x0)) (cond (aM ((List.getD x0 x7.toNat bf).1) x8) (cond (aZ x7 (List.length x0)) (cond (aM (((List.getD x0 x7.toNat bf).2).1) x9) (cond (aZ x7 (List.length x0)) (vM x0 x1 x6 (W .i64 (x7+1)) x8 x9 ((((List.getD x0 x7.toNat bf).2).2).1) false) (none)) (vM x0 x1 x6 x7 x8 x9 (0:Int) false)) (none)) (vM x0 x1 x6 x7 x8 x9 (0:Int) false)) (none)) (vM x0 x1 x6 x7 x8 x9 (0:Int) false)) (ct x0 x1 x6 x7 (W .i64 (x8+1)))
def cr.l7(N:Nat)(ct:cr.bI):Nat→cr.eN
 |0,_,_,_,_,_,_=>none
 |n+1,x0,x1,x6,x7,x8,x9=>cr.pN N (cr.Kf N ct (cr.l7 N ct n)) ct (cr.l7 N ct n) x0 x1 x6 x7 x8 x9
def cr.dH(N:Nat)(tt:cr.eN)(ct:cr.bI)(x0:au)(x1:au)(x6:au)(x7:Int)(x8:Int):Option (au×(Bool)):=
 cond (c0 x8 24) (tt x0 x1 x6 x7 x8 (0:Int)) (some (x6,true))
def cr.l4(N:Nat):Nat→cr.bI
 |0,_,_,_,_,_=>none
 |n+1,x0,x1,x6,x7,x8=>cr.dH N (cr.l7 N (cr.l4 N n) N) (cr.l4 N n) x0 x1 x6 x7 x8
def cr.b(N:Nat)(e7:cr.bI)(a0:au)(a1:au):Option (au×(Bool)):=
 e7 a0 a1 ([]) (0:Int) (0:Int)
def cr(N:Nat)(a0:au)(a1:au):Option (au×(Bool)):=cr.b N (cr.l4 N N) a0 a1
abbrev nN.dv:=Int→Int→Int→bE→aF→Bool→Int→Option ((Int)×(Bool))
def nN.lB(N:Nat)(c7:nN.dv)(x0:Int)(x1:Int)(x2:Int)(x3:bE)(bg:aF)(aV:Bool)(bc:Int):Option ((Int)×(Bool)):=
 cond (aS bc (List.length x3:Int)) (cond (aZ bc (List.length x3)) (cond (aM ((List.getD x3 bc.toNat ((0:Int),((0:Int),((false,pH),())))).1) x1) (cond (aZ bc (List.length x3)) (cond (aM (((List.getD x3 bc.toNat ((0:Int),((0:Int),((false,pH),())))).2).1) x2) (cond (aZ bc (List.length x3)) ((Am N bg ((((List.getD x3 bc.toNat ((0:Int),((0:Int),((false,pH),())))).2).2).1)).bind λr2=>c7 x0 x1 x2 x3 r2 true (W .i64 (bc+1))) (none)) (c7 x0 x1 x2 x3 bg aV (W .i64 (bc+1)))) (none)) (c7 x0 x1 x2 x3 bg aV (W .i64 (bc+1)))) (none)) (cond (!aV) (some (x0,true)) ((kt N x0).bind λr6=>(Am N bg r6).bind λr7=>(wX N r7).bind λr8=>some (r8.1,r8.2)))
def nN.l3(N:Nat):Nat→nN.dv
 |0,_,_,_,_,_,_,_=>none
 |n+1,x0,x1,x2,x3,bg,aV,bc=>nN.lB N (nN.l3 N n) x0 x1 x2 x3 bg aV bc
def nN.b(N:Nat)(mF:nN.dv)(a0:Int)(a1:Int)(a2:Int)(a3:bE):Option ((Int)×(Bool)):=
 mF a0 a1 a2 a3 (false,pH) false (0:Int)
def nN(N:Nat)(a0:Int)(a1:Int)(a2:Int)(a3:bE):Option ((Int)×(Bool)):=nN.b N (nN.l3 N N) a0 a1 a2 a3
abbrev dz.Oe:=au→bE→au→Int→Int→Int→Int→Option (au×(Bool))
abbrev dz.eN:=au→bE→au→Int→Int→Int→Option (au×(Bool))
abbrev dz.bI:=au→bE→au→Int→Int→Option (au×(Bool))
def dz.As(N:Nat)(ct:dz.bI)(dY:dz.eN)(x0:au)(x1:bE)(x6:au)(x7:Int)(x8:Int)(x9:Int)(bg:Int):Option (au×(Bool)):=
 (nN N bg x8 x9 x1).bind λr5=>cond (!r5.2) (some ([],false)) (cond (!aM r5.1 0) (cond (small (List.length x6+List.length ([(x8,(x9,(r5.1,())))]))) (dY x0 x1 (x6++([(x8,(x9,(r5.1,())))])) x7 x8 (W .i64 (x9+1))) (none)) (dY x0 x1 x6 x7 x8 (W .i64 (x9+1))))
def dz.Kf(N:Nat)(ct:dz.bI)(dY:dz.eN)(x0:au)(x1:bE)(x6:au)(x7:Int)(x8:Int)(x9:Int)(bg:Int):Option (au×(Bool)):=dz.As N ct dY x0 x1 x6 x7 x8 x9 bg
def dz.pN(N:Nat)(vM:dz.Oe)(ct:dz.bI)(dY:dz.eN)(x0:au)(x1:bE)(x6:au)(x7:Int)(x8:Int)(x9:Int):Option (au×(Bool)):=
 cond (c0 x9 24) (cond (aS x7 (List.length x0:Int)) (cond (aZ x7 (List.length x0)) (cond (aM ((List.getD x0 x7.toNat bf).1) x8) (cond (aZ x7 (List.length x0)) (cond (aM (((List.getD x0 x7.toNat bf).2).1) x9) (cond (aZ x7 (List.length x0)) (vM x0 x1 x6 (W .i64 (x7+1)) x8 x9 ((((List.getD x0 x7.toNat bf).2).2).1)) (none)) (vM x0 x1 x6 x7 x8 x9 (0:Int))) (none)) (vM x0 x1 x6 x7 x8 x9 (0:Int))) (none)) (vM x0 x1 x6 x7 x8 x9 (0:Int))) (ct x0 x1 x6 x7 (W .i64 (x8+1)))
def dz.l7(N:Nat)(ct:dz.bI):Nat→dz.eN
 |0,_,_,_,_,_,_=>none
 |n+1,x0,x1,x6,x7,x8,x9=>dz.pN N (dz.Kf N ct (dz.l7 N ct n)) ct (dz.l7 N ct n) x0 x1 x6 x7 x8 x9
def dz.dH(N:Nat)(tt:dz.eN)(ct:dz.bI)(x0:au)(x1:bE)(x6:au)(x7:Int)(x8:Int):Option (au×(Bool)):=
 cond (c0 x8 7) (tt x0 x1 x6 x7 x8 (0:Int)) (some (x6,true))
def dz.l4(N:Nat):Nat→dz.bI
 |0,_,_,_,_,_=>none
 |n+1,x0,x1,x6,x7,x8=>dz.dH N (dz.l7 N (dz.l4 N n) N) (dz.l4 N n) x0 x1 x6 x7 x8
def dz.b(N:Nat)(e7:dz.bI)(a0:au)(a1:bE):Option (au×(Bool)):=
 e7 a0 a1 ([]) (0:Int) (1:Int)
def dz(N:Nat)(a0:au)(a1:bE):Option (au×(Bool)):=dz.b N (dz.l4 N N) a0 a1
def A0(N:Nat)(a0:aq)(a1:au)(a2:bE):Option (aq×(Int)):=
 (cr N a0.2.2.2.1 a1).bind λr1=>cond (!r1.2) (some ((cw,(dh,(bK,(bK,(dV,(eh,())))))),(2:Int))) ((dz N a0.2.2.1 a2).bind λr2=>cond (!r2.2) (some ((cw,(dh,(bK,(bK,(dV,(eh,())))))),(2:Int))) (some ((a0.1,(a0.2.1,(r2.1,(r1.1,a0.2.2.2.2)))),(0:Int))))
def N1(N:Nat)(a0:aU)(a1:Int)(a2:Int)(a3:Int)(a4:Int)(a5:Int):Option (aU×dd):=
 (kt N a5).bind λr1=>(BX N a1 a2 a3 a4 r1).bind λr2=>(A0 N a0.2.2.1 bK r2).bind λr3=>some ((a0.1,(a0.2.1,(r3.1,a0.2.2.2))),(r3.2,df))
def Qg(N:Nat)(a0:Int)(a1:Int):Option (Bool):=
 cond (aM a0 1) (some (aM a1 0)) (cond (aM a0 2) (some (aM a1 0)) (cond (aM a0 3) (some (aM a1 0)) (cond (aM a0 4) (some (aM a1 0)) (cond (aM a0 5) (cond (c0 1 a1) (some (c0 a1 24)) (some false)) (cond (aM a0 6) (cond (c0 1 a1) (some (c0 a1 12)) (some false)) (cond (aM a0 7) (cond (c0 1 a1) (some (c0 a1 12)) (some false)) (some false)))))))
abbrev BD.de:=au→Int→Option (Bool)
def BD.gV(N:Nat)(eS:BD.de)(x0:au)(x3:Int):Option (Bool):=
 cond (aS x3 (List.length x0:Int)) (cond (aZ x3 (List.length x0)) (cond (aZ x3 (List.length x0)) ((Qg N ((List.getD x0 x3.toNat bf).1) (((List.getD x0 x3.toNat bf).2).1)).bind λr2=>cond (!r2) (some false) (cond (aZ x3 (List.length x0)) (cond (aM ((((List.getD x0 x3.toNat bf).2).2).1) (0:Int)) (some false) (cond (aS 0 x3) (cond (aZ x3 (List.length x0)) (let v3:Int:=W .i64 (x3-1);cond (aZ v3 (List.length x0)) (cond (aS ((List.getD x0 x3.toNat bf).1) ((List.getD x0 v3.toNat bf).1)) (some false) (cond (aZ x3 (List.length x0)) (let v4:Int:=W .i64 (x3-1);cond (aZ v4 (List.length x0)) (cond (aM ((List.getD x0 x3.toNat bf).1) ((List.getD x0 v4.toNat bf).1)) (cond (aZ x3 (List.length x0)) (let v5:Int:=W .i64 (x3-1);cond (aZ v5 (List.length x0)) (cond (c0 (((List.getD x0 x3.toNat bf).2).1) (((List.getD x0 v5.toNat bf).2).1)) (some false) (eS x0 (W .i64 (x3+1)))) (none)) (none)) (eS x0 (W .i64 (x3+1)))) (none)) (none))) (none)) (none)) (eS x0 (W .i64 (x3+1))))) (none))) (none)) (none)) (some true)
def BD.l2(N:Nat):Nat→BD.de
 |0,_,_=>none
 |n+1,x0,x3=>BD.gV N (BD.l2 N n) x0 x3
def BD.b(N:Nat)(jo:BD.de)(a0:au):Option (Bool):=
 jo a0 (0:Int)
def BD(N:Nat)(a0:au):Option (Bool):=BD.b N (BD.l2 N N) a0
abbrev zh.de:=au→Int→Option (Bool)
def zh.gV(N:Nat)(eS:zh.de)(x0:au)(x3:Int):Option (Bool):=
 cond (aS x3 (List.length x0:Int)) (cond (aZ x3 (List.length x0)) (cond (aS ((List.getD x0 x3.toNat bf).1) (0:Int)) (some false) (cond (aS 24 ((List.getD x0 x3.toNat bf).1)) (some false) (cond (aS (((List.getD x0 x3.toNat bf).2).1) (0:Int)) (some false) (cond (c0 6 (((List.getD x0 x3.toNat bf).2).1)) (some false) (cond (aM ((((List.getD x0 x3.toNat bf).2).2).1) (0:Int)) (some false) (cond (aM ((((List.getD x0 x3.toNat bf).2).2).1) (-9223372036854775808:Int)) (some false) (cond (aS 0 x3) (let v2:Int:=W .i64 (x3-1);cond (aZ v2 (List.length x0)) (cond (aS ((List.getD x0 x3.toNat bf).1) ((List.getD x0 v2.toNat bf).1)) (some false) (let v3:Int:=W .i64 (x3-1);cond (aZ v3 (List.length x0)) (cond (aM ((List.getD x0 x3.toNat bf).1) ((List.getD x0 v3.toNat bf).1)) (let v4:Int:=W .i64 (x3-1);cond (aZ v4 (List.length x0)) (cond (c0 (((List.getD x0 x3.toNat bf).2).1) (((List.getD x0 v4.toNat bf).2).1)) (some false) (eS x0 (W .i64 (x3+1)))) (none)) (eS x0 (W .i64 (x3+1)))) (none))) (none)) (eS x0 (W .i64 (x3+1)))))))))) (none)) (some true)
def zh.l2(N:Nat):Nat→zh.de
 |0,_,_=>none
 |n+1,x0,x3=>zh.gV N (zh.l2 N n) x0 x3
def zh.b(N:Nat)(jo:zh.de)(a0:au):Option (Bool):=
 jo a0 (0:Int)
def zh(N:Nat)(a0:au):Option (Bool):=zh.b N (zh.l2 N N) a0
abbrev pj.bY:=au→Int→aF→aF→Int→Option aF
def pj.fi(N:Nat)(bV:pj.bY)(x0:au)(x1:Int)(x4:aF)(x5:aF)(x6:Int):Option aF:=
 cond (aS x6 (List.length x0:Int)) (cond (aZ x6 (List.length x0)) (cond (aM (((List.getD x0 x6.toNat bf).2).1) x1) (cond (aZ x6 (List.length x0)) ((kt N ((((List.getD x0 x6.toNat bf).2).2).1)).bind λr3=>(Am N x5 r3).bind λr4=>bV x0 x1 x4 r4 (W .i64 (x6+1))) (none)) (bV x0 x1 x4 x5 (W .i64 (x6+1)))) (none)) (some x5)
def pj.l5(N:Nat):Nat→pj.bY
 |0,_,_,_,_,_=>none
 |n+1,x0,x1,x4,x5,x6=>pj.fi N (pj.l5 N n) x0 x1 x4 x5 x6
def pj.b(N:Nat)(gh:pj.bY)(a0:au)(a1:Int):Option aF:=
 (zh N a0).bind λr1=>cond (!r1) (some (false,pH)) (gh a0 a1 (false,pH) (false,pH) (0:Int))
def pj(N:Nat)(a0:au)(a1:Int):Option aF:=pj.b N (pj.l5 N N) a0 a1
def R3(N:Nat)(a0:aF):Option (Int):=
 cond (aM (List.length a0.2.1:Int) 0) (some (0:Int)) (cond (a0.1) (some (-1:Int)) (some (1:Int)))
abbrev pQ.de:=au→Int→Option (Bool)
def pQ.gV(N:Nat)(eS:pQ.de)(x0:au)(x3:Int):Option (Bool):=
 cond (aS x3 6) ((pj N x0 x3).bind λr2=>(R3 N r2).bind λr3=>cond (!aM r3 0) (some false) (eS x0 (W .i64 (x3+1)))) ((zh N x0).bind λr5=>some r5)
def pQ.l2(N:Nat):Nat→pQ.de
 |0,_,_=>none
 |n+1,x0,x3=>pQ.gV N (pQ.l2 N n) x0 x3
def pQ.b(N:Nat)(jo:pQ.de)(a0:au):Option (Bool):=
 jo a0 (0:Int)
def pQ(N:Nat)(a0:au):Option (Bool):=pQ.b N (pQ.l2 N N) a0
def DB(N:Nat)(a0:Int):Option (Bool):=
 cond (c0 1 a0) (some (c0 a0 1000000000000)) (some false)
def Qj(N:Nat)(a0:gu):Option (Bool):=
 cond (c0 1 a0.1) (cond (c0 a0.1 1099511627776) (cond (c0 1 a0.2.1) (cond (c0 a0.2.1 24) (cond (c0 0 a0.2.2.1) (cond (aS a0.2.2.1 6) (cond (aM a0.2.2.2.1 1) (cond (c0 1 a0.2.2.2.2.1) (cond (c0 a0.2.2.2.2.1 1000000000) ((DB N a0.2.2.2.2.2.1).bind λr1=>some r1) (some false)) (some false)) (cond (aM a0.2.2.2.1 2) (cond (c0 1 a0.2.2.2.2.1) (cond (c0 a0.2.2.2.2.1 1000000000) ((DB N a0.2.2.2.2.2.1).bind λr2=>some r2) (some false)) (some false)) (some false))) (some false)) (some false)) (some false)) (some false)) (some false)) (some false)
abbrev mU.bI:=br→Int→Option (Bool)
def mU.dH(N:Nat)(ct:mU.bI)(x0:br)(x3:Int):Option (Bool):=
 cond (aS x3 (List.length x0:Int)) (cond (aZ x3 (List.length x0)) ((Qj N (List.getD x0 x3.toNat fy)).bind λr2=>cond (!r2) (some false) (cond (aS 0 x3) (cond (aZ x3 (List.length x0)) (let v3:Int:=W .i64 (x3-1);cond (aZ v3 (List.length x0)) (cond (c0 ((List.getD x0 x3.toNat fy).1) ((List.getD x0 v3.toNat fy).1)) (some false) (ct x0 (W .i64 (x3+1)))) (none)) (none)) (ct x0 (W .i64 (x3+1))))) (none)) (some true)
def mU.l4(N:Nat):Nat→mU.bI
 |0,_,_=>none
 |n+1,x0,x3=>mU.dH N (mU.l4 N n) x0 x3
def mU.b(N:Nat)(e7:mU.bI)(a0:br):Option (Bool):=
 cond (aS 32 (List.length a0:Int)) (some false) (e7 a0 (0:Int))
def mU(N:Nat)(a0:br):Option (Bool):=mU.b N (mU.l4 N N) a0
abbrev pg.bY:=au→aF→aF→Int→Option aF
def pg.fi(N:Nat)(bV:pg.bY)(x0:au)(x2:aF)(x3:aF)(x4:Int):Option aF:=
 cond (aS x4 (List.length x0:Int)) (cond (aZ x4 (List.length x0)) ((kt N ((((List.getD x0 x4.toNat bf).2).2).1)).bind λr3=>(Am N x3 r3).bind λr4=>bV x0 x2 r4 (W .i64 (x4+1))) (none)) (some x3)
def pg.l5(N:Nat):Nat→pg.bY
 |0,_,_,_,_=>none
 |n+1,x0,x2,x3,x4=>pg.fi N (pg.l5 N n) x0 x2 x3 x4
def pg.b(N:Nat)(gh:pg.bY)(a0:au):Option aF:=
 (BD N a0).bind λr1=>cond (!r1) (some (false,pH)) (gh a0 (false,pH) (false,pH) (0:Int))
def pg(N:Nat)(a0:au):Option aF:=pg.b N (pg.l5 N N) a0
def Kp(N:Nat)(a0:aq)(a1:Int):Option (Bool):=
 (DD N a0.2.1 a1).bind λr1=>cond (r1.2) (some true) (some (aM a1 0))
def Ax(N:Nat)(a0:aG)(a1:Int):Option (Int):=
 (od N a0).bind λr1=>cond (!r1) (some (0:Int)) ((mV N a0 a1).bind λr2=>some r2)
abbrev cE.rX:=ag→aq→Int→Option (Bool)
abbrev cE.GP:=ag→aq→Int→Option (Bool)
abbrev cE.gO:=ag→aq→Int→Option (Bool)
abbrev cE.iV:=ag→aq→Int→Option (Bool)
def cE.vV(N:Nat)(GM:cE.rX)(x2:ag)(x3:aq)(x9:Int):Option (Bool):=
 cond (aS x9 (List.length x3.2.2.2.2.2.1:Int)) (cond (aZ x9 (List.length x3.2.2.2.2.2.1)) ((Kp N x3 (((List.getD x3.2.2.2.2.2.1 x9.toNat fy).2).1)).bind λUO=>cond (!UO) (some false) (cond (aZ x9 (List.length x3.2.2.2.2.2.1)) (cond (c0 (List.length x2.1:Int) ((((List.getD x3.2.2.2.2.2.1 x9.toNat fy).2).2).1)) (some false) (GM x2 x3 (W .i64 (x9+1)))) (none))) (none)) (some true)
def cE.w4(N:Nat):Nat→cE.rX
 |0,_,_,_=>none
 |n+1,x2,x3,x9=>cE.vV N (cE.w4 N n) x2 x3 x9
def cE.MT(N:Nat)(GO:cE.rX)(SG:cE.GP)(x2:ag)(x3:aq)(x8:Int):Option (Bool):=
 cond (aS x8 (List.length x3.2.2.2.2.1:Int)) (cond (aZ x8 (List.length x3.2.2.2.2.1)) ((DB N (List.getD x3.2.2.2.2.1 x8.toNat (0:Int))).bind λLq=>cond (!Lq) (some false) (SG x2 x3 (W .i64 (x8+1)))) (none)) (GO x2 x3 (0:Int))
def cE.MS(N:Nat):Nat→cE.GP
 |0,_,_,_=>none
 |n+1,x2,x3,x8=>cE.MT N (cE.w4 N N) (cE.MS N n) x2 x3 x8
def cE.nK(N:Nat)(X8:cE.GP)(iW:cE.gO)(x2:ag)(x3:aq)(x7:Int):Option (Bool):=
 cond (aS x7 (List.length x3.2.2.2.1:Int)) (cond (aZ x7 (List.length x3.2.2.2.1)) ((Kp N x3 ((List.getD x3.2.2.2.1 x7.toNat bf).1)).bind λPK=>cond (!PK) (some false) (cond (aZ x7 (List.length x3.2.2.2.1)) (cond (c0 (List.length x2.1:Int) (((List.getD x3.2.2.2.1 x7.toNat bf).2).1)) (some false) (iW x2 x3 (W .i64 (x7+1)))) (none))) (none)) (X8 x2 x3 (0:Int))
def cE.m5(N:Nat):Nat→cE.gO
 |0,_,_,_=>none
 |n+1,x2,x3,x7=>cE.nK N (cE.MS N N) (cE.m5 N n) x2 x3 x7
def cE.tb(N:Nat)(uE:cE.gO)(jG:cE.iV)(x2:ag)(x3:aq)(x5:Int):Option (Bool):=
 cond (aS x5 (List.length x3.2.2.1:Int)) (cond (aZ x5 (List.length x3.2.2.1)) (cond (aM ((List.getD x3.2.2.1 x5.toNat bf).1) (5:Int)) ((Kp N x3 (((List.getD x3.2.2.1 x5.toNat bf).2).1)).bind λr9=>cond (!r9) (some false) (cond (aM ((List.getD x3.2.2.1 x5.toNat bf).1) (6:Int)) ((Ax N x3.1 (((List.getD x3.2.2.1 x5.toNat bf).2).1)).bind λm7=>cond (aM m7 0) (some false) (jG x2 x3 (W .i64 (x5+1)))) (cond (aM ((List.getD x3.2.2.1 x5.toNat bf).1) (7:Int)) ((Ax N x3.1 (((List.getD x3.2.2.1 x5.toNat bf).2).1)).bind λpZ=>cond (aM pZ 0) (some false) (jG x2 x3 (W .i64 (x5+1)))) (jG x2 x3 (W .i64 (x5+1)))))) (cond (aM ((List.getD x3.2.2.1 x5.toNat bf).1) (6:Int)) ((Ax N x3.1 (((List.getD x3.2.2.1 x5.toNat bf).2).1)).bind λtu=>cond (aM tu 0) (some false) (jG x2 x3 (W .i64 (x5+1)))) (cond (aM ((List.getD x3.2.2.1 x5.toNat bf).1) (7:Int)) ((Ax N x3.1 (((List.getD x3.2.2.1 x5.toNat bf).2).1)).bind λBh=>cond (aM Bh 0) (some false) (jG x2 x3 (W .i64 (x5+1)))) (jG x2 x3 (W .i64 (x5+1)))))) (none)) (uE x2 x3 (0:Int))
def cE.l6(N:Nat):Nat→cE.iV
 |0,_,_,_=>none
 |n+1,x2,x3,x5=>cE.tb N (cE.m5 N N) (cE.l6 N n) x2 x3 x5
def cE.b(N:Nat)(vy:cE.iV)(a0:ag)(a1:aq):Option (Bool):=
 (my N a0).bind λr1=>cond (!r1) (some false) ((oD N a1.1 a1.2.1).bind λr2=>cond (!r2) (some false) ((BD N a1.2.2.1).bind λr3=>cond (!r3) (some false) ((pQ N a1.2.2.2.1).bind λr4=>cond (!r4) (some false) ((mU N a1.2.2.2.2.2.1).bind λr5=>cond (!r5) (some false) (cond (!aM (List.length a1.2.2.2.2.1:Int) (List.length a0.1:Int)) (some false) ((pg N a1.2.2.1).bind λr6=>(R3 N r6).bind λr7=>cond (!aM r7 0) (some false) (vy a0 a1 (0:Int))))))))
def cE(N:Nat)(a0:ag)(a1:aq):Option (Bool):=cE.b N (cE.l6 N N) a0 a1
abbrev vY.bI:=au→Int→Int→Int→Option (Int)
def vY.dH(N:Nat)(ct:vY.bI)(x0:au)(x1:Int)(x2:Int)(x7:Int):Option (Int):=
 cond (aS x7 (List.length x0:Int)) (cond (aZ x7 (List.length x0)) (cond (aM ((List.getD x0 x7.toNat bf).1) x1) (cond (aZ x7 (List.length x0)) (cond (aM (((List.getD x0 x7.toNat bf).2).1) x2) (cond (aZ x7 (List.length x0)) (some ((((List.getD x0 x7.toNat bf).2).2).1)) (none)) (ct x0 x1 x2 (W .i64 (x7+1)))) (none)) (ct x0 x1 x2 (W .i64 (x7+1)))) (none)) (some (0:Int))
def vY.l4(N:Nat):Nat→vY.bI
 |0,_,_,_,_=>none
 |n+1,x0,x1,x2,x7=>vY.dH N (vY.l4 N n) x0 x1 x2 x7
def vY.b(N:Nat)(e7:vY.bI)(a0:au)(a1:Int)(a2:Int):Option (Int):=
 (BD N a0).bind λr1=>cond (!r1) (some (0:Int)) (e7 a0 a1 a2 (0:Int))
def vY(N:Nat)(a0:au)(a1:Int)(a2:Int):Option (Int):=vY.b N (vY.l4 N N) a0 a1 a2
def R2(N:Nat)(a0:aF)(a1:aF):Option aF:=
 (U3 N a1).bind λr1=>(Am N a0 r1).bind λr2=>some r2
abbrev yk.bY:=au→Int→aG→Int→Option aG
def yk.fi(N:Nat)(bV:yk.bY)(x0:au)(x1:Int)(x5:aG)(x6:Int):Option aG:=
 cond (aS x6 (List.length x0:Int)) (cond (aZ x6 (List.length x0)) (cond (aM ((List.getD x0 x6.toNat bf).1) x1) (cond (aZ x6 (List.length x0)) (cond (aZ x6 (List.length x0)) (cond (small (List.length x5+List.length ([(((List.getD x0 x6.toNat bf).2).1,((((List.getD x0 x6.toNat bf).2).2).1,()))]))) (bV x0 x1 (x5++([(((List.getD x0 x6.toNat bf).2).1,((((List.getD x0 x6.toNat bf).2).2).1,()))])) (W .i64 (x6+1))) (none)) (none)) (none)) (bV x0 x1 x5 (W .i64 (x6+1)))) (none)) (some x5)
def yk.l5(N:Nat):Nat→yk.bY
 |0,_,_,_,_=>none
 |n+1,x0,x1,x5,x6=>yk.fi N (yk.l5 N n) x0 x1 x5 x6
def yk.b(N:Nat)(gh:yk.bY)(a0:au)(a1:Int):Option aG:=
 (zh N a0).bind λr1=>cond (!r1) (some ([])) (gh a0 a1 ([]) (0:Int))
def yk(N:Nat)(a0:au)(a1:Int):Option aG:=yk.b N (yk.l5 N N) a0 a1
abbrev hZ.eN:=br→Int→au→Int→dd→Int→Option au
abbrev hZ.dv:=br→Int→au→Int→Option au
def hZ.pN(N:Nat)(c7:hZ.dv)(dY:hZ.eN)(x0:br)(x1:Int)(x5:au)(x6:Int)(x7:dd)(x8:Int):Option au:=
 cond (aS x8 (List.length x0:Int)) (cond (aZ x8 (List.length x0)) (cond (!aM (((List.getD x0 x8.toNat fy).2).1) x1) (dY x0 x1 x5 x6 x7 (W .i64 (x8+1))) (cond (aZ x8 (List.length x0)) (cond (!aM ((((List.getD x0 x8.toNat fy).2).2).1) x6) (dY x0 x1 x5 x6 x7 (W .i64 (x8+1))) (cond (aZ x8 (List.length x0)) (cond (aM (((((List.getD x0 x8.toNat fy).2).2).2).1) (1:Int)) (cond (aZ x8 (List.length x0)) (dY x0 x1 x5 x6 (x7.1,((W .i64 (x7.2.1+((((((List.getD x0 x8.toNat fy).2).2).2).2).1))),x7.2.2)) (W .i64 (x8+1))) (none)) (cond (aZ x8 (List.length x0)) (dY x0 x1 x5 x6 (x7.1,(x7.2.1,((W .i64 (x7.2.2.1+((((((List.getD x0 x8.toNat fy).2).2).2).2).1))),x7.2.2.2))) (W .i64 (x8+1))) (none))) (none))) (none))) (none)) (cond (aS 0 x7.2.1) (cond (small (List.length x5+List.length ([x7]))) (c7 x0 x1 (x5++([x7])) (W .i64 (x6+1))) (none)) (cond (aS 0 x7.2.2.1) (cond (small (List.length x5+List.length ([x7]))) (c7 x0 x1 (x5++([x7])) (W .i64 (x6+1))) (none)) (c7 x0 x1 x5 (W .i64 (x6+1)))))
def hZ.l7(N:Nat)(c7:hZ.dv):Nat→hZ.eN
 |0,_,_,_,_,_,_=>none
 |n+1,x0,x1,x5,x6,x7,x8=>hZ.pN N c7 (hZ.l7 N c7 n) x0 x1 x5 x6 x7 x8
def hZ.lB(N:Nat)(tt:hZ.eN)(c7:hZ.dv)(x0:br)(x1:Int)(x5:au)(x6:Int):Option au:=
 cond (aS x6 6) (tt x0 x1 x5 x6 (x6,df) (0:Int)) (some x5)
def hZ.l3(N:Nat):Nat→hZ.dv
 |0,_,_,_,_=>none
 |n+1,x0,x1,x5,x6=>hZ.lB N (hZ.l7 N (hZ.l3 N n) N) (hZ.l3 N n) x0 x1 x5 x6
def hZ.b(N:Nat)(mF:hZ.dv)(a0:br)(a1:Int):Option au:=
 mF a0 a1 ([]) (0:Int)
def hZ(N:Nat)(a0:br)(a1:Int):Option au:=hZ.b N (hZ.l3 N N) a0 a1
abbrev nL.bI:=aG→ag→Int→Option (Bool)
def nL.dH(N:Nat)(ct:nL.bI)(x1:aG)(x2:ag)(x5:Int):Option (Bool):=
 cond (aS x5 (List.length x1:Int)) (cond (aZ x5 (List.length x1)) (cond (aS ((List.getD x1 x5.toNat df).1) (0:Int)) (some false) (cond (aZ x5 (List.length x1)) (cond (c0 (List.length x2.1:Int) ((List.getD x1 x5.toNat df).1)) (some false) (cond (aZ x5 (List.length x1)) (cond (aM (((List.getD x1 x5.toNat df).2).1) (0:Int)) (some false) (cond (aZ x5 (List.length x1)) (cond (aM (((List.getD x1 x5.toNat df).2).1) (-9223372036854775808:Int)) (some false) (cond (aS 0 x5) (cond (aZ x5 (List.length x1)) (let v3:Int:=W .i64 (x5-1);cond (aZ v3 (List.length x1)) (cond (c0 ((List.getD x1 x5.toNat df).1) ((List.getD x1 v3.toNat df).1)) (some false) (ct x1 x2 (W .i64 (x5+1)))) (none)) (none)) (ct x1 x2 (W .i64 (x5+1))))) (none))) (none))) (none))) (none)) (some true)
def nL.l4(N:Nat):Nat→nL.bI
 |0,_,_,_=>none
 |n+1,x1,x2,x5=>nL.dH N (nL.l4 N n) x1 x2 x5
def nL.b(N:Nat)(e7:nL.bI)(a0:ag)(a1:aG):Option (Bool):=
 (my N a0).bind λr1=>cond (!r1) (some false) (e7 a1 a0 (0:Int))
def nL(N:Nat)(a0:ag)(a1:aG):Option (Bool):=nL.b N (nL.l4 N N) a0 a1
abbrev qi.bY:=au→ag→Int→Int→Option (Bool)
def qi.fi(N:Nat)(bV:qi.bY)(x1:au)(x2:ag)(x5:Int)(x6:Int):Option (Bool):=
 cond (aS x6 (List.length x1:Int)) (cond (aZ x6 (List.length x1)) (cond (aS ((List.getD x1 x6.toNat bf).1) (0:Int)) (some false) (cond (c0 (List.length x2.1:Int) ((List.getD x1 x6.toNat bf).1)) (some false) (cond (aS (((List.getD x1 x6.toNat bf).2).1) (0:Int)) (some false) (cond (aS x5 (((List.getD x1 x6.toNat bf).2).1)) (some false) (cond (aS ((((List.getD x1 x6.toNat bf).2).2).1) (0:Int)) (some false) (cond (aS x5 ((((List.getD x1 x6.toNat bf).2).2).1)) (some false) (cond (aM (((List.getD x1 x6.toNat bf).2).1) (0:Int)) (cond (aM ((((List.getD x1 x6.toNat bf).2).2).1) (0:Int)) (some false) (cond (aS 0 x6) (let v3:Int:=W .i64 (x6-1);cond (aZ v3 (List.length x1)) (cond (c0 ((List.getD x1 x6.toNat bf).1) ((List.getD x1 v3.toNat bf).1)) (some false) (bV x1 x2 x5 (W .i64 (x6+1)))) (none)) (bV x1 x2 x5 (W .i64 (x6+1))))) (cond (aS 0 x6) (let v6:Int:=W .i64 (x6-1);cond (aZ v6 (List.length x1)) (cond (c0 ((List.getD x1 x6.toNat bf).1) ((List.getD x1 v6.toNat bf).1)) (some false) (bV x1 x2 x5 (W .i64 (x6+1)))) (none)) (bV x1 x2 x5 (W .i64 (x6+1))))))))))) (none)) (some true)
def qi.l5(N:Nat):Nat→qi.bY
 |0,_,_,_,_=>none
 |n+1,x1,x2,x5,x6=>qi.fi N (qi.l5 N n) x1 x2 x5 x6
def qi.b(N:Nat)(gh:qi.bY)(a0:ag)(a1:au):Option (Bool):=
 (my N a0).bind λr1=>cond (!r1) (some false) (gh a1 a0 (33000000000:Int) (0:Int))
def qi(N:Nat)(a0:ag)(a1:au):Option (Bool):=qi.b N (qi.l5 N N) a0 a1
def Wm(N:Nat)(a0:aF):Option aF:=
 (Wk N false a0.2.1).bind λr1=>some r1
def PH(N:Nat)(a0:aF)(a1:aF):Option (Int):=
 (R2 N a0 a1).bind λr1=>(R3 N r1).bind λr2=>some r2
abbrev jl.gO:=au→Int→aF→aF→aF→aF→Int→Option (aF×(Int))
abbrev jl.eN:=aG→au→Int→aF→aF→aF→aF→Int→Option (aF×(Int))
def jl.nK(N:Nat)(iW:jl.gO)(x2:au)(x3:Int)(x8:aF)(bg:aF)(aV:aF)(bc:aF)(ca:Int):Option (aF×(Int)):=
 cond (aS ca (List.length x2:Int)) (cond (aZ ca (List.length x2)) (cond (aM ((List.getD x2 ca.toNat bf).1) x3) (cond (aZ ca (List.length x2)) ((kt N (((List.getD x2 ca.toNat bf).2).1)).bind λr8=>cond (aZ ca (List.length x2)) ((kt N ((((List.getD x2 ca.toNat bf).2).2).1)).bind λr9=>iW x2 x3 x8 bg r8 r9 (W .i64 (ca+1))) (none)) (none)) (iW x2 x3 x8 bg aV bc (W .i64 (ca+1)))) (none)) ((Am N bg aV).bind λpZ=>(Wm N pZ).bind λsv=>(R2 N bg bc).bind λoh=>(Wm N oh).bind λtu=>(PH N tu sv).bind λCc=>cond (aS 0 Cc) (some (tu,(0:Int))) (some (sv,(0:Int))))
def jl.m5(N:Nat):Nat→jl.gO
 |0,_,_,_,_,_,_,_=>none
 |n+1,x2,x3,x8,bg,aV,bc,ca=>jl.nK N (jl.m5 N n) x2 x3 x8 bg aV bc ca
def jl.pN(N:Nat)(uE:jl.gO)(dY:jl.eN)(x1:aG)(x2:au)(x3:Int)(x8:aF)(bg:aF)(aV:aF)(bc:aF)(cf:Int):Option (aF×(Int)):=
 cond (aS cf (List.length x1:Int)) (cond (aZ cf (List.length x1)) (cond (aM ((List.getD x1 cf.toNat df).1) x3) (cond (aZ cf (List.length x1)) ((kt N (((List.getD x1 cf.toNat df).2).1)).bind λr4=>dY x1 x2 x3 x8 r4 aV bc (W .i64 (cf+1))) (none)) (dY x1 x2 x3 x8 bg aV bc (W .i64 (cf+1)))) (none)) (uE x2 x3 x8 bg aV bc (0:Int))
def jl.l7(N:Nat):Nat→jl.eN
 |0,_,_,_,_,_,_,_,_=>none
 |n+1,x1,x2,x3,x8,bg,aV,bc,cf=>jl.pN N (jl.m5 N N) (jl.l7 N n) x1 x2 x3 x8 bg aV bc cf
def jl.b(N:Nat)(tt:jl.eN)(a0:ag)(a1:aG)(a2:au)(a3:Int):Option (aF×(Int)):=
 (nL N a0 a1).bind λr1=>cond (!r1) (some ((false,pH),(1:Int))) ((qi N a0 a2).bind λr2=>cond (!r2) (some ((false,pH),(1:Int))) (cond (aS a3 0) (some ((false,pH),(3:Int))) (cond (c0 (List.length a0.1:Int) a3) (some ((false,pH),(3:Int))) (tt a1 a2 a3 (false,pH) (false,pH) (false,pH) (false,pH) (0:Int)))))
def jl(N:Nat)(a0:ag)(a1:aG)(a2:au)(a3:Int):Option (aF×(Int)):=jl.b N (jl.l7 N N) a0 a1 a2 a3
abbrev jY.Rb:=aF→aF→aF→(List (Int))→Int→Int→Int→Option aF
abbrev jY.eN:=aF→aF→aF→(List (Int))→Int→Int→Int→Option aF
abbrev jY.dv:=aF→aF→aF→(List (Int))→Int→Option aF
def jY.M7(N:Nat)(c7:jY.dv)(dY:jY.eN)(x2:aF)(x3:aF)(x4:aF)(x5:List (Int))(x6:Int)(x7:Int)(x8:Int):Option aF:=
 let v7:Int:=W .i64 (x6+x8);cond (aZ v7 (List.length x5)) (cond (aZ x6 (List.length x2.2.1)) ((ZS N x3.2.1 x8).bind λr8=>let v11:Int:=W .u64 (x7+(W .u64 ((List.getD x5 v7.toNat (0:Int))+(W .u64 ((List.getD x2.2.1 x6.toNat (0:Int))*r8)))));let v12:Int:=W .i64 (x6+x8);cond (aZ v12 (List.length x5)) (cond (aS 32 0) (none) (dY x2 x3 x4 (List.set x5 v12.toNat (mR .and .u64 v11 4294967295)) x6 (shr .u64 v11 32) (W .i64 (x8+1)))) (none)) (none)) (none)
def jY.j9(N:Nat)(c7:jY.dv)(dY:jY.eN)(x2:aF)(x3:aF)(x4:aF)(x5:List (Int))(x6:Int)(x7:Int)(x8:Int):Option aF:=jY.M7 N c7 dY x2 x3 x4 x5 x6 x7 x8
def jY.pN(N:Nat)(GY:jY.Rb)(c7:jY.dv)(dY:jY.eN)(x2:aF)(x3:aF)(x4:aF)(x5:List (Int))(x6:Int)(x7:Int)(x8:Int):Option aF:=
 cond (aS x8 (List.length x3.2.1:Int)) (GY x2 x3 x4 x5 x6 x7 x8) (cond (aS 0 x7) (GY x2 x3 x4 x5 x6 x7 x8) (c7 x2 x3 x4 x5 (W .i64 (x6+1))))
def jY.l7(N:Nat)(c7:jY.dv):Nat→jY.eN
 |0,_,_,_,_,_,_,_=>none
 |n+1,x2,x3,x4,x5,x6,x7,x8=>jY.pN N (jY.j9 N c7 (jY.l7 N c7 n)) c7 (jY.l7 N c7 n) x2 x3 x4 x5 x6 x7 x8
def jY.lB(N:Nat)(tt:jY.eN)(c7:jY.dv)(x2:aF)(x3:aF)(x4:aF)(x5:List (Int))(x6:Int):Option aF:=
 cond (aS x6 (List.length x2.2.1:Int)) (tt x2 x3 x4 x5 x6 (0:Int) (0:Int)) ((Wk N (!(oR .bool x2.1 x3.1)) x5).bind λBi=>some Bi)
def jY.l3(N:Nat):Nat→jY.dv
 |0,_,_,_,_,_=>none
 |n+1,x2,x3,x4,x5,x6=>jY.lB N (jY.l7 N (jY.l3 N n) N) (jY.l3 N n) x2 x3 x4 x5 x6
def jY.b(N:Nat)(mF:jY.dv)(a0:aF)(a1:aF):Option aF:=
 let v2:Int:=W .i64 ((W .i64 ((List.length a0.2.1:Int)+(List.length a1.2.1:Int)))+1);cond (gI v2 v2) (mF a0 a1 (false,pH) (List.replicate v2.toNat (0:Int)) (0:Int)) (none)
def jY(N:Nat)(a0:aF)(a1:aF):Option aF:=jY.b N (jY.l3 N N) a0 a1
abbrev qj.bY:=aG→au→ag→aF→aF→Int→Option (aF×(Int))
def qj.fi(N:Nat)(bV:qj.bY)(x1:aG)(x2:au)(x3:ag)(x6:aF)(x8:aF)(x9:Int):Option (aF×(Int)):=
 cond (aS x9 (List.length x3.1:Int)) ((jl N x3 x1 x2 x9).bind λr4=>cond (aZ x9 (List.length x3.1)) ((kt N ((((List.getD x3.1 x9.toNat a7).2).2).1)).bind λr5=>(jY N r4.1 r5).bind λr6=>(Am N x8 r6).bind λr7=>bV x1 x2 x3 x6 r7 (W .i64 (x9+1))) (none)) (some (x8,(0:Int)))
def qj.l5(N:Nat):Nat→qj.bY
 |0,_,_,_,_,_,_=>none
 |n+1,x1,x2,x3,x6,x8,x9=>qj.fi N (qj.l5 N n) x1 x2 x3 x6 x8 x9
def qj.b(N:Nat)(gh:qj.bY)(a0:ag)(a1:aG)(a2:au):Option (aF×(Int)):=
 (nL N a0 a1).bind λr1=>cond (!r1) (some ((false,pH),(1:Int))) ((qi N a0 a2).bind λr2=>cond (!r2) (some ((false,pH),(1:Int))) (gh a1 a2 a0 (false,pH) (false,pH) (0:Int)))
def qj(N:Nat)(a0:ag)(a1:aG)(a2:au):Option (aF×(Int)):=qj.b N (qj.l5 N N) a0 a1 a2
def Xa(N:Nat)(a0:ag)(a1:aq)(a2:Int)(a3:br):Option aF:=
 cond (small (List.length eh+List.length a1.2.2.2.2.2.1)) (let v1:List ((Int)×((Int)×((Int)×((Int)×((Int)×((Int)×(Unit))))))):=eh++a1.2.2.2.2.2.1;cond (small (List.length v1+List.length a3)) ((yk N a1.2.2.2.1 a2).bind λr3=>(hZ N (v1++a3) a2).bind λr4=>(qj N a0 r3 r4).bind λr5=>some r5.1) (none)) (none)
def Uc(N:Nat)(a0:ag)(a1:aq)(a2:Int)(a3:Int):Option (aq×(Int)):=
 (cE N a0 a1).bind λr1=>cond (!r1) (some ((cw,(dh,(bK,(bK,(dV,(eh,())))))),(1:Int))) (cond (aS a3 1) (some ((cw,(dh,(bK,(bK,(dV,(eh,())))))),(1:Int))) ((DD N a1.2.1 a2).bind λr2=>cond (!r2.2) (some ((cw,(dh,(bK,(bK,(dV,(eh,())))))),(3:Int))) ((Ax N a1.1 r2.1.2.1).bind λr3=>cond (!aM r3 1) (some ((cw,(dh,(bK,(bK,(dV,(eh,())))))),(7:Int))) ((vY N a1.2.2.1 (5:Int) a2).bind λr4=>(kt N r4).bind λr5=>(kt N a3).bind λr6=>(R2 N r5 r6).bind λr7=>(Xa N a0 a1 a2 eh).bind λr8=>(PH N r7 r8).bind λr9=>cond (aS r9 0) (some ((cw,(dh,(bK,(bK,(dV,(eh,())))))),(10:Int))) ((kt N a3).bind λm7=>(BX N (5:Int) a2 (1:Int) (0:Int) m7).bind λpG=>(A0 N a1 bK pG).bind λpZ=>some (pZ.1,pZ.2))))))
def Gm(N:Nat)(a0:aU)(a1:Int):Option (Int):=
 (Ax N a0.2.2.1.1 a1).bind λr1=>some r1
abbrev nY.jq:=Int→Int→aO→Int→Option (aO×(Int))
def nY.CQ(N:Nat)(fU:nY.jq)(x1:Int)(x2:Int)(bg:aO)(aV:Int):Option (aO×(Int)):=
 cond (aS aV (List.length bg:Int)) (cond (aZ aV (List.length bg)) (cond (aM ((List.getD bg aV.toNat a7).1) x1) (cond (aZ aV (List.length bg)) (fU x1 x2 (List.set bg aV.toNat ((List.getD bg aV.toNat a7).1,(((List.getD bg aV.toNat a7).2).1,((((List.getD bg aV.toNat a7).2).2).1,(x2,((((List.getD bg aV.toNat a7).2).2).2).2))))) (W .i64 (aV+1))) (none)) (fU x1 x2 bg (W .i64 (aV+1)))) (none)) (some (bg,(0:Int)))
def nY.l8(N:Nat):Nat→nY.jq
 |0,_,_,_,_=>none
 |n+1,x1,x2,bg,aV=>nY.CQ N (nY.l8 N n) x1 x2 bg aV
def nY.b(N:Nat)(GZ:nY.jq)(a0:aO)(a1:Int)(a2:Int):Option (aO×(Int)):=
 (mh N a0).bind λr1=>cond (!r1) (some ([],(1:Int))) (cond (aS a2 0) (some ([],(1:Int))) (cond (aS 1000000000000 a2) (some ([],(1:Int))) ((og N a0 a1).bind λr2=>cond (!r2.2) (some ([],(3:Int))) (cond (small (List.length dh+List.length a0)) (GZ a1 a2 (dh++a0) (0:Int)) (none)))))
def nY(N:Nat)(a0:aO)(a1:Int)(a2:Int):Option (aO×(Int)):=nY.b N (nY.l8 N N) a0 a1 a2
def aaz(N:Nat)(a0:gu)(a1:Int):Option (aF×(Int)):=
 (Qj N a0).bind λr1=>cond (!r1) (some ((false,pH),(1:Int))) ((DB N a1).bind λr2=>cond (!r2) (some ((false,pH),(1:Int))) (let v3:Int:=W .i64 (a0.2.2.2.2.2.1-a1);cond (aM a0.2.2.2.1 2) (let v4:Int:=W .i64 (a1-a0.2.2.2.2.2.1);cond (aS v4 0) (some ((false,pH),(0:Int))) ((kt N a0.2.2.2.2.1).bind λr5=>(kt N v4).bind λr6=>(jY N r5 r6).bind λr7=>some (r7,(0:Int)))) (cond (aS v3 0) (some ((false,pH),(0:Int))) ((kt N a0.2.2.2.2.1).bind λr8=>(kt N v3).bind λr9=>(jY N r8 r9).bind λm7=>some (m7,(0:Int))))))
def Xb(N:Nat)(a0:ag)(a1:aq)(a2:gu):Option (Int):=
 (cE N a0 a1).bind λr1=>cond (!r1) (some (1:Int)) ((Qj N a2).bind λr2=>cond (!r2) (some (1:Int)) ((DD N a1.2.1 a2.2.1).bind λr3=>cond (!r3.2) (some (3:Int)) ((Ax N a1.1 r3.1.2.1).bind λr4=>cond (!aM r4 1) (some (7:Int)) (cond (c0 (List.length a0.1:Int) a2.2.2.1) (some (3:Int)) (cond (small (List.length eh+List.length a1.2.2.2.2.2.1)) (let v5:List ((Int)×((Int)×((Int)×((Int)×((Int)×((Int)×(Unit))))))):=eh++a1.2.2.2.2.2.1;cond (small (List.length v5+List.length ([a2]))) ((yk N a1.2.2.2.1 a2.2.1).bind λr7=>(hZ N (v5++([a2])) a2.2.1).bind λr8=>(jl N a0 r7 r8 a2.2.2.1).bind λr9=>(kt N r3.1.2.2.2.1).bind λm7=>(PH N r9.1 m7).bind λpG=>cond (aS 0 pG) (some (9:Int)) (cond (aZ a2.2.2.1 (List.length a1.2.2.2.2.1)) ((aaz N a2 (List.getD a1.2.2.2.2.1 a2.2.2.1.toNat (0:Int))).bind λpZ=>(vY N a1.2.2.1 (5:Int) a2.2.1).bind λsv=>(kt N sv).bind λoh=>(R2 N oh pZ.1).bind λtu=>(Xa N a0 a1 a2.2.1 ([a2])).bind λCc=>(PH N tu Cc).bind λBh=>cond (aS Bh 0) (some (10:Int)) (some (0:Int))) (none))) (none)) (none))))))
def Ua(N:Nat)(a0:gu)(a1:gu):Option (Bool):=
 cond (!aM a0.2.2.2.2.2.1 a1.2.2.2.2.2.1) (some (oR .bool (aS a1.2.2.2.2.2.1 a0.2.2.2.2.2.1) (aM a0.2.2.2.1 1))) (some (aS a0.1 a1.1))
abbrev dS.Oj:=br→Int→Int→br→Int→Int→Option br
abbrev dS.oM:=br→Int→Int→br→Int→Int→Option br
abbrev dS.bY:=br→Int→Int→br→Int→Option br
def dS.BV(N:Nat)(bV:dS.bY)(x0:br)(x1:Int)(x2:Int)(x7:br)(x8:Int)(x9:Int):Option br:=
 cond (jt 0 x9 (List.length x7:Int) (List.length x7:Int)) (let v9:List ((Int)×((Int)×((Int)×((Int)×((Int)×((Int)×(Unit))))))):=List.drop (0:Int).toNat (List.take x9.toNat x7);cond (small (List.length v9)) (cond (aZ x8 (List.length x0)) (cond (small (List.length v9+List.length ([List.getD x0 x8.toNat fy]))) (let v10:List ((Int)×((Int)×((Int)×((Int)×((Int)×((Int)×(Unit))))))):=v9++([List.getD x0 x8.toNat fy]);cond (jt x9 (List.length x7:Int) (List.length x7:Int) (List.length x7:Int)) (let v11:List ((Int)×((Int)×((Int)×((Int)×((Int)×((Int)×(Unit))))))):=List.drop x9.toNat (List.take (List.length x7:Int).toNat x7);cond (small (List.length v10+List.length v11)) (bV x0 x1 x2 (v10++v11) (W .i64 (x8+1))) (none)) (none)) (none)) (none)) (none)) (none)
def dS.Jd(N:Nat)(bV:dS.bY)(x0:br)(x1:Int)(x2:Int)(x7:br)(x8:Int)(x9:Int):Option br:=dS.BV N bV x0 x1 x2 x7 x8 x9
def dS.zg(N:Nat)(Db:dS.Oj)(bV:dS.bY)(uD:dS.oM)(x0:br)(x1:Int)(x2:Int)(x7:br)(x8:Int)(x9:Int):Option br:=
 cond (aS x9 (List.length x7:Int)) (cond (aZ x9 (List.length x7)) (cond (aZ x8 (List.length x0)) ((Ua N (List.getD x7 x9.toNat fy) (List.getD x0 x8.toNat fy)).bind λr6=>cond (r6) (uD x0 x1 x2 x7 x8 (W .i64 (x9+1))) (Db x0 x1 x2 x7 x8 x9)) (none)) (none)) (Db x0 x1 x2 x7 x8 x9)
def dS.l9(N:Nat)(bV:dS.bY):Nat→dS.oM
 |0,_,_,_,_,_,_=>none
 |n+1,x0,x1,x2,x7,x8,x9=>dS.zg N (dS.Jd N bV) bV (dS.l9 N bV n) x0 x1 x2 x7 x8 x9
def dS.fi(N:Nat)(Cd:dS.oM)(bV:dS.bY)(x0:br)(x1:Int)(x2:Int)(x7:br)(x8:Int):Option br:=
 cond (aS x8 (List.length x0:Int)) (cond (aZ x8 (List.length x0)) (cond (!aM ((((List.getD x0 x8.toNat fy).2).2).1) x1) (bV x0 x1 x2 x7 (W .i64 (x8+1))) (cond (aZ x8 (List.length x0)) (cond (!aM (((((List.getD x0 x8.toNat fy).2).2).2).1) x2) (bV x0 x1 x2 x7 (W .i64 (x8+1))) (Cd x0 x1 x2 x7 x8 (0:Int))) (none))) (none)) (some x7)
def dS.l5(N:Nat):Nat→dS.bY
 |0,_,_,_,_,_=>none
 |n+1,x0,x1,x2,x7,x8=>dS.fi N (dS.l9 N (dS.l5 N n) N) (dS.l5 N n) x0 x1 x2 x7 x8
def dS.b(N:Nat)(gh:dS.bY)(a0:br)(a1:Int)(a2:Int):Option br:=
 (mU N a0).bind λr1=>cond (!r1) (some ([])) (gh a0 a1 a2 ([]) (0:Int))
def dS(N:Nat)(a0:br)(a1:Int)(a2:Int):Option br:=dS.b N (dS.l5 N N) a0 a1 a2
abbrev ch.rY:=br→Int→bL→br→Int→Option (br×bL×(Int)×(Int))
abbrev ch.anO:=br→Int→bL→Option (br×bL×(Int)×(Int))
abbrev ch.sa:=gu→br→Int→bL→br→Int→Int→Int→Option (br×bL×(Int)×(Int))
abbrev ch.G0:=gu→br→Int→bL→br→Int→Int→tg→Option (br×bL×(Int)×(Int))
abbrev ch.Yk:=gu→br→Int→bL→br→Int→Option (br×bL×(Int)×(Int))
abbrev ch.eN:=gu→br→Int→bL→br→Int→Option (br×bL×(Int)×(Int))
def ch.Dx(N:Nat)(rZ:ch.rY)(x8:br)(x9:Int)(bg:bL)(ei:br)(eO:Int):Option (br×bL×(Int)×(Int)):=
 cond (aS eO (List.length x8:Int)) (cond (aZ eO (List.length x8)) (cond (aS 0 ((((((List.getD x8 eO.toNat fy).2).2).2).2).1)) (cond (aZ eO (List.length x8)) (cond (small (List.length ei+List.length ([List.getD x8 eO.toNat fy]))) (rZ x8 x9 bg (ei++([List.getD x8 eO.toNat fy])) (W .i64 (eO+1))) (none)) (none)) (rZ x8 x9 bg ei (W .i64 (eO+1)))) (none)) (some (ei,bg,x9,(0:Int)))
def ch.CK(N:Nat):Nat→ch.rY
 |0,_,_,_,_,_=>none
 |n+1,x8,x9,bg,ei,eO=>ch.Dx N (ch.CK N n) x8 x9 bg ei eO
def ch.aaI(N:Nat)(Od:ch.rY)(x8:br)(x9:Int)(bg:bL):Option (br×bL×(Int)×(Int)):=
 Od x8 x9 bg ([]) (0:Int)
def ch.j22(N:Nat)(x8:br)(x9:Int)(bg:bL):Option (br×bL×(Int)×(Int)):=ch.aaI N (ch.CK N N) x8 x9 bg
def ch.yl(N:Nat)(dY:ch.eN)(Ba:ch.sa)(x3:gu)(x8:br)(x9:Int)(bg:bL)(aV:br)(bc:Int)(cf:Int)(dg:Int):Option (br×bL×(Int)×(Int)):=
 cond (aS dg (List.length x8:Int)) (cond (aZ dg (List.length x8)) (cond (aZ bc (List.length aV)) (cond (aM ((List.getD x8 dg.toNat fy).1) ((List.getD aV bc.toNat fy).1)) (cond (aZ dg (List.length x8)) (cond (aZ dg (List.length x8)) (Ba x3 (List.set x8 dg.toNat ((List.getD x8 dg.toNat fy).1,(((List.getD x8 dg.toNat fy).2).1,((((List.getD x8 dg.toNat fy).2).2).1,(((((List.getD x8 dg.toNat fy).2).2).2).1,((W .i64 (((((((List.getD x8 dg.toNat fy).2).2).2).2).1)-cf)),(((((List.getD x8 dg.toNat fy).2).2).2).2).2)))))) x9 bg aV bc cf (W .i64 (dg+1))) (none)) (none)) (Ba x3 x8 x9 bg aV bc cf (W .i64 (dg+1)))) (none)) (none)) (dY x3 x8 x9 bg aV (W .i64 (bc+1)))
def ch.AY(N:Nat)(dY:ch.eN):Nat→ch.sa
 |0,_,_,_,_,_,_,_,_=>none
 |n+1,x3,x8,x9,bg,aV,bc,cf,dg=>ch.yl N dY (ch.AY N dY n) x3 x8 x9 bg aV bc cf dg
def ch.vW(N:Nat)(GR:ch.sa)(dY:ch.eN)(x3:gu)(x8:br)(x9:Int)(bg:bL)(aV:br)(bc:Int)(cf:Int)(ca:tg):Option (br×bL×(Int)×(Int)):=
 cond (small (List.length bg+List.length ([ca]))) (GR x3 x8 (W .i64 (x9-cf)) (bg++([ca])) aV bc cf (0:Int)) (none)
def ch.BT(N:Nat)(dY:ch.eN)(x3:gu)(x8:br)(x9:Int)(bg:bL)(aV:br)(bc:Int)(cf:Int)(ca:tg):Option (br×bL×(Int)×(Int)):=ch.vW N (ch.AY N dY N) dY x3 x8 x9 bg aV bc cf ca
def ch.KN(N:Nat)(vN:ch.G0)(dY:ch.eN)(x3:gu)(x8:br)(x9:Int)(bg:bL)(aV:br)(bc:Int):Option (br×bL×(Int)×(Int)):=
 cond (aZ bc (List.length aV)) (cond (aM (((List.getD aV bc.toNat fy).2).1) x3.2.1) (dY x3 x8 x9 bg aV (W .i64 (bc+1))) (cond (aZ bc (List.length aV)) (let YX:Int:=mn x9 ((((((List.getD aV bc.toNat fy).2).2).2).2).1);cond (aZ bc (List.length aV)) (cond (aZ bc (List.length aV)) (cond (aM x3.2.2.2.1 2) (cond (aZ bc (List.length aV)) (vN x3 x8 x9 bg aV bc YX (((List.getD aV bc.toNat fy).2).1,(x3.2.1,(x3.2.2.1,(YX,(((((((List.getD aV bc.toNat fy).2).2).2).2).2).1,())))))) (none)) (vN x3 x8 x9 bg aV bc YX (x3.2.1,(((List.getD aV bc.toNat fy).2).1,(x3.2.2.1,(YX,(((((((List.getD aV bc.toNat fy).2).2).2).2).2).1,()))))))) (none)) (none)) (none))) (none)
def ch.QL(N:Nat)(dY:ch.eN)(x3:gu)(x8:br)(x9:Int)(bg:bL)(aV:br)(bc:Int):Option (br×bL×(Int)×(Int)):=ch.KN N (ch.BT N dY) dY x3 x8 x9 bg aV bc
def ch.pN(N:Nat)(Ol:ch.anO)(G4:ch.Yk)(dY:ch.eN)(x3:gu)(x8:br)(x9:Int)(bg:bL)(aV:br)(bc:Int):Option (br×bL×(Int)×(Int)):=
 cond (aS bc (List.length aV:Int)) (cond (aS 0 x9) (cond (aM x3.2.2.2.1 1) (cond (aZ bc (List.length aV)) (cond (aS x3.2.2.2.2.2.1 (((((((List.getD aV bc.toNat fy).2).2).2).2).2).1)) (Ol x8 x9 bg) (cond (aM x3.2.2.2.1 2) (cond (aZ bc (List.length aV)) (cond (aS (((((((List.getD aV bc.toNat fy).2).2).2).2).2).1) x3.2.2.2.2.2.1) (Ol x8 x9 bg) (G4 x3 x8 x9 bg aV bc)) (none)) (G4 x3 x8 x9 bg aV bc))) (none)) (cond (aM x3.2.2.2.1 2) (cond (aZ bc (List.length aV)) (cond (aS (((((((List.getD aV bc.toNat fy).2).2).2).2).2).1) x3.2.2.2.2.2.1) (Ol x8 x9 bg) (G4 x3 x8 x9 bg aV bc)) (none)) (G4 x3 x8 x9 bg aV bc))) (Ol x8 x9 bg)) (Ol x8 x9 bg)
def ch.l7(N:Nat):Nat→ch.eN
 |0,_,_,_,_,_,_=>none
 |n+1,x3,x8,x9,bg,aV,bc=>ch.pN N (ch.j22 N) (ch.QL N (ch.l7 N n)) (ch.l7 N n) x3 x8 x9 bg aV bc
def ch.b(N:Nat)(tt:ch.eN)(a0:br)(a1:gu):Option (br×bL×(Int)×(Int)):=
 (mU N a0).bind λr1=>cond (!r1) (some ([],[],(0:Int),(1:Int))) ((Qj N a1).bind λr2=>cond (!r2) (some ([],[],(0:Int),(1:Int))) (cond (small (List.length eh+List.length a0)) ((dS N a0 a1.2.2.1 (W .i64 ((3:Int)-a1.2.2.2.1))).bind λr5=>tt a1 (eh++a0) a1.2.2.2.2.1 ([]) r5 (0:Int)) (none)))
def ch(N:Nat)(a0:br)(a1:gu):Option (br×bL×(Int)×(Int)):=ch.b N (ch.l7 N N) a0 a1
def WW(N:Nat)(a0:tg):Option (Bool):=
 cond (c0 0 a0.1) (cond (c0 a0.1 24) (cond (c0 0 a0.2.1) (cond (c0 a0.2.1 24) (cond (!aM a0.1 a0.2.1) (cond (c0 0 a0.2.2.1) (cond (aS a0.2.2.1 6) (cond (c0 1 a0.2.2.2.1) (cond (c0 a0.2.2.2.1 1000000000) ((DB N a0.2.2.2.2.1).bind λr1=>some r1) (some false)) (some false)) (some false)) (some false)) (some false)) (some false)) (some false)) (some false)) (some false)
def Ky(N:Nat)(a0:Int):Option ((Int)×(Int)):=
 cond (aM a0 0) (some ((2:Int),(0:Int))) (some ((5:Int),a0))
def Qz(N:Nat)(a0:tg)(a1:Int):Option (bE×(Int)):=
 (WW N a0).bind λr1=>cond (!r1) (some ([],(1:Int))) ((DB N a1).bind λr2=>cond (!r2) (some ([],(1:Int))) ((kt N (W .i64 (a1-a0.2.2.2.2.1))).bind λr4=>(kt N a0.2.2.2.1).bind λr5=>(jY N r4 r5).bind λr6=>(R3 N r6).bind λr7=>cond (aM r7 0) (some ([],(0:Int))) ((Ky N a0.1).bind λr8=>(Ky N a0.2.1).bind λr9=>(U3 N r6).bind λm7=>some ([(r8.1,(r8.2,(r6,()))),(r9.1,(r9.2,(m7,())))],(0:Int)))))
abbrev gE.sb:=bL→ag→aq→aq→au→bE→Int→Option (aq×(Int))
abbrev gE.bI:=bL→ag→aq→aq→Int→Option (aq×(Int))
def gE.uv(N:Nat)(s4:gE.sb)(x2:bL)(x3:ag)(x4:aq)(x6:aq)(x9:au)(bg:bE)(aV:Int):Option (aq×(Int)):=
 cond (aS aV (List.length x2:Int)) (cond (aZ aV (List.length x2)) ((Kp N x4 ((List.getD x2 aV.toNat ny).1)).bind λr6=>cond (!r6) (some ((cw,(dh,(bK,(bK,(dV,(eh,())))))),(3:Int))) ((Kp N x4 (((List.getD x2 aV.toNat ny).2).1)).bind λr7=>cond (!r7) (some ((cw,(dh,(bK,(bK,(dV,(eh,())))))),(3:Int))) (cond (c0 (List.length x3.1:Int) ((((List.getD x2 aV.toNat ny).2).2).1)) (some ((cw,(dh,(bK,(bK,(dV,(eh,())))))),(3:Int))) (let v8:Int:=W .i64 (0-(((((List.getD x2 aV.toNat ny).2).2).2).1));cond (small (List.length x9+List.length ([((List.getD x2 aV.toNat ny).1,((((List.getD x2 aV.toNat ny).2).2).1,(((((List.getD x2 aV.toNat ny).2).2).2).1,()))),(((List.getD x2 aV.toNat ny).2).1,((((List.getD x2 aV.toNat ny).2).2).1,(v8,())))]))) (cond (aZ ((((List.getD x2 aV.toNat ny).2).2).1) (List.length x4.2.2.2.2.1)) ((Qz N (List.getD x2 aV.toNat ny) (List.getD x4.2.2.2.2.1 ((((List.getD x2 aV.toNat ny).2).2).1).toNat (0:Int))).bind λm7=>cond (small (List.length bg+List.length m7.1)) (s4 x2 x3 x4 x6 (x9++([((List.getD x2 aV.toNat ny).1,((((List.getD x2 aV.toNat ny).2).2).1,(((((List.getD x2 aV.toNat ny).2).2).2).1,()))),(((List.getD x2 aV.toNat ny).2).1,((((List.getD x2 aV.toNat ny).2).2).1,(v8,())))])) (bg++m7.1) (W .i64 (aV+1))) (none)) (none)) (none))))) (none)) ((A0 N x4 x9 bg).bind λsv=>some (sv.1,sv.2))
def gE.xi(N:Nat):Nat→gE.sb
 |0,_,_,_,_,_,_,_=>none
 |n+1,x2,x3,x4,x6,x9,bg,aV=>gE.uv N (gE.xi N n) x2 x3 x4 x6 x9 bg aV
def gE.dH(N:Nat)(GU:gE.sb)(ct:gE.bI)(x2:bL)(x3:ag)(x4:aq)(x6:aq)(x8:Int):Option (aq×(Int)):=
 cond (aS x8 (List.length x2:Int)) (cond (aZ x8 (List.length x2)) ((WW N (List.getD x2 x8.toNat ny)).bind λr3=>cond (!r3) (some ((cw,(dh,(bK,(bK,(dV,(eh,())))))),(1:Int))) (ct x2 x3 x4 x6 (W .i64 (x8+1)))) (none)) (GU x2 x3 x4 x6 ([]) ([]) (0:Int))
def gE.l4(N:Nat):Nat→gE.bI
 |0,_,_,_,_,_=>none
 |n+1,x2,x3,x4,x6,x8=>gE.dH N (gE.xi N N) (gE.l4 N n) x2 x3 x4 x6 x8
def gE.b(N:Nat)(e7:gE.bI)(a0:ag)(a1:aq)(a2:bL):Option (aq×(Int)):=
 (cE N a0 a1).bind λr1=>cond (!r1) (some ((cw,(dh,(bK,(bK,(dV,(eh,())))))),(1:Int))) (cond (aS 200 (List.length a2:Int)) (some ((cw,(dh,(bK,(bK,(dV,(eh,())))))),(1:Int))) (e7 a2 a0 a1 (cw,(dh,(bK,(bK,(dV,(eh,())))))) (0:Int)))
def gE(N:Nat)(a0:ag)(a1:aq)(a2:bL):Option (aq×(Int)):=gE.b N (gE.l4 N N) a0 a1 a2
abbrev jm.Yk:=ag→aq→gu→aq→br→bL→Int→Option (aq×bL×(Int)×(Int))
abbrev jm.Q8:=ag→aq→gu→aq→Option (aq×bL×(Int)×(Int))
def jm.KN(N:Nat)(x3:ag)(x4:aq)(x5:gu)(x6:aq)(bc:br)(cf:bL)(ca:Int):Option (aq×bL×(Int)×(Int)):=
 (gE N x3 x4 cf).bind λr6=>cond (!aM r6.2 0) (some ((cw,(dh,(bK,(bK,(dV,(eh,())))))),DZ,(0:Int),r6.2)) (cond (aS 0 ca) (cond (small (List.length bc+List.length ([(x5.1,(x5.2.1,(x5.2.2.1,(x5.2.2.2.1,(ca,x5.2.2.2.2.2)))))]))) (some ((r6.1.1,(r6.1.2.1,(r6.1.2.2.1,(r6.1.2.2.2.1,(r6.1.2.2.2.2.1,((bc++([(x5.1,(x5.2.1,(x5.2.2.1,(x5.2.2.2.1,(ca,x5.2.2.2.2.2)))))])),r6.1.2.2.2.2.2.2)))))),cf,ca,(0:Int))) (none)) (some ((r6.1.1,(r6.1.2.1,(r6.1.2.2.1,(r6.1.2.2.2.1,(r6.1.2.2.2.2.1,(bc,r6.1.2.2.2.2.2.2)))))),cf,ca,(0:Int))))
def jm.QL(N:Nat)(x3:ag)(x4:aq)(x5:gu)(x6:aq)(bc:br)(cf:bL)(ca:Int):Option (aq×bL×(Int)×(Int)):=jm.KN N x3 x4 x5 x6 bc cf ca
def jm.PG(N:Nat)(G4:jm.Yk)(x3:ag)(x4:aq)(x5:gu)(x6:aq):Option (aq×bL×(Int)×(Int)):=
 (ch N x4.2.2.2.2.2.1 x5).bind λr4=>cond (aS 0 r4.2.2.1) (cond (aM (List.length r4.1:Int) 32) (some ((cw,(dh,(bK,(bK,(dV,(eh,())))))),DZ,(0:Int),(5:Int))) (G4 x3 x4 x5 x6 r4.1 r4.2.1 r4.2.2.1)) (G4 x3 x4 x5 x6 r4.1 r4.2.1 r4.2.2.1)
def jm.j7(N:Nat)(x3:ag)(x4:aq)(x5:gu)(x6:aq):Option (aq×bL×(Int)×(Int)):=jm.PG N (jm.QL N) x3 x4 x5 x6
def jm.b(N:Nat)(Cb:jm.Q8)(a0:ag)(a1:aq)(a2:gu):Option (aq×bL×(Int)×(Int)):=
 (Xb N a0 a1 a2).bind λr1=>cond (!aM r1 0) (some ((cw,(dh,(bK,(bK,(dV,(eh,())))))),DZ,(0:Int),r1)) (cond (aS 0 (List.length a1.2.2.2.2.2.1:Int)) (let v2:Int:=W .i64 ((List.length a1.2.2.2.2.2.1:Int)-1);cond (aZ v2 (List.length a1.2.2.2.2.2.1)) (cond (c0 a2.1 ((List.getD a1.2.2.2.2.2.1 v2.toNat fy).1)) (some ((cw,(dh,(bK,(bK,(dV,(eh,())))))),DZ,(0:Int),(1:Int))) (Cb a0 a1 a2 (cw,(dh,(bK,(bK,(dV,(eh,())))))))) (none)) (Cb a0 a1 a2 (cw,(dh,(bK,(bK,(dV,(eh,()))))))))
def jm(N:Nat)(a0:ag)(a1:aq)(a2:gu):Option (aq×bL×(Int)×(Int)):=jm.b N (jm.j7 N) a0 a1 a2
abbrev n0.bY:=br→Int→Int→br→Int→Option (br×(Int))
def n0.fi(N:Nat)(bV:n0.bY)(x0:br)(x1:Int)(x2:Int)(x8:br)(x9:Int):Option (br×(Int)):=
 cond (aS x9 (List.length x0:Int)) (cond (aZ x9 (List.length x0)) (cond (!aM ((List.getD x0 x9.toNat fy).1) x2) (cond (aZ x9 (List.length x0)) (cond (small (List.length x8+List.length ([List.getD x0 x9.toNat fy]))) (bV x0 x1 x2 (x8++([List.getD x0 x9.toNat fy])) (W .i64 (x9+1))) (none)) (none)) (cond (aZ x9 (List.length x0)) (cond (!aM (((List.getD x0 x9.toNat fy).2).1) x1) (cond (aZ x9 (List.length x0)) (cond (small (List.length x8+List.length ([List.getD x0 x9.toNat fy]))) (bV x0 x1 x2 (x8++([List.getD x0 x9.toNat fy])) (W .i64 (x9+1))) (none)) (none)) (bV x0 x1 x2 x8 (W .i64 (x9+1)))) (none))) (none)) (cond (aM (List.length x8:Int) (List.length x0:Int)) (some ([],(3:Int))) (some (x8,(0:Int))))
def n0.l5(N:Nat):Nat→n0.bY
 |0,_,_,_,_,_=>none
 |n+1,x0,x1,x2,x8,x9=>n0.fi N (n0.l5 N n) x0 x1 x2 x8 x9
def n0.b(N:Nat)(gh:n0.bY)(a0:br)(a1:Int)(a2:Int):Option (br×(Int)):=
 (mU N a0).bind λr1=>cond (!r1) (some ([],(1:Int))) (gh a0 a1 a2 ([]) (0:Int))
def n0(N:Nat)(a0:br)(a1:Int)(a2:Int):Option (br×(Int)):=n0.b N (n0.l5 N N) a0 a1 a2
abbrev n6.iV:=au→Int→bE→aF→Int→Option (bE×(Int))
def n6.tb(N:Nat)(jG:n6.iV)(x0:au)(x1:Int)(bg:bE)(aV:aF)(bc:Int):Option (bE×(Int)):=
 cond (aS bc (List.length x0:Int)) (cond (aZ bc (List.length x0)) (cond (!aM (((List.getD x0 bc.toNat bf).2).1) x1) (jG x0 x1 bg aV (W .i64 (bc+1))) ((R3 N aV).bind λr9=>cond (aM r9 0) (jG x0 x1 bg aV (W .i64 (bc+1))) (cond (aZ bc (List.length x0)) ((Ky N ((List.getD x0 bc.toNat bf).1)).bind λpG=>cond (aZ bc (List.length x0)) ((kt N ((((List.getD x0 bc.toNat bf).2).2).1)).bind λpZ=>(jY N pZ aV).bind λsv=>cond (small (List.length bg+List.length ([(pG.1,(pG.2,(sv,())))]))) (jG x0 x1 (bg++([(pG.1,(pG.2,(sv,())))])) aV (W .i64 (bc+1))) (none)) (none)) (none)))) (none)) (some (bg,(0:Int)))
def n6.l6(N:Nat):Nat→n6.iV
 |0,_,_,_,_,_=>none
 |n+1,x0,x1,bg,aV,bc=>n6.tb N (n6.l6 N n) x0 x1 bg aV bc
def n6.b(N:Nat)(vy:n6.iV)(a0:au)(a1:Int)(a2:Int)(a3:Int):Option (bE×(Int)):=
 (zh N a0).bind λr1=>cond (!r1) (some ([],(1:Int))) ((DB N a2).bind λr2=>cond (!r2) (some ([],(1:Int))) ((DB N a3).bind λr3=>cond (!r3) (some ([],(1:Int))) ((kt N a3).bind λr4=>(kt N a2).bind λr5=>(R2 N r4 r5).bind λr6=>vy a0 a1 ([]) r6 (0:Int))))
def n6(N:Nat)(a0:au)(a1:Int)(a2:Int)(a3:Int):Option (bE×(Int)):=n6.b N (n6.l6 N N) a0 a1 a2 a3
def Ub(N:Nat)(a0:ag)(a1:aq)(a2:Int)(a3:Int):Option (aq×bE×(Int)):=
 (cE N a0 a1).bind λr1=>cond (!r1) (some ((cw,(dh,(bK,(bK,(dV,(eh,())))))),([]:List ((Int)×((Int)×(((Bool)×((List (Int))×(Unit)))×(Unit))))),(1:Int))) ((DB N a3).bind λr2=>cond (!r2) (some ((cw,(dh,(bK,(bK,(dV,(eh,())))))),([]:List ((Int)×((Int)×(((Bool)×((List (Int))×(Unit)))×(Unit))))),(1:Int))) (cond (aS a2 0) (some ((cw,(dh,(bK,(bK,(dV,(eh,())))))),([]:List ((Int)×((Int)×(((Bool)×((List (Int))×(Unit)))×(Unit))))),(3:Int))) (cond (c0 (List.length a0.1:Int) a2) (some ((cw,(dh,(bK,(bK,(dV,(eh,())))))),([]:List ((Int)×((Int)×(((Bool)×((List (Int))×(Unit)))×(Unit))))),(3:Int))) (cond (aZ a2 (List.length a1.2.2.2.2.1)) ((n6 N a1.2.2.2.1 a2 (List.getD a1.2.2.2.2.1 a2.toNat (0:Int)) a3).bind λr3=>(A0 N a1 bK r3.1).bind λr4=>cond (!aM r4.2 0) (some ((cw,(dh,(bK,(bK,(dV,(eh,())))))),([]:List ((Int)×((Int)×(((Bool)×((List (Int))×(Unit)))×(Unit))))),r4.2)) (cond (small (List.length dV+List.length a1.2.2.2.2.1)) (let v5:List (Int):=dV++a1.2.2.2.2.1;cond (aZ a2 (List.length v5)) (some ((r4.1.1,(r4.1.2.1,(r4.1.2.2.1,(r4.1.2.2.2.1,((List.set v5 a2.toNat a3),r4.1.2.2.2.2.2))))),r3.1,(0:Int))) (none)) (none))) (none)))))
abbrev qk.de:=aG→Int→Option (Bool)
def qk.gV(N:Nat)(eS:qk.de)(x0:aG)(x3:Int):Option (Bool):=
 cond (aS x3 (List.length x0:Int)) (cond (aZ x3 (List.length x0)) (cond (aS ((List.getD x0 x3.toNat df).1) (1:Int)) (some false) (cond (aZ x3 (List.length x0)) (cond (aS 24 ((List.getD x0 x3.toNat df).1)) (some false) (cond (aZ x3 (List.length x0)) (cond (aM (((List.getD x0 x3.toNat df).2).1) (0:Int)) (some false) (cond (aS 0 x3) (cond (aZ x3 (List.length x0)) (let v2:Int:=W .i64 (x3-1);cond (aZ v2 (List.length x0)) (cond (c0 ((List.getD x0 x3.toNat df).1) ((List.getD x0 v2.toNat df).1)) (some false) (eS x0 (W .i64 (x3+1)))) (none)) (none)) (eS x0 (W .i64 (x3+1))))) (none))) (none))) (none)) (some true)
def qk.l2(N:Nat):Nat→qk.de
 |0,_,_=>none
 |n+1,x0,x3=>qk.gV N (qk.l2 N n) x0 x3
def qk.b(N:Nat)(jo:qk.de)(a0:aG):Option (Bool):=
 jo a0 (0:Int)
def qk(N:Nat)(a0:aG):Option (Bool):=qk.b N (qk.l2 N N) a0
abbrev e8.xp:=aG→bE→aG→Int→aF→Int→Option (aG×(Int))
abbrev e8.oM:=aG→bE→aG→Int→aF→Int→Option (aG×(Int))
abbrev e8.bY:=aG→bE→aG→Int→Option (aG×(Int))
def e8.F5(N:Nat)(bV:e8.bY)(Dc:e8.xp)(x0:aG)(x1:bE)(x6:aG)(x7:Int)(x8:aF)(bg:Int):Option (aG×(Int)):=
 cond (aS bg (List.length x1:Int)) (cond (aZ bg (List.length x1)) (cond (aM ((List.getD x1 bg.toNat ((0:Int),((0:Int),((false,pH),())))).1) (5:Int)) (cond (aZ bg (List.length x1)) (cond (aM (((List.getD x1 bg.toNat ((0:Int),((0:Int),((false,pH),())))).2).1) x7) (cond (aZ bg (List.length x1)) ((Am N x8 ((((List.getD x1 bg.toNat ((0:Int),((0:Int),((false,pH),())))).2).2).1)).bind λr8=>Dc x0 x1 x6 x7 r8 (W .i64 (bg+1))) (none)) (Dc x0 x1 x6 x7 x8 (W .i64 (bg+1)))) (none)) (Dc x0 x1 x6 x7 x8 (W .i64 (bg+1)))) (none)) ((wX N x8).bind λpZ=>cond (!pZ.2) (some ([],(2:Int))) (cond (!aM pZ.1 0) (cond (small (List.length x6+List.length ([(x7,(pZ.1,()))]))) (bV x0 x1 (x6++([(x7,(pZ.1,()))])) (W .i64 (x7+1))) (none)) (bV x0 x1 x6 (W .i64 (x7+1)))))
def e8.IY(N:Nat)(bV:e8.bY):Nat→e8.xp
 |0,_,_,_,_,_,_=>none
 |n+1,x0,x1,x6,x7,x8,bg=>e8.F5 N bV (e8.IY N bV n) x0 x1 x6 x7 x8 bg
def e8.zg(N:Nat)(Om:e8.xp)(bV:e8.bY)(uD:e8.oM)(x0:aG)(x1:bE)(x6:aG)(x7:Int)(x8:aF)(x9:Int):Option (aG×(Int)):=
 cond (aS x9 (List.length x0:Int)) (cond (aZ x9 (List.length x0)) (cond (aM ((List.getD x0 x9.toNat df).1) x7) (cond (aZ x9 (List.length x0)) ((kt N (((List.getD x0 x9.toNat df).2).1)).bind λr4=>uD x0 x1 x6 x7 r4 (W .i64 (x9+1))) (none)) (uD x0 x1 x6 x7 x8 (W .i64 (x9+1)))) (none)) (Om x0 x1 x6 x7 x8 (0:Int))
def e8.l9(N:Nat)(bV:e8.bY):Nat→e8.oM
 |0,_,_,_,_,_,_=>none
 |n+1,x0,x1,x6,x7,x8,x9=>e8.zg N (e8.IY N bV N) bV (e8.l9 N bV n) x0 x1 x6 x7 x8 x9
def e8.fi(N:Nat)(Cd:e8.oM)(bV:e8.bY)(x0:aG)(x1:bE)(x6:aG)(x7:Int):Option (aG×(Int)):=
 cond (c0 x7 24) (Cd x0 x1 x6 x7 (false,pH) (0:Int)) (some (x6,(0:Int)))
def e8.l5(N:Nat):Nat→e8.bY
 |0,_,_,_,_=>none
 |n+1,x0,x1,x6,x7=>e8.fi N (e8.l9 N (e8.l5 N n) N) (e8.l5 N n) x0 x1 x6 x7
def e8.b(N:Nat)(gh:e8.bY)(a0:aG)(a1:bE):Option (aG×(Int)):=
 (qk N a0).bind λr1=>cond (!r1) (some ([],(1:Int))) (gh a0 a1 ([]) (1:Int))
def e8(N:Nat)(a0:aG)(a1:bE):Option (aG×(Int)):=e8.b N (e8.l5 N N) a0 a1
def Un(N:Nat)(a0:aU)(a1:Int):Option ((Int)×(Bool)):=
 (kt N a0.1).bind λr1=>(kt N a1).bind λr2=>(Am N r1 r2).bind λr3=>(wX N r3).bind λr4=>some (r4.1,r4.2)
def T8(N:Nat)(a0:Int)(a1:Int):Option ((Int)×(Bool)):=
 cond (aM a0 0) (cond (aM a1 1) (some ((1:Int),true)) (cond (aM a0 1) (cond (aM a1 11) (some ((2:Int),true)) (cond (aM a0 2) (cond (aM a1 12) (some ((1:Int),true)) (cond (aM a0 2) (cond (aM a1 13) (some ((3:Int),true)) (cond (aM a0 3) (cond (aM a1 21) (some ((4:Int),true)) (some ((0:Int),false))) (some ((0:Int),false)))) (cond (aM a0 3) (cond (aM a1 21) (some ((4:Int),true)) (some ((0:Int),false))) (some ((0:Int),false))))) (cond (aM a0 2) (cond (aM a1 13) (some ((3:Int),true)) (cond (aM a0 3) (cond (aM a1 21) (some ((4:Int),true)) (some ((0:Int),false))) (some ((0:Int),false)))) (cond (aM a0 3) (cond (aM a1 21) (some ((4:Int),true)) (some ((0:Int),false))) (some ((0:Int),false)))))) (cond (aM a0 2) (cond (aM a1 12) (some ((1:Int),true)) (cond (aM a0 2) (cond (aM a1 13) (some ((3:Int),true)) (cond (aM a0 3) (cond (aM a1 21) (some ((4:Int),true)) (some ((0:Int),false))) (some ((0:Int),false)))) (cond (aM a0 3) (cond (aM a1 21) (some ((4:Int),true)) (some ((0:Int),false))) (some ((0:Int),false))))) (cond (aM a0 2) (cond (aM a1 13) (some ((3:Int),true)) (cond (aM a0 3) (cond (aM a1 21) (some ((4:Int),true)) (some ((0:Int),false))) (some ((0:Int),false)))) (cond (aM a0 3) (cond (aM a1 21) (some ((4:Int),true)) (some ((0:Int),false))) (some ((0:Int),false))))))) (cond (aM a0 1) (cond (aM a1 11) (some ((2:Int),true)) (cond (aM a0 2) (cond (aM a1 12) (some ((1:Int),true)) (cond (aM a0 2) (cond (aM a1 13) (some ((3:Int),true)) (cond (aM a0 3) (cond (aM a1 21) (some ((4:Int),true)) (some ((0:Int),false))) (some ((0:Int),false)))) (cond (aM a0 3) (cond (aM a1 21) (some ((4:Int),true)) (some ((0:Int),false))) (some ((0:Int),false))))) (cond (aM a0 2) (cond (aM a1 13) (some ((3:Int),true)) (cond (aM a0 3) (cond (aM a1 21) (some ((4:Int),true)) (some ((0:Int),false))) (some ((0:Int),false)))) (cond (aM a0 3) (cond (aM a1 21) (some ((4:Int),true)) (some ((0:Int),false))) (some ((0:Int),false)))))) (cond (aM a0 2) (cond (aM a1 12) (some ((1:Int),true)) (cond (aM a0 2) (cond (aM a1 13) (some ((3:Int),true)) (cond (aM a0 3) (cond (aM a1 21) (some ((4:Int),true)) (some ((0:Int),false))) (some ((0:Int),false)))) (cond (aM a0 3) (cond (aM a1 21) (some ((4:Int),true)) (some ((0:Int),false))) (some ((0:Int),false))))) (cond (aM a0 2) (cond (aM a1 13) (some ((3:Int),true)) (cond (aM a0 3) (cond (aM a1 21) (some ((4:Int),true)) (some ((0:Int),false))) (some ((0:Int),false)))) (cond (aM a0 3) (cond (aM a1 21) (some ((4:Int),true)) (some ((0:Int),false))) (some ((0:Int),false))))))
abbrev lU.sb:=Int→Int→aG→Int→Option (aG×(Int))
def lU.uv(N:Nat)(s4:lU.sb)(x1:Int)(x9:Int)(aV:aG)(bc:Int):Option (aG×(Int)):=
 cond (aS bc (List.length aV:Int)) (cond (aZ bc (List.length aV)) (cond (aM ((List.getD aV bc.toNat df).1) x1) (cond (aZ bc (List.length aV)) (s4 x1 x9 (List.set aV bc.toNat ((List.getD aV bc.toNat df).1,(x9,((List.getD aV bc.toNat df).2).2))) (W .i64 (bc+1))) (none)) (s4 x1 x9 aV (W .i64 (bc+1)))) (none)) (some (aV,(0:Int)))
def lU.xi(N:Nat):Nat→lU.sb
 |0,_,_,_,_=>none
 |n+1,x1,x9,aV,bc=>lU.uv N (lU.xi N n) x1 x9 aV bc
def lU.b(N:Nat)(GU:lU.sb)(a0:aG)(a1:Int)(a2:Int):Option (aG×(Int)):=
 (od N a0).bind λr1=>cond (!r1) (some ([],(1:Int))) ((mV N a0 a1).bind λr2=>cond (aM r2 0) (some ([],(3:Int))) ((T8 N r2 a2).bind λr3=>cond (!r3.2) (some ([],(8:Int))) (cond (small (List.length cw+List.length a0)) (GU a1 r3.1 (cw++a0) (0:Int)) (none))))
def lU(N:Nat)(a0:aG)(a1:Int)(a2:Int):Option (aG×(Int)):=lU.b N (lU.xi N N) a0 a1 a2
abbrev rN.bY:=aO→Int→(List (Int))→Int→Option (List (Int))
def rN.fi(N:Nat)(bV:rN.bY)(x0:aO)(x1:Int)(x5:List (Int))(x6:Int):Option (List (Int)):=
 cond (aS x6 (List.length x0:Int)) (cond (aZ x6 (List.length x0)) (cond (aM (((List.getD x0 x6.toNat a7).2).1) x1) (cond (aZ x6 (List.length x0)) (cond (small (List.length x5+List.length ([(List.getD x0 x6.toNat a7).1]))) (bV x0 x1 (x5++([(List.getD x0 x6.toNat a7).1])) (W .i64 (x6+1))) (none)) (none)) (bV x0 x1 x5 (W .i64 (x6+1)))) (none)) (some x5)
def rN.l5(N:Nat):Nat→rN.bY
 |0,_,_,_,_=>none
 |n+1,x0,x1,x5,x6=>rN.fi N (rN.l5 N n) x0 x1 x5 x6
def rN.b(N:Nat)(gh:rN.bY)(a0:aO)(a1:Int):Option (List (Int)):=
 (mh N a0).bind λr1=>cond (!r1) (some ([])) (gh a0 a1 ([]) (0:Int))
def rN(N:Nat)(a0:aO)(a1:Int):Option (List (Int)):=rN.b N (rN.l5 N N) a0 a1
abbrev fT.oM:=br→(List (Int))→br→Int→Bool→Int→Option br
abbrev fT.bY:=br→(List (Int))→br→Int→Option br
def fT.zg(N:Nat)(bV:fT.bY)(uD:fT.oM)(x0:br)(x1:List (Int))(x5:br)(x6:Int)(x7:Bool)(x8:Int):Option br:=
 cond (aS x8 (List.length x1:Int)) (cond (x7) (uD x0 x1 x5 x6 true (W .i64 (x8+1))) (cond (aZ x8 (List.length x1)) (cond (aZ x6 (List.length x0)) (uD x0 x1 x5 x6 (aM (List.getD x1 x8.toNat (0:Int)) (((List.getD x0 x6.toNat fy).2).1)) (W .i64 (x8+1))) (none)) (none))) (cond (!x7) (cond (aZ x6 (List.length x0)) (cond (small (List.length x5+List.length ([List.getD x0 x6.toNat fy]))) (bV x0 x1 (x5++([List.getD x0 x6.toNat fy])) (W .i64 (x6+1))) (none)) (none)) (bV x0 x1 x5 (W .i64 (x6+1))))
def fT.l9(N:Nat)(bV:fT.bY):Nat→fT.oM
 |0,_,_,_,_,_,_=>none
 |n+1,x0,x1,x5,x6,x7,x8=>fT.zg N bV (fT.l9 N bV n) x0 x1 x5 x6 x7 x8
def fT.fi(N:Nat)(Cd:fT.oM)(bV:fT.bY)(x0:br)(x1:List (Int))(x5:br)(x6:Int):Option br:=
 cond (aS x6 (List.length x0:Int)) (Cd x0 x1 x5 x6 false (0:Int)) (some x5)
def fT.l5(N:Nat):Nat→fT.bY
 |0,_,_,_,_=>none
 |n+1,x0,x1,x5,x6=>fT.fi N (fT.l9 N (fT.l5 N n) N) (fT.l5 N n) x0 x1 x5 x6
def fT.b(N:Nat)(gh:fT.bY)(a0:br)(a1:List (Int)):Option br:=
 (mU N a0).bind λr1=>cond (!r1) (some ([])) (gh a0 a1 ([]) (0:Int))
def fT(N:Nat)(a0:br)(a1:List (Int)):Option br:=fT.b N (fT.l5 N N) a0 a1
def KL(N:Nat)(a0:ag)(a1:aq)(a2:Int):Option (aq×(Int)):=
 (cE N a0 a1).bind λr1=>cond (!r1) (some ((cw,(dh,(bK,(bK,(dV,(eh,())))))),(1:Int))) ((Ax N a1.1 a2).bind λr2=>cond (aM r2 0) (some ((cw,(dh,(bK,(bK,(dV,(eh,())))))),(3:Int))) ((rN N a1.2.1 a2).bind λr3=>(fT N a1.2.2.2.2.2.1 r3).bind λr4=>some ((a1.1,(a1.2.1,(a1.2.2.1,(a1.2.2.2.1,(a1.2.2.2.2.1,(r4,a1.2.2.2.2.2.2)))))),(0:Int))))
def Wy(N:Nat)(a0:cy):Option (Bool):=
 cond (c0 1 a0.1) (cond (c0 a0.1 1099511627776) (cond (c0 1 a0.2.1) (cond (c0 a0.2.1 1099511627776) (cond (c0 1 a0.2.2.1) (cond (c0 a0.2.2.1 12) (cond (c0 (-1152921504606846976) a0.2.2.2.1) (some (c0 a0.2.2.2.1 1152921504606846976)) (some false)) (some false)) (some false)) (some false)) (some false)) (some false)) (some false)
abbrev eP.oM:=aO→Int→Int→Option (Bool)
abbrev eP.Q9:=aO→Int→Option (Bool)
abbrev eP.bI:=aO→Int→Option (Bool)
def eP.zg(N:Nat)(ct:eP.bI)(uD:eP.oM)(x0:aO)(x3:Int)(x4:Int):Option (Bool):=
 cond (aS x4 x3) (cond (aZ x4 (List.length x0)) (cond (aZ x3 (List.length x0)) (cond (aM ((((List.getD x0 x4.toNat a7).2).2).1) ((((List.getD x0 x3.toNat a7).2).2).1)) (cond (aZ x4 (List.length x0)) (cond (aZ x3 (List.length x0)) (cond (aM (((List.getD x0 x4.toNat a7).2).1) (((List.getD x0 x3.toNat a7).2).1)) (some false) (uD x0 x3 (W .i64 (x4+1)))) (none)) (none)) (uD x0 x3 (W .i64 (x4+1)))) (none)) (none)) (ct x0 (W .i64 (x3+1)))
def eP.l9(N:Nat)(ct:eP.bI):Nat→eP.oM
 |0,_,_,_=>none
 |n+1,x0,x3,x4=>eP.zg N ct (eP.l9 N ct n) x0 x3 x4
def eP.PI(N:Nat)(Cd:eP.oM)(ct:eP.bI)(x0:aO)(x3:Int):Option (Bool):=
 Cd x0 x3 (0:Int)
def eP.j8(N:Nat)(ct:eP.bI)(x0:aO)(x3:Int):Option (Bool):=eP.PI N (eP.l9 N ct N) ct x0 x3
def eP.dH(N:Nat)(GQ:eP.Q9)(ct:eP.bI)(x0:aO)(x3:Int):Option (Bool):=
 cond (aS x3 (List.length x0:Int)) (cond (aZ x3 (List.length x0)) ((Wy N (List.getD x0 x3.toNat a7)).bind λr2=>cond (!r2) (some false) (cond (aS 0 x3) (cond (aZ x3 (List.length x0)) (let v3:Int:=W .i64 (x3-1);cond (aZ v3 (List.length x0)) (cond (c0 ((List.getD x0 x3.toNat a7).1) ((List.getD x0 v3.toNat a7).1)) (some false) (GQ x0 x3)) (none)) (none)) (GQ x0 x3))) (none)) (some true)
def eP.l4(N:Nat):Nat→eP.bI
 |0,_,_=>none
 |n+1,x0,x3=>eP.dH N (eP.j8 N (eP.l4 N n)) (eP.l4 N n) x0 x3
def eP.b(N:Nat)(e7:eP.bI)(a0:aO):Option (Bool):=
 cond (aS 40 (List.length a0:Int)) (some false) (e7 a0 (0:Int))
def eP(N:Nat)(a0:aO):Option (Bool):=eP.b N (eP.l4 N N) a0
abbrev px.bY:=aO→Int→aO→Int→Option aO
def px.fi(N:Nat)(bV:px.bY)(x0:aO)(x1:Int)(x5:aO)(x6:Int):Option aO:=
 cond (aS x6 (List.length x0:Int)) (cond (aZ x6 (List.length x0)) (cond (!aM ((((List.getD x0 x6.toNat a7).2).2).1) x1) (cond (aZ x6 (List.length x0)) (cond (small (List.length x5+List.length ([List.getD x0 x6.toNat a7]))) (bV x0 x1 (x5++([List.getD x0 x6.toNat a7])) (W .i64 (x6+1))) (none)) (none)) (bV x0 x1 x5 (W .i64 (x6+1)))) (none)) (some x5)
def px.l5(N:Nat):Nat→px.bY
 |0,_,_,_,_=>none
 |n+1,x0,x1,x5,x6=>px.fi N (px.l5 N n) x0 x1 x5 x6
def px.b(N:Nat)(gh:px.bY)(a0:aO)(a1:Int):Option aO:=
 (eP N a0).bind λr1=>cond (!r1) (some ([])) (gh a0 a1 ([]) (0:Int))
def px(N:Nat)(a0:aO)(a1:Int):Option aO:=px.b N (px.l5 N N) a0 a1
def aaW(N:Nat)(a0:aU)(a1:Int):Option (Bool):=
 cond (aM a1 14) (cond (aM a0.2.2.2.1.2.1 1) (some (aS a0.1 a0.2.2.2.1.2.2.1)) (some false)) (cond (aM a1 15) (cond (aM a0.2.2.2.1.2.1 1) (some (c0 a0.2.2.2.1.2.2.1 a0.1)) (some false)) (cond (aM a1 19) (cond (aM a0.2.2.2.1.2.1 3) (some (aS a0.1 a0.2.2.2.1.2.2.1)) (some false)) (cond (aM a1 20) (cond (aM a0.2.2.2.1.2.1 3) (some (c0 a0.2.2.2.1.2.2.1 a0.1)) (some false)) (some (aM a0.2.2.2.1.2.1 2)))))
def KO(N:Nat)(a0:aq)(a1:Int):Option (Int):=
 (Ax N a0.1 a1).bind λr1=>some r1
abbrev pU.bY:=aG→Bool→ag→aF→aF→Int→Option (aF×(Int))
def pU.fi(N:Nat)(bV:pU.bY)(x1:aG)(x2:Bool)(x3:ag)(x6:aF)(x8:aF)(x9:Int):Option (aF×(Int)):=
 cond (aS x9 (List.length x1:Int)) (cond (aZ x9 (List.length x1)) (cond (aZ ((List.getD x1 x9.toNat df).1) (List.length x3.1)) (cond (x2) (cond (aZ x9 (List.length x1)) (cond (aZ ((List.getD x1 x9.toNat df).1) (List.length x3.1)) (cond (aZ x9 (List.length x1)) ((kt N (((List.getD x1 x9.toNat df).2).1)).bind λr3=>(Wm N r3).bind λr4=>(kt N (((((List.getD x3.1 ((List.getD x1 x9.toNat df).1).toNat a7).2).2).2).1)).bind λr5=>(jY N r4 r5).bind λr6=>(Am N x8 r6).bind λr7=>bV x1 x2 x3 x6 r7 (W .i64 (x9+1))) (none)) (none)) (none)) (cond (aZ x9 (List.length x1)) ((kt N (((List.getD x1 x9.toNat df).2).1)).bind λr9=>(Wm N r9).bind λm7=>(kt N ((((List.getD x3.1 ((List.getD x1 x9.toNat df).1).toNat a7).2).2).1)).bind λpG=>(jY N m7 pG).bind λpZ=>(Am N x8 pZ).bind λsv=>bV x1 x2 x3 x6 sv (W .i64 (x9+1))) (none))) (none)) (none)) (some (x8,(0:Int)))
def pU.l5(N:Nat):Nat→pU.bY
 |0,_,_,_,_,_,_=>none
 |n+1,x1,x2,x3,x6,x8,x9=>pU.fi N (pU.l5 N n) x1 x2 x3 x6 x8 x9
def pU.b(N:Nat)(gh:pU.bY)(a0:ag)(a1:aG)(a2:Bool):Option (aF×(Int)):=
 (nL N a0 a1).bind λr1=>cond (!r1) (some ((false,pH),(1:Int))) (gh a1 a2 a0 (false,pH) (false,pH) (0:Int))
def pU(N:Nat)(a0:ag)(a1:aG)(a2:Bool):Option (aF×(Int)):=pU.b N (pU.l5 N N) a0 a1 a2
def ah7(N:Nat)(a0:ag)(a1:aG):Option (aF×(Int)):=
 (pU N a0 a1 false).bind λr1=>some (r1.1,r1.2)
def QN(N:Nat)(a0:aq)(a1:Int):Option (Int):=
 (vY N a0.2.2.1 (5:Int) a1).bind λr1=>some r1
def aaJ(N:Nat)(a0:ag)(a1:aq)(a2:Int)(a3:Int)(a4:Int):Option (Int):=
 (cE N a0 a1).bind λr1=>cond (!r1) (some (1:Int)) ((DD N a1.2.1 a4).bind λr2=>cond (!r2.2) (some (3:Int)) ((KO N a1 a2).bind λr3=>cond (aM r3 0) (some (3:Int)) ((KO N a1 a3).bind λr4=>cond (aM r4 0) (some (3:Int)) (cond (!aM r2.1.2.1 a2) (some (8:Int)) (cond (!aM r2.1.2.2.1 2) (some (8:Int)) ((KO N a1 a3).bind λr5=>cond (!aM r5 1) (some (7:Int)) ((yk N a1.2.2.2.1 a4).bind λr6=>(ah7 N a0 r6).bind λr7=>(QN N a1 a4).bind λr8=>(kt N r8).bind λr9=>(PH N r9 r7.1).bind λm7=>cond (aS m7 0) (some (10:Int)) (some (0:Int)))))))))
abbrev nZ.gz:=Int→Int→aO→Int→Option (aO×(Int))
def nZ.mX(N:Nat)(jc:nZ.gz)(x2:Int)(x3:Int)(cf:aO)(ca:Int):Option (aO×(Int)):=
 cond (aS ca (List.length cf:Int)) (cond (aZ ca (List.length cf)) (cond (aM ((List.getD cf ca.toNat a7).1) x2) (cond (aZ ca (List.length cf)) (jc x2 x3 (List.set cf ca.toNat ((List.getD cf ca.toNat a7).1,(x3,((List.getD cf ca.toNat a7).2).2))) (W .i64 (ca+1))) (none)) (jc x2 x3 cf (W .i64 (ca+1)))) (none)) (some (cf,(0:Int)))
def nZ.oF(N:Nat):Nat→nZ.gz
 |0,_,_,_,_=>none
 |n+1,x2,x3,cf,ca=>nZ.mX N (nZ.oF N n) x2 x3 cf ca
def nZ.b(N:Nat)(uC:nZ.gz)(a0:aG)(a1:aO)(a2:Int)(a3:Int):Option (aO×(Int)):=
 (oD N a0 a1).bind λr1=>cond (!r1) (some ([],(1:Int))) ((og N a1 a2).bind λr2=>(mV N a0 a3).bind λr3=>cond (!r2.2) (some ([],(3:Int))) (cond (aM r3 0) (some ([],(3:Int))) (cond (!aM r2.1.2.2.1 2) (some ([],(8:Int))) (cond (!aM r3 1) (some ([],(7:Int))) (cond (small (List.length dh+List.length a1)) (uC a2 a3 (dh++a1) (0:Int)) (none))))))
def nZ(N:Nat)(a0:aG)(a1:aO)(a2:Int)(a3:Int):Option (aO×(Int)):=nZ.b N (nZ.oF N N) a0 a1 a2 a3
def Ud(N:Nat)(a0:ag)(a1:aq)(a2:Int)(a3:Int)(a4:Int):Option (aq×(Int)):=
 (aaJ N a0 a1 a2 a3 a4).bind λr1=>cond (!aM r1 0) (some ((cw,(dh,(bK,(bK,(dV,(eh,())))))),r1)) ((nZ N a1.1 a1.2.1 a4 a3).bind λr2=>cond (!aM r2.2 0) (some ((cw,(dh,(bK,(bK,(dV,(eh,())))))),r2.2)) (some ((a1.1,(r2.1,a1.2.2)),(0:Int))))
def Xu(N:Nat)(a0:ag)(a1:aG):Option (aF×(Int)):=
 (pU N a0 a1 true).bind λr1=>some (r1.1,r1.2)
def aaT(N:Nat)(a0:ag)(a1:aq)(a2:Int):Option ((Int)×(Int)):=
 (cE N a0 a1).bind λr1=>cond (!r1) (some ((0:Int),(1:Int))) ((DD N a1.2.1 a2).bind λr2=>cond (!r2.2) (some ((0:Int),(3:Int))) ((yk N a1.2.2.2.1 a2).bind λr3=>(Xu N a0 r3).bind λr4=>(QN N a1 a2).bind λr5=>cond (c0 r5 0) (some ((0:Int),(0:Int))) ((wX N r4.1).bind λr6=>cond (r6.2) (cond (aS r6.1 r5) (some (r6.1,(0:Int))) (some (r5,(0:Int)))) (some (r5,(0:Int))))))
abbrev mY.bY:=au→Int→Int→au→Int→Option au
def mY.fi(N:Nat)(bV:mY.bY)(x0:au)(x1:Int)(x2:Int)(x7:au)(x8:Int):Option au:=
 cond (aS x8 (List.length x0:Int)) (cond (aZ x8 (List.length x0)) (cond (aM ((List.getD x0 x8.toNat bf).1) x1) (cond (aZ x8 (List.length x0)) (cond (aZ x8 (List.length x0)) (let v3:Int:=W .i64 (0-((((List.getD x0 x8.toNat bf).2).2).1));cond (aZ x8 (List.length x0)) (cond (aZ x8 (List.length x0)) (cond (small (List.length x7+List.length ([(x1,(((List.getD x0 x8.toNat bf).2).1,(v3,()))),(x2,(((List.getD x0 x8.toNat bf).2).1,((((List.getD x0 x8.toNat bf).2).2).1,())))]))) (bV x0 x1 x2 (x7++([(x1,(((List.getD x0 x8.toNat bf).2).1,(v3,()))),(x2,(((List.getD x0 x8.toNat bf).2).1,((((List.getD x0 x8.toNat bf).2).2).1,())))])) (W .i64 (x8+1))) (none)) (none)) (none)) (none)) (none)) (bV x0 x1 x2 x7 (W .i64 (x8+1)))) (none)) (some x7)
def mY.l5(N:Nat):Nat→mY.bY
 |0,_,_,_,_,_=>none
 |n+1,x0,x1,x2,x7,x8=>mY.fi N (mY.l5 N n) x0 x1 x2 x7 x8
def mY.b(N:Nat)(gh:mY.bY)(a0:au)(a1:Int)(a2:Int):Option au:=
 (zh N a0).bind λr1=>cond (!r1) (some ([])) (cond (aM a1 a2) (some ([])) (cond (aS a1 0) (some ([])) (cond (aS 24 a1) (some ([])) (cond (aS a2 0) (some ([])) (cond (aS 24 a2) (some ([])) (gh a0 a1 a2 ([]) (0:Int)))))))
def mY(N:Nat)(a0:au)(a1:Int)(a2:Int):Option au:=mY.b N (mY.l5 N N) a0 a1 a2
abbrev gF.G0:=Int→ag→aq→aq→au→bE→Int→cy→Option (aq×(Int))
abbrev gF.jq:=Int→ag→aq→aq→au→bE→Int→Option (aq×(Int))
def gF.vW(N:Nat)(fU:gF.jq)(x2:Int)(x3:ag)(x4:aq)(x6:aq)(x8:au)(x9:bE)(bg:Int)(aV:cy):Option (aq×(Int)):=
 (QN N x4 aV.1).bind λm7=>cond (aS m7 0) ((kt N m7).bind λpG=>(U3 N pG).bind λpZ=>(BX N (2:Int) (0:Int) (5:Int) aV.1 pZ).bind λsv=>cond (small (List.length x9+List.length sv)) ((mY N x4.2.2.2.1 aV.1 (0:Int)).bind λtu=>cond (small (List.length x8+List.length tu)) (fU x2 x3 x4 x6 (x8++tu) (x9++sv) (W .i64 (bg+1))) (none)) (none)) ((mY N x4.2.2.2.1 aV.1 (0:Int)).bind λBi=>cond (small (List.length x8+List.length Bi)) (fU x2 x3 x4 x6 (x8++Bi) x9 (W .i64 (bg+1))) (none))
def gF.BT(N:Nat)(fU:gF.jq)(x2:Int)(x3:ag)(x4:aq)(x6:aq)(x8:au)(x9:bE)(bg:Int)(aV:cy):Option (aq×(Int)):=gF.vW N fU x2 x3 x4 x6 x8 x9 bg aV
def gF.CQ(N:Nat)(vN:gF.G0)(fU:gF.jq)(x2:Int)(x3:ag)(x4:aq)(x6:aq)(x8:au)(x9:bE)(bg:Int):Option (aq×(Int)):=
 cond (aS bg (List.length x4.2.1:Int)) (cond (aZ bg (List.length x4.2.1)) (cond (!aM (((List.getD x4.2.1 bg.toNat a7).2).1) x2) (fU x2 x3 x4 x6 x8 x9 (W .i64 (bg+1))) (cond (aM ((((List.getD x4.2.1 bg.toNat a7).2).2).1) (2:Int)) ((aaT N x3 x4 ((List.getD x4.2.1 bg.toNat a7).1)).bind λr5=>(kt N r5.1).bind λr6=>(BX N (5:Int) ((List.getD x4.2.1 bg.toNat a7).1) (2:Int) (0:Int) r6).bind λr7=>cond (small (List.length x9+List.length r7)) (vN x2 x3 x4 x6 x8 (x9++r7) bg (List.getD x4.2.1 bg.toNat a7)) (none)) (vN x2 x3 x4 x6 x8 x9 bg (List.getD x4.2.1 bg.toNat a7)))) (none)) ((A0 N x4 x8 x9).bind λPK=>some (PK.1,PK.2))
def gF.l8(N:Nat):Nat→gF.jq
 |0,_,_,_,_,_,_,_=>none
 |n+1,x2,x3,x4,x6,x8,x9,bg=>gF.CQ N (gF.BT N (gF.l8 N n)) (gF.l8 N n) x2 x3 x4 x6 x8 x9 bg
def gF.b(N:Nat)(GZ:gF.jq)(a0:ag)(a1:aq)(a2:Int):Option (aq×(Int)):=
 (cE N a0 a1).bind λr1=>cond (!r1) (some ((cw,(dh,(bK,(bK,(dV,(eh,())))))),(1:Int))) ((KO N a1 a2).bind λr2=>cond (aM r2 0) (some ((cw,(dh,(bK,(bK,(dV,(eh,())))))),(3:Int))) (GZ a2 a0 a1 (cw,(dh,(bK,(bK,(dV,(eh,())))))) ([]) ([]) (0:Int)))
def gF(N:Nat)(a0:ag)(a1:aq)(a2:Int):Option (aq×(Int)):=gF.b N (gF.l8 N N) a0 a1 a2
abbrev AN.bI:=au→Int→Int→Int→Option (Int)
def AN.dH(N:Nat)(ct:AN.bI)(x0:au)(x1:Int)(x2:Int)(x7:Int):Option (Int):=
 cond (aS x7 (List.length x0:Int)) (cond (aZ x7 (List.length x0)) (cond (aM ((List.getD x0 x7.toNat bf).1) x1) (cond (aZ x7 (List.length x0)) (cond (aM (((List.getD x0 x7.toNat bf).2).1) x2) (cond (aZ x7 (List.length x0)) (some ((((List.getD x0 x7.toNat bf).2).2).1)) (none)) (ct x0 x1 x2 (W .i64 (x7+1)))) (none)) (ct x0 x1 x2 (W .i64 (x7+1)))) (none)) (some (0:Int))
def AN.l4(N:Nat):Nat→AN.bI
 |0,_,_,_,_=>none
 |n+1,x0,x1,x2,x7=>AN.dH N (AN.l4 N n) x0 x1 x2 x7
def AN.b(N:Nat)(e7:AN.bI)(a0:au)(a1:Int)(a2:Int):Option (Int):=
 (zh N a0).bind λr1=>cond (!r1) (some (0:Int)) (e7 a0 a1 a2 (0:Int))
def AN(N:Nat)(a0:au)(a1:Int)(a2:Int):Option (Int):=AN.b N (AN.l4 N N) a0 a1 a2
abbrev rL.bY:=ag→aq→pt→Int→Option (pt×(Int))
def rL.fi(N:Nat)(bV:rL.bY)(x2:ag)(x3:aq)(x6:pt)(x7:Int):Option (pt×(Int)):=
 cond (aS x7 (List.length x2.1:Int)) (cond (aZ x7 (List.length x2.1)) (cond (aZ ((List.getD x2.1 x7.toNat a7).1) (List.length x6)) ((AN N x3.2.2.2.1 (0:Int) x7).bind λr4=>(kt N r4).bind λr5=>cond (aZ x7 (List.length x3.2.2.2.2.1)) ((kt N (List.getD x3.2.2.2.2.1 x7.toNat (0:Int))).bind λr6=>(jY N r5 r6).bind λr7=>(Am N (List.getD x6 ((List.getD x2.1 x7.toNat a7).1).toNat (false,pH)) r7).bind λr8=>cond (aZ ((List.getD x2.1 x7.toNat a7).1) (List.length x6)) (bV x2 x3 (List.set x6 ((List.getD x2.1 x7.toNat a7).1).toNat r8) (W .i64 (x7+1))) (none)) (none)) (none)) (none)) (some (x6,(0:Int)))
def rL.l5(N:Nat):Nat→rL.bY
 |0,_,_,_,_=>none
 |n+1,x2,x3,x6,x7=>rL.fi N (rL.l5 N n) x2 x3 x6 x7
def rL.b(N:Nat)(gh:rL.bY)(a0:ag)(a1:aq):Option (pt×(Int)):=
 (cE N a0 a1).bind λr1=>cond (!r1) (some ([],(1:Int))) (cond (gI 4 4) (gh a0 a1 (List.replicate (4:Int).toNat (false,pH)) (0:Int)) (none))
def rL(N:Nat)(a0:ag)(a1:aq):Option (pt×(Int)):=rL.b N (rL.l5 N N) a0 a1
abbrev CU.bY:=Int→ag→(List (Int))→Int→Option (List (Int))
def CU.fi(N:Nat)(bV:CU.bY)(x1:Int)(x2:ag)(x5:List (Int))(x6:Int):Option (List (Int)):=
 cond (aS x6 (List.length x2.1:Int)) (cond (aZ x6 (List.length x2.1)) (cond (aM ((List.getD x2.1 x6.toNat a7).1) x1) (cond (small (List.length x5+List.length ([x6]))) (bV x1 x2 (x5++([x6])) (W .i64 (x6+1))) (none)) (bV x1 x2 x5 (W .i64 (x6+1)))) (none)) (some x5)
def CU.l5(N:Nat):Nat→CU.bY
 |0,_,_,_,_=>none
 |n+1,x1,x2,x5,x6=>CU.fi N (CU.l5 N n) x1 x2 x5 x6
def CU.b(N:Nat)(gh:CU.bY)(a0:ag)(a1:Int):Option (List (Int)):=
 (my N a0).bind λr1=>cond (!r1) (some ([])) (gh a1 a0 ([]) (0:Int))
def CU(N:Nat)(a0:ag)(a1:Int):Option (List (Int)):=CU.b N (CU.l5 N N) a0 a1
abbrev pO.bI:=(List (Int))→(List (Int))→Int→Int→Option ((List (Int))×(Int))
def pO.dH(N:Nat)(ct:pO.bI)(x0:List (Int))(x4:List (Int))(x5:Int)(x6:Int):Option ((List (Int))×(Int)):=
 cond (c0 0 x6) (cond (aS 32 0) (none) (cond (aZ x6 (List.length x0)) (let v5:Int:=mR .or .u64 (W .u64 (shl .u64 x5 32)) (List.getD x0 x6.toNat (0:Int));cond (aS 1 0) (none) (cond (aZ x6 (List.length x4)) (ct x0 (List.set x4 x6.toNat (shr .u64 v5 1)) (mR .and .u64 v5 1) (W .i64 (x6-1))) (none))) (none))) ((oz N x4).bind λm7=>some (m7,x5))
def pO.l4(N:Nat):Nat→pO.bI
 |0,_,_,_,_=>none
 |n+1,x0,x4,x5,x6=>pO.dH N (pO.l4 N n) x0 x4 x5 x6
def pO.b(N:Nat)(e7:pO.bI)(a0:List (Int)):Option ((List (Int))×(Int)):=
 cond (gI (List.length a0:Int) (List.length a0:Int)) (e7 a0 (List.replicate (List.length a0:Int).toNat (0:Int)) (0:Int) (W .i64 ((List.length a0:Int)-1))) (none)
def pO(N:Nat)(a0:List (Int)):Option ((List (Int))×(Int)):=pO.b N (pO.l4 N N) a0
abbrev iA.oM:=aF→aF→aF→aF→(List (Int))→aF→aF→Int→Option (aF×aF)
abbrev iA.dv:=aF→aF→aF→aF→(List (Int))→(List (Int))→Option (aF×aF)
def iA.zg(N:Nat)(uD:iA.oM)(x2:aF)(x3:aF)(x4:aF)(x5:aF)(x6:List (Int))(bg:aF)(aV:aF)(bc:Int):Option (aF×aF):=
 cond (c0 0 bc) ((Am N bg bg).bind λr6=>(Am N aV aV).bind λr7=>cond (aZ bc (List.length x6)) (cond (aM (List.getD x6 bc.toNat (0:Int)) (1:Int)) ((kt N (1:Int)).bind λr8=>(Am N r7 r8).bind λr9=>(PH N r9 x3).bind λm7=>cond (c0 0 m7) ((R2 N r9 x3).bind λpG=>(kt N (1:Int)).bind λpZ=>(Am N r6 pZ).bind λsv=>uD x2 x3 x4 x5 x6 sv pG (W .i64 (bc-1))) (uD x2 x3 x4 x5 x6 r6 r9 (W .i64 (bc-1)))) ((PH N r7 x3).bind λCc=>cond (c0 0 Cc) ((R2 N r7 x3).bind λBh=>(kt N (1:Int)).bind λBi=>(Am N r6 Bi).bind λOn=>uD x2 x3 x4 x5 x6 On Bh (W .i64 (bc-1))) (uD x2 x3 x4 x5 x6 r6 r7 (W .i64 (bc-1))))) (none)) (cond (!x2.1) (some (bg,aV)) ((R3 N aV).bind λPM=>cond (aM PM 0) ((U3 N bg).bind λGN=>some (GN,aV)) ((U3 N bg).bind λLq=>(kt N (1:Int)).bind λLr=>(R2 N Lq Lr).bind λDa=>(R2 N x3 aV).bind λUO=>some (Da,UO))))
def iA.l9(N:Nat):Nat→iA.oM
 |0,_,_,_,_,_,_,_,_=>none
 |n+1,x2,x3,x4,x5,x6,bg,aV,bc=>iA.zg N (iA.l9 N n) x2 x3 x4 x5 x6 bg aV bc
def iA.lB(N:Nat)(Cd:iA.oM)(c7:iA.dv)(x2:aF)(x3:aF)(x4:aF)(x5:aF)(x6:List (Int))(x7:List (Int)):Option (aF×aF):=
 cond (aS 0 (List.length x7:Int)) ((pO N x7).bind λr2=>cond (small (List.length x6+List.length ([r2.2]))) (c7 x2 x3 x4 x5 (x6++([r2.2])) r2.1) (none)) (Cd x2 x3 x4 x5 x6 (false,pH) (false,pH) (W .i64 ((List.length x6:Int)-1)))
def iA.l3(N:Nat):Nat→iA.dv
 |0,_,_,_,_,_,_=>none
 |n+1,x2,x3,x4,x5,x6,x7=>iA.lB N (iA.l9 N N) (iA.l3 N n) x2 x3 x4 x5 x6 x7
def iA.b(N:Nat)(mF:iA.dv)(a0:aF)(a1:aF):Option (aF×aF):=
 mF a0 a1 (false,pH) (false,pH) ([]) a0.2.1
def iA(N:Nat)(a0:aF)(a1:aF):Option (aF×aF):=iA.b N (iA.l3 N N) a0 a1
abbrev vq.G0:=Int→ag→aq→pt→aO→Int→(List (Int))→Int→Option (aO×(Int))
abbrev vq.iV:=Int→ag→aq→pt→aO→Int→Option (aO×(Int))
def vq.vW(N:Nat)(jG:vq.iV)(x2:Int)(x3:ag)(x4:aq)(x8:pt)(bg:aO)(aV:Int)(bc:List (Int))(ei:Int):Option (aO×(Int)):=
 cond (aM ei 0) (jG x2 x3 x4 x8 bg (W .i64 (aV+1))) (cond (aZ 0 (List.length bc)) (cond (aZ aV (List.length x8)) ((R3 N (List.getD x8 aV.toNat (false,pH))).bind λoh=>cond (aS 0 oh) (cond (small (List.length bg+List.length ([(x2,(List.getD bc (0:Int).toNat (0:Int),((2:Int),(ei,()))))]))) (jG (W .i64 (x2+1)) x3 x4 x8 (bg++([(x2,(List.getD bc (0:Int).toNat (0:Int),((2:Int),(ei,()))))])) (W .i64 (aV+1))) (none)) (cond (small (List.length bg+List.length ([(x2,(List.getD bc (0:Int).toNat (0:Int),((1:Int),(ei,()))))]))) (jG (W .i64 (x2+1)) x3 x4 x8 (bg++([(x2,(List.getD bc (0:Int).toNat (0:Int),((1:Int),(ei,()))))])) (W .i64 (aV+1))) (none))) (none)) (none))
def vq.BT(N:Nat)(jG:vq.iV)(x2:Int)(x3:ag)(x4:aq)(x8:pt)(bg:aO)(aV:Int)(bc:List (Int))(ei:Int):Option (aO×(Int)):=vq.vW N jG x2 x3 x4 x8 bg aV bc ei
def vq.tb(N:Nat)(vN:vq.G0)(jG:vq.iV)(x2:Int)(x3:ag)(x4:aq)(x8:pt)(bg:aO)(aV:Int):Option (aO×(Int)):=
 cond (aS aV 4) ((CU N x3 aV).bind λr3=>cond (aZ aV (List.length x8)) ((Wm N (List.getD x8 aV.toNat (false,pH))).bind λr4=>cond (aM (List.length r3:Int) 0) (jG x2 x3 x4 x8 bg (W .i64 (aV+1))) ((kt N x3.2.2.2.2.2.2.1).bind λr6=>(PH N r4 r6).bind λr7=>cond (c0 r7 0) (jG x2 x3 x4 x8 bg (W .i64 (aV+1))) (cond (aZ 0 (List.length r3)) (cond (aZ (List.getD r3 (0:Int).toNat (0:Int)) (List.length x4.2.2.2.2.1)) ((kt N (List.getD x4.2.2.2.2.1 (List.getD r3 (0:Int).toNat (0:Int)).toNat (0:Int))).bind λr9=>(iA N r4 r9).bind λm7=>(wX N m7.1).bind λpG=>cond (!pG.2) (vN x2 x3 x4 x8 bg aV r3 (1000000000:Int)) (cond (aS 1000000000 pG.1) (vN x2 x3 x4 x8 bg aV r3 (1000000000:Int)) (vN x2 x3 x4 x8 bg aV r3 pG.1))) (none)) (none)))) (none)) (some (bg,(0:Int)))
def vq.l6(N:Nat):Nat→vq.iV
 |0,_,_,_,_,_,_=>none
 |n+1,x2,x3,x4,x8,bg,aV=>vq.tb N (vq.BT N (vq.l6 N n)) (vq.l6 N n) x2 x3 x4 x8 bg aV
def vq.b(N:Nat)(vy:vq.iV)(a0:ag)(a1:aq)(a2:Int):Option (aO×(Int)):=
 (rL N a0 a1).bind λr1=>cond (!aM r1.2 0) (some ([],(1:Int))) (cond (aS a2 1) (some ([],(1:Int))) (cond (aS 1099511627772 a2) (some ([],(1:Int))) (vy a2 a0 a1 r1.1 ([]) (0:Int))))
def vq(N:Nat)(a0:ag)(a1:aq)(a2:Int):Option (aO×(Int)):=vq.b N (vq.l6 N N) a0 a1 a2
def aat(N:Nat)(a0:cy):Option (Bool):=
 cond (c0 1 a0.1) (cond (c0 a0.1 1099511627776) (cond (c0 0 a0.2.1) (cond (aS a0.2.1 6) (cond (aM a0.2.2.1 1) (cond (c0 1 a0.2.2.2.1) (some (c0 a0.2.2.2.1 1000000000)) (some false)) (cond (aM a0.2.2.1 2) (cond (c0 1 a0.2.2.2.1) (some (c0 a0.2.2.2.1 1000000000)) (some false)) (some false))) (some false)) (some false)) (some false)) (some false)
abbrev pT.anP:=Int→ag→aq→cy→aq→cy→tg→Option (aq×cy×(Int))
def pT.aaA(N:Nat)(x4:Int)(x6:ag)(x7:aq)(x8:cy)(bc:aq)(cf:cy)(eO:tg):Option (aq×cy×(Int)):=
 (gE N x6 x7 ([eO])).bind λr6=>cond (!aM r6.2 0) (some ((cw,(dh,(bK,(bK,(dV,(eh,())))))),a7,r6.2)) (some (r6.1,(x8.1,(x8.2.1,(x8.2.2.1,((W .i64 (x8.2.2.2.1-x4)),x8.2.2.2.2)))),(0:Int)))
def pT.j14(N:Nat)(x4:Int)(x6:ag)(x7:aq)(x8:cy)(bc:aq)(cf:cy)(eO:tg):Option (aq×cy×(Int)):=pT.aaA N x4 x6 x7 x8 bc cf eO
def pT.b(N:Nat)(agd:pT.anP)(a0:ag)(a1:aq)(a2:cy)(a3:Int)(a4:Int)(a5:Int):Option (aq×cy×(Int)):=
 (cE N a0 a1).bind λr1=>cond (!r1) (some ((cw,(dh,(bK,(bK,(dV,(eh,())))))),a7,(1:Int))) ((aat N a2).bind λr2=>cond (!r2) (some ((cw,(dh,(bK,(bK,(dV,(eh,())))))),a7,(1:Int))) (cond (aS a4 1) (some ((cw,(dh,(bK,(bK,(dV,(eh,())))))),a7,(1:Int))) (cond (aS 1000000000 a4) (some ((cw,(dh,(bK,(bK,(dV,(eh,())))))),a7,(1:Int))) (cond (aS a5 1) (some ((cw,(dh,(bK,(bK,(dV,(eh,())))))),a7,(1:Int))) (cond (aS 1000000000000 a5) (some ((cw,(dh,(bK,(bK,(dV,(eh,())))))),a7,(1:Int))) (cond (aS a2.2.2.2.1 a4) (some ((cw,(dh,(bK,(bK,(dV,(eh,())))))),a7,(9:Int))) (cond (aS a3 1) (some ((cw,(dh,(bK,(bK,(dV,(eh,())))))),a7,(1:Int))) (cond (aS 24 a3) (some ((cw,(dh,(bK,(bK,(dV,(eh,())))))),a7,(1:Int))) ((Xb N a0 a1 (a2.1,(a3,(a2.2.1,((W .i64 ((3:Int)-a2.2.2.1)),(a4,(a5,()))))))).bind λr4=>cond (!aM r4 0) (some ((cw,(dh,(bK,(bK,(dV,(eh,())))))),a7,r4)) (cond (aM a2.2.2.1 2) (agd a4 a0 a1 a2 (cw,(dh,(bK,(bK,(dV,(eh,())))))) a7 (a3,((0:Int),(a2.2.1,(a4,(a5,())))))) (agd a4 a0 a1 a2 (cw,(dh,(bK,(bK,(dV,(eh,())))))) a7 ((0:Int),(a3,(a2.2.1,(a4,(a5,()))))))))))))))))
def pT(N:Nat)(a0:ag)(a1:aq)(a2:cy)(a3:Int)(a4:Int)(a5:Int):Option (aq×cy×(Int)):=pT.b N (pT.j14 N) a0 a1 a2 a3 a4 a5
abbrev n7.bY:=ag→aU→ia→aU→dd→aO→Bool→Int→Int→Option (aU×dd)
def n7.fi(N:Nat)(bV:n7.bY)(x3:ag)(x4:aU)(x5:ia)(x6:aU)(x7:dd)(x8:aO)(x9:Bool)(bg:Int)(aV:Int):Option (aU×dd):=
 cond (aS aV (List.length x4.2.2.2.1.2.2.2.2.1:Int)) (cond (aZ aV (List.length x4.2.2.2.1.2.2.2.2.1)) (cond (aM ((List.getD x4.2.2.2.1.2.2.2.2.1 aV.toNat a7).1) x5.2.2.2.2.2.1) ((pT N x3 x4.2.2.1 (List.getD x4.2.2.2.1.2.2.2.2.1 aV.toNat a7) x5.2.2.1 x5.2.2.2.2.2.2.1 x5.2.2.2.2.2.2.2.1).bind λr2=>cond (!aM r2.2.2 0) ((fF N r2.2.2).bind λr3=>some (x4,r3)) (cond (aS 0 r2.2.1.2.2.2.1) (cond (small (List.length x8+List.length ([r2.2.1]))) (bV x3 (x4.1,(x4.2.1,(r2.1,x4.2.2.2))) x5 x6 x7 (x8++([r2.2.1])) true r2.2.1.2.2.2.1 (W .i64 (aV+1))) (none)) (bV x3 (x4.1,(x4.2.1,(r2.1,x4.2.2.2))) x5 x6 x7 x8 true r2.2.1.2.2.2.1 (W .i64 (aV+1))))) (cond (aS 0 (((((List.getD x4.2.2.2.1.2.2.2.2.1 aV.toNat a7).2).2).2).1)) (cond (small (List.length x8+List.length ([List.getD x4.2.2.2.1.2.2.2.2.1 aV.toNat a7]))) (bV x3 x4 x5 x6 x7 (x8++([List.getD x4.2.2.2.1.2.2.2.2.1 aV.toNat a7])) x9 bg (W .i64 (aV+1))) (none)) (bV x3 x4 x5 x6 x7 x8 x9 bg (W .i64 (aV+1))))) (none)) (cond (!x9) ((fF N (3:Int)).bind λm7=>some (x4,m7)) (some ((x4.1,(x4.2.1,(x4.2.2.1,((x4.2.2.2.1.1,(x4.2.2.2.1.2.1,(x4.2.2.2.1.2.2.1,(x4.2.2.2.1.2.2.2.1,(x8,x4.2.2.2.1.2.2.2.2.2))))),x4.2.2.2.2)))),((0:Int),((0:Int),(bg,()))))))
def n7.l5(N:Nat):Nat→n7.bY
 |0,_,_,_,_,_,_,_,_,_=>none
 |n+1,x3,x4,x5,x6,x7,x8,x9,bg,aV=>n7.fi N (n7.l5 N n) x3 x4 x5 x6 x7 x8 x9 bg aV
def n7.b(N:Nat)(gh:n7.bY)(a0:ag)(a1:aU)(a2:ia):Option (aU×dd):=
 gh a0 a1 a2 ((0:Int),((0:Int),((cw,(dh,(bK,(bK,(dV,(eh,())))))),(((0:Int),((0:Int),((0:Int),((0:Int),(dh,(([]:List ((Int)×((List ((Int)×((Int)×(Unit))))×((Int)×((Int)×((Int)×((Int)×(Unit)))))))),(dh,(dV,(cw,(cw,())))))))))),(((0:Int),((0:Int),(DZ,((0:Int),())))),()))))) bf ([]) false (0:Int) (0:Int)
def n7(N:Nat)(a0:ag)(a1:aU)(a2:ia):Option (aU×dd):=n7.b N (n7.l5 N N) a0 a1 a2
abbrev rO.bI:=Int→aF→Int→Option (Int)
def rO.dH(N:Nat)(ct:rO.bI)(x1:Int)(x2:aF)(x5:Int):Option (Int):=
 cond (aS x5 3) ((kt N x5).bind λr3=>(kt N x1).bind λr4=>(jY N r3 r4).bind λr5=>(PH N r5 x2).bind λr6=>cond (aS r6 0) (ct x1 x2 (W .i64 (x5+1))) (some x5)) (some x5)
def rO.l4(N:Nat):Nat→rO.bI
 |0,_,_,_=>none
 |n+1,x1,x2,x5=>rO.dH N (rO.l4 N n) x1 x2 x5
def rO.b(N:Nat)(e7:rO.bI)(a0:aF)(a1:Int):Option (Int):=
 (R3 N a0).bind λr1=>cond (c0 r1 0) (some (0:Int)) (cond (aS a1 1) (some (0:Int)) (e7 a1 a0 (1:Int)))
def rO(N:Nat)(a0:aF)(a1:Int):Option (Int):=rO.b N (rO.l4 N N) a0 a1
abbrev pR.bI:=(List (Int))→Int→Option (Bool)
def pR.dH(N:Nat)(ct:pR.bI)(x1:List (Int))(x5:Int):Option (Bool):=
 cond (aS x5 (List.length x1:Int)) (cond (aZ x5 (List.length x1)) (cond (aS (List.getD x1 x5.toNat (0:Int)) (0:Int)) (some true) (ct x1 (W .i64 (x5+1)))) (none)) (some false)
def pR.l4(N:Nat):Nat→pR.bI
 |0,_,_=>none
 |n+1,x1,x5=>pR.dH N (pR.l4 N n) x1 x5
def pR.b(N:Nat)(e7:pR.bI)(a0:Int)(a1:List (Int)):Option (Bool):=
 cond (aS a0 0) (some true) (cond (aS 64 (List.length a1:Int)) (some true) (e7 a1 (0:Int)))
def pR(N:Nat)(a0:Int)(a1:List (Int)):Option (Bool):=pR.b N (pR.l4 N N) a0 a1
abbrev pM.dv:=(List (Int))→aF→aF→Int→Option aF
def pM.lB(N:Nat)(c7:pM.dv)(x0:List (Int))(x2:aF)(x3:aF)(x4:Int):Option aF:=
 cond (aS x4 (List.length x0:Int)) (cond (aZ x4 (List.length x0)) ((kt N (List.getD x0 x4.toNat (0:Int))).bind λr2=>(Am N x3 r2).bind λr3=>c7 x0 x2 r3 (W .i64 (x4+1))) (none)) (some x3)
def pM.l3(N:Nat):Nat→pM.dv
 |0,_,_,_,_=>none
 |n+1,x0,x2,x3,x4=>pM.lB N (pM.l3 N n) x0 x2 x3 x4
def pM.b(N:Nat)(mF:pM.dv)(a0:List (Int)):Option aF:=
 mF a0 (false,pH) (false,pH) (0:Int)
def pM(N:Nat)(a0:List (Int)):Option aF:=pM.b N (pM.l3 N N) a0
abbrev fH.Q9:=(List (Int))→(List (Int))→Int→Int→Option (List (Int))
abbrev fH.iV:=(List (Int))→(List (Int))→Int→Int→Option (List (Int))
abbrev fH.dv:=(List (Int))→(List (Int))→Int→Option (List (Int))
def fH.PI(N:Nat)(c7:fH.dv)(x0:List (Int))(x3:List (Int))(x4:Int)(x5:Int):Option (List (Int)):=
 cond (jt 0 x5 (List.length x3:Int) (List.length x3:Int)) (let v5:List (Int):=List.drop (0:Int).toNat (List.take x5.toNat x3);cond (small (List.length v5)) (cond (small (List.length v5+List.length ([x4]))) (let v6:List (Int):=v5++([x4]);cond (jt x5 (List.length x3:Int) (List.length x3:Int) (List.length x3:Int)) (let v7:List (Int):=List.drop x5.toNat (List.take (List.length x3:Int).toNat x3);cond (small (List.length v6+List.length v7)) (c7 x0 (v6++v7) (W .i64 (x4+1))) (none)) (none)) (none)) (none)) (none)
def fH.j8(N:Nat)(c7:fH.dv)(x0:List (Int))(x3:List (Int))(x4:Int)(x5:Int):Option (List (Int)):=fH.PI N c7 x0 x3 x4 x5
def fH.tb(N:Nat)(GQ:fH.Q9)(c7:fH.dv)(jG:fH.iV)(x0:List (Int))(x3:List (Int))(x4:Int)(x5:Int):Option (List (Int)):=
 cond (aS x5 (List.length x3:Int)) (cond (aZ x5 (List.length x3)) (cond (aZ (List.getD x3 x5.toNat (0:Int)) (List.length x0)) (cond (aZ x4 (List.length x0)) (cond (c0 (List.getD x0 x4.toNat (0:Int)) (List.getD x0 (List.getD x3 x5.toNat (0:Int)).toNat (0:Int))) (jG x0 x3 x4 (W .i64 (x5+1))) (GQ x0 x3 x4 x5)) (none)) (none)) (none)) (GQ x0 x3 x4 x5)
def fH.l6(N:Nat)(c7:fH.dv):Nat→fH.iV
 |0,_,_,_,_=>none
 |n+1,x0,x3,x4,x5=>fH.tb N (fH.j8 N c7) c7 (fH.l6 N c7 n) x0 x3 x4 x5
def fH.lB(N:Nat)(vy:fH.iV)(c7:fH.dv)(x0:List (Int))(x3:List (Int))(x4:Int):Option (List (Int)):=
 cond (aS x4 (List.length x0:Int)) (vy x0 x3 x4 (0:Int)) (some x3)
def fH.l3(N:Nat):Nat→fH.dv
 |0,_,_,_=>none
 |n+1,x0,x3,x4=>fH.lB N (fH.l6 N (fH.l3 N n) N) (fH.l3 N n) x0 x3 x4
def fH.b(N:Nat)(mF:fH.dv)(a0:List (Int)):Option (List (Int)):=
 mF a0 ([]) (0:Int)
def fH(N:Nat)(a0:List (Int)):Option (List (Int)):=fH.b N (fH.l3 N N) a0
abbrev fN.rX:=(List (Int))→Int→(List (Int))→Int→Option ((List (Int))×(Int))
abbrev fN.xp:=Int→(List (Int))→aF→(List (Int))→(List (Int))→Int→Int→Option ((List (Int))×(Int))
abbrev fN.Yi:=Int→(List (Int))→aF→Option ((List (Int))×(Int))
def fN.vV(N:Nat)(GM:fN.rX)(x9:List (Int))(aV:Int)(dg:List (Int))(ei:Int):Option ((List (Int))×(Int)):=
 cond (aS ei (List.length dg:Int)) (cond (aS 0 aV) (cond (aZ ei (List.length dg)) (cond (aZ (List.getD dg ei.toNat (0:Int)) (List.length x9)) (cond (aZ (List.getD dg ei.toNat (0:Int)) (List.length x9)) (GM (List.set x9 (List.getD dg ei.toNat (0:Int)).toNat (W .i64 ((List.getD x9 (List.getD dg ei.toNat (0:Int)).toNat (0:Int))+1))) (W .i64 (aV-1)) dg (W .i64 (ei+1))) (none)) (none)) (none)) (some (x9,(0:Int)))) (some (x9,(0:Int)))
def fN.w4(N:Nat):Nat→fN.rX
 |0,_,_,_,_=>none
 |n+1,x9,aV,dg,ei=>fN.vV N (fN.w4 N n) x9 aV dg ei
def fN.F5(N:Nat)(GO:fN.rX)(Dc:fN.xp)(x0:Int)(x1:List (Int))(x6:aF)(x9:List (Int))(bg:List (Int))(aV:Int)(bc:Int):Option ((List (Int))×(Int)):=
 cond (aS bc (List.length x1:Int)) ((kt N x0).bind λm7=>cond (aZ bc (List.length x1)) ((kt N (List.getD x1 bc.toNat (0:Int))).bind λpG=>(jY N m7 pG).bind λpZ=>(iA N pZ x6).bind λsv=>(wX N sv.1).bind λoh=>cond (aZ bc (List.length x9)) (let U5:List (Int):=List.set x9 bc.toNat oh.1;(wX N sv.2).bind λCc=>cond (aZ bc (List.length bg)) (cond (aZ bc (List.length U5)) (Dc x0 x1 x6 U5 (List.set bg bc.toNat Cc.1) (W .i64 (aV-(List.getD U5 bc.toNat (0:Int)))) (W .i64 (bc+1))) (none)) (none)) (none)) (none)) ((fH N bg).bind λOi=>GO x9 aV Oi (0:Int))
def fN.IY(N:Nat):Nat→fN.xp
 |0,_,_,_,_,_,_,_=>none
 |n+1,x0,x1,x6,x9,bg,aV,bc=>fN.F5 N (fN.w4 N N) (fN.IY N n) x0 x1 x6 x9 bg aV bc
def fN.Tw(N:Nat)(Om:fN.xp)(x0:Int)(x1:List (Int))(x6:aF):Option ((List (Int))×(Int)):=
 (wX N x6).bind λr5=>cond (!r5.2) (some ([],(2:Int))) (cond (gI (List.length x1:Int) (List.length x1:Int)) (let v6:List (Int):=List.replicate (List.length x1:Int).toNat (0:Int);cond (gI (List.length x1:Int) (List.length x1:Int)) ((R3 N x6).bind λr8=>cond (aM r8 0) (some (v6,(0:Int))) (Om x0 x1 x6 v6 (List.replicate (List.length x1:Int).toNat (0:Int)) x0 (0:Int))) (none)) (none))
def fN.j6(N:Nat)(x0:Int)(x1:List (Int))(x6:aF):Option ((List (Int))×(Int)):=fN.Tw N (fN.IY N N) x0 x1 x6
def fN.b(N:Nat)(K4:fN.Yi)(a0:Int)(a1:List (Int)):Option ((List (Int))×(Int)):=
 (pR N a0 a1).bind λr1=>cond (r1) (some ([],(1:Int))) ((pM N a1).bind λr2=>(R3 N r2).bind λr3=>cond (aM r3 0) (cond (!aM a0 0) (some ([],(1:Int))) (K4 a0 a1 r2)) (K4 a0 a1 r2))
def fN(N:Nat)(a0:Int)(a1:List (Int)):Option ((List (Int))×(Int)):=fN.b N (fN.j6 N) a0 a1
abbrev rJ.bY:=Int→Int→(List (Int))→Int→Option ((List (Int))×(Int))
def rJ.fi(N:Nat)(bV:rJ.bY)(x0:Int)(x1:Int)(x6:List (Int))(x7:Int):Option ((List (Int))×(Int)):=
 cond (aS x7 x1) (cond (aZ x7 (List.length x6)) (bV x0 x1 (List.set x6 x7.toNat (1:Int)) (W .i64 (x7+1))) (none)) ((fN N x0 x6).bind λr5=>some (r5.1,r5.2))
def rJ.l5(N:Nat):Nat→rJ.bY
 |0,_,_,_,_=>none
 |n+1,x0,x1,x6,x7=>rJ.fi N (rJ.l5 N n) x0 x1 x6 x7
def rJ.b(N:Nat)(gh:rJ.bY)(a0:Int)(a1:Int):Option ((List (Int))×(Int)):=
 cond (aS a0 0) (some ([],(1:Int))) (cond (aS a1 1) (some ([],(1:Int))) (cond (aS 64 a1) (some ([],(1:Int))) (cond (gI a1 a1) (gh a0 a1 (List.replicate a1.toNat (0:Int)) (0:Int)) (none))))
def rJ(N:Nat)(a0:Int)(a1:Int):Option ((List (Int))×(Int)):=rJ.b N (rJ.l5 N N) a0 a1
abbrev eI.anQ:=Int→ag→aG→bz→Int→aG→Int→Int→jb→aG→Int→(List (Int))→Option (bz×(Int))
abbrev eI.Yl:=Int→ag→aG→bz→Int→aG→Int→Int→jb→aG→Int→Int→Option (bz×(Int))
abbrev eI.rY:=Int→ag→aG→bz→Int→aG→Int→Int→jb→aG→Int→Option (bz×(Int))
abbrev eI.uF:=Int→ag→aG→bz→Int→aG→Int→Int→Option (bz×(Int))
abbrev eI.gz:=Int→ag→aG→bz→Int→aG→aF→Int→Option (bz×(Int))
abbrev eI.jq:=Int→ag→aG→bz→Int→Option (bz×(Int))
def eI.ah9(N:Nat)(fU:eI.jq)(mQ:eI.uF)(rZ:eI.rY)(x2:Int)(x3:ag)(x8:aG)(x9:bz)(bg:Int)(aV:aG)(ca:Int)(dg:Int)(ei:jb)(vz:aG)(eO:Int)(pD:List (Int)):Option (bz×(Int)):=
 cond (aZ dg (List.length pD)) (cond (!aM (List.getD pD dg.toNat (0:Int)) (0:Int)) (cond (aZ eO (List.length aV)) (cond (aZ dg (List.length pD)) (cond (small (List.length vz+List.length ([((List.getD aV eO.toNat df).1,(List.getD pD dg.toNat (0:Int),()))]))) (rZ x2 x3 x8 x9 bg aV ca dg (ei.1,(cw,ei.2.2)) (vz++([((List.getD aV eO.toNat df).1,(List.getD pD dg.toNat (0:Int),()))])) (W .i64 (eO+1))) (none)) (none)) (none)) (rZ x2 x3 x8 x9 bg aV ca dg ei vz (W .i64 (eO+1)))) (none)
def eI.j32(N:Nat)(fU:eI.jq)(mQ:eI.uF)(rZ:eI.rY)(x2:Int)(x3:ag)(x8:aG)(x9:bz)(bg:Int)(aV:aG)(ca:Int)(dg:Int)(ei:jb)(vz:aG)(eO:Int)(pD:List (Int)):Option (bz×(Int)):=eI.ah9 N fU mQ rZ x2 x3 x8 x9 bg aV ca dg ei vz eO pD
def eI.NV(N:Nat)(age:eI.anQ)(fU:eI.jq)(mQ:eI.uF)(rZ:eI.rY)(x2:Int)(x3:ag)(x8:aG)(x9:bz)(bg:Int)(aV:aG)(ca:Int)(dg:Int)(ei:jb)(vz:aG)(eO:Int)(kb:Int):Option (bz×(Int)):=
 (rJ N kb ca).bind λCc=>cond (aZ eO (List.length aV)) (cond (aS (((List.getD aV eO.toNat df).2).1) (0:Int)) (cond (aZ dg (List.length Cc.1)) (cond (aZ dg (List.length Cc.1)) (age x2 x3 x8 x9 bg aV ca dg ei vz eO (List.set Cc.1 dg.toNat (W .i64 (0-(List.getD Cc.1 dg.toNat (0:Int)))))) (none)) (none)) (age x2 x3 x8 x9 bg aV ca dg ei vz eO Cc.1)) (none)
def eI.Uh(N:Nat)(fU:eI.jq)(mQ:eI.uF)(rZ:eI.rY)(x2:Int)(x3:ag)(x8:aG)(x9:bz)(bg:Int)(aV:aG)(ca:Int)(dg:Int)(ei:jb)(vz:aG)(eO:Int)(kb:Int):Option (bz×(Int)):=eI.NV N (eI.j32 N fU mQ rZ) fU mQ rZ x2 x3 x8 x9 bg aV ca dg ei vz eO kb
def eI.Dx(N:Nat)(Oo:eI.Yl)(fU:eI.jq)(mQ:eI.uF)(rZ:eI.rY)(x2:Int)(x3:ag)(x8:aG)(x9:bz)(bg:Int)(aV:aG)(ca:Int)(dg:Int)(ei:jb)(vz:aG)(eO:Int):Option (bz×(Int)):=
 cond (aS eO (List.length aV:Int)) (cond (aZ eO (List.length aV)) (cond (aS (((List.getD aV eO.toNat df).2).1) (0:Int)) (Oo x2 x3 x8 x9 bg aV ca dg ei vz eO (W .i64 (0-(((List.getD aV eO.toNat df).2).1)))) (Oo x2 x3 x8 x9 bg aV ca dg ei vz eO (((List.getD aV eO.toNat df).2).1))) (none)) (cond (aM (List.length vz:Int) 0) (mQ x2 x3 x8 x9 bg aV ca (W .i64 (dg+1))) ((Xu N x3 vz).bind λLq=>(U3 N Lq.1).bind λLr=>(wX N Lr).bind λDa=>cond (!Da.2) (some ([],(2:Int))) (cond (small (List.length x9+List.length ([(ei.1,(vz,(Da.1,ei.2.2.2)))]))) (mQ (W .i64 (x2+1)) x3 x8 (x9++([(ei.1,(vz,(Da.1,ei.2.2.2)))])) bg aV ca (W .i64 (dg+1))) (none))))
def eI.CK(N:Nat)(fU:eI.jq)(mQ:eI.uF):Nat→eI.rY
 |0,_,_,_,_,_,_,_,_,_,_,_=>none
 |n+1,x2,x3,x8,x9,bg,aV,ca,dg,ei,vz,eO=>eI.Dx N (eI.Uh N fU mQ (eI.CK N fU mQ n)) fU mQ (eI.CK N fU mQ n) x2 x3 x8 x9 bg aV ca dg ei vz eO
def eI.NU(N:Nat)(Od:eI.rY)(fU:eI.jq)(mQ:eI.uF)(x2:Int)(x3:ag)(x8:aG)(x9:bz)(bg:Int)(aV:aG)(ca:Int)(dg:Int):Option (bz×(Int)):=
 cond (aS dg ca) (Od x2 x3 x8 x9 bg aV ca dg (x2,(cw,((0:Int),((1:Int),df)))) cw (0:Int)) (fU x2 x3 x8 x9 (W .i64 (bg+1)))
def eI.HT(N:Nat)(fU:eI.jq):Nat→eI.uF
 |0,_,_,_,_,_,_,_,_=>none
 |n+1,x2,x3,x8,x9,bg,aV,ca,dg=>eI.NU N (eI.CK N fU (eI.HT N fU n) N) fU (eI.HT N fU n) x2 x3 x8 x9 bg aV ca dg
def eI.mX(N:Nat)(Ym:eI.uF)(fU:eI.jq)(jc:eI.gz)(x2:Int)(x3:ag)(x8:aG)(x9:bz)(bg:Int)(aV:aG)(bc:aF)(cf:Int):Option (bz×(Int)):=
 cond (aS cf (List.length x8:Int)) (cond (aZ cf (List.length x8)) (cond (aZ ((List.getD x8 cf.toNat df).1) (List.length x3.1)) (cond (aM ((List.getD x3.1 ((List.getD x8 cf.toNat df).1).toNat a7).1) bg) (cond (aZ cf (List.length x8)) (cond (small (List.length aV+List.length ([List.getD x8 cf.toNat df]))) (cond (aZ cf (List.length x8)) ((kt N (((List.getD x8 cf.toNat df).2).1)).bind λr6=>(Wm N r6).bind λr7=>(Am N bc r7).bind λr8=>jc x2 x3 x8 x9 bg (aV++([List.getD x8 cf.toNat df])) r8 (W .i64 (cf+1))) (none)) (none)) (none)) (jc x2 x3 x8 x9 bg aV bc (W .i64 (cf+1)))) (none)) (none)) ((rO N bc x3.2.2.2.2.2.1).bind λpG=>Ym x2 x3 x8 x9 bg aV pG (0:Int))
def eI.oF(N:Nat)(fU:eI.jq):Nat→eI.gz
 |0,_,_,_,_,_,_,_,_=>none
 |n+1,x2,x3,x8,x9,bg,aV,bc,cf=>eI.mX N (eI.HT N fU N) fU (eI.oF N fU n) x2 x3 x8 x9 bg aV bc cf
def eI.CQ(N:Nat)(uC:eI.gz)(fU:eI.jq)(x2:Int)(x3:ag)(x8:aG)(x9:bz)(bg:Int):Option (bz×(Int)):=
 cond (aS bg 4) (uC x2 x3 x8 x9 bg ([]) (false,pH) (0:Int)) (some (x9,(0:Int)))
def eI.l8(N:Nat):Nat→eI.jq
 |0,_,_,_,_,_=>none
 |n+1,x2,x3,x8,x9,bg=>eI.CQ N (eI.oF N (eI.l8 N n) N) (eI.l8 N n) x2 x3 x8 x9 bg
def eI.b(N:Nat)(GZ:eI.jq)(a0:ag)(a1:aq)(a2:Int):Option (bz×(Int)):=
 (cE N a0 a1).bind λr1=>cond (!r1) (some ([],(1:Int))) (cond (aS a2 1) (some ([],(1:Int))) (cond (aS 1099511627764 a2) (some ([],(1:Int))) ((yk N a1.2.2.2.1 (0:Int)).bind λr2=>cond (aM (List.length r2:Int) 0) (some ([],(3:Int))) (GZ a2 a0 r2 ([]) (0:Int)))))
def eI(N:Nat)(a0:ag)(a1:aq)(a2:Int):Option (bz×(Int)):=eI.b N (eI.l8 N N) a0 a1 a2
abbrev rP.bY:=aq→(List (Int))→Int→Option ((List (Int))×(Int))
def rP.fi(N:Nat)(bV:rP.bY)(x3:aq)(x6:List (Int))(x7:Int):Option ((List (Int))×(Int)):=
 cond (aS x7 (List.length x3.1:Int)) (cond (aZ x7 (List.length x3.1)) (cond (aM (((List.getD x3.1 x7.toNat df).2).1) (1:Int)) (cond (aZ x7 (List.length x3.1)) ((vY N x3.2.2.1 (6:Int) ((List.getD x3.1 x7.toNat df).1)).bind λr3=>cond (aS 0 r3) (cond (aZ x7 (List.length x3.1)) (cond (small (List.length x6+List.length ([(List.getD x3.1 x7.toNat df).1]))) (bV x3 (x6++([(List.getD x3.1 x7.toNat df).1])) (W .i64 (x7+1))) (none)) (none)) (bV x3 x6 (W .i64 (x7+1)))) (none)) (bV x3 x6 (W .i64 (x7+1)))) (none)) (some (x6,(0:Int)))
def rP.l5(N:Nat):Nat→rP.bY
 |0,_,_,_=>none
 |n+1,x3,x6,x7=>rP.fi N (rP.l5 N n) x3 x6 x7
def rP.b(N:Nat)(gh:rP.bY)(a0:ag)(a1:aq):Option ((List (Int))×(Int)):=
 (cE N a0 a1).bind λr1=>cond (!r1) (some ([],(1:Int))) (gh a1 ([]) (0:Int))
def rP(N:Nat)(a0:ag)(a1:aq):Option ((List (Int))×(Int)):=rP.b N (rP.l5 N N) a0 a1
abbrev iX.Rb:=bz→ag→Int→jb→Option (Bool)
abbrev iX.bI:=bz→ag→Int→Option (Bool)
def iX.M7(N:Nat)(ct:iX.bI)(x1:bz)(x2:ag)(x5:Int)(x6:jb):Option (Bool):=
 cond (aM x6.2.2.2.1 1) (cond (!aM x6.2.2.2.2.1 0) (some false) (cond (!aM x6.2.2.2.2.2.1 0) (some false) (ct x1 x2 (W .i64 (x5+1))))) (cond (aM x6.2.2.2.1 3) (cond (!aM x6.2.2.2.2.1 0) (some false) (cond (!aM x6.2.2.2.2.2.1 0) (some false) (ct x1 x2 (W .i64 (x5+1))))) (cond (aM x6.2.2.2.1 2) (cond (aS x6.2.2.2.2.1 1) (some false) (cond (aS 12 x6.2.2.2.2.1) (some false) (cond (aS x6.2.2.2.2.2.1 (-1152921504606846976)) (some false) (cond (aS 1152921504606846976 x6.2.2.2.2.2.1) (some false) (ct x1 x2 (W .i64 (x5+1))))))) (some false)))
def iX.j9(N:Nat)(ct:iX.bI)(x1:bz)(x2:ag)(x5:Int)(x6:jb):Option (Bool):=iX.M7 N ct x1 x2 x5 x6
def iX.dH(N:Nat)(GY:iX.Rb)(ct:iX.bI)(x1:bz)(x2:ag)(x5:Int):Option (Bool):=
 cond (aS x5 (List.length x1:Int)) (cond (aZ x5 (List.length x1)) (cond (aS ((List.getD x1 x5.toNat ((0:Int),(cw,a7))).1) (1:Int)) (some false) (cond (aS 1099511627776 ((List.getD x1 x5.toNat ((0:Int),(cw,a7))).1)) (some false) (cond (aS 0 x5) (let v3:Int:=W .i64 (x5-1);cond (aZ v3 (List.length x1)) (cond (c0 ((List.getD x1 x5.toNat ((0:Int),(cw,a7))).1) ((List.getD x1 v3.toNat ((0:Int),(cw,a7))).1)) (some false) (cond (aM (List.length (((List.getD x1 x5.toNat ((0:Int),(cw,a7))).2).1):Int) (0:Int)) (some false) ((nL N x2 (((List.getD x1 x5.toNat ((0:Int),(cw,a7))).2).1)).bind λr4=>cond (!r4) (some false) (cond (aS 0 ((((List.getD x1 x5.toNat ((0:Int),(cw,a7))).2).2).1)) (some false) (GY x1 x2 x5 (List.getD x1 x5.toNat ((0:Int),(cw,a7)))))))) (none)) (cond (aM (List.length (((List.getD x1 x5.toNat ((0:Int),(cw,a7))).2).1):Int) (0:Int)) (some false) ((nL N x2 (((List.getD x1 x5.toNat ((0:Int),(cw,a7))).2).1)).bind λr9=>cond (!r9) (some false) (cond (aS 0 ((((List.getD x1 x5.toNat ((0:Int),(cw,a7))).2).2).1)) (some false) (GY x1 x2 x5 (List.getD x1 x5.toNat ((0:Int),(cw,a7)))))))))) (none)) (some true)
def iX.l4(N:Nat):Nat→iX.bI
 |0,_,_,_=>none
 |n+1,x1,x2,x5=>iX.dH N (iX.j9 N (iX.l4 N n)) (iX.l4 N n) x1 x2 x5
def iX.b(N:Nat)(e7:iX.bI)(a0:ag)(a1:bz):Option (Bool):=
 (my N a0).bind λr1=>cond (!r1) (some false) (cond (aS 12 (List.length a1:Int)) (some false) (e7 a1 a0 (0:Int)))
def iX(N:Nat)(a0:ag)(a1:bz):Option (Bool):=iX.b N (iX.l4 N N) a0 a1
abbrev qm.de:=bz→Int→jb→Int→Option (jb×(Bool))
def qm.gV(N:Nat)(eS:qm.de)(x0:bz)(x1:Int)(x4:jb)(x6:Int):Option (jb×(Bool)):=
 cond (aS x6 (List.length x0:Int)) (cond (aZ x6 (List.length x0)) (cond (aM ((List.getD x0 x6.toNat ((0:Int),(cw,a7))).1) x1) (cond (aZ x6 (List.length x0)) (some (List.getD x0 x6.toNat ((0:Int),(cw,a7)),true)) (none)) (eS x0 x1 x4 (W .i64 (x6+1)))) (none)) (some (((0:Int),(cw,a7)),false))
def qm.l2(N:Nat):Nat→qm.de
 |0,_,_,_,_=>none
 |n+1,x0,x1,x4,x6=>qm.gV N (qm.l2 N n) x0 x1 x4 x6
def qm.b(N:Nat)(jo:qm.de)(a0:bz)(a1:Int):Option (jb×(Bool)):=
 jo a0 a1 ((0:Int),(cw,a7)) (0:Int)
def qm(N:Nat)(a0:bz)(a1:Int):Option (jb×(Bool)):=qm.b N (qm.l2 N N) a0 a1
abbrev e9.gO:=aG→aG→aG→Int→aF→Int→Option (aG×(Bool))
abbrev e9.eN:=aG→aG→aG→Int→aF→Int→Option (aG×(Bool))
abbrev e9.dv:=aG→aG→aG→Int→Option (aG×(Bool))
def e9.nK(N:Nat)(c7:e9.dv)(iW:e9.gO)(x0:aG)(x1:aG)(x6:aG)(x7:Int)(x8:aF)(bg:Int):Option (aG×(Bool)):=
 cond (aS bg (List.length x1:Int)) (cond (aZ bg (List.length x1)) (cond (aM ((List.getD x1 bg.toNat df).1) x7) (cond (aZ bg (List.length x1)) ((kt N (((List.getD x1 bg.toNat df).2).1)).bind λr8=>(Am N x8 r8).bind λr9=>iW x0 x1 x6 x7 r9 (W .i64 (bg+1))) (none)) (iW x0 x1 x6 x7 x8 (W .i64 (bg+1)))) (none)) ((Qq N x8).bind λpZ=>cond (!pZ.2) (some ([],false)) (cond (!aM pZ.1 0) (cond (small (List.length x6+List.length ([(x7,(pZ.1,()))]))) (c7 x0 x1 (x6++([(x7,(pZ.1,()))])) (W .i64 (x7+1))) (none)) (c7 x0 x1 x6 (W .i64 (x7+1)))))
def e9.m5(N:Nat)(c7:e9.dv):Nat→e9.gO
 |0,_,_,_,_,_,_=>none
 |n+1,x0,x1,x6,x7,x8,bg=>e9.nK N c7 (e9.m5 N c7 n) x0 x1 x6 x7 x8 bg
def e9.pN(N:Nat)(uE:e9.gO)(c7:e9.dv)(dY:e9.eN)(x0:aG)(x1:aG)(x6:aG)(x7:Int)(x8:aF)(x9:Int):Option (aG×(Bool)):=
 cond (aS x9 (List.length x0:Int)) (cond (aZ x9 (List.length x0)) (cond (aM ((List.getD x0 x9.toNat df).1) x7) (cond (aZ x9 (List.length x0)) ((kt N (((List.getD x0 x9.toNat df).2).1)).bind λr3=>(Am N x8 r3).bind λr4=>dY x0 x1 x6 x7 r4 (W .i64 (x9+1))) (none)) (dY x0 x1 x6 x7 x8 (W .i64 (x9+1)))) (none)) (uE x0 x1 x6 x7 x8 (0:Int))
def e9.l7(N:Nat)(c7:e9.dv):Nat→e9.eN
 |0,_,_,_,_,_,_=>none
 |n+1,x0,x1,x6,x7,x8,x9=>e9.pN N (e9.m5 N c7 N) c7 (e9.l7 N c7 n) x0 x1 x6 x7 x8 x9
def e9.lB(N:Nat)(tt:e9.eN)(c7:e9.dv)(x0:aG)(x1:aG)(x6:aG)(x7:Int):Option (aG×(Bool)):=
 cond (aS x7 6) (tt x0 x1 x6 x7 (false,pH) (0:Int)) (some (x6,true))
def e9.l3(N:Nat):Nat→e9.dv
 |0,_,_,_,_=>none
 |n+1,x0,x1,x6,x7=>e9.lB N (e9.l7 N (e9.l3 N n) N) (e9.l3 N n) x0 x1 x6 x7
def e9.b(N:Nat)(mF:e9.dv)(a0:aG)(a1:aG):Option (aG×(Bool)):=
 mF a0 a1 ([]) (0:Int)
def e9(N:Nat)(a0:aG)(a1:aG):Option (aG×(Bool)):=e9.b N (e9.l3 N N) a0 a1
def ah8(N:Nat)(a0:br)(a1:Int):Option au:=
 (mU N a0).bind λr1=>cond (!r1) (some ([])) ((hZ N a0 a1).bind λr2=>some r2)
abbrev ld.gz:=aO→ag→aq→cy→jb→Int→Int→Option (Int)
abbrev ld.ate:=bz→aO→ag→aq→cy→Option (Int)
def ld.mX(N:Nat)(jc:ld.gz)(x3:aO)(x5:ag)(x6:aq)(x9:cy)(bc:jb)(ca:Int)(dg:Int):Option (Int):=
 cond (aS dg (List.length x3:Int)) (cond (aZ dg (List.length x3)) (cond (aM ((((List.getD x3 dg.toNat a7).2).2).1) x9.2.2.1) (cond (aZ dg (List.length x3)) (cond (aM (((List.getD x3 dg.toNat a7).2).1) x9.2.1) (some (4:Int)) (jc x3 x5 x6 x9 bc ca (W .i64 (dg+1)))) (none)) (jc x3 x5 x6 x9 bc ca (W .i64 (dg+1)))) (none)) (cond (aM (List.length x3:Int) 40) (some (5:Int)) ((kt N x9.2.2.2.1).bind λsv=>(kt N (4:Int)).bind λoh=>(kt N bc.2.2.1).bind λtu=>(jY N oh tu).bind λCc=>(PH N sv Cc).bind λBh=>cond (aS Bh 0) (some (11:Int)) ((yk N x6.2.2.2.1 ca).bind λBi=>(e9 N Bi bc.2.1).bind λOn=>cond (!On.2) (some (2:Int)) ((ah8 N x6.2.2.2.2.2.1 ca).bind λOi=>(qj N x5 On.1 Oi).bind λPK=>(QN N x6 ca).bind λPM=>(kt N PM).bind λGN=>(kt N x9.2.2.2.1).bind λLq=>(R2 N GN Lq).bind λLr=>(PH N Lr PK.1).bind λDa=>cond (aS Da 0) (some (10:Int)) (some (0:Int))))))
def ld.oF(N:Nat):Nat→ld.gz
 |0,_,_,_,_,_,_,_=>none
 |n+1,x3,x5,x6,x9,bc,ca,dg=>ld.mX N (ld.oF N n) x3 x5 x6 x9 bc ca dg
def ld.j3b(N:Nat)(uC:ld.gz)(x2:bz)(x3:aO)(x5:ag)(x6:aq)(x9:cy):Option (Int):=
 (KO N x6 x9.2.2.1).bind λr7=>cond (aM r7 0) (some (3:Int)) (cond (!aM r7 1) (some (7:Int)) ((qm N x2 x9.2.1).bind λr8=>(yX N x6.2.1 x9.2.2.1).bind λr9=>cond (!r8.2) (some (3:Int)) (cond (!aM r8.1.2.2.2.1 1) (some (3:Int)) (cond (aM r9 0) (some (3:Int)) (uC x3 x5 x6 x9 r8.1 r9 (0:Int))))))
def ld.j3(N:Nat)(x2:bz)(x3:aO)(x5:ag)(x6:aq)(x9:cy):Option (Int):=ld.j3b N (ld.oF N N) x2 x3 x5 x6 x9
def ld.b(N:Nat)(anR:ld.ate)(a0:ag)(a1:aq)(a2:bz)(a3:aO)(a4:cy):Option (Int):=
 (cE N a0 a1).bind λr1=>cond (!r1) (some (1:Int)) ((iX N a0 a2).bind λr2=>cond (!r2) (some (1:Int)) ((eP N a3).bind λr3=>cond (!r3) (some (1:Int)) ((Wy N a4).bind λr4=>cond (!r4) (some (1:Int)) (cond (aS 0 (List.length a3:Int)) (let v5:Int:=W .i64 ((List.length a3:Int)-1);cond (aZ v5 (List.length a3)) (cond (c0 a4.1 ((List.getD a3 v5.toNat a7).1)) (some (1:Int)) (anR a2 a3 a0 a1 a4)) (none)) (anR a2 a3 a0 a1 a4)))))
def ld(N:Nat)(a0:ag)(a1:aq)(a2:bz)(a3:aO)(a4:cy):Option (Int):=ld.b N (ld.j3 N) a0 a1 a2 a3 a4
def aaM(N:Nat)(a0:ag)(a1:aq)(a2:bz)(a3:aO)(a4:cy):Option (aO×(Int)):=
 (ld N a0 a1 a2 a3 a4).bind λr1=>cond (!aM r1 0) (some ([],r1)) (cond (small (List.length dh+List.length a3)) (let v2:List ((Int)×((Int)×((Int)×((Int)×(Unit))))):=dh++a3;cond (small (List.length v2+List.length ([a4]))) (some ((v2++([a4])),(0:Int))) (none)) (none))
abbrev Gl.iV:=aO→Int→cy→cy→Bool→Int→Option (cy×(Bool))
def Gl.tb(N:Nat)(jG:Gl.iV)(x0:aO)(x1:Int)(x4:cy)(x6:cy)(x7:Bool)(x8:Int):Option (cy×(Bool)):=
 cond (aS x8 (List.length x0:Int)) (cond (aZ x8 (List.length x0)) (cond (aM (((List.getD x0 x8.toNat a7).2).1) x1) (cond (!x7) (cond (aZ x8 (List.length x0)) (jG x0 x1 x4 (List.getD x0 x8.toNat a7) true (W .i64 (x8+1))) (none)) (cond (aZ x8 (List.length x0)) (cond (aS x6.2.2.2.1 (((((List.getD x0 x8.toNat a7).2).2).2).1)) (cond (aZ x8 (List.length x0)) (jG x0 x1 x4 (List.getD x0 x8.toNat a7) true (W .i64 (x8+1))) (none)) (jG x0 x1 x4 x6 x7 (W .i64 (x8+1)))) (none))) (jG x0 x1 x4 x6 x7 (W .i64 (x8+1)))) (none)) (some (x6,x7))
def Gl.l6(N:Nat):Nat→Gl.iV
 |0,_,_,_,_,_,_=>none
 |n+1,x0,x1,x4,x6,x7,x8=>Gl.tb N (Gl.l6 N n) x0 x1 x4 x6 x7 x8
def Gl.b(N:Nat)(vy:Gl.iV)(a0:aO)(a1:Int):Option (cy×(Bool)):=
 (eP N a0).bind λr1=>cond (!r1) (some (a7,false)) (vy a0 a1 a7 a7 false (0:Int))
def Gl(N:Nat)(a0:aO)(a1:Int):Option (cy×(Bool)):=Gl.b N (Gl.l6 N N) a0 a1
abbrev oZ.rX:=bz→aO→aq→aq→au→bE→bz→Int→jb→cy→Int→Int→Option (aq×bz×(Int))
abbrev oZ.eN:=bz→aO→aq→aq→au→bE→bz→Int→Option (aq×bz×(Int))
def oZ.vV(N:Nat)(dY:oZ.eN)(GM:oZ.rX)(x2:bz)(x3:aO)(x5:aq)(x8:aq)(aV:au)(bc:bE)(cf:bz)(ca:Int)(dg:jb)(ei:cy)(kb:Int)(pD:Int):Option (aq×bz×(Int)):=
 cond (aS pD (List.length dg.2.1:Int)) (cond (aZ pD (List.length dg.2.1)) (cond (aZ pD (List.length dg.2.1)) (let YX:Int:=W .i64 (0-(((List.getD dg.2.1 pD.toNat df).2).1));cond (aZ pD (List.length dg.2.1)) (cond (aZ pD (List.length dg.2.1)) (cond (small (List.length aV+List.length ([((0:Int),((List.getD dg.2.1 pD.toNat df).1,(YX,()))),(kb,((List.getD dg.2.1 pD.toNat df).1,(((List.getD dg.2.1 pD.toNat df).2).1,())))]))) (GM x2 x3 x5 x8 (aV++([((0:Int),((List.getD dg.2.1 pD.toNat df).1,(YX,()))),(kb,((List.getD dg.2.1 pD.toNat df).1,(((List.getD dg.2.1 pD.toNat df).2).1,())))])) bc cf ca dg ei kb (W .i64 (pD+1))) (none)) (none)) (none)) (none)) (none)) ((kt N ei.2.2.2.1).bind λBh=>(BX N (5:Int) kb (2:Int) (0:Int) Bh).bind λBi=>cond (small (List.length bc+List.length Bi)) (cond (small (List.length cf+List.length ([dg]))) (dY x2 x3 x5 x8 aV (bc++Bi) (cf++([dg])) (W .i64 (ca+1))) (none)) (none))
def oZ.w4(N:Nat)(dY:oZ.eN):Nat→oZ.rX
 |0,_,_,_,_,_,_,_,_,_,_,_,_=>none
 |n+1,x2,x3,x5,x8,aV,bc,cf,ca,dg,ei,kb,pD=>oZ.vV N dY (oZ.w4 N dY n) x2 x3 x5 x8 aV bc cf ca dg ei kb pD
def oZ.pN(N:Nat)(GO:oZ.rX)(dY:oZ.eN)(x2:bz)(x3:aO)(x5:aq)(x8:aq)(aV:au)(bc:bE)(cf:bz)(ca:Int):Option (aq×bz×(Int)):=
 cond (aS ca (List.length x2:Int)) (cond (aZ ca (List.length x2)) (cond (small (List.length cw+List.length (((List.getD x2 ca.toNat ((0:Int),(cw,a7))).2).1))) (let v5:List ((Int)×((Int)×(Unit))):=cw++(((List.getD x2 ca.toNat ((0:Int),(cw,a7))).2).1);cond (!aM (((((List.getD x2 ca.toNat ((0:Int),(cw,a7))).2).2).2).1) (1:Int)) (cond (small (List.length cf+List.length ([((List.getD x2 ca.toNat ((0:Int),(cw,a7))).1,(v5,((List.getD x2 ca.toNat ((0:Int),(cw,a7))).2).2))]))) (dY x2 x3 x5 x8 aV bc (cf++([((List.getD x2 ca.toNat ((0:Int),(cw,a7))).1,(v5,((List.getD x2 ca.toNat ((0:Int),(cw,a7))).2).2))])) (W .i64 (ca+1))) (none)) ((Gl N x3 ((List.getD x2 ca.toNat ((0:Int),(cw,a7))).1)).bind λr8=>cond (!r8.2) (cond (small (List.length cf+List.length ([((List.getD x2 ca.toNat ((0:Int),(cw,a7))).1,(v5,((((List.getD x2 ca.toNat ((0:Int),(cw,a7))).2).2).1,((3:Int),((((List.getD x2 ca.toNat ((0:Int),(cw,a7))).2).2).2).2))))]))) (dY x2 x3 x5 x8 aV bc (cf++([((List.getD x2 ca.toNat ((0:Int),(cw,a7))).1,(v5,((((List.getD x2 ca.toNat ((0:Int),(cw,a7))).2).2).1,((3:Int),((((List.getD x2 ca.toNat ((0:Int),(cw,a7))).2).2).2).2))))])) (W .i64 (ca+1))) (none)) ((yX N x5.2.1 r8.1.2.2.1).bind λpG=>cond (aM pG 0) (some ((cw,(dh,(bK,(bK,(dV,(eh,())))))),[],(3:Int))) ((KO N x5 r8.1.2.2.1).bind λpZ=>cond (aM pZ 0) (some ((cw,(dh,(bK,(bK,(dV,(eh,())))))),[],(3:Int))) (GO x2 x3 x5 x8 aV bc cf ca ((List.getD x2 ca.toNat ((0:Int),(cw,a7))).1,(v5,((((List.getD x2 ca.toNat ((0:Int),(cw,a7))).2).2).1,((2:Int),(r8.1.2.2.1,(r8.1.2.2.2.1,((((((List.getD x2 ca.toNat ((0:Int),(cw,a7))).2).2).2).2).2).2)))))) r8.1 pG (0:Int)))))) (none)) (none)) ((A0 N x5 aV bc).bind λPM=>cond (!aM PM.2 0) (some ((cw,(dh,(bK,(bK,(dV,(eh,())))))),[],PM.2)) (some (PM.1,cf,(0:Int))))
def oZ.l7(N:Nat):Nat→oZ.eN
 |0,_,_,_,_,_,_,_,_=>none
 |n+1,x2,x3,x5,x8,aV,bc,cf,ca=>oZ.pN N (oZ.w4 N (oZ.l7 N n) N) (oZ.l7 N n) x2 x3 x5 x8 aV bc cf ca
def oZ.b(N:Nat)(tt:oZ.eN)(a0:ag)(a1:aq)(a2:bz)(a3:aO):Option (aq×bz×(Int)):=
 (cE N a0 a1).bind λr1=>cond (!r1) (some ((cw,(dh,(bK,(bK,(dV,(eh,())))))),[],(1:Int))) ((iX N a0 a2).bind λr2=>cond (!r2) (some ((cw,(dh,(bK,(bK,(dV,(eh,())))))),[],(1:Int))) ((eP N a3).bind λr3=>cond (!r3) (some ((cw,(dh,(bK,(bK,(dV,(eh,())))))),[],(1:Int))) (tt a2 a3 a1 (cw,(dh,(bK,(bK,(dV,(eh,())))))) ([]) ([]) ([]) (0:Int))))
def oZ(N:Nat)(a0:ag)(a1:aq)(a2:bz)(a3:aO):Option (aq×bz×(Int)):=oZ.b N (oZ.l7 N N) a0 a1 a2 a3
abbrev py.de:=aG→Int→Option (Bool)
def py.gV(N:Nat)(eS:py.de)(x0:aG)(x3:Int):Option (Bool):=
 cond (aS x3 (List.length x0:Int)) (cond (aZ x3 (List.length x0)) (cond (aS ((List.getD x0 x3.toNat df).1) (1:Int)) (some false) (cond (aZ x3 (List.length x0)) (cond (aS 12 ((List.getD x0 x3.toNat df).1)) (some false) (cond (aZ x3 (List.length x0)) (cond (aS (((List.getD x0 x3.toNat df).2).1) (1:Int)) (some false) (cond (aZ x3 (List.length x0)) (cond (aS 4 (((List.getD x0 x3.toNat df).2).1)) (some false) (cond (aS 0 x3) (cond (aZ x3 (List.length x0)) (let v2:Int:=W .i64 (x3-1);cond (aZ v2 (List.length x0)) (cond (c0 ((List.getD x0 x3.toNat df).1) ((List.getD x0 v2.toNat df).1)) (some false) (eS x0 (W .i64 (x3+1)))) (none)) (none)) (eS x0 (W .i64 (x3+1))))) (none))) (none))) (none))) (none)) (some true)
def py.l2(N:Nat):Nat→py.de
 |0,_,_=>none
 |n+1,x0,x3=>py.gV N (py.l2 N n) x0 x3
def py.b(N:Nat)(jo:py.de)(a0:aG):Option (Bool):=
 jo a0 (0:Int)
def py(N:Nat)(a0:aG):Option (Bool):=py.b N (py.l2 N N) a0
abbrev rQ.de:=(List (Int))→Int→Option (Bool)
def rQ.gV(N:Nat)(eS:rQ.de)(x0:List (Int))(x3:Int):Option (Bool):=
 cond (aS x3 (List.length x0:Int)) (cond (aZ x3 (List.length x0)) (cond (aS (List.getD x0 x3.toNat (0:Int)) (1:Int)) (some false) (cond (aZ x3 (List.length x0)) (cond (aS 12 (List.getD x0 x3.toNat (0:Int))) (some false) (cond (aS 0 x3) (cond (aZ x3 (List.length x0)) (let v2:Int:=W .i64 (x3-1);cond (aZ v2 (List.length x0)) (cond (c0 (List.getD x0 x3.toNat (0:Int)) (List.getD x0 v2.toNat (0:Int))) (some false) (eS x0 (W .i64 (x3+1)))) (none)) (none)) (eS x0 (W .i64 (x3+1))))) (none))) (none)) (some true)
def rQ.l2(N:Nat):Nat→rQ.de
 |0,_,_=>none
 |n+1,x0,x3=>rQ.gV N (rQ.l2 N n) x0 x3
def rQ.b(N:Nat)(jo:rQ.de)(a0:List (Int)):Option (Bool):=
 jo a0 (0:Int)
def rQ(N:Nat)(a0:List (Int)):Option (Bool):=rQ.b N (rQ.l2 N N) a0
abbrev jw.gO:=Int→bz→Int→Int→Option (Int)
abbrev jw.dv:=Int→bz→aO→Int→Int→Option (Int)
def jw.nK(N:Nat)(iW:jw.gO)(x0:Int)(x1:bz)(x7:Int)(bc:Int):Option (Int):=
 cond (aS bc (List.length x1:Int)) (cond (aZ bc (List.length x1)) (cond (aM (((((List.getD x1 bc.toNat ((0:Int),(cw,a7))).2).2).2).1) (2:Int)) (cond (aZ bc (List.length x1)) (cond (aM ((((((List.getD x1 bc.toNat ((0:Int),(cw,a7))).2).2).2).2).1) x0) (iW x0 x1 (4:Int) (W .i64 (bc+1))) (iW x0 x1 x7 (W .i64 (bc+1)))) (none)) (iW x0 x1 x7 (W .i64 (bc+1)))) (none)) (some x7)
def jw.m5(N:Nat):Nat→jw.gO
 |0,_,_,_,_=>none
 |n+1,x0,x1,x7,bc=>jw.nK N (jw.m5 N n) x0 x1 x7 bc
def jw.lB(N:Nat)(uE:jw.gO)(c7:jw.dv)(x0:Int)(x1:bz)(x2:aO)(x7:Int)(x8:Int):Option (Int):=
 cond (aS x8 (List.length x2:Int)) (cond (aZ x8 (List.length x2)) (cond (!aM ((((List.getD x2 x8.toNat a7).2).2).1) x0) (c7 x0 x1 x2 x7 (W .i64 (x8+1))) (cond (aZ x8 (List.length x2)) ((qm N x1 (((List.getD x2 x8.toNat a7).2).1)).bind λr3=>cond (r3.2) (cond (aZ x8 (List.length x2)) (cond (c0 r3.1.2.2.1 (((((List.getD x2 x8.toNat a7).2).2).2).1)) (c7 x0 x1 x2 (mx x7 3) (W .i64 (x8+1))) (c7 x0 x1 x2 (mx x7 2) (W .i64 (x8+1)))) (none)) (c7 x0 x1 x2 (mx x7 2) (W .i64 (x8+1)))) (none))) (none)) (uE x0 x1 x7 (0:Int))
def jw.l3(N:Nat):Nat→jw.dv
 |0,_,_,_,_,_=>none
 |n+1,x0,x1,x2,x7,x8=>jw.lB N (jw.m5 N N) (jw.l3 N n) x0 x1 x2 x7 x8
def jw.b(N:Nat)(mF:jw.dv)(a0:Int)(a1:bz)(a2:aO):Option (Int):=
 mF a0 a1 a2 (1:Int) (0:Int)
def jw(N:Nat)(a0:Int)(a1:bz)(a2:aO):Option (Int):=jw.b N (jw.l3 N N) a0 a1 a2
abbrev dA.sa:=aG→(List (Int))→bz→aO→aG→Int→Int→Bool→Int→Option (aG×(Int))
abbrev dA.xp:=aG→(List (Int))→bz→aO→aG→Int→Int→Bool→Int→Option (aG×(Int))
abbrev dA.oM:=aG→(List (Int))→bz→aO→aG→Int→Int→Bool→Int→Option (aG×(Int))
abbrev dA.bY:=aG→(List (Int))→bz→aO→aG→Int→Option (aG×(Int))
def dA.yl(N:Nat)(bV:dA.bY)(Ba:dA.sa)(x1:aG)(x2:List (Int))(x3:bz)(x4:aO)(bc:aG)(cf:Int)(ca:Int)(dg:Bool)(kb:Int):Option (aG×(Int)):=
 cond (aS kb (List.length x4:Int)) (cond (dg) (Ba x1 x2 x3 x4 bc cf ca true (W .i64 (kb+1))) (cond (aZ kb (List.length x4)) (Ba x1 x2 x3 x4 bc cf ca (aM ((((List.getD x4 kb.toNat a7).2).2).1) cf) (W .i64 (kb+1))) (none))) (cond (dg) ((jw N cf x3 x4).bind λtu=>let Yh:Int:=mx ca tu;cond (small (List.length bc+List.length ([(cf,(Yh,()))]))) (bV x1 x2 x3 x4 (bc++([(cf,(Yh,()))])) (W .i64 (cf+1))) (none)) (bV x1 x2 x3 x4 bc (W .i64 (cf+1))))
def dA.AY(N:Nat)(bV:dA.bY):Nat→dA.sa
 |0,_,_,_,_,_,_,_,_,_=>none
 |n+1,x1,x2,x3,x4,bc,cf,ca,dg,kb=>dA.yl N bV (dA.AY N bV n) x1 x2 x3 x4 bc cf ca dg kb
def dA.F5(N:Nat)(GR:dA.sa)(bV:dA.bY)(Dc:dA.xp)(x1:aG)(x2:List (Int))(x3:bz)(x4:aO)(bc:aG)(cf:Int)(ca:Int)(dg:Bool)(eO:Int):Option (aG×(Int)):=
 cond (aS eO (List.length x2:Int)) (cond (dg) (Dc x1 x2 x3 x4 bc cf ca true (W .i64 (eO+1))) (cond (aZ eO (List.length x2)) (Dc x1 x2 x3 x4 bc cf ca (aM (List.getD x2 eO.toNat (0:Int)) cf) (W .i64 (eO+1))) (none))) (GR x1 x2 x3 x4 bc cf ca dg (0:Int))
def dA.IY(N:Nat)(bV:dA.bY):Nat→dA.xp
 |0,_,_,_,_,_,_,_,_,_=>none
 |n+1,x1,x2,x3,x4,bc,cf,ca,dg,eO=>dA.F5 N (dA.AY N bV N) bV (dA.IY N bV n) x1 x2 x3 x4 bc cf ca dg eO
def dA.zg(N:Nat)(Om:dA.xp)(bV:dA.bY)(uD:dA.oM)(x1:aG)(x2:List (Int))(x3:bz)(x4:aO)(bc:aG)(cf:Int)(ca:Int)(dg:Bool)(ei:Int):Option (aG×(Int)):=
 cond (aS ei (List.length x1:Int)) (cond (aZ ei (List.length x1)) (cond (aM ((List.getD x1 ei.toNat df).1) cf) (cond (aZ ei (List.length x1)) (uD x1 x2 x3 x4 bc cf (((List.getD x1 ei.toNat df).2).1) true (W .i64 (ei+1))) (none)) (uD x1 x2 x3 x4 bc cf ca dg (W .i64 (ei+1)))) (none)) (Om x1 x2 x3 x4 bc cf ca dg (0:Int))
def dA.l9(N:Nat)(bV:dA.bY):Nat→dA.oM
 |0,_,_,_,_,_,_,_,_,_=>none
 |n+1,x1,x2,x3,x4,bc,cf,ca,dg,ei=>dA.zg N (dA.IY N bV N) bV (dA.l9 N bV n) x1 x2 x3 x4 bc cf ca dg ei
def dA.fi(N:Nat)(Cd:dA.oM)(bV:dA.bY)(x1:aG)(x2:List (Int))(x3:bz)(x4:aO)(bc:aG)(cf:Int):Option (aG×(Int)):=
 cond (c0 cf 12) (Cd x1 x2 x3 x4 bc cf (0:Int) false (0:Int)) (some (bc,(0:Int)))
def dA.l5(N:Nat):Nat→dA.bY
 |0,_,_,_,_,_,_=>none
 |n+1,x1,x2,x3,x4,bc,cf=>dA.fi N (dA.l9 N (dA.l5 N n) N) (dA.l5 N n) x1 x2 x3 x4 bc cf
def dA.b(N:Nat)(gh:dA.bY)(a0:ag)(a1:aG)(a2:List (Int))(a3:bz)(a4:aO):Option (aG×(Int)):=
 (py N a1).bind λr1=>cond (!r1) (some ([],(1:Int))) ((rQ N a2).bind λr2=>cond (!r2) (some ([],(1:Int))) ((iX N a0 a3).bind λr3=>cond (!r3) (some ([],(1:Int))) ((eP N a4).bind λr4=>cond (!r4) (some ([],(1:Int))) (gh a1 a2 a3 a4 ([]) (1:Int)))))
def dA(N:Nat)(a0:ag)(a1:aG)(a2:List (Int))(a3:bz)(a4:aO):Option (aG×(Int)):=dA.b N (dA.l5 N N) a0 a1 a2 a3 a4
def KR(N:Nat)(a0:bL)(a1:aq)(a2:Int)(a3:Int)(a4:Int):Option bL:=
 (vY N a1.2.2.1 a3 a4).bind λr1=>cond (aS 0 r1) (cond (small (List.length a0+List.length ([(a2,(a3,(a4,(r1,((0:Int),())))))]))) (some (a0++([(a2,(a3,(a4,(r1,((0:Int),())))))]))) (none)) (some a0)
def Xx(N:Nat)(a0:Int):Option (Bool):=
 cond (aM a0 1) (some true) (some (aM a0 2))
abbrev rR.bI:=aG→Int→Int→Option (Int)
def rR.dH(N:Nat)(ct:rR.bI)(x0:aG)(x1:Int)(x5:Int):Option (Int):=
 cond (aS x5 (List.length x0:Int)) (cond (aZ x5 (List.length x0)) (cond (aM ((List.getD x0 x5.toNat df).1) x1) (cond (aZ x5 (List.length x0)) (some (((List.getD x0 x5.toNat df).2).1)) (none)) (ct x0 x1 (W .i64 (x5+1)))) (none)) (some (1:Int))
def rR.l4(N:Nat):Nat→rR.bI
 |0,_,_,_=>none
 |n+1,x0,x1,x5=>rR.dH N (rR.l4 N n) x0 x1 x5
def rR.b(N:Nat)(e7:rR.bI)(a0:aG)(a1:Int):Option (Int):=
 (py N a0).bind λr1=>cond (!r1) (some (0:Int)) (e7 a0 a1 (0:Int))
def rR(N:Nat)(a0:aG)(a1:Int):Option (Int):=rR.b N (rR.l4 N N) a0 a1
abbrev rS.bY:=aG→Int→Int→aq→(List (Int))→Int→Option ((List (Int))×(Int))
def rS.fi(N:Nat)(bV:rS.bY)(x2:aG)(x3:Int)(x4:Int)(x6:aq)(bc:List (Int))(cf:Int):Option ((List (Int))×(Int)):=
 cond (aS cf (List.length x6.1:Int)) (cond (aZ cf (List.length x6.1)) ((Xx N (((List.getD x6.1 cf.toNat df).2).1)).bind λr4=>cond (r4) (cond (!aM ((List.getD x6.1 cf.toNat df).1) x3) ((vY N x6.2.2.1 (6:Int) ((List.getD x6.1 cf.toNat df).1)).bind λr5=>cond (aS 0 r5) ((rR N x2 ((List.getD x6.1 cf.toNat df).1)).bind λr6=>cond (aM r6 x4) (cond (small (List.length bc+List.length ([(List.getD x6.1 cf.toNat df).1]))) (bV x2 x3 x4 x6 (bc++([(List.getD x6.1 cf.toNat df).1])) (W .i64 (cf+1))) (none)) (bV x2 x3 x4 x6 bc (W .i64 (cf+1)))) (bV x2 x3 x4 x6 bc (W .i64 (cf+1)))) (bV x2 x3 x4 x6 bc (W .i64 (cf+1)))) (bV x2 x3 x4 x6 bc (W .i64 (cf+1)))) (none)) (some (bc,(0:Int)))
def rS.l5(N:Nat):Nat→rS.bY
 |0,_,_,_,_,_,_=>none
 |n+1,x2,x3,x4,x6,bc,cf=>rS.fi N (rS.l5 N n) x2 x3 x4 x6 bc cf
def rS.b(N:Nat)(gh:rS.bY)(a0:ag)(a1:aq)(a2:aG)(a3:Int)(a4:Int):Option ((List (Int))×(Int)):=
 (cE N a0 a1).bind λr1=>cond (!r1) (some ([],(1:Int))) ((py N a2).bind λr2=>cond (!r2) (some ([],(1:Int))) (gh a2 a3 a4 a1 ([]) (0:Int)))
def rS(N:Nat)(a0:ag)(a1:aq)(a2:aG)(a3:Int)(a4:Int):Option ((List (Int))×(Int)):=rS.b N (rS.l5 N N) a0 a1 a2 a3 a4
abbrev cG.jQ:=Int→aG→aG→ag→aq→bL→Int→(List (Int))→Int→Option (bL×(Int))
abbrev cG.GW:=Int→aG→aq→bL→Int→Option (bL×(Int))
abbrev cG.uF:=Int→aG→ag→aq→bL→Int→Option (bL×(Int))
abbrev cG.gO:=Int→aG→aG→ag→aq→bL→Int→Option (bL×(Int))
abbrev cG.Rb:=Int→aG→aG→ag→aq→bL→Option (bL×(Int))
def cG.so(N:Nat)(iW:cG.gO)(iU:cG.jQ)(x2:Int)(x3:aG)(x4:aG)(x5:ag)(x6:aq)(bc:bL)(ca:Int)(dg:List (Int))(eO:Int):Option (bL×(Int)):=
 cond (aS eO (List.length dg:Int)) (cond (aZ eO (List.length dg)) ((KR N bc x6 (W .i64 ((W .i64 ((4:Int)+ca))-1)) (6:Int) (List.getD dg eO.toNat (0:Int))).bind λtu=>iU x2 x3 x4 x5 x6 tu ca dg (W .i64 (eO+1))) (none)) (iW x2 x3 x4 x5 x6 bc (W .i64 (ca+1)))
def cG.sQ(N:Nat)(iW:cG.gO):Nat→cG.jQ
 |0,_,_,_,_,_,_,_,_,_=>none
 |n+1,x2,x3,x4,x5,x6,bc,ca,dg,eO=>cG.so N iW (cG.sQ N iW n) x2 x3 x4 x5 x6 bc ca dg eO
def cG.Ku(N:Nat)(C9:cG.GW)(x2:Int)(x4:aG)(x6:aq)(bc:bL)(UP:Int):Option (bL×(Int)):=
 cond (aS UP (List.length x4:Int)) (cond (aZ UP (List.length x4)) ((DD N x6.2.1 ((List.getD x4 UP.toNat df).1)).bind λSK=>cond (aZ UP (List.length x4)) (cond (aZ UP (List.length x4)) ((vY N x6.2.2.1 (5:Int) ((List.getD x4 UP.toNat df).1)).bind λr32=>let v33:Int:=mn (((List.getD x4 UP.toNat df).2).1) r32;cond (SK.2) (cond (!aM SK.1.2.1 x2) (cond (aS 0 v33) (cond (small (List.length bc+List.length ([((9:Int),((5:Int),(SK.1.1,(v33,((0:Int),())))))]))) (C9 x2 x4 x6 (bc++([((9:Int),((5:Int),(SK.1.1,(v33,((0:Int),())))))])) (W .i64 (UP+1))) (none)) (C9 x2 x4 x6 bc (W .i64 (UP+1)))) (C9 x2 x4 x6 bc (W .i64 (UP+1)))) (C9 x2 x4 x6 bc (W .i64 (UP+1)))) (none)) (none)) (none)) (some (bc,(0:Int)))
def cG.Nk(N:Nat):Nat→cG.GW
 |0,_,_,_,_,_=>none
 |n+1,x2,x4,x6,bc,UP=>cG.Ku N (cG.Nk N n) x2 x4 x6 bc UP
def cG.NU(N:Nat)(Yf:cG.GW)(mQ:cG.uF)(x2:Int)(x4:aG)(x5:ag)(x6:aq)(bc:bL)(kb:Int):Option (bL×(Int)):=
 cond (aS kb (List.length x6.1:Int)) (cond (aZ kb (List.length x6.1)) ((Xx N (((List.getD x6.1 kb.toNat df).2).1)).bind λOn=>cond (!On) (mQ x2 x4 x5 x6 bc (W .i64 (kb+1))) (cond (aM ((List.getD x6.1 kb.toNat df).1) x2) (mQ x2 x4 x5 x6 bc (W .i64 (kb+1))) ((kt N x5.2.2.1).bind λPM=>(vY N x6.2.2.1 (6:Int) ((List.getD x6.1 kb.toNat df).1)).bind λGN=>(kt N GN).bind λLq=>(jY N PM Lq).bind λLr=>(wX N Lr).bind λDa=>cond (!Da.2) (some ([],(2:Int))) (cond (aS 0 Da.1) (cond (small (List.length bc+List.length ([((8:Int),((7:Int),((List.getD x6.1 kb.toNat df).1,(Da.1,((0:Int),())))))]))) (mQ x2 x4 x5 x6 (bc++([((8:Int),((7:Int),((List.getD x6.1 kb.toNat df).1,(Da.1,((0:Int),())))))])) (W .i64 (kb+1))) (none)) (mQ x2 x4 x5 x6 bc (W .i64 (kb+1))))))) (none)) (Yf x2 x4 x6 bc (0:Int))
def cG.HT(N:Nat):Nat→cG.uF
 |0,_,_,_,_,_,_=>none
 |n+1,x2,x4,x5,x6,bc,kb=>cG.NU N (cG.Nk N N) (cG.HT N n) x2 x4 x5 x6 bc kb
def cG.nK(N:Nat)(A9:cG.jQ)(Ym:cG.uF)(iW:cG.gO)(x2:Int)(x3:aG)(x4:aG)(x5:ag)(x6:aq)(bc:bL)(ca:Int):Option (bL×(Int)):=
 cond (c0 ca 4) ((rS N x5 x6 x3 x2 ca).bind λpG=>A9 x2 x3 x4 x5 x6 bc ca pG.1 (0:Int)) (Ym x2 x4 x5 x6 bc (0:Int))
def cG.m5(N:Nat):Nat→cG.gO
 |0,_,_,_,_,_,_,_=>none
 |n+1,x2,x3,x4,x5,x6,bc,ca=>cG.nK N (cG.sQ N (cG.m5 N n) N) (cG.HT N N) (cG.m5 N n) x2 x3 x4 x5 x6 bc ca
def cG.M7(N:Nat)(uE:cG.gO)(x2:Int)(x3:aG)(x4:aG)(x5:ag)(x6:aq)(bc:bL):Option (bL×(Int)):=
 (KR N bc x6 (2:Int) (6:Int) x2).bind λr8=>(KR N r8 x6 (3:Int) (3:Int) (0:Int)).bind λr9=>uE x2 x3 x4 x5 x6 r9 (1:Int)
def cG.j9(N:Nat)(x2:Int)(x3:aG)(x4:aG)(x5:ag)(x6:aq)(bc:bL):Option (bL×(Int)):=cG.M7 N (cG.m5 N N) x2 x3 x4 x5 x6 bc
def cG.b(N:Nat)(GY:cG.Rb)(a0:ag)(a1:aq)(a2:Int)(a3:aG)(a4:aG):Option (bL×(Int)):=
 (cE N a0 a1).bind λr1=>cond (!r1) (some ([],(1:Int))) ((py N a3).bind λr2=>cond (!r2) (some ([],(1:Int))) ((qk N a4).bind λr3=>cond (!r3) (some ([],(1:Int))) ((Ax N a1.1 a2).bind λr4=>cond (aM r4 0) (some ([],(3:Int))) ((yX N a1.2.1 a2).bind λr5=>cond (!aM r5 0) ((KR N ([]) a1 (1:Int) (5:Int) r5).bind λr6=>GY a2 a3 a4 a0 a1 r6) (GY a2 a3 a4 a0 a1 ([]))))))
def cG(N:Nat)(a0:ag)(a1:aq)(a2:Int)(a3:aG)(a4:aG):Option (bL×(Int)):=cG.b N (cG.j9 N) a0 a1 a2 a3 a4
def aaN(N:Nat)(a0:ag)(a1:aq):Option ((Int)×(Int)):=
 (cE N a0 a1).bind λr1=>cond (!r1) (some ((0:Int),(1:Int))) ((vY N a1.2.2.1 (2:Int) (0:Int)).bind λr2=>cond (aM r2 (-9223372036854775808)) (some ((0:Int),(2:Int))) (some ((mx (W .i64 (0-r2)) (0:Int)),(0:Int))))
abbrev rT.bI:=bL→Int→Option (Bool)
def rT.dH(N:Nat)(ct:rT.bI)(x0:bL)(x3:Int):Option (Bool):=
 cond (aS x3 (List.length x0:Int)) (cond (aZ x3 (List.length x0)) (cond (aS ((List.getD x0 x3.toNat ny).1) (1:Int)) (some false) (cond (aS 9 ((List.getD x0 x3.toNat ny).1)) (some false) ((Qg N (((List.getD x0 x3.toNat ny).2).1) ((((List.getD x0 x3.toNat ny).2).2).1)).bind λr2=>cond (!r2) (some false) (cond (aS (((((List.getD x0 x3.toNat ny).2).2).2).1) (1:Int)) (some false) (cond (aS ((((((List.getD x0 x3.toNat ny).2).2).2).2).1) (0:Int)) (some false) (cond (aS (((((List.getD x0 x3.toNat ny).2).2).2).1) ((((((List.getD x0 x3.toNat ny).2).2).2).2).1)) (some false) (cond (aS 0 x3) (let v3:Int:=W .i64 (x3-1);cond (aZ v3 (List.length x0)) (cond (aS ((List.getD x0 x3.toNat ny).1) ((List.getD x0 v3.toNat ny).1)) (some false) (let v4:Int:=W .i64 (x3-1);cond (aZ v4 (List.length x0)) (cond (aM ((List.getD x0 x3.toNat ny).1) ((List.getD x0 v4.toNat ny).1)) (let v5:Int:=W .i64 (x3-1);cond (aZ v5 (List.length x0)) (cond (!aM (((List.getD x0 x3.toNat ny).2).1) (((List.getD x0 v5.toNat ny).2).1)) (some false) (let v6:Int:=W .i64 (x3-1);cond (aZ v6 (List.length x0)) (cond (c0 ((((List.getD x0 x3.toNat ny).2).2).1) ((((List.getD x0 v6.toNat ny).2).2).1)) (some false) (ct x0 (W .i64 (x3+1)))) (none))) (none)) (ct x0 (W .i64 (x3+1)))) (none))) (none)) (ct x0 (W .i64 (x3+1)))))))))) (none)) (some true)
def rT.l4(N:Nat):Nat→rT.bI
 |0,_,_=>none
 |n+1,x0,x3=>rT.dH N (rT.l4 N n) x0 x3
def rT.b(N:Nat)(e7:rT.bI)(a0:bL):Option (Bool):=
 cond (aS 64 (List.length a0:Int)) (some false) (e7 a0 (0:Int))
def rT(N:Nat)(a0:bL):Option (Bool):=rT.b N (rT.l4 N N) a0
abbrev dG.sa:=bL→Int→Int→Int→(List (Int))→Int→Option (bL×(Int)×(Int))
abbrev dG.Oj:=bL→Int→Int→Int→(List (Int))→Option (bL×(Int)×(Int))
abbrev dG.jq:=bL→Int→Int→Int→(List (Int))→Option (bL×(Int)×(Int))
abbrev dG.bY:=bL→Int→Int→Option (bL×(Int)×(Int))
def dG.yl(N:Nat)(bV:dG.bY)(Ba:dG.sa)(x7:bL)(x8:Int)(x9:Int)(bg:Int)(ca:List (Int))(ei:Int):Option (bL×(Int)×(Int)):=
 cond (aS ei bg) (let v13:Int:=W .i64 (ei-x9);cond (aZ v13 (List.length ca)) (cond (aZ ei (List.length x7)) (let U5:Int:=W .i64 (ei-x9);cond (aZ U5 (List.length ca)) (Ba (List.set x7 ei.toNat ((List.getD x7 ei.toNat ny).1,(((List.getD x7 ei.toNat ny).2).1,((((List.getD x7 ei.toNat ny).2).2).1,(((((List.getD x7 ei.toNat ny).2).2).2).1,(List.getD ca v13.toNat (0:Int),(((((List.getD x7 ei.toNat ny).2).2).2).2).2)))))) (W .i64 (x8-(List.getD ca U5.toNat (0:Int)))) x9 bg ca (W .i64 (ei+1))) (none)) (none)) (none)) (bV x7 x8 bg)
def dG.AY(N:Nat)(bV:dG.bY):Nat→dG.sa
 |0,_,_,_,_,_,_=>none
 |n+1,x7,x8,x9,bg,ca,ei=>dG.yl N bV (dG.AY N bV n) x7 x8 x9 bg ca ei
def dG.BV(N:Nat)(GR:dG.sa)(bV:dG.bY)(x7:bL)(x8:Int)(x9:Int)(bg:Int)(aV:List (Int)):Option (bL×(Int)×(Int)):=
 (pM N aV).bind λr8=>(wX N r8).bind λr9=>cond (!r9.2) (some ([],(0:Int),(2:Int))) ((fN N (mn r9.1 x8) aV).bind λpG=>cond (!aM pG.2 0) (some ([],(0:Int),pG.2)) (GR x7 x8 x9 bg pG.1 x9))
def dG.Jd(N:Nat)(bV:dG.bY)(x7:bL)(x8:Int)(x9:Int)(bg:Int)(aV:List (Int)):Option (bL×(Int)×(Int)):=dG.BV N (dG.AY N bV N) bV x7 x8 x9 bg aV
def dG.CQ(N:Nat)(Db:dG.Oj)(bV:dG.bY)(fU:dG.jq)(x7:bL)(x8:Int)(x9:Int)(bg:Int)(aV:List (Int)):Option (bL×(Int)×(Int)):=
 cond (aS bg (List.length x7:Int)) (cond (aZ bg (List.length x7)) (cond (aZ x9 (List.length x7)) (cond (aM ((List.getD x7 bg.toNat ny).1) ((List.getD x7 x9.toNat ny).1)) (cond (aZ bg (List.length x7)) (cond (small (List.length aV+List.length ([((((List.getD x7 bg.toNat ny).2).2).2).1]))) (fU x7 x8 x9 (W .i64 (bg+1)) (aV++([((((List.getD x7 bg.toNat ny).2).2).2).1]))) (none)) (none)) (Db x7 x8 x9 bg aV)) (none)) (none)) (Db x7 x8 x9 bg aV)
def dG.l8(N:Nat)(bV:dG.bY):Nat→dG.jq
 |0,_,_,_,_,_=>none
 |n+1,x7,x8,x9,bg,aV=>dG.CQ N (dG.Jd N bV) bV (dG.l8 N bV n) x7 x8 x9 bg aV
def dG.fi(N:Nat)(GZ:dG.jq)(bV:dG.bY)(x7:bL)(x8:Int)(x9:Int):Option (bL×(Int)×(Int)):=
 cond (aS x9 (List.length x7:Int)) (GZ x7 x8 x9 x9 ([])) (some (x7,x8,(0:Int)))
def dG.l5(N:Nat):Nat→dG.bY
 |0,_,_,_=>none
 |n+1,x7,x8,x9=>dG.fi N (dG.l8 N (dG.l5 N n) N) (dG.l5 N n) x7 x8 x9
def dG.b(N:Nat)(gh:dG.bY)(a0:bL)(a1:Int):Option (bL×(Int)×(Int)):=
 (rT N a0).bind λr1=>cond (!r1) (some ([],(0:Int),(1:Int))) (cond (aS a1 0) (some ([],(0:Int),(1:Int))) (cond (small (List.length DZ+List.length a0)) (gh (DZ++a0) a1 (0:Int)) (none)))
def dG(N:Nat)(a0:bL)(a1:Int):Option (bL×(Int)×(Int)):=dG.b N (dG.l5 N N) a0 a1
def aaO(N:Nat)(a0:ag)(a1:aq):Option ((Int)×(Int)):=
 (cE N a0 a1).bind λr1=>cond (!r1) (some ((0:Int),(1:Int))) ((vY N a1.2.2.1 (2:Int) (0:Int)).bind λr2=>some ((mx r2 0),(0:Int)))
abbrev iw.anS:=aq→aq→dT→bE→dT→bL→Int→Int→Int→Option (aq×dT×(Int))
abbrev iw.G1:=Int→ag→aq→aq→dT→bL→Int→bE→dT→bL→Int→Option (aq×dT×(Int))
def iw.aaQ(N:Nat)(x6:aq)(bg:aq)(aV:dT)(kb:bE)(pD:dT)(G6:bL)(x21:Int)(x23:Int)(x24:Int):Option (aq×dT×(Int)):=
 (kt N x21).bind λBh=>(BX N (2:Int) (0:Int) x23 x24 Bh).bind λBi=>cond (small (List.length kb+List.length Bi)) ((A0 N x6 bK (kb++Bi)).bind λOi=>cond (!aM Oi.2 0) (some ((cw,(dh,(bK,(bK,(dV,(eh,())))))),((0:Int),((0:Int),(DZ,((0:Int),())))),Oi.2)) (some (Oi.1,(pD.1,(pD.2.1,(G6,pD.2.2.2))),(0:Int)))) (none)
def iw.j26(N:Nat)(x6:aq)(bg:aq)(aV:dT)(kb:bE)(pD:dT)(G6:bL)(x21:Int)(x23:Int)(x24:Int):Option (aq×dT×(Int)):=iw.aaQ N x6 bg aV kb pD G6 x21 x23 x24
def iw.HN(N:Nat)(agf:iw.anS)(Jx:iw.G1)(x2:Int)(x5:ag)(x6:aq)(bg:aq)(aV:dT)(cf:bL)(eO:Int)(kb:bE)(pD:dT)(G6:bL)(PN:Int):Option (aq×dT×(Int)):=
 cond (aS PN (List.length cf:Int)) (cond (aZ PN (List.length cf)) (cond (aS 0 ((((((List.getD cf PN.toNat ny).2).2).2).2).1)) (cond (aZ PN (List.length cf)) (cond (small (List.length G6+List.length ([List.getD cf PN.toNat ny]))) (cond (aZ PN (List.length cf)) (cond (aZ PN (List.length cf)) (cond (aZ PN (List.length cf)) ((kt N ((((((List.getD cf PN.toNat ny).2).2).2).2).1)).bind λr6=>(BX N (((List.getD cf PN.toNat ny).2).1) ((((List.getD cf PN.toNat ny).2).2).1) (2:Int) (0:Int) r6).bind λr7=>cond (small (List.length kb+List.length r7)) (Jx x2 x5 x6 bg aV cf eO (kb++r7) (pD.1,(pD.2.1,(DZ,pD.2.2.2))) (G6++([List.getD cf PN.toNat ny])) (W .i64 (PN+1))) (none)) (none)) (none)) (none)) (none)) (none)) (Jx x2 x5 x6 bg aV cf eO kb pD G6 (W .i64 (PN+1)))) (none)) ((kt N eO).bind λpG=>(BX N (4:Int) (0:Int) (2:Int) (0:Int) pG).bind λpZ=>cond (small (List.length kb+List.length pZ)) (let v13:List ((Int)×((Int)×(((Bool)×((List (Int))×(Unit)))×(Unit)))):=kb++pZ;(aaO N x5 x6).bind λoh=>(yX N x6.2.1 x2).bind λtu=>cond (!aM tu 0) (agf x6 bg aV v13 pD G6 oh.1 (5:Int) tu) (agf x6 bg aV v13 pD G6 oh.1 (6:Int) x2)) (none))
def iw.IM(N:Nat):Nat→iw.G1
 |0,_,_,_,_,_,_,_,_,_,_,_=>none
 |n+1,x2,x5,x6,bg,aV,cf,eO,kb,pD,G6,PN=>iw.HN N (iw.j26 N) (iw.IM N n) x2 x5 x6 bg aV cf eO kb pD G6 PN
def iw.b(N:Nat)(Yj:iw.G1)(a0:ag)(a1:aq)(a2:Int)(a3:aG)(a4:aG):Option (aq×dT×(Int)):=
 (cG N a0 a1 a2 a3 a4).bind λr1=>cond (aM r1.2 1) (some ((cw,(dh,(bK,(bK,(dV,(eh,())))))),((0:Int),((0:Int),(DZ,((0:Int),())))),r1.2)) (cond (aM r1.2 3) (some ((cw,(dh,(bK,(bK,(dV,(eh,())))))),((0:Int),((0:Int),(DZ,((0:Int),())))),r1.2)) ((aaN N a0 a1).bind λr2=>cond (!aM r2.2 0) (some ((cw,(dh,(bK,(bK,(dV,(eh,())))))),((0:Int),((0:Int),(DZ,((0:Int),())))),r2.2)) (cond (!aM r1.2 0) (some ((cw,(dh,(bK,(bK,(dV,(eh,())))))),((0:Int),((0:Int),(DZ,((0:Int),())))),r1.2)) ((dG N r1.1 r2.1).bind λr3=>cond (!aM r3.2.2 0) (some ((cw,(dh,(bK,(bK,(dV,(eh,())))))),((0:Int),((0:Int),(DZ,((0:Int),())))),r3.2.2)) (Yj a2 a0 a1 (cw,(dh,(bK,(bK,(dV,(eh,())))))) ((0:Int),((0:Int),(DZ,((0:Int),())))) r3.1 r3.2.1 ([]) (a2,(r2.1,(DZ,(r3.2.1,())))) DZ (0:Int))))))
def iw(N:Nat)(a0:ag)(a1:aq)(a2:Int)(a3:aG)(a4:aG):Option (aq×dT×(Int)):=iw.b N (iw.IM N N) a0 a1 a2 a3 a4
abbrev eW.GV:=(List (Int))→(List (Int))→(List (Int))→Int→Int→(List (Int))→Int→Option ((List (Int))×(Int)×(Int))
abbrev eW.gO:=(List (Int))→(List (Int))→(List (Int))→Int→Int→(List (Int))→Bool→Int→Option ((List (Int))×(Int)×(Int))
abbrev eW.jq:=(List (Int))→(List (Int))→(List (Int))→Int→Int→Option ((List (Int))×(Int)×(Int))
def eW.Qs(N:Nat)(fU:eW.jq)(Ye:eW.GV)(x1:List (Int))(x2:List (Int))(aV:List (Int))(bc:Int)(cf:Int)(eO:List (Int))(pD:Int):Option ((List (Int))×(Int)×(Int)):=
 cond (aS pD (List.length x1:Int)) (cond (aZ pD (List.length eO)) (cond (aZ pD (List.length x2)) (cond (aZ pD (List.length aV)) (let Yh:Int:=mn (List.getD eO pD.toNat (0:Int)) (W .i64 ((List.getD x2 pD.toNat (0:Int))-(List.getD aV pD.toNat (0:Int))));cond (aZ pD (List.length aV)) (cond (aZ pD (List.length aV)) (Ye x1 x2 (List.set aV pD.toNat (W .i64 ((List.getD aV pD.toNat (0:Int))+Yh))) (W .i64 (bc-Yh)) cf eO (W .i64 (pD+1))) (none)) (none)) (none)) (none)) (none)) (fU x1 x2 aV bc (W .i64 (cf+1)))
def eW.TP(N:Nat)(fU:eW.jq):Nat→eW.GV
 |0,_,_,_,_,_,_,_=>none
 |n+1,x1,x2,aV,bc,cf,eO,pD=>eW.Qs N fU (eW.TP N fU n) x1 x2 aV bc cf eO pD
def eW.nK(N:Nat)(Yg:eW.GV)(fU:eW.jq)(iW:eW.gO)(x1:List (Int))(x2:List (Int))(aV:List (Int))(bc:Int)(cf:Int)(ca:List (Int))(dg:Bool)(ei:Int):Option ((List (Int))×(Int)×(Int)):=
 cond (aS ei (List.length x1:Int)) (cond (aZ ei (List.length x1)) (cond (aS 0 (List.getD x1 ei.toNat (0:Int))) (cond (aZ ei (List.length aV)) (cond (aZ ei (List.length x2)) (cond (aS (List.getD aV ei.toNat (0:Int)) (List.getD x2 ei.toNat (0:Int))) (cond (aZ ei (List.length x1)) (cond (aZ ei (List.length ca)) (iW x1 x2 aV bc cf (List.set ca ei.toNat (List.getD x1 ei.toNat (0:Int))) true (W .i64 (ei+1))) (none)) (none)) (iW x1 x2 aV bc cf ca dg (W .i64 (ei+1)))) (none)) (none)) (iW x1 x2 aV bc cf ca dg (W .i64 (ei+1)))) (none)) (cond (aM bc 0) (some (aV,bc,(0:Int))) (cond (!dg) (some (aV,bc,(0:Int))) ((fN N bc ca).bind λsv=>Yg x1 x2 aV bc cf sv.1 (0:Int))))
def eW.m5(N:Nat)(fU:eW.jq):Nat→eW.gO
 |0,_,_,_,_,_,_,_,_=>none
 |n+1,x1,x2,aV,bc,cf,ca,dg,ei=>eW.nK N (eW.TP N fU N) fU (eW.m5 N fU n) x1 x2 aV bc cf ca dg ei
def eW.CQ(N:Nat)(uE:eW.gO)(fU:eW.jq)(x1:List (Int))(x2:List (Int))(aV:List (Int))(bc:Int)(cf:Int):Option ((List (Int))×(Int)×(Int)):=
 cond (c0 cf (List.length x1:Int)) (cond (gI (List.length x1:Int) (List.length x1:Int)) (uE x1 x2 aV bc cf (List.replicate (List.length x1:Int).toNat (0:Int)) false (0:Int)) (none)) (some (aV,bc,(0:Int)))
def eW.l8(N:Nat):Nat→eW.jq
 |0,_,_,_,_,_=>none
 |n+1,x1,x2,aV,bc,cf=>eW.CQ N (eW.m5 N (eW.l8 N n) N) (eW.l8 N n) x1 x2 aV bc cf
def eW.b(N:Nat)(GZ:eW.jq)(a0:Int)(a1:List (Int))(a2:List (Int)):Option ((List (Int))×(Int)×(Int)):=
 (pR N a0 a1).bind λr1=>cond (r1) (some ([],(0:Int),(1:Int))) (cond (!aM (List.length a2:Int) (List.length a1:Int)) (some ([],(0:Int),(1:Int))) ((pR N (0:Int) a2).bind λr2=>cond (r2) (some ([],(0:Int),(1:Int))) ((pM N a1).bind λr3=>(wX N r3).bind λr4=>cond (!r4.2) (some ([],(0:Int),(2:Int))) (cond (gI (List.length a1:Int) (List.length a1:Int)) (GZ a1 a2 (List.replicate (List.length a1:Int).toNat (0:Int)) a0 (0:Int)) (none)))))
def eW(N:Nat)(a0:Int)(a1:List (Int))(a2:List (Int)):Option ((List (Int))×(Int)×(Int)):=eW.b N (eW.l8 N N) a0 a1 a2
abbrev oK.xm:=Int→Int→(List (Int))→(List (Int))→au→Int→Option (au×(Int))
abbrev oK.sb:=Int→aq→Int→(List (Int))→(List (Int))→Int→Option (au×(Int))
def oK.AT(N:Nat)(xn:oK.xm)(x2:Int)(x8:Int)(x9:List (Int))(cf:List (Int))(ei:au)(eO:Int):Option (au×(Int)):=
 cond (aS eO (List.length cf:Int)) (cond (aZ eO (List.length cf)) (cond (aS x8 0) (let YY:Int:=W .i64 (0-(List.getD cf eO.toNat (0:Int)));cond (!aM YY 0) (cond (aZ eO (List.length x9)) (cond (small (List.length ei+List.length ([(List.getD x9 eO.toNat (0:Int),(x2,(YY,())))]))) (xn x2 x8 x9 cf (ei++([(List.getD x9 eO.toNat (0:Int),(x2,(YY,())))])) (W .i64 (eO+1))) (none)) (none)) (xn x2 x8 x9 cf ei (W .i64 (eO+1)))) (cond (!aM (List.getD cf eO.toNat (0:Int)) (0:Int)) (cond (aZ eO (List.length x9)) (cond (small (List.length ei+List.length ([(List.getD x9 eO.toNat (0:Int),(x2,(List.getD cf eO.toNat (0:Int),())))]))) (xn x2 x8 x9 cf (ei++([(List.getD x9 eO.toNat (0:Int),(x2,(List.getD cf eO.toNat (0:Int),())))])) (W .i64 (eO+1))) (none)) (none)) (xn x2 x8 x9 cf ei (W .i64 (eO+1))))) (none)) (some (ei,(0:Int)))
def oK.y5(N:Nat):Nat→oK.xm
 |0,_,_,_,_,_,_=>none
 |n+1,x2,x8,x9,cf,ei,eO=>oK.AT N (oK.y5 N n) x2 x8 x9 cf ei eO
def oK.uv(N:Nat)(Of:oK.xm)(s4:oK.sb)(x2:Int)(x4:aq)(x8:Int)(x9:List (Int))(bg:List (Int))(aV:Int):Option (au×(Int)):=
 cond (aS aV (List.length x4.2.2.2.1:Int)) (cond (aZ aV (List.length x4.2.2.2.1)) (cond (!aM ((List.getD x4.2.2.2.1 aV.toNat bf).1) (0:Int)) (cond (aM (((List.getD x4.2.2.2.1 aV.toNat bf).2).1) x2) (cond (!(oR .bool (aS 0 ((((List.getD x4.2.2.2.1 aV.toNat bf).2).2).1)) (aS 0 x8))) (cond (small (List.length x9+List.length ([(List.getD x4.2.2.2.1 aV.toNat bf).1]))) (let v6:Int:=mx ((((List.getD x4.2.2.2.1 aV.toNat bf).2).2).1) (W .i64 (0-((((List.getD x4.2.2.2.1 aV.toNat bf).2).2).1)));cond (small (List.length bg+List.length ([v6]))) (s4 x2 x4 x8 (x9++([(List.getD x4.2.2.2.1 aV.toNat bf).1])) (bg++([v6])) (W .i64 (aV+1))) (none)) (none)) (s4 x2 x4 x8 x9 bg (W .i64 (aV+1)))) (s4 x2 x4 x8 x9 bg (W .i64 (aV+1)))) (s4 x2 x4 x8 x9 bg (W .i64 (aV+1)))) (none)) ((eW N (mx x8 (W .i64 (0-x8))) bg bg).bind λoh=>cond (!aM oh.2.2 0) (some ([],oh.2.2)) (Of x2 x8 x9 oh.1 ([((0:Int),(x2,((W .i64 (0-x8)),())))]) (0:Int)))
def oK.xi(N:Nat):Nat→oK.sb
 |0,_,_,_,_,_,_=>none
 |n+1,x2,x4,x8,x9,bg,aV=>oK.uv N (oK.y5 N N) (oK.xi N n) x2 x4 x8 x9 bg aV
def oK.b(N:Nat)(GU:oK.sb)(a0:ag)(a1:aq)(a2:Int):Option (au×(Int)):=
 (cE N a0 a1).bind λr1=>cond (!r1) (some ([],(1:Int))) (cond (aS a2 0) (some ([],(3:Int))) (cond (c0 (List.length a0.1:Int) a2) (some ([],(3:Int))) ((AN N a1.2.2.2.1 (0:Int) a2).bind λr2=>cond (aM r2 0) (some ([],(0:Int))) (GU a2 a1 r2 ([]) ([]) (0:Int)))))
def oK(N:Nat)(a0:ag)(a1:aq)(a2:Int):Option (au×(Int)):=oK.b N (oK.xi N N) a0 a1 a2
abbrev A4.bY:=ag→aq→aq→au→Int→Option (aq×(Int))
def A4.fi(N:Nat)(bV:A4.bY)(x2:ag)(x3:aq)(x4:aq)(x6:au)(x7:Int):Option (aq×(Int)):=
 cond (aS x7 (List.length x2.1:Int)) ((oK N x2 x3 x7).bind λr3=>cond (!aM r3.2 0) (some ((cw,(dh,(bK,(bK,(dV,(eh,())))))),r3.2)) (cond (small (List.length x6+List.length r3.1)) (bV x2 x3 x4 (x6++r3.1) (W .i64 (x7+1))) (none))) ((A0 N x3 x6 ([]:List ((Int)×((Int)×(((Bool)×((List (Int))×(Unit)))×(Unit)))))).bind λr6=>some (r6.1,r6.2))
def A4.l5(N:Nat):Nat→A4.bY
 |0,_,_,_,_,_=>none
 |n+1,x2,x3,x4,x6,x7=>A4.fi N (A4.l5 N n) x2 x3 x4 x6 x7
def A4.b(N:Nat)(gh:A4.bY)(a0:ag)(a1:aq):Option (aq×(Int)):=
 (cE N a0 a1).bind λr1=>cond (!r1) (some ((cw,(dh,(bK,(bK,(dV,(eh,())))))),(1:Int))) (gh a0 a1 (cw,(dh,(bK,(bK,(dV,(eh,())))))) ([]) (0:Int))
def A4(N:Nat)(a0:ag)(a1:aq):Option (aq×(Int)):=A4.b N (A4.l5 N N) a0 a1
abbrev oa.Yn:=aU→aU→dd→bz→Int→Int→Option (aU×dd)
def oa.aaV(N:Nat)(agh:oa.Yn)(x4:aU)(x6:aU)(x7:dd)(ca:bz)(ei:Int)(eO:Int):Option (aU×dd):=
 cond (aS eO (List.length ca:Int)) (cond (aZ eO (List.length ca)) (cond (aM (((((List.getD ca eO.toNat ((0:Int),(cw,a7))).2).2).2).1) (2:Int)) (agh x4 x6 x7 ca (W .i64 (ei+1)) (W .i64 (eO+1))) (agh x4 x6 x7 ca ei (W .i64 (eO+1)))) (none)) (some (x4,((0:Int),(ei,((0:Int),())))))
def oa.l41(N:Nat):Nat→oa.Yn
 |0,_,_,_,_,_,_=>none
 |n+1,x4,x6,x7,ca,ei,eO=>oa.aaV N (oa.l41 N n) x4 x6 x7 ca ei eO
def oa.b(N:Nat)(anT:oa.Yn)(a0:ag)(a1:aU)(a2:ia):Option (aU×dd):=
 cond (aM a2.1 14) ((Ud N a0 a1.2.2.1 a1.2.2.2.1.1 a2.2.1 a2.2.2.1).bind λr1=>(fF N r1.2).bind λr2=>some ((a1.1,(a1.2.1,(r1.1,a1.2.2.2))),r2)) (cond (aM a2.1 15) ((gF N a0 a1.2.2.1 a1.2.2.2.1.1).bind λr3=>(fF N r3.2).bind λr4=>some ((a1.1,(a1.2.1,(r3.1,((a1.2.2.2.1.1,((2:Int),((0:Int),a1.2.2.2.1.2.2.2))),a1.2.2.2.2)))),r4)) (cond (aM a2.1 16) ((vq N a0 a1.2.2.1 a1.2.1).bind λr5=>some ((a1.1,((W .i64 (a1.2.1+(List.length r5.1:Int))),(a1.2.2.1,((a1.2.2.2.1.1,(a1.2.2.2.1.2.1,(a1.2.2.2.1.2.2.1,(a1.2.2.2.1.2.2.2.1,(r5.1,a1.2.2.2.1.2.2.2.2.2))))),a1.2.2.2.2)))),(r5.2,((List.length r5.1:Int),((0:Int),()))))) (cond (aM a2.1 17) ((n7 N a0 a1 a2).bind λr7=>some (r7.1,r7.2)) (cond (aM a2.1 18) (cond (aM a1.2.2.2.1.2.2.2.1 3) ((fF N (5:Int)).bind λr8=>some (a1,r8)) ((eI N a0 a1.2.2.1 a1.2.1).bind λr9=>cond (!aM r9.2 0) ((fF N r9.2).bind λm7=>some (a1,m7)) ((Un N a1 a0.2.2.2.2.1).bind λpG=>cond (!pG.2) ((fF N (2:Int)).bind λpZ=>some (a1,pZ)) ((rP N a0 a1.2.2.1).bind λoh=>some ((a1.1,((W .i64 (a1.2.1+(List.length r9.1:Int))),(a1.2.2.1,((a1.2.2.2.1.1,((3:Int),(pG.1,((W .i64 (a1.2.2.2.1.2.2.2.1+1)),(dh,(r9.1,(dh,(oh.1,a1.2.2.2.1.2.2.2.2.2.2.2.2)))))))),a1.2.2.2.2)))),((0:Int),((List.length r9.1:Int),((0:Int),())))))))) (cond (aM a2.1 19) ((aaM N a0 a1.2.2.1 a1.2.2.2.1.2.2.2.2.2.1 a1.2.2.2.1.2.2.2.2.2.2.1 (a1.2.1,(a2.2.2.2.2.2.1,(a2.2.1,(a2.2.2.2.2.2.2.2.1,()))))).bind λCc=>let YY:Int:=W .i64 (a1.2.1+1);some ((a1.1,(YY,(a1.2.2.1,((a1.2.2.2.1.1,(a1.2.2.2.1.2.1,(a1.2.2.2.1.2.2.1,(a1.2.2.2.1.2.2.2.1,(a1.2.2.2.1.2.2.2.2.1,(a1.2.2.2.1.2.2.2.2.2.1,(Cc.1,a1.2.2.2.1.2.2.2.2.2.2.2))))))),a1.2.2.2.2)))),(Cc.2,((W .i64 (YY-1)),((0:Int),()))))) (cond (aM a2.1 20) ((oZ N a0 a1.2.2.1 a1.2.2.2.1.2.2.2.2.2.1 a1.2.2.2.1.2.2.2.2.2.2.1).bind λOn=>cond (!aM On.2.2 0) ((fF N On.2.2).bind λOi=>some (a1,Oi)) ((dA N a0 a1.2.2.2.1.2.2.2.2.2.2.2.2.1 a1.2.2.2.1.2.2.2.2.2.2.2.1 On.2.1 a1.2.2.2.1.2.2.2.2.2.2.1).bind λPK=>anT (a1.1,(a1.2.1,(On.1,((a1.2.2.2.1.1,((2:Int),((0:Int),(a1.2.2.2.1.2.2.2.1,(a1.2.2.2.1.2.2.2.2.1,(On.2.1,(a1.2.2.2.1.2.2.2.2.2.2.1,(a1.2.2.2.1.2.2.2.2.2.2.2.1,(PK.1,a1.2.2.2.1.2.2.2.2.2.2.2.2.2))))))))),a1.2.2.2.2)))) ((0:Int),((0:Int),((cw,(dh,(bK,(bK,(dV,(eh,())))))),(((0:Int),((0:Int),((0:Int),((0:Int),(dh,(([]:List ((Int)×((List ((Int)×((Int)×(Unit))))×((Int)×((Int)×((Int)×((Int)×(Unit)))))))),(dh,(dV,(cw,(cw,())))))))))),(((0:Int),((0:Int),(DZ,((0:Int),())))),()))))) bf On.2.1 (0:Int) (0:Int))) (cond (aM a2.1 21) ((iw N a0 a1.2.2.1 a1.2.2.2.1.1 a1.2.2.2.1.2.2.2.2.2.2.2.2.1 a1.2.2.2.1.2.2.2.2.2.2.2.2.2.1).bind λDa=>cond (!aM Da.2.2 0) ((fF N Da.2.2).bind λUO=>some (a1,UO)) ((A4 N a0 Da.1).bind λr28=>cond (!aM r28.2 0) ((fF N r28.2).bind λJv=>some (a1,Jv)) ((lU N r28.1.1 a1.2.2.2.1.1 a2.1).bind λRa=>some ((a1.1,(a1.2.1,((Ra.1,r28.1.2),(((0:Int),((0:Int),((0:Int),((0:Int),(dh,(([]:List ((Int)×((List ((Int)×((Int)×(Unit))))×((Int)×((Int)×((Int)×((Int)×(Unit)))))))),(dh,(dV,(cw,(cw,())))))))))),(Da.2.1,a1.2.2.2.2.2))))),(Ra.2,((0:Int),(Da.2.1.2.1,()))))))) ((fF N (0:Int)).bind λSK=>some (a1,SK)))))))))
def oa(N:Nat)(a0:ag)(a1:aU)(a2:ia):Option (aU×dd):=oa.b N (oa.l41 N N) a0 a1 a2
abbrev pV.Yl:=ag→aU→ia→aU→dd→Option (aU×dd)
def pV.NV(N:Nat)(x3:ag)(x4:aU)(x5:ia)(x6:aU)(x7:dd):Option (aU×dd):=
 (aaW N x4 x5.1).bind λUO=>cond (!UO) ((fF N (6:Int)).bind λr28=>some (x4,r28)) ((oa N x3 x4 x5).bind λJv=>some (Jv.1,Jv.2))
def pV.Uh(N:Nat)(x3:ag)(x4:aU)(x5:ia)(x6:aU)(x7:dd):Option (aU×dd):=pV.NV N x3 x4 x5 x6 x7
def pV.b(N:Nat)(Oo:pV.Yl)(a0:ag)(a1:aU)(a2:ia):Option (aU×dd):=
 cond (aM a2.1 11) ((lU N a1.2.2.1.1 a2.2.1 a2.1).bind λr1=>cond (aM r1.2 0) (cond (aM a2.1 11) ((KL N a0 (r1.1,a1.2.2.1.2) a2.2.1).bind λr2=>cond (aM a1.2.2.2.1.2.1 3) ((px N a1.2.2.2.1.2.2.2.2.2.2.1 a2.2.1).bind λr3=>(fF N r1.2).bind λr4=>some ((a1.1,(a1.2.1,(r2.1,((a1.2.2.2.1.1,(a1.2.2.2.1.2.1,(a1.2.2.2.1.2.2.1,(a1.2.2.2.1.2.2.2.1,(a1.2.2.2.1.2.2.2.2.1,(a1.2.2.2.1.2.2.2.2.2.1,(r3,a1.2.2.2.1.2.2.2.2.2.2.2))))))),a1.2.2.2.2)))),r4)) ((fF N r1.2).bind λr5=>some ((a1.1,(a1.2.1,(r2.1,a1.2.2.2))),r5))) ((fF N r1.2).bind λr6=>some ((a1.1,(a1.2.1,((r1.1,a1.2.2.1.2),a1.2.2.2))),r6))) ((fF N r1.2).bind λr7=>some ((a1.1,(a1.2.1,((r1.1,a1.2.2.1.2),a1.2.2.2))),r7))) (cond (aM a2.1 12) ((lU N a1.2.2.1.1 a2.2.1 a2.1).bind λr8=>cond (aM r8.2 0) (cond (aM a2.1 11) ((KL N a0 (r8.1,a1.2.2.1.2) a2.2.1).bind λr9=>cond (aM a1.2.2.2.1.2.1 3) ((px N a1.2.2.2.1.2.2.2.2.2.2.1 a2.2.1).bind λm7=>(fF N r8.2).bind λpG=>some ((a1.1,(a1.2.1,(r9.1,((a1.2.2.2.1.1,(a1.2.2.2.1.2.1,(a1.2.2.2.1.2.2.1,(a1.2.2.2.1.2.2.2.1,(a1.2.2.2.1.2.2.2.2.1,(a1.2.2.2.1.2.2.2.2.2.1,(m7,a1.2.2.2.1.2.2.2.2.2.2.2))))))),a1.2.2.2.2)))),pG)) ((fF N r8.2).bind λpZ=>some ((a1.1,(a1.2.1,(r9.1,a1.2.2.2))),pZ))) ((fF N r8.2).bind λsv=>some ((a1.1,(a1.2.1,((r8.1,a1.2.2.1.2),a1.2.2.2))),sv))) ((fF N r8.2).bind λoh=>some ((a1.1,(a1.2.1,((r8.1,a1.2.2.1.2),a1.2.2.2))),oh))) (cond (aM a2.1 13) ((Gm N a1 a2.2.1).bind λtu=>cond (aM tu 0) ((fF N (3:Int)).bind λCc=>some (a1,Cc)) (cond (!aM a1.2.2.2.1.2.1 0) ((fF N (6:Int)).bind λBh=>some (a1,Bh)) ((lU N a1.2.2.1.1 a2.2.1 a2.1).bind λBi=>cond (!aM Bi.2 0) ((fF N Bi.2).bind λOn=>some ((a1.1,(a1.2.1,((Bi.1,a1.2.2.1.2),a1.2.2.2))),On)) ((Un N (a1.1,(a1.2.1,((Bi.1,a1.2.2.1.2),a1.2.2.2))) a0.2.2.2.1).bind λOi=>cond (!Oi.2) ((fF N (2:Int)).bind λPK=>some ((a1.1,(a1.2.1,((Bi.1,a1.2.2.1.2),a1.2.2.2))),PK)) (some ((a1.1,(a1.2.1,((Bi.1,a1.2.2.1.2),((a2.2.1,((1:Int),(Oi.1,((0:Int),(dh,(([]:List ((Int)×((List ((Int)×((Int)×(Unit))))×((Int)×((Int)×((Int)×((Int)×(Unit)))))))),(dh,(dV,(cw,(cw,())))))))))),a1.2.2.2.2)))),bf)))))) (cond (aM a2.1 19) ((Gm N a1 a2.2.1).bind λPM=>cond (aM PM 0) ((fF N (3:Int)).bind λGN=>some (a1,GN)) ((Gm N a1 a2.2.1).bind λLq=>cond (!aM Lq 1) ((fF N (7:Int)).bind λLr=>some (a1,Lr)) (Oo a0 a1 a2 ((0:Int),((0:Int),((cw,(dh,(bK,(bK,(dV,(eh,())))))),(((0:Int),((0:Int),((0:Int),((0:Int),(dh,(([]:List ((Int)×((List ((Int)×((Int)×(Unit))))×((Int)×((Int)×((Int)×((Int)×(Unit)))))))),(dh,(dV,(cw,(cw,())))))))))),(((0:Int),((0:Int),(DZ,((0:Int),())))),()))))) bf))) (Oo a0 a1 a2 ((0:Int),((0:Int),((cw,(dh,(bK,(bK,(dV,(eh,())))))),(((0:Int),((0:Int),((0:Int),((0:Int),(dh,(([]:List ((Int)×((List ((Int)×((Int)×(Unit))))×((Int)×((Int)×((Int)×((Int)×(Unit)))))))),(dh,(dV,(cw,(cw,())))))))))),(((0:Int),((0:Int),(DZ,((0:Int),())))),()))))) bf))))
def pV(N:Nat)(a0:ag)(a1:aU)(a2:ia):Option (aU×dd):=pV.b N (pV.Uh N) a0 a1 a2
def Up(N:Nat)(a0:ag)(a1:aU)(a2:ia):Option (aU×dd):=
 cond (aM a2.1 1) ((iv N a1.2.2.1.1 a2.2.1).bind λr1=>(fF N r1.2).bind λr2=>some ((a1.1,(a1.2.1,((r1.1,a1.2.2.1.2),a1.2.2.2))),r2)) (cond (aM a2.1 2) ((fm N a1.2.2.1.1 a1.2.2.1.2.1 (a2.2.2.1,(a2.2.1,(a2.2.2.2.2.1,((0:Int),()))))).bind λr3=>(fF N r3.2).bind λr4=>some ((a1.1,(a1.2.1,((a1.2.2.1.1,(r3.1,a1.2.2.1.2.2)),a1.2.2.2))),r4)) (cond (aM a2.1 3) ((QQ N a1 a2.2.2.1).bind λr5=>cond (!r5) ((fF N (3:Int)).bind λr6=>some (a1,r6)) ((N1 N a1 (1:Int) (0:Int) (5:Int) a2.2.2.1 a2.2.2.2.2.2.2.1).bind λr7=>some (r7.1,r7.2))) (cond (aM a2.1 4) ((Uc N a0 a1.2.2.1 a2.2.2.1 a2.2.2.2.2.2.2.1).bind λr8=>(fF N r8.2).bind λr9=>some ((a1.1,(a1.2.1,(r8.1,a1.2.2.2))),r9)) (cond (aM a2.1 5) ((Gm N a1 a2.2.1).bind λm7=>cond (aM m7 0) ((fF N (3:Int)).bind λpG=>some (a1,pG)) ((Gm N a1 a2.2.1).bind λpZ=>cond (!aM pZ 1) ((fF N (7:Int)).bind λsv=>some (a1,sv)) ((N1 N a1 (1:Int) (0:Int) (6:Int) a2.2.1 a2.2.2.2.2.2.2.1).bind λoh=>some (oh.1,oh.2)))) (cond (aM a2.1 22) ((Gm N a1 a2.2.1).bind λtu=>cond (aM tu 0) ((fF N (3:Int)).bind λCc=>some (a1,Cc)) ((vY N a1.2.2.1.2.2.1 (7:Int) a2.2.1).bind λBh=>(kt N Bh).bind λBi=>(U3 N Bi).bind λOn=>(kt N a2.2.2.2.2.2.2.1).bind λOi=>(PH N Oi On).bind λPK=>cond (aS 0 PK) ((fF N (9:Int)).bind λPM=>some (a1,PM)) ((N1 N a1 (1:Int) (0:Int) (7:Int) a2.2.1 a2.2.2.2.2.2.2.1).bind λGN=>some (GN.1,GN.2)))) (cond (aM a2.1 6) ((nY N a1.2.2.1.2.1 a2.2.2.1 a2.2.2.2.2.2.2.1).bind λLq=>(fF N Lq.2).bind λLr=>some ((a1.1,(a1.2.1,((a1.2.2.1.1,(Lq.1,a1.2.2.1.2.2)),a1.2.2.2))),Lr)) (cond (aM a2.1 7) ((jm N a0 a1.2.2.1 (a1.2.1,(a2.2.2.1,(a2.2.2.2.1,(a2.2.2.2.2.1,(a2.2.2.2.2.2.2.1,(a2.2.2.2.2.2.2.2.1,()))))))).bind λDa=>let v27:Int:=W .i64 (a1.2.1+1);some ((a1.1,(v27,(Da.1,a1.2.2.2))),(Da.2.2.2,((W .i64 (v27-1)),((W .i64 (a2.2.2.2.2.2.2.1-Da.2.2.1)),()))))) (cond (aM a2.1 8) ((QQ N a1 a2.2.2.1).bind λRa=>cond (!Ra) ((fF N (3:Int)).bind λSK=>some (a1,SK)) ((n0 N a1.2.2.1.2.2.2.2.2.1 a2.2.2.1 a2.2.2.2.2.2.1).bind λr32=>(fF N r32.2).bind λr33=>some ((a1.1,(a1.2.1,((a1.2.2.1.1,(a1.2.2.1.2.1,(a1.2.2.1.2.2.1,(a1.2.2.1.2.2.2.1,(a1.2.2.1.2.2.2.2.1,(r32.1,a1.2.2.1.2.2.2.2.2.2)))))),a1.2.2.2))),r33))) (cond (aM a2.1 9) ((Ub N a0 a1.2.2.1 a2.2.2.2.1 a2.2.2.2.2.2.2.2.1).bind λYd=>cond (aM Yd.2.2 0) (cond (!aM a1.2.2.2.1.2.1 0) ((e8 N a1.2.2.2.1.2.2.2.2.2.2.2.2.2.1 Yd.2.1).bind λr35=>(fF N r35.2).bind λr36=>some ((a1.1,(a1.2.1,(Yd.1,((a1.2.2.2.1.1,(a1.2.2.2.1.2.1,(a1.2.2.2.1.2.2.1,(a1.2.2.2.1.2.2.2.1,(a1.2.2.2.1.2.2.2.2.1,(a1.2.2.2.1.2.2.2.2.2.1,(a1.2.2.2.1.2.2.2.2.2.2.1,(a1.2.2.2.1.2.2.2.2.2.2.2.1,(a1.2.2.2.1.2.2.2.2.2.2.2.2.1,(r35.1,a1.2.2.2.1.2.2.2.2.2.2.2.2.2.2)))))))))),a1.2.2.2.2)))),r36)) ((fF N Yd.2.2).bind λr37=>some ((a1.1,(a1.2.1,(Yd.1,a1.2.2.2))),r37))) ((fF N Yd.2.2).bind λr38=>some ((a1.1,(a1.2.1,(Yd.1,a1.2.2.2))),r38))) (cond (aM a2.1 10) ((Un N a1 a2.2.2.2.2.2.2.1).bind λr39=>cond (!r39.2) ((fF N (2:Int)).bind λr40=>some (a1,r40)) (some ((r39.1,a1.2),bf))) ((pV N a0 a1 a2).bind λr41=>some (r41.1,r41.2))))))))))))
def Ur(N:Nat)(a0:ag)(a1:aU)(a2:ia):Option (aU×dd):=
 (my N a0).bind λr1=>cond (!r1) (some (a1,((1:Int),df))) ((rM N a2).bind λr2=>cond (!r2) (some (a1,((1:Int),df))) ((Up N a0 a1 a2).bind λr3=>cond (!aM r3.2.1 0) (some (a1,(r3.2.1,df))) (some (r3.1,r3.2))))
abbrev GG.iV:=jE→ag→aU→aU→au→Int→Option (aU×au)
def GG.tb(N:Nat)(jG:GG.iV)(x1:jE)(x2:ag)(x4:aU)(x6:aU)(x8:au)(x9:Int):Option (aU×au):=
 cond (aS x9 (List.length x1:Int)) (cond (aZ x9 (List.length x1)) ((Ur N x2 x6 (List.getD x1 x9.toNat zz8)).bind λr3=>cond (small (List.length x8+List.length ([r3.2]))) (jG x1 x2 x4 r3.1 (x8++([r3.2])) (W .i64 (x9+1))) (none)) (none)) (some (x6,x8))
def GG.l6(N:Nat):Nat→GG.iV
 |0,_,_,_,_,_,_=>none
 |n+1,x1,x2,x4,x6,x8,x9=>GG.tb N (GG.l6 N n) x1 x2 x4 x6 x8 x9
def GG.b(N:Nat)(vy:GG.iV)(a0:ag)(a1:jE):Option (aU×au):=
 (aij N a0).bind λr1=>cond (!aM r1.2 0) (some (((0:Int),((0:Int),((cw,(dh,(bK,(bK,(dV,(eh,())))))),(((0:Int),((0:Int),((0:Int),((0:Int),(dh,(([]:List ((Int)×((List ((Int)×((Int)×(Unit))))×((Int)×((Int)×((Int)×((Int)×(Unit)))))))),(dh,(dV,(cw,(cw,())))))))))),(((0:Int),((0:Int),(DZ,((0:Int),())))),()))))),[])) (vy a1 a0 ((0:Int),((0:Int),((cw,(dh,(bK,(bK,(dV,(eh,())))))),(((0:Int),((0:Int),((0:Int),((0:Int),(dh,(([]:List ((Int)×((List ((Int)×((Int)×(Unit))))×((Int)×((Int)×((Int)×((Int)×(Unit)))))))),(dh,(dV,(cw,(cw,())))))))))),(((0:Int),((0:Int),(DZ,((0:Int),())))),()))))) r1.1 ([]) (0:Int))
def GG(N:Nat)(a0:ag)(a1:jE):Option (aU×au):=GG.b N (GG.l6 N N) a0 a1
def F28(N:Nat)(a0:bb)(a1:ag)(a2:Int):Option (aU×bb):=
 (Ei N a0 a1 a2).bind λr1=>(tj N r1.2 (2:Int)).bind λr2=>let v3:Int:=W .i64 ((1:Int)+r2.1);cond (small (List.length r1.1+List.length ([((11:Int),(v3,fy)),((13:Int),(v3,fy))]))) (let v4:List ((Int)×((Int)×((Int)×((Int)×((Int)×((Int)×((Int)×((Int)×(Unit))))))))):=r1.1++([((11:Int),(v3,fy)),((13:Int),(v3,fy))]);(DN N r2.2 a1).bind λr5=>cond (small (List.length v4+List.length r5.1)) (let v6:List ((Int)×((Int)×((Int)×((Int)×((Int)×((Int)×((Int)×((Int)×(Unit))))))))):=v4++r5.1;cond (small (List.length v6+List.length ([((10:Int),((0:Int),((0:Int),((0:Int),((0:Int),((0:Int),((2:Int),((0:Int),())))))))),((15:Int),zz7)]))) (let v7:List ((Int)×((Int)×((Int)×((Int)×((Int)×((Int)×((Int)×((Int)×(Unit))))))))):=v6++([((10:Int),((0:Int),((0:Int),((0:Int),((0:Int),((0:Int),((2:Int),((0:Int),())))))))),((15:Int),zz7)]);(DN N r5.2 a1).bind λr8=>cond (small (List.length v7+List.length r8.1)) ((GG N a1 (v7++r8.1)).bind λm7=>some (m7.1,r8.2)) (none)) (none)) (none)) (none)
abbrev DI.bI:=au→au→Int→Option (Bool)
def DI.dH(N:Nat)(ct:DI.bI)(x0:au)(x1:au)(x5:Int):Option (Bool):=
 cond (aS x5 (List.length x0:Int)) (cond (aZ x5 (List.length x0)) (cond (aZ x5 (List.length x1)) (cond (!(oR (.pair (.int .i64) (.pair (.int .i64) (.pair (.int .i64) .unit))) (List.getD x0 x5.toNat bf) (List.getD x1 x5.toNat bf))) (some false) (ct x0 x1 (W .i64 (x5+1)))) (none)) (none)) (some true)
def DI.l4(N:Nat):Nat→DI.bI
 |0,_,_,_=>none
 |n+1,x0,x1,x5=>DI.dH N (DI.l4 N n) x0 x1 x5
def DI.b(N:Nat)(e7:DI.bI)(a0:au)(a1:au):Option (Bool):=
 cond (!aM (List.length a0:Int) (List.length a1:Int)) (some false) (e7 a0 a1 (0:Int))
def DI(N:Nat)(a0:au)(a1:au):Option (Bool):=DI.b N (DI.l4 N N) a0 a1
abbrev DK.bI:=(List (Int))→(List (Int))→Int→Option (Bool)
def DK.dH(N:Nat)(ct:DK.bI)(x0:List (Int))(x1:List (Int))(x5:Int):Option (Bool):=
 cond (aS x5 (List.length x0:Int)) (cond (aZ x5 (List.length x0)) (cond (aZ x5 (List.length x1)) (cond (!aM (List.getD x0 x5.toNat (0:Int)) (List.getD x1 x5.toNat (0:Int))) (some false) (ct x0 x1 (W .i64 (x5+1)))) (none)) (none)) (some true)
def DK.l4(N:Nat):Nat→DK.bI
 |0,_,_,_=>none
 |n+1,x0,x1,x5=>DK.dH N (DK.l4 N n) x0 x1 x5
def DK.b(N:Nat)(e7:DK.bI)(a0:List (Int))(a1:List (Int)):Option (Bool):=
 cond (!aM (List.length a0:Int) (List.length a1:Int)) (some false) (e7 a0 a1 (0:Int))
def DK(N:Nat)(a0:List (Int))(a1:List (Int)):Option (Bool):=DK.b N (DK.l4 N N) a0 a1
abbrev DJ.bI:=br→br→Int→Option (Bool)
def DJ.dH(N:Nat)(ct:DJ.bI)(x0:br)(x1:br)(x5:Int):Option (Bool):=
 cond (aS x5 (List.length x0:Int)) (cond (aZ x5 (List.length x0)) (cond (aZ x5 (List.length x1)) (cond (!(oR (.pair (.int .i64) (.pair (.int .i64) (.pair (.int .i64) (.pair (.int .i64) (.pair (.int .i64) (.pair (.int .i64) .unit)))))) (List.getD x0 x5.toNat fy) (List.getD x1 x5.toNat fy))) (some false) (ct x0 x1 (W .i64 (x5+1)))) (none)) (none)) (some true)
def DJ.l4(N:Nat):Nat→DJ.bI
 |0,_,_,_=>none
 |n+1,x0,x1,x5=>DJ.dH N (DJ.l4 N n) x0 x1 x5
def DJ.b(N:Nat)(e7:DJ.bI)(a0:br)(a1:br):Option (Bool):=
 cond (!aM (List.length a0:Int) (List.length a1:Int)) (some false) (e7 a0 a1 (0:Int))
def DJ(N:Nat)(a0:br)(a1:br):Option (Bool):=DJ.b N (DJ.l4 N N) a0 a1
abbrev F7.jQ:=ag→aq→aq→Int→Int→Int→Option (Bool)
abbrev F7.gO:=ag→aq→aq→Int→Option (Bool)
def F7.so(N:Nat)(iW:F7.gO)(iU:F7.jQ)(x4:ag)(x5:aq)(x6:aq)(x8:Int)(x9:Int)(bg:Int):Option (Bool):=
 cond (c0 bg 24) ((AN N x5.2.2.2.1 bg x8).bind λoh=>(AN N x6.2.2.2.1 bg x8).bind λtu=>cond (c0 0 oh) (cond (aS tu 0) (some false) (cond (aS oh tu) (some false) (cond (c0 oh 0) (cond (aS 0 tu) (some false) (cond (aS tu oh) (some false) (cond (!aM tu oh) (cond (oR .bool (aS 0 x9) (aS 0 oh)) (some false) (iU x4 x5 x6 x8 x9 (W .i64 (bg+1)))) (iU x4 x5 x6 x8 x9 (W .i64 (bg+1)))))) (cond (!aM tu oh) (cond (oR .bool (aS 0 x9) (aS 0 oh)) (some false) (iU x4 x5 x6 x8 x9 (W .i64 (bg+1)))) (iU x4 x5 x6 x8 x9 (W .i64 (bg+1))))))) (cond (c0 oh 0) (cond (aS 0 tu) (some false) (cond (aS tu oh) (some false) (cond (!aM tu oh) (cond (oR .bool (aS 0 x9) (aS 0 oh)) (some false) (iU x4 x5 x6 x8 x9 (W .i64 (bg+1)))) (iU x4 x5 x6 x8 x9 (W .i64 (bg+1)))))) (cond (!aM tu oh) (cond (oR .bool (aS 0 x9) (aS 0 oh)) (some false) (iU x4 x5 x6 x8 x9 (W .i64 (bg+1)))) (iU x4 x5 x6 x8 x9 (W .i64 (bg+1)))))) (iW x4 x5 x6 (W .i64 (x8+1)))
def F7.sQ(N:Nat)(iW:F7.gO):Nat→F7.jQ
 |0,_,_,_,_,_,_=>none
 |n+1,x4,x5,x6,x8,x9,bg=>F7.so N iW (F7.sQ N iW n) x4 x5 x6 x8 x9 bg
def F7.nK(N:Nat)(A9:F7.jQ)(iW:F7.gO)(x4:ag)(x5:aq)(x6:aq)(x8:Int):Option (Bool):=
 cond (aS x8 (List.length x4.1:Int)) ((AN N x5.2.2.2.1 (0:Int) x8).bind λpZ=>A9 x4 x5 x6 x8 pZ (1:Int)) (some true)
def F7.m5(N:Nat):Nat→F7.gO
 |0,_,_,_,_=>none
 |n+1,x4,x5,x6,x8=>F7.nK N (F7.sQ N (F7.m5 N n) N) (F7.m5 N n) x4 x5 x6 x8
def F7.b(N:Nat)(uE:F7.gO)(a0:List (Int)):Option (Bool):=
 (F26 N).bind λr1=>cond (!r1) (some false) ((F13 N a0).bind λr2=>(vv N r2).bind λr3=>(F28 N r3.2 r3.1 (40:Int)).bind λr4=>(DP N r3.1 r4.1.2.2.1).bind λr5=>cond (!aM r5.2 0) (some (aM r5.2 2)) ((lC N r3.1 r5.1).bind λr6=>cond (!r6) (some false) ((yk N r5.1.2.2.2.1 (0:Int)).bind λr7=>cond (!aM (List.length r7:Int) 0) (some false) ((DI N r5.1.2.2.1 r4.1.2.2.1.2.2.1).bind λr8=>cond (!r8) (some false) ((DK N r5.1.2.2.2.2.1 r4.1.2.2.1.2.2.2.2.1).bind λr9=>cond (!r9) (some false) ((DJ N r5.1.2.2.2.2.2.1 r4.1.2.2.1.2.2.2.2.2.1).bind λm7=>cond (!m7) (some false) (uE r3.1 r4.1.2.2.1 r5.1 (0:Int))))))))
def F7(N:Nat)(a0:List (Int)):Option (Bool):=F7.b N (F7.m5 N N) a0
end
end VM.F
