/- A part of the proof of HedgeLess of layer 22: each function of the program does what its equation says; printed by a program. -/
import Derived.Test.YtocmlaipoebfeaaGreatText
import Derived.Test.YtocmlaipoebfeaaGreatVm7
import Derived.Test.YtocmlaipoebfeaaGreatProg
import Derived.KernelRfl
set_option linter.all false
noncomputable section
namespace VM.F
open Go VM Go.Proofs
set_option maxRecDepth 100000
abbrev I:Ty:= .int .i64
abbrev U:Ty:= .int .u64
abbrev B:Ty:= .bool
abbrev Z:Ty:= .str
abbrev abr:Ty:= .slice wo
abbrev Qc:Ty:= .slice lB
abbrev dJ:Ty:= .slice jH
abbrev S6:Ty:= .slice dj
abbrev aqU:Ty:= .slice c4
abbrev awm:Ty:= .slice fF
abbrev cU:Ty:= .slice iT
abbrev abt:Ty:= .slice wq
abbrev fE:Ty:= .slice eu
abbrev jV:Ty:= .slice wu
abbrev yR:Ty:= .slice ry
abbrev o5:Ty:= .slice sO
abbrev p4:Ty:= .slice lE
abbrev ak0:Ty:= .slice pI
abbrev lW:Ty:= .slice jI
abbrev aqV:Ty:= .slice gi
abbrev aqW:Ty:= .slice aB
abbrev awn:Ty:= .slice aL
abbrev aov:Ty:= .slice pH
abbrev auB:Ty:= .slice eg
abbrev LI:Ty:= .slice I
abbrev LU:Ty:= .slice U
def tab:List (Nat×Ty):=[(2,I),(3,I),(4,B),(5,(.int .u8)),(9,Z),(22,LU),(26,fE),(28,aB),(29,dJ),(30,fE),(31,cU),(32,cU),(33,LI),(34,p4),(36,aL),(37,fE),(38,lW),(39,fE),(40,LI),(41,dJ),(42,dJ),(44,pH),(45,yR),(47,gi),(49,eg),(53,dJ),(55,jI),(57,I),(62,eu),(64,c4),(69,jH),(83,cU),(88,iT),(95,eu),(96,U),(99,S6),(105,dj),(112,lE),(118,fF),(127,jV),(131,wu),(137,iT),(139,iT),(142,eu),(158,eu),(160,ak0),(163,pI),(165,cU),(172,U),(173,aqU),(191,ry),(193,yR),(197,cU),(206,jH),(212,o5),(240,iT),(258,iT),(265,sO),(271,(.arr 13 B)),(296,(.arr 2 I)),(340,jH),(374,jH),(382,ry)]
theorem aC:Gh Tryz.prog tab:=⟨κ,κ⟩
section
variable(N:Nat)
abbrev aaP:lI:=tg.S N
abbrev aaQ:lI:=tf.S N
theorem aaR:ix Tryz.prog 170 (aaQ N):=Vt N Tryz.func170 κ κ κ κ
def Mw:Kn Tryz.prog:=⟨170,aaQ N,aaR N⟩
theorem aaS:ix Tryz.prog 229 (aaP N):=Vu N Tryz.func229 κ κ κ κ
def S7:Kn Tryz.prog:=⟨229,aaP N,aaS N⟩
abbrev Qd:lI:=kN (.pair (.int .i64) (.pair (.int .i64) (.pair (.int .i64) .unit))) N
def My.Qe:Go.Shelf.Ren:={f:=λi=>cond (Nat.beq i 29) 233 (cond (Nat.beq i 30) 234 0),t:=λi=>cond (Nat.beq i 24) 197 (cond (Nat.beq i 9) 258 (cond (Nat.beq i 3) 3 (cond (Nat.beq i 4) 4 0))),g:=λ_=>0}
theorem My.yf:RS Tryz.prog (.pair (.int .i64) (.pair (.int .i64) (.pair (.int .i64) .unit))) My.Qe 181 Tryz.f181 Tryz.f233:=⟨Tryz.func181.trans κ,Tryz.underlying3,Tryz.underlying4,Tryz.underlying197,gI (x:= .inl 258) κ,δ,κ⟩
theorem S8:ix Tryz.prog 181 (Qd N):=zw My.yf ⟨Tryz.func233,κ,κ,κ,κ⟩ κ κ N
def aaT:Kn Tryz.prog:=⟨181,Qd N,S8 N⟩
abbrev Qf:lI:=xh (.pair (.int .i64) (.pair (.int .i64) .unit)) N
def Mz.Qe:Go.Shelf.Ren:={f:=λi=>0,t:=λi=>cond (Nat.beq i 3) 206 (cond (Nat.beq i 4) 4 29),g:=λ_=>0}
theorem Mz.yf:Lj Tryz.prog (.pair (.int .i64) (.pair (.int .i64) .unit)) Mz.Qe 201 Tryz.f201:=⟨Tryz.func201.trans κ,Tryz.underlying4,Tryz.underlying29,gI (x:= .inl 206) κ,δ,κ⟩
theorem S9:ix Tryz.prog 201 (Qf N):=rl Mz.yf κ κ N
def aaU:Kn Tryz.prog:=⟨201,Qf N,S9 N⟩
abbrev Qg:lI:=xh (.pair (.int .i64) (.pair (.int .i64) (.pair (.int .i64) (.pair (.int .i64) .unit)))) N
def MA.Qe:Go.Shelf.Ren:={f:=λi=>0,t:=λi=>cond (Nat.beq i 3) 142 (cond (Nat.beq i 4) 4 30),g:=λ_=>0}
theorem MA.yf:Lj Tryz.prog (.pair (.int .i64) (.pair (.int .i64) (.pair (.int .i64) (.pair (.int .i64) .unit)))) MA.Qe 202 Tryz.f202:=⟨Tryz.func202.trans κ,Tryz.underlying4,Tryz.underlying30,gI (x:= .inl 142) κ,δ,κ⟩
theorem Ta:ix Tryz.prog 202 (Qg N):=rl MA.yf κ κ N
def aaV:Kn Tryz.prog:=⟨202,Qg N,Ta N⟩
abbrev Qh:lI:=xh (.pair (.int .i64) (.pair (.int .i64) (.pair (.int .i64) .unit))) N
def MB.Qe:Go.Shelf.Ren:={f:=λi=>0,t:=λi=>cond (Nat.beq i 3) 137 (cond (Nat.beq i 4) 4 31),g:=λ_=>0}
theorem MB.yf:Lj Tryz.prog (.pair (.int .i64) (.pair (.int .i64) (.pair (.int .i64) .unit))) MB.Qe 203 Tryz.f203:=⟨Tryz.func203.trans κ,Tryz.underlying4,Tryz.underlying31,gI (x:= .inl 137) κ,δ,κ⟩
theorem Tb:ix Tryz.prog 203 (Qh N):=rl MB.yf κ κ N
def Qi:Kn Tryz.prog:=⟨203,Qh N,Tb N⟩
abbrev Qj:lI:=xh (.pair (.int .i64) (.pair (.int .i64) (.pair (.int .i64) .unit))) N
def MC.Qe:Go.Shelf.Ren:={f:=λi=>0,t:=λi=>cond (Nat.beq i 3) 139 (cond (Nat.beq i 4) 4 32),g:=λ_=>0}
theorem MC.yf:Lj Tryz.prog (.pair (.int .i64) (.pair (.int .i64) (.pair (.int .i64) .unit))) MC.Qe 204 Tryz.f204:=⟨Tryz.func204.trans κ,Tryz.underlying4,Tryz.underlying32,gI (x:= .inl 139) κ,δ,κ⟩
theorem Tc:ix Tryz.prog 204 (Qj N):=rl MC.yf κ κ N
def Qk:Kn Tryz.prog:=⟨204,Qj N,Tc N⟩
abbrev Ql:lI:=xh (.int .i64) N
def MD.Qe:Go.Shelf.Ren:={f:=λi=>0,t:=λi=>cond (Nat.beq i 3) 2 (cond (Nat.beq i 4) 4 33),g:=λ_=>0}
theorem MD.yf:Lj Tryz.prog (.int .i64) MD.Qe 205 Tryz.f205:=⟨Tryz.func205.trans κ,Tryz.underlying4,Tryz.underlying33,gI (x:= .inl 2) κ,δ,κ⟩
theorem Td:ix Tryz.prog 205 (Ql N):=rl MD.yf κ κ N
def aaW:Kn Tryz.prog:=⟨205,Ql N,Td N⟩
abbrev Qm:lI:=xh (.pair (.int .i64) (.pair (.int .i64) (.pair (.int .i64) (.pair (.int .i64) (.pair (.int .i64) (.pair (.int .i64) .unit)))))) N
def ME.Qe:Go.Shelf.Ren:={f:=λi=>0,t:=λi=>cond (Nat.beq i 3) 112 (cond (Nat.beq i 4) 4 34),g:=λ_=>0}
theorem ME.yf:Lj Tryz.prog (.pair (.int .i64) (.pair (.int .i64) (.pair (.int .i64) (.pair (.int .i64) (.pair (.int .i64) (.pair (.int .i64) .unit)))))) ME.Qe 206 Tryz.f206:=⟨Tryz.func206.trans κ,Tryz.underlying4,Tryz.underlying34,gI (x:= .inl 112) κ,δ,κ⟩
theorem Te:ix Tryz.prog 206 (Qm N):=rl ME.yf κ κ N
def aaX:Kn Tryz.prog:=⟨206,Qm N,Te N⟩
abbrev Qn:lI:=kN (.pair (.int .i64) (.pair (.int .i64) (.pair (.int .i64) .unit))) N
def MF.Qe:Go.Shelf.Ren:={f:=λi=>cond (Nat.beq i 29) 242 (cond (Nat.beq i 30) 243 0),t:=λi=>cond (Nat.beq i 24) 32 (cond (Nat.beq i 9) 139 (cond (Nat.beq i 3) 3 (cond (Nat.beq i 4) 4 0))),g:=λ_=>0}
theorem MF.yf:RS Tryz.prog (.pair (.int .i64) (.pair (.int .i64) (.pair (.int .i64) .unit))) MF.Qe 210 Tryz.f210 Tryz.f242:=⟨Tryz.func210.trans κ,Tryz.underlying3,Tryz.underlying4,Tryz.underlying32,gI (x:= .inl 139) κ,δ,κ⟩
theorem Tf:ix Tryz.prog 210 (Qn N):=zw MF.yf ⟨Tryz.func242,κ,κ,κ,κ⟩ κ κ N
def aaY:Kn Tryz.prog:=⟨210,Qn N,Tf N⟩
abbrev Qo:lI:=kN (.pair (.int .i64) (.pair (.int .i64) (.pair (.int .i64) .unit))) N
def MG.Qe:Go.Shelf.Ren:={f:=λi=>cond (Nat.beq i 29) 244 (cond (Nat.beq i 30) 245 0),t:=λi=>cond (Nat.beq i 24) 31 (cond (Nat.beq i 9) 137 (cond (Nat.beq i 3) 3 (cond (Nat.beq i 4) 4 0))),g:=λ_=>0}
theorem MG.yf:RS Tryz.prog (.pair (.int .i64) (.pair (.int .i64) (.pair (.int .i64) .unit))) MG.Qe 212 Tryz.f212 Tryz.f244:=⟨Tryz.func212.trans κ,Tryz.underlying3,Tryz.underlying4,Tryz.underlying31,gI (x:= .inl 137) κ,δ,κ⟩
theorem Tg:ix Tryz.prog 212 (Qo N):=zw MG.yf ⟨Tryz.func244,κ,κ,κ,κ⟩ κ κ N
def aaZ:Kn Tryz.prog:=⟨212,Qo N,Tg N⟩
def X99:Fx:=⟨24,tab,[],N,Tryz.f99,[],[.v aB,.v aL],[],none⟩
theorem aA0:uS Tryz.prog (X99 N).E:=Fx.TK (X99 N) aC trivial κ
theorem aA1: ∀x,Rk (X99 N).E (X99 N).fn (X99 N).args (X99 N).res x=Ld (X99 N).args (F99 N) x:=Fx.akb κ
def k99:Kn Tryz.prog:=⟨99,(X99 N).S false (F99 N),Fx.u0 (X99 N) aC Tryz.func99⟩
def aqX:Fx:=⟨15,tab,[],N,Tryz.f150,[.v I,.v I,.v I],[.v B],[],none⟩
def awo:Kn Tryz.prog:=⟨150,(aqX N).S true (Ej N),Fx.u0 (aqX N) aC Tryz.func150⟩
def X75:Fx:=⟨68,tab,Kn.l [awo N],N,Tryz.f75,[.v aB],[.v B],[⟨9,[(1,.obj aB),(11,.v fE),(12,.v I),(13,.v I)],[1,1,0,1,0,0],[]⟩],none⟩
theorem aqY(K ρ):(X75 N).bd K ρ 9=BT.eN N ((X75 N).kc ρ 9):=κ
theorem aqZ(ρ):(X75 N).kc ((X75 N).ch ρ) 9=BT.l4 N N:=Fx.uL [] (aqY N) ρ (BT.l4 N) λn ρ' e d=>by rw[e];rfl
theorem h75(K):(X75 N).top K=BT.b N ((X75 N).kc K 9):=κ
def k75:Kn Tryz.prog:=⟨75,(X75 N).S true (BT N),Fx.u1 (X75 N) aC Tryz.func75 [9] (h75 N) (by rw[aqZ];rfl)⟩
def Qp:Fx:=⟨46,tab,[],N,Tryz.f144,[.v dJ],[.v B],[⟨5,[(0,.v dJ),(5,.v dJ),(6,.v I),(7,.v I)],[1,0,1,0,0],[]⟩],none⟩
theorem ak1(K ρ):(Qp N).bd K ρ 5=pG.fy N ((Qp N).kc ρ 5):=κ
theorem ak2(ρ):(Qp N).kc ((Qp N).ch ρ) 5=pG.l2 N N:=Fx.uL [] (ak1 N) ρ (pG.l2 N) λn ρ' e d=>by rw[e];rfl
theorem awp(K):(Qp N).top K=pG.b N ((Qp N).kc K 5):=κ
def aq0:Kn Tryz.prog:=⟨144,(Qp N).S true (pG N),Fx.u1 (Qp N) aC Tryz.func144 [5] (awp N) (by rw[ak2];rfl)⟩
def Qq:Fx:=⟨77,tab,[],N,Tryz.f143,[.v fE],[.v B],[⟨7,[(0,.v fE),(3,.obj (.arr 13 B)),(6,.v fE),(7,.v I),(8,.v I)],[1,1,0,1,0,0],[]⟩],none⟩
theorem ak3(K ρ):(Qq N).bd K ρ 7=m5.ob N ((Qq N).kc ρ 7):=κ
theorem ak4(ρ):(Qq N).kc ((Qq N).ch ρ) 7=m5.l3 N N:=Fx.uL [] (ak3 N) ρ (m5.l3 N) λn ρ' e d=>by rw[e];rfl
theorem awq(K):(Qq N).top K=m5.b N ((Qq N).kc K 7):=κ
def aq1:Kn Tryz.prog:=⟨143,(Qq N).S true (m5 N),Fx.u1 (Qq N) aC Tryz.func143 [7] (awq N) (by rw[ak4];rfl)⟩
def X63:Fx:=⟨23,tab,Kn.l [aq0 N],N,Tryz.f63,[.v dJ,.v I],[.v I],[⟨9,[(1,.v I),(10,.v dJ),(11,.v I),(12,.v I)],[1,1,0,1,0,0],[]⟩],none⟩
theorem aq2(K ρ):(X63 N).bd K ρ 9=Bb.eN N ((X63 N).kc ρ 9):=κ
theorem aq3(ρ):(X63 N).kc ((X63 N).ch ρ) 9=Bb.l4 N N:=Fx.uL [] (aq2 N) ρ (Bb.l4 N) λn ρ' e d=>by rw[e];rfl
theorem h63(K):(X63 N).top K=Bb.b N ((X63 N).kc K 9):=κ
def k63:Kn Tryz.prog:=⟨63,(X63 N).S true (Bb N),Fx.u1 (X63 N) aC Tryz.func63 [9] (h63 N) (by rw[aq3];rfl)⟩
def X76:Fx:=⟨27,tab,Kn.l [aq0 N,aq1 N,k63 N],N,Tryz.f76,[.v dJ,.v fE],[.v B],[⟨9,[(0,.v dJ),(15,.v fE),(16,.v I),(17,.v I)],[1,1,0,1,0,0],[]⟩],none⟩
theorem aq4(K ρ):(X76 N).bd K ρ 9=Em.eN N ((X76 N).kc ρ 9):=κ
theorem aq5(ρ):(X76 N).kc ((X76 N).ch ρ) 9=Em.l4 N N:=Fx.uL [] (aq4 N) ρ (Em.l4 N) λn ρ' e d=>by rw[e];rfl
theorem h76(K):(X76 N).top K=Em.b N ((X76 N).kc K 9):=κ
def k76:Kn Tryz.prog:=⟨76,(X76 N).S true (Em N),Fx.u1 (X76 N) aC Tryz.func76 [9] (h76 N) (by rw[aq5];rfl)⟩
def aq6:Fx:=⟨30,tab,[],N,Tryz.f151,[.v I,.v I],[.v B],[],none⟩
def aq7:Kn Tryz.prog:=⟨151,(aq6 N).S true (RX N),Fx.u0 (aq6 N) aC Tryz.func151⟩
def aq8:Fx:=⟨19,tab,[],N,Tryz.f152,[.v I,.v I,.v iT],[.v I],[],none⟩
def aq9:Kn Tryz.prog:=⟨152,(aq8 N).S true (RZ N),Fx.u0 (aq8 N) aC Tryz.func152⟩
def X77:Fx:=⟨41,tab,Kn.l [aq7 N,aq9 N],N,Tryz.f77,[.v cU],[.v B],[⟨5,[(0,.v cU),(5,.v cU),(6,.v I),(7,.v I)],[1,0,1,0,0],[]⟩],none⟩
theorem ara(K ρ):(X77 N).bd K ρ 5=BU.fy N ((X77 N).kc ρ 5):=κ
theorem arb(ρ):(X77 N).kc ((X77 N).ch ρ) 5=BU.l2 N N:=Fx.uL [] (ara N) ρ (BU.l2 N) λn ρ' e d=>by rw[e];rfl
theorem h77(K):(X77 N).top K=BU.b N ((X77 N).kc K 5):=κ
def k77:Kn Tryz.prog:=⟨77,(X77 N).S true (BU N),Fx.u1 (X77 N) aC Tryz.func77 [5] (h77 N) (by rw[arb];rfl)⟩
def X64:Fx:=⟨8,tab,[],N,Tryz.f64,[.v I],[.v dj],[],none⟩
def k64:Kn Tryz.prog:=⟨64,(X64 N).S true (ID N),Fx.u0 (X64 N) aC Tryz.func64⟩
def Qr:Fx:=⟨51,tab,Kn.l [Mw N],N,Tryz.f153,[.v S6],[.v dj,.v B],[⟨7,[(2,.obj dj),(4,.v I),(5,.v U),(6,.v U),(10,.v S6),(11,.v I),(12,.v I)],[1,1,0,1,0,0],[]⟩],none⟩
theorem ak5(K ρ):(Qr N).bd K ρ 7=mZ.ob N ((Qr N).kc ρ 7):=κ
theorem ak6(ρ):(Qr N).kc ((Qr N).ch ρ) 7=mZ.l3 N N:=Fx.uL [] (ak5 N) ρ (mZ.l3 N) λn ρ' e d=>by rw[e];rfl
theorem aws(K):(Qr N).top K=mZ.b N ((Qr N).kc K 7):=κ
def W9:Kn Tryz.prog:=⟨153,(Qr N).S true (mZ N),Fx.u1 (Qr N) aC Tryz.func153 [7] (aws N) (by rw[ak6];rfl)⟩
def X79:Fx:=⟨31,tab,Kn.l [k77 N,k64 N,W9 N],N,Tryz.f79,[.v cU],[.v dj],[⟨11,[(2,.obj dj),(3,.own dj),(12,.v cU),(13,.v I),(14,.v I)],[1,1,1,0,1,0,0],[]⟩],none⟩
theorem ak7(K ρ):(X79 N).bd K ρ 11=Dz.eA N ((X79 N).kc ρ 11):=κ
theorem ak8(ρ):(X79 N).kc ((X79 N).ch ρ) 11=Dz.l5 N N:=Fx.uL [] (ak7 N) ρ (Dz.l5 N) λn ρ' e d=>by rw[e];rfl
theorem h79(K):(X79 N).top K=Dz.b N ((X79 N).kc K 11):=κ
def k79:Kn Tryz.prog:=⟨79,(X79 N).S true (Dz N),Fx.u1 (X79 N) aC Tryz.func79 [11] (h79 N) (by rw[ak8];rfl)⟩
def arc:Fx:=⟨27,tab,[],N,Tryz.f111,[.v dj,.v dj],[.v I],[],none⟩
def aa0:Kn Tryz.prog:=⟨111,(arc N).S true (IG N),Fx.u0 (arc N) aC Tryz.func111⟩
def X78:Fx:=⟨6,tab,Kn.l [aa0 N],N,Tryz.f78,[.v dj],[.v I],[],none⟩
def k78:Kn Tryz.prog:=⟨78,(X78 N).S true (Xo N),Fx.u0 (X78 N) aC Tryz.func78⟩
def ard:Fx:=⟨19,tab,[],N,Tryz.f207,[.v I,.v I],[.v B],[],none⟩
def are:Kn Tryz.prog:=⟨207,(ard N).S true (YE N),Fx.u0 (ard N) aC Tryz.func207⟩
def arf:Fx:=⟨5,tab,[],N,Tryz.f198,[.v I],[.v B],[],none⟩
def ak9:Kn Tryz.prog:=⟨198,(arf N).S true (R2 N),Fx.u0 (arf N) aC Tryz.func198⟩
def arh:Fx:=⟨19,tab,[],N,Tryz.f209,[.v I,.v I,.v iT],[.v I],[],none⟩
def ari:Kn Tryz.prog:=⟨209,(arh N).S true (VG N),Fx.u0 (arh N) aC Tryz.func209⟩
def Qs:Fx:=⟨47,tab,Kn.l [are N,ak9 N,ari N],N,Tryz.f155,[.v cU],[.v B],[⟨5,[(0,.v cU),(5,.v cU),(6,.v I),(7,.v I)],[1,0,1,0,0],[]⟩],none⟩
theorem ala(K ρ):(Qs N).bd K ρ 5=og.fy N ((Qs N).kc ρ 5):=κ
theorem alb(ρ):(Qs N).kc ((Qs N).ch ρ) 5=og.l2 N N:=Fx.uL [] (ala N) ρ (og.l2 N) λn ρ' e d=>by rw[e];rfl
theorem awt(K):(Qs N).top K=og.b N ((Qs N).kc K 5):=κ
def ad1:Kn Tryz.prog:=⟨155,(Qs N).S true (og N),Fx.u1 (Qs N) aC Tryz.func155 [5] (awt N) (by rw[alb];rfl)⟩
def Qt:Fx:=⟨37,tab,Kn.l [ad1 N,k64 N,W9 N],N,Tryz.f154,[.v cU,.v I],[.v dj],[⟨11,[(1,.v I),(4,.obj dj),(5,.own dj),(14,.v cU),(15,.v I),(16,.v I)],[1,1,1,0,1,0,0],[]⟩],none⟩
theorem ad2(K ρ):(Qt N).bd K ρ 11=pK.eA N ((Qt N).kc ρ 11):=κ
theorem ad3(ρ):(Qt N).kc ((Qt N).ch ρ) 11=pK.l5 N N:=Fx.uL [] (ad2 N) ρ (pK.l5 N) λn ρ' e d=>by rw[e];rfl
theorem awu(K):(Qt N).top K=pK.b N ((Qt N).kc K 11):=κ
def awv:Kn Tryz.prog:=⟨154,(Qt N).S true (pK N),Fx.u1 (Qt N) aC Tryz.func154 [11] (awu N) (by rw[ad3];rfl)⟩
def X80:Fx:=⟨15,tab,Kn.l [awv N,k78 N,ad1 N],N,Tryz.f80,[.v cU],[.v B],[⟨5,[(0,.v cU),(4,.v I)],[1,0,1,0,0],[]⟩],none⟩
theorem arj(K ρ):(X80 N).bd K ρ 5=Eo.fy N ((X80 N).kc ρ 5):=κ
theorem ark(ρ):(X80 N).kc ((X80 N).ch ρ) 5=Eo.l2 N N:=Fx.uL [] (arj N) ρ (Eo.l2 N) λn ρ' e d=>by rw[e];rfl
theorem h80(K):(X80 N).top K=Eo.b N ((X80 N).kc K 5):=κ
def k80:Kn Tryz.prog:=⟨80,(X80 N).S true (Eo N),Fx.u1 (X80 N) aC Tryz.func80 [5] (h80 N) (by rw[ark];rfl)⟩
def arl:Fx:=⟨61,tab,[],N,Tryz.f118,[.v lE],[.v B],[],none⟩
def alc:Kn Tryz.prog:=⟨118,(arl N).S true (VH N),Fx.u0 (arl N) aC Tryz.func118⟩
def X81:Fx:=⟨34,tab,Kn.l [alc N],N,Tryz.f81,[.v p4],[.v B],[⟨5,[(0,.v p4),(5,.v p4),(6,.v I),(7,.v I)],[1,0,1,0,0],[]⟩],none⟩
theorem arn(K ρ):(X81 N).bd K ρ 5=Dx.fy N ((X81 N).kc ρ 5):=κ
theorem aro(ρ):(X81 N).kc ((X81 N).ch ρ) 5=Dx.l2 N N:=Fx.uL [] (arn N) ρ (Dx.l2 N) λn ρ' e d=>by rw[e];rfl
theorem h81(K):(X81 N).top K=Dx.b N ((X81 N).kc K 5):=κ
def k81:Kn Tryz.prog:=⟨81,(X81 N).S true (Dx N),Fx.u1 (X81 N) aC Tryz.func81 [5] (h81 N) (by rw[aro];rfl)⟩
def Qu:Fx:=⟨25,tab,Kn.l [aq1 N],N,Tryz.f119,[.v fE,.v I],[.v eu,.v B],[⟨9,[(1,.v I),(4,.obj eu),(12,.v fE),(13,.v I),(14,.v I)],[1,1,0,1,0,0],[]⟩],none⟩
theorem ald(K ρ):(Qu N).bd K ρ 9=oG.eN N ((Qu N).kc ρ 9):=κ
theorem ale(ρ):(Qu N).kc ((Qu N).ch ρ) 9=oG.l4 N N:=Fx.uL [] (ald N) ρ (oG.l4 N) λn ρ' e d=>by rw[e];rfl
theorem aww(K):(Qu N).top K=oG.b N ((Qu N).kc K 9):=κ
def arp:Kn Tryz.prog:=⟨119,(Qu N).S true (oG N),Fx.u1 (Qu N) aC Tryz.func119 [9] (aww N) (by rw[ale];rfl)⟩
def X82:Fx:=⟨15,tab,Kn.l [arp N],N,Tryz.f82,[.v aL,.v I],[.v B],[],none⟩
def k82:Kn Tryz.prog:=⟨82,(X82 N).S true (F82 N),Fx.u0 (X82 N) aC Tryz.func82⟩
def X85:Fx:=⟨9,tab,[],N,Tryz.f85,[.v I],[.v B],[],none⟩
def k85:Kn Tryz.prog:=⟨85,(X85 N).S true (F85 N),Fx.u0 (X85 N) aC Tryz.func85⟩
def X84:Fx:=⟨6,tab,Kn.l [k85 N],N,Tryz.f84,[.v I],[.v B],[],none⟩
def k84:Kn Tryz.prog:=⟨84,(X84 N).S true (F84 N),Fx.u0 (X84 N) aC Tryz.func84⟩
def Qv:Fx:=⟨19,tab,Kn.l [k84 N],N,Tryz.f156,[.v LI,.fn 84 .unit],[.v I],[⟨5,[(0,.v LI),(1,.fn 84 .unit),(7,.v I),(8,.v I)],[1,0,1,0,0],[]⟩],none⟩
theorem alf(K ρ):(Qv N).bd K ρ 5=sX.fy N ((Qv N).kc ρ 5):=κ
theorem alg(ρ):(Qv N).kc ((Qv N).ch ρ) 5=sX.l2 N N:=Fx.uL [] (alf N) ρ (sX.l2 N) λn ρ' e d=>by rw[e];rfl
theorem awx(K):(Qv N).top K=sX.b N ((Qv N).kc K 5):=κ
def awy:Kn Tryz.prog:=⟨156,(Qv N).S true (sX N),Fx.u1 (Qv N) aC Tryz.func156 [5] (awx N) (by rw[alg];rfl)⟩
def X83:Fx:=⟨9,tab,Kn.l [awy N],N,Tryz.f83,[.v LI,.fn 84 .unit],[.v B],[],none⟩
def k83:Kn Tryz.prog:=⟨83,(X83 N).S true (F83 N),Fx.u0 (X83 N) aC Tryz.func83⟩
def MQ:Fx:=⟨133,tab,Kn.l [k75 N,k76 N,k77 N,k79 N,k78 N,k80 N,k81 N,k82 N,k63 N,k83 N],N,Tryz.f25,[.v aB,.v aL],[.v B],[⟨45,[(2,.obj aB),(3,.obj aL),(109,.v p4),(110,.v I),(111,.v I)],[1,1,1,1,0,1,0,0],[]⟩,⟨33,[(2,.obj aB),(3,.obj aL),(83,.v cU),(84,.v I),(85,.v I)],[1,1,1,0,1,0,0],[]⟩,⟨9,[(2,.obj aB),(3,.obj aL),(57,.v cU),(58,.v I),(59,.v I)],[1,1,0,1,0,0],[]⟩],none⟩
theorem alh(K ρ):(MQ N).bd K ρ 45=ly.wQ N ((MQ N).kc ρ 45):=κ
theorem ali(ρ):(MQ N).kc ((MQ N).ch ρ) 45=ly.xL N N:=Fx.uL [] (alh N) ρ (ly.xL N) λn ρ' e d=>by rw[e];rfl
theorem alj(K ρ):(MQ N).bd K ρ 33=ly.wP N ((MQ N).kc K 45) ((MQ N).kc ρ 33):=κ
theorem alk(ρ):(MQ N).kc ((MQ N).ch ρ) 33=ly.xK N N:=Fx.uL [45] (alj N) ρ (ly.xK N) λn ρ' e d=>by rw[ali,e];rfl
theorem ars(K ρ):(MQ N).bd K ρ 9=ly.eN N ((MQ N).kc K 33) ((MQ N).kc ρ 9):=κ
theorem art(ρ):(MQ N).kc ((MQ N).ch ρ) 9=ly.l4 N N:=Fx.uL [33,45] (ars N) ρ (ly.l4 N) λn ρ' e d=>by rw[alk,e];rfl
theorem h25(K):(MQ N).top K=ly.b N ((MQ N).kc K 9):=κ
def k25:Kn Tryz.prog:=⟨25,(MQ N).S true (ly N),Fx.u1 (MQ N) aC Tryz.func25 [9,33,45] (h25 N) (by rw[art];rfl)⟩
def Qw:Fx:=⟨31,tab,Kn.l [ad1 N],N,Tryz.f107,[.v cU,.v I],[.own jH],[⟨11,[(1,.v I),(5,.own jH),(11,.v cU),(12,.v I),(13,.v I)],[1,1,1,0,1,0,0],[]⟩],none⟩
theorem ad4(K ρ):(Qw N).bd K ρ 11=oR.eA N ((Qw N).kc ρ 11):=κ
theorem ad5(ρ):(Qw N).kc ((Qw N).ch ρ) 11=oR.l5 N N:=Fx.uL [] (ad4 N) ρ (oR.l5 N) λn ρ' e d=>by rw[e];rfl
theorem awz(K):(Qw N).top K=oR.b N ((Qw N).kc K 11):=κ
def aru:Kn Tryz.prog:=⟨107,(Qw N).S false (oR N),Fx.u1 (Qw N) aC Tryz.func107 [11] (awz N) (by rw[ad5];rfl)⟩
def X96:Fx:=⟨10,tab,[],N,Tryz.f96,[.v I],[.v U],[],none⟩
def k96:Kn Tryz.prog:=⟨96,(X96 N).S true (F96 N),Fx.u0 (X96 N) aC Tryz.func96⟩
def arv:Fx:=⟨51,tab,[],N,Tryz.f171,[.v U,.v U],[.v U,.v U],[],none⟩
def arw:Kn Tryz.prog:=⟨171,(arv N).S true (VA N),Fx.u0 (arv N) aC Tryz.func171⟩
def Th:Fx:=⟨47,tab,Kn.l [S7 N],N,Tryz.f172,[.v B,.v U,.v U],[.v dj,.v B],[⟨14,[(1,.v U),(2,.v U),(6,.obj dj)],[1,1,1],[]⟩],none⟩
theorem ad6(K ρ):(Th N).bd K ρ 14=qk.Rr N:=κ
theorem ad7(ρ):(Th N).kc ((Th N).ch ρ) 14=qk.j7 N:=Fx.uJ [] (ad6 N) ρ
theorem awA(K):(Th N).top K=qk.b N ((Th N).kc K 14):=κ
def alm:Kn Tryz.prog:=⟨172,(Th N).S true (qk N),Fx.u1 (Th N) aC Tryz.func172 [14] (awA N) (by rw[ad7];rfl)⟩
def arx:Fx:=⟨29,tab,Kn.l [k96 N,arw N,alm N],N,Tryz.f109,[.v I,.v I],[.v dj],[],none⟩
def aln:Kn Tryz.prog:=⟨109,(arx N).S true (IC N),Fx.u0 (arx N) aC Tryz.func109⟩
def ary:Fx:=⟨52,tab,Kn.l [Mw N],N,Tryz.f108,[.v dj,.v dj],[.v dj,.v B],[],none⟩
def alo:Kn Tryz.prog:=⟨108,(ary N).S true (OR N),Fx.u0 (ary N) aC Tryz.func108⟩
def X43:Fx:=⟨52,tab,Kn.l [k25 N,aru N,aln N,alo N],N,Tryz.f43,[.v aB,.v aL],[.own dj,.v I],[⟨11,[(2,.obj aB),(3,.obj aL),(6,.own dj),(17,.own jH),(18,.v I),(19,.v I)],[1,1,1,0,1,0,0],[]⟩],none⟩
theorem alp(K ρ):(X43 N).bd K ρ 11=Bz.eA N ((X43 N).kc ρ 11):=κ
theorem alq(ρ):(X43 N).kc ((X43 N).ch ρ) 11=Bz.l5 N N:=Fx.uL [] (alp N) ρ (Bz.l5 N) λn ρ' e d=>by rw[e];rfl
theorem h43(K):(X43 N).top K=Bz.b N ((X43 N).kc K 11):=κ
def k43:Kn Tryz.prog:=⟨43,(X43 N).S false (Bz N),Fx.u1 (X43 N) aC Tryz.func43 [11] (h43 N) (by rw[alq];rfl)⟩
def arz:Fx:=⟨52,tab,Kn.l [S7 N],N,Tryz.f183,[.v dj,.v dj],[.v dj,.v B],[],none⟩
def arA:Kn Tryz.prog:=⟨183,(arz N).S true (Sx N),Fx.u0 (arz N) aC Tryz.func183⟩
def arB:Fx:=⟨9,tab,Kn.l [arA N],N,Tryz.f173,[.v dj],[.v dj,.v B],[],none⟩
def awC:Kn Tryz.prog:=⟨173,(arB N).S true (ac1 N),Fx.u0 (arB N) aC Tryz.func173⟩
def arC:Fx:=⟨12,tab,Kn.l [awC N],N,Tryz.f110,[.v dj],[.v dj,.v B],[],none⟩
def arD:Kn Tryz.prog:=⟨110,(arC N).S true (O7 N),Fx.u0 (arC N) aC Tryz.func110⟩
def Qx:Fx:=⟨29,tab,Kn.l [k75 N],N,Tryz.f112,[.v aB,.v I],[.own I],[⟨11,[(1,.v I),(5,.own I),(12,.v fE),(13,.v I),(14,.v I)],[1,1,1,0,1,0,0],[]⟩],none⟩
theorem ad8(K ρ):(Qx N).bd K ρ 11=pQ.eA N ((Qx N).kc ρ 11):=κ
theorem ad9(ρ):(Qx N).kc ((Qx N).ch ρ) 11=pQ.l5 N N:=Fx.uL [] (ad8 N) ρ (pQ.l5 N) λn ρ' e d=>by rw[e];rfl
theorem awD(K):(Qx N).top K=pQ.b N ((Qx N).kc K 11):=κ
def awE:Kn Tryz.prog:=⟨112,(Qx N).S false (pQ N),Fx.u1 (Qx N) aC Tryz.func112 [11] (awD N) (by rw[ad9];rfl)⟩
def arE:Fx:=⟨32,tab,Kn.l [S7 N],N,Tryz.f174,[.v dj],[.v U,.v U],[],none⟩
def arF:Kn Tryz.prog:=⟨174,(arE N).S true (YC N),Fx.u0 (arE N) aC Tryz.func174⟩
def HV:Fx:=⟨25,tab,[],N,Tryz.f271,[.v U],[.v I],[⟨14,[(0,.v U),(2,.v I)],[1,1,1],[]⟩,⟨8,[(0,.v U),(2,.v I)],[1,1],[]⟩],none⟩
theorem aea(K ρ):(HV N).bd K ρ 14=mY.Rr N:=κ
theorem aeb(ρ):(HV N).kc ((HV N).ch ρ) 14=mY.j7 N:=Fx.uJ [] (aea N) ρ
theorem alr(K ρ):(HV N).bd K ρ 8=mY.j4b N ((HV N).kc K 14):=κ
theorem als(ρ):(HV N).kc ((HV N).ch ρ) 8=mY.j4 N:=Fx.uJ [14] (alr N) ρ (by rw[aeb];rfl)
theorem awF(K):(HV N).top K=mY.b N ((HV N).kc K 8):=κ
def awG:Kn Tryz.prog:=⟨271,(HV N).S true (mY N),Fx.u1 (HV N) aC Tryz.func271 [8,14] (awF N) (by rw[als];rfl)⟩
def arG:Fx:=⟨6,tab,Kn.l [awG N],N,Tryz.f230,[.v U],[.v I],[],none⟩
def awH:Kn Tryz.prog:=⟨230,(arG N).S true (ach N),Fx.u0 (arG N) aC Tryz.func230⟩
def uk:Fx:=⟨135,tab,Kn.l [awH N],N,Tryz.f175,[.v U,.v U,.v U],[.v U,.v U],[⟨56,[(2,.v U),(8,.v U),(14,.v U),(15,.v U),(17,.v U),(18,.v U)],[1,1,1,1,1,1,1,1,1,1,1,1,1,1,1,1,1,1,1],[]⟩,⟨49,[(2,.v U),(8,.v U),(9,.v U),(10,.v U),(14,.v U),(15,.v U),(16,.v U),(17,.v U),(18,.v U)],[1,1,1,1,1,1,1,1,1,1,1,1,1,1,1,1,1,1,0,0,0],[]⟩,⟨42,[(2,.v U),(8,.v U),(9,.v U),(10,.v U),(11,.v U),(13,.v U),(14,.v U),(15,.v U)],[1,1,1,1,1,1,1,1,1,1,1,1,1,1,1],[]⟩,⟨35,[(2,.v U),(8,.v U),(9,.v U),(10,.v U),(11,.v U),(13,.v U),(14,.v U),(15,.v U),(16,.v U)],[1,1,1,1,1,1,1,1,1,1,1,1,1,1,0,0,0],[]⟩],none⟩
theorem aec(K ρ):(uk N).bd K ρ 56=eB.aki N:=κ
theorem aed(ρ):(uk N).kc ((uk N).ch ρ) 56=eB.j28 N:=Fx.uJ [] (aec N) ρ
theorem aee(K ρ):(uk N).bd K ρ 49=eB.Ef N ((uk N).kc K 56) ((uk N).kc ρ 49):=κ
theorem aef(ρ):(uk N).kc ((uk N).ch ρ) 49=eB.Ds N N:=Fx.uL [56] (aee N) ρ (eB.Ds N) λn ρ' e d=>by rw[aed,e];rfl
theorem aeg(K ρ):(uk N).bd K ρ 42=eB.RT N ((uk N).kc K 49):=κ
theorem aeh(ρ):(uk N).kc ((uk N).ch ρ) 42=eB.Xl N:=Fx.uJ [49,56] (aeg N) ρ (by rw[aef];rfl)
theorem aei(K ρ):(uk N).bd K ρ 35=eB.N9 N ((uk N).kc K 42) ((uk N).kc ρ 35):=κ
theorem aej(ρ):(uk N).kc ((uk N).ch ρ) 35=eB.N8 N N:=Fx.uL [42,49,56] (aei N) ρ (eB.N8 N) λn ρ' e d=>by rw[aeh,e];rfl
theorem awI(K):(uk N).top K=eB.b N ((uk N).kc K 35):=κ
def awJ:Kn Tryz.prog:=⟨175,(uk N).S true (eB N),Fx.u1 (uk N) aC Tryz.func175 [35,42,49,56] (awI N) (by rw[aej];rfl)⟩
def Ti:Fx:=⟨70,tab,Kn.l [arF N,awJ N,Mw N,alm N],N,Tryz.f113,[.v dj,.v I],[.v dj,.v I,.v B],[⟨26,[(4,.obj dj),(10,.v U),(11,.v U),(12,.v U)],[1,1,1,1,1,1,1,1],[]⟩],none⟩
theorem aek(K ρ):(Ti N).bd K ρ 26=uZ.A7 N:=κ
theorem ael(ρ):(Ti N).kc ((Ti N).ch ρ) 26=uZ.Lp N:=Fx.uJ [] (aek N) ρ
theorem awK(K):(Ti N).top K=uZ.b N ((Ti N).kc K 26):=κ
def awL:Kn Tryz.prog:=⟨113,(Ti N).S true (uZ N),Fx.u1 (Ti N) aC Tryz.func113 [26] (awK N) (by rw[ael];rfl)⟩
def arH:Fx:=⟨14,tab,[],N,Tryz.f114,[.v dj],[.v I,.v B],[],none⟩
def alu:Kn Tryz.prog:=⟨114,(arH N).S true (Ot N),Fx.u0 (arH N) aC Tryz.func114⟩
def UP:Fx:=⟨102,tab,Kn.l [k43 N,arD N,k64 N,aa0 N,awE N,awL N,alu N,k78 N],N,Tryz.f44,[.v aB,.v aL,.v I],[.own eu,.v I],[⟨30,[(2,.v I),(3,.obj aB),(4,.obj aL),(10,.own eu),(12,.obj dj),(15,.v I),(19,.v I),(38,.own dj),(39,.v I),(40,.v I)],[1,1,1,1,0,1,0,0,1,1,0,0,1,1,1,1,1,1,1],[13]⟩,⟨13,[(2,.v I),(3,.obj aB),(4,.obj aL),(10,.own eu),(38,.own dj),(39,.v I),(40,.v I)],[1,1,1,1,0,1,0,0],[]⟩],none⟩
theorem alv(K ρ):(UP N).bd K ρ 30=vn.s0 N ((UP N).kc ρ 13):=κ
theorem alw(ρ):(UP N).kc ((UP N).ch ρ) 30=vn.ze N ((UP N).kc ρ 13):=Fx.uJ [] (alv N) ρ
theorem alx(K ρ):(UP N).bd K ρ 13=vn.tX N ((UP N).kc K 30) ((UP N).kc ρ 13):=κ
theorem aly(ρ):(UP N).kc ((UP N).ch ρ) 13=vn.l6 N N:=Fx.uL [30] (alx N) ρ (vn.l6 N) λn ρ' e d=>by rw[alw,e];rfl
theorem h44(K):(UP N).top K=vn.b N ((UP N).kc K 13):=κ
def k44:Kn Tryz.prog:=⟨44,(UP N).S false (vn N),Fx.u1 (UP N) aC Tryz.func44 [13] (h44 N) (by rw[aly];rfl)⟩
def arI:Fx:=⟨9,tab,[],N,Tryz.f116,[.v I],[.v B],[],none⟩
def arJ:Kn Tryz.prog:=⟨116,(arI N).S true (SA N),Fx.u0 (arI N) aC Tryz.func116⟩
def X48:Fx:=⟨36,tab,Kn.l [arJ N],N,Tryz.f48,[.v eu],[.v B],[],none⟩
def k48:Kn Tryz.prog:=⟨48,(X48 N).S true (F48 N),Fx.u0 (X48 N) aC Tryz.func48⟩
def yS:Fx:=⟨64,tab,Kn.l [k81 N],N,Tryz.f121,[.v p4,.v I],[.own iT],[⟨19,[(0,.v p4),(1,.v I),(5,.own iT),(6,.v I),(7,.obj iT),(13,.v I),(18,.v p4),(19,.v I),(20,.v I)],[1,1,1,0,1,0,0,1,1,0,0,1,1,0,1,0,0],[11]⟩,⟨11,[(0,.v p4),(1,.v I),(5,.own iT),(13,.v I)],[1,1,1,0,1,0,0],[]⟩],none⟩
theorem aem(K ρ):(yS N).bd K ρ 19=gw.xG N ((yS N).kc ρ 11) ((yS N).kc ρ 19):=κ
theorem aen(ρ):(yS N).kc ((yS N).ch ρ) 19=gw.l9 N ((yS N).kc ρ 11) N:=Fx.uL [] (aem N) ρ (gw.l9 N ((yS N).kc ρ 11)) λn ρ' e d=>by rw[e,d 11 rfl];rfl
theorem aeo(K ρ):(yS N).bd K ρ 11=gw.eA N ((yS N).kc K 19) ((yS N).kc ρ 11):=κ
theorem aep(ρ):(yS N).kc ((yS N).ch ρ) 11=gw.l5 N N:=Fx.uL [19] (aeo N) ρ (gw.l5 N) λn ρ' e d=>by rw[aen,e];rfl
theorem awN(K):(yS N).top K=gw.b N ((yS N).kc K 11):=κ
def awO:Kn Tryz.prog:=⟨121,(yS N).S false (gw N),Fx.u1 (yS N) aC Tryz.func121 [11] (awN N) (by rw[aep];rfl)⟩
def yT:Fx:=⟨67,tab,Kn.l [aaT N],N,Tryz.f120,[.own iT,.v lE],[.own iT],[⟨12,[(0,.own iT),(3,.obj lE),(5,.v I)],[1,1,1,1],[]⟩,⟨8,[(0,.own iT),(3,.obj lE),(5,.v I)],[1,1,1],[]⟩,⟨5,[(0,.own iT),(3,.obj lE),(5,.v I)],[1,1,0,0,0],[]⟩],none⟩
theorem aeq(K ρ):(yT N).bd K ρ 12=gM.Oe N:=κ
theorem aer(ρ):(yT N).kc ((yT N).ch ρ) 12=gM.j6 N:=Fx.uJ [] (aeq N) ρ
theorem alz(K ρ):(yT N).bd K ρ 8=gM.j4b N ((yT N).kc K 12):=κ
theorem alA(ρ):(yT N).kc ((yT N).ch ρ) 8=gM.j4 N:=Fx.uJ [12] (alz N) ρ (by rw[aer];rfl)
theorem alB(K ρ):(yT N).bd K ρ 5=gM.fy N ((yT N).kc K 8) ((yT N).kc ρ 5):=κ
theorem alC(ρ):(yT N).kc ((yT N).ch ρ) 5=gM.l2 N N:=Fx.uL [8,12] (alB N) ρ (gM.l2 N) λn ρ' e d=>by rw[alA,e];rfl
theorem awP(K):(yT N).top K=gM.b N ((yT N).kc K 5):=κ
def awQ:Kn Tryz.prog:=⟨120,(yT N).S false (gM N),Fx.u1 (yT N) aC Tryz.func120 [5,8,12] (awP N) (by rw[alC];rfl)⟩
def Qy:Fx:=⟨54,tab,Kn.l [ak9 N,k75 N],N,Tryz.f138,[.v aB,.v dJ],[.v B],[⟨5,[(1,.v dJ),(2,.obj aB),(7,.v dJ),(8,.v I),(9,.v I)],[1,0,1,0,0],[]⟩],none⟩
theorem alD(K ρ):(Qy N).bd K ρ 5=pN.fy N ((Qy N).kc ρ 5):=κ
theorem alE(ρ):(Qy N).kc ((Qy N).ch ρ) 5=pN.l2 N N:=Fx.uL [] (alD N) ρ (pN.l2 N) λn ρ' e d=>by rw[e];rfl
theorem awR(K):(Qy N).top K=pN.b N ((Qy N).kc K 5):=κ
def arK:Kn Tryz.prog:=⟨138,(Qy N).S true (pN N),Fx.u1 (Qy N) aC Tryz.func138 [5] (awR N) (by rw[alE];rfl)⟩
def Qz:Fx:=⟨73,tab,Kn.l [k75 N],N,Tryz.f182,[.v aB,.v cU],[.v B],[⟨5,[(1,.v cU),(2,.obj aB),(7,.v cU),(8,.v I),(9,.v I)],[1,0,1,0,0],[]⟩],none⟩
theorem alF(K ρ):(Qz N).bd K ρ 5=pV.fy N ((Qz N).kc ρ 5):=κ
theorem alG(ρ):(Qz N).kc ((Qz N).ch ρ) 5=pV.l2 N N:=Fx.uL [] (alF N) ρ (pV.l2 N) λn ρ' e d=>by rw[e];rfl
theorem awS(K):(Qz N).top K=pV.b N ((Qz N).kc K 5):=κ
def arL:Kn Tryz.prog:=⟨182,(Qz N).S true (pV N),Fx.u1 (Qz N) aC Tryz.func182 [5] (awS N) (by rw[alG];rfl)⟩
def CT:Fx:=⟨104,tab,Kn.l [arK N,arL N,k64 N,alo N,arA N,arD N,aa0 N],N,Tryz.f122,[.v aB,.v dJ,.v cU,.v I],[.v dj,.v I],[⟨27,[(3,.v I),(8,.obj dj),(10,.v I),(11,.v I),(12,.v I),(57,.v cU),(58,.v I),(59,.v I)],[1,1,1,1,0,1,0,0],[]⟩,⟨15,[(2,.v cU),(3,.v I),(8,.obj dj),(10,.v I),(11,.v I),(12,.v I),(44,.v dJ),(45,.v I),(46,.v I)],[1,1,1,0,1,0,0],[]⟩],none⟩
theorem aes(K ρ):(CT N).bd K ρ 27=gO.mF N ((CT N).kc ρ 27):=κ
theorem aet(ρ):(CT N).kc ((CT N).ch ρ) 27=gO.oi N N:=Fx.uL [] (aes N) ρ (gO.oi N) λn ρ' e d=>by rw[e];rfl
theorem aeu(K ρ):(CT N).bd K ρ 15=gO.p6 N ((CT N).kc K 27) ((CT N).kc ρ 15):=κ
theorem aev(ρ):(CT N).kc ((CT N).ch ρ) 15=gO.l7 N N:=Fx.uL [27] (aeu N) ρ (gO.l7 N) λn ρ' e d=>by rw[aet,e];rfl
theorem awT(K):(CT N).top K=gO.b N ((CT N).kc K 15):=κ
def arM:Kn Tryz.prog:=⟨122,(CT N).S true (gO N),Fx.u1 (CT N) aC Tryz.func122 [15,27] (awT N) (by rw[aev];rfl)⟩
def arN:Fx:=⟨55,tab,Kn.l [arF N,k96 N,arw N,Mw N,alm N],N,Tryz.f184,[.v dj,.v I],[.v dj,.v B],[],none⟩
def awU:Kn Tryz.prog:=⟨184,(arN N).S true (ac6 N),Fx.u0 (arN N) aC Tryz.func184⟩
def QA:Fx:=⟨62,tab,Kn.l [arK N,arL N,arM N,awU N,W9 N],N,Tryz.f123,[.v aB,.v dJ,.v cU],[.v dj,.v I],[⟨11,[(1,.v dJ),(2,.v cU),(3,.obj aB),(6,.obj dj),(8,.own dj),(29,.v fE),(30,.v I),(31,.v I)],[1,1,1,0,1,0,0],[]⟩],none⟩
theorem aew(K ρ):(QA N).bd K ρ 11=qX.eA N ((QA N).kc ρ 11):=κ
theorem aex(ρ):(QA N).kc ((QA N).ch ρ) 11=qX.l5 N N:=Fx.uL [] (aew N) ρ (qX.l5 N) λn ρ' e d=>by rw[e];rfl
theorem awV(K):(QA N).top K=qX.b N ((QA N).kc K 11):=κ
def awW:Kn Tryz.prog:=⟨123,(QA N).S true (qX N),Fx.u1 (QA N) aC Tryz.func123 [11] (awV N) (by rw[aex];rfl)⟩
def arO:Fx:=⟨38,tab,Kn.l [alc N,k85 N,aln N,k78 N],N,Tryz.f124,[.v lE,.v I],[.v dj,.v I],[],none⟩
def awX:Kn Tryz.prog:=⟨124,(arO N).S true (Zy N),Fx.u0 (arO N) aC Tryz.func124⟩
def QB:Fx:=⟨31,tab,Kn.l [k77 N],N,Tryz.f126,[.v cU,.v I,.v I],[.v I],[⟨9,[(1,.v I),(2,.v I),(12,.v cU),(13,.v I),(14,.v I)],[1,1,0,1,0,0],[]⟩],none⟩
theorem alH(K ρ):(QB N).bd K ρ 9=pO.eN N ((QB N).kc ρ 9):=κ
theorem alI(ρ):(QB N).kc ((QB N).ch ρ) 9=pO.l4 N N:=Fx.uL [] (alH N) ρ (pO.l4 N) λn ρ' e d=>by rw[e];rfl
theorem awY(K):(QB N).top K=pO.b N ((QB N).kc K 9):=κ
def awZ:Kn Tryz.prog:=⟨126,(QB N).S true (pO N),Fx.u1 (QB N) aC Tryz.func126 [9] (awY N) (by rw[alI];rfl)⟩
def arP:Fx:=⟨10,tab,Kn.l [k64 N,aa0 N],N,Tryz.f125,[.v I,.v dj],[.v B],[],none⟩
def aw0:Kn Tryz.prog:=⟨125,(arP N).S true (ac9 N),Fx.u0 (arP N) aC Tryz.func125⟩
def X50:Fx:=⟨110,tab,Kn.l [k25 N,alc N,arp N,k63 N,aru N,awO N,awQ N,arM N,k64 N,aa0 N,awW N,awX N,alo N,awZ N,aw0 N],N,Tryz.f50,[.v aB,.v aL,.v lE],[.v I],[],none⟩
def k50:Kn Tryz.prog:=⟨50,(X50 N).S true (F50 N),Fx.u0 (X50 N) aC Tryz.func50⟩
def QC:Fx:=⟨50,tab,Kn.l [k85 N],N,Tryz.f179,[.v ry],[.v B],[⟨5,[(1,.obj ry),(9,.v (.arr 2 I)),(10,.v I)],[1,0,1,0,0],[]⟩],none⟩
theorem alJ(K ρ):(QC N).bd K ρ 5=oS.fy N ((QC N).kc ρ 5):=κ
theorem alK(ρ):(QC N).kc ((QC N).ch ρ) 5=oS.l2 N N:=Fx.uL [] (alJ N) ρ (oS.l2 N) λn ρ' e d=>by rw[e];rfl
theorem aw1(K):(QC N).top K=oS.b N ((QC N).kc K 5):=κ
def arQ:Kn Tryz.prog:=⟨179,(QC N).S true (oS N),Fx.u1 (QC N) aC Tryz.func179 [5] (aw1 N) (by rw[alK];rfl)⟩
def arR:Fx:=⟨6,tab,Kn.l [arQ N],N,Tryz.f178,[.v ry],[.v B],[],none⟩
def aw2:Kn Tryz.prog:=⟨178,(arR N).S true (aky N),Fx.u0 (arR N) aC Tryz.func178⟩
def QD:Fx:=⟨19,tab,Kn.l [aw2 N],N,Tryz.f231,[.v yR,.fn 178 .unit],[.v I],[⟨5,[(0,.v yR),(1,.fn 178 .unit),(7,.v I),(8,.v I)],[1,0,1,0,0],[]⟩],none⟩
theorem alL(K ρ):(QD N).bd K ρ 5=sY.fy N ((QD N).kc ρ 5):=κ
theorem alM(ρ):(QD N).kc ((QD N).ch ρ) 5=sY.l2 N N:=Fx.uL [] (alL N) ρ (sY.l2 N) λn ρ' e d=>by rw[e];rfl
theorem aw3(K):(QD N).top K=sY.b N ((QD N).kc K 5):=κ
def aw4:Kn Tryz.prog:=⟨231,(QD N).S true (sY N),Fx.u1 (QD N) aC Tryz.func231 [5] (aw3 N) (by rw[alM];rfl)⟩
def arS:Fx:=⟨9,tab,Kn.l [aw4 N],N,Tryz.f177,[.v yR,.fn 178 .unit],[.v B],[],none⟩
def aw5:Kn Tryz.prog:=⟨177,(arS N).S true (acU N),Fx.u0 (arS N) aC Tryz.func177⟩
def arT:Fx:=⟨12,tab,[],N,Tryz.f232,[.v I,.v dj],[.v wu],[],none⟩
def aw6:Kn Tryz.prog:=⟨232,(arT N).S true (Za N),Fx.u0 (arT N) aC Tryz.func232⟩
def arU:Fx:=⟨41,tab,Kn.l [arQ N,k85 N,aln N,aw6 N],N,Tryz.f180,[.v ry,.v I],[.own wu,.v I],[],none⟩
def aw7:Kn Tryz.prog:=⟨180,(arU N).S false (Zb N),Fx.u0 (arU N) aC Tryz.func180⟩
def arV:Fx:=⟨22,tab,Kn.l [aaU N,aaV N,Qi N,Qk N,aaW N,aaX N],N,Tryz.f145,[.v aL],[.v aL],[],none⟩
def aw8:Kn Tryz.prog:=⟨145,(arV N).S false (acR N),Fx.u0 (arV N) aC Tryz.func145⟩
def yU:Fx:=⟨42,tab,Kn.l [k64 N,W9 N,k78 N],N,Tryz.f208,[.v cU],[.v B],[⟨13,[(0,.v cU),(3,.v I),(4,.own dj),(9,.v I),(12,.v cU),(13,.v I),(14,.v I)],[1,0,1,0,0,1,1,0,0,1,1,0,1,0,0],[5]⟩,⟨5,[(0,.v cU),(9,.v I)],[1,0,1,0,0],[]⟩],none⟩
theorem aey(K ρ):(yU N).bd K ρ 13=gv.tX N ((yU N).kc ρ 5) ((yU N).kc ρ 13):=κ
theorem aez(ρ):(yU N).kc ((yU N).ch ρ) 13=gv.l6 N ((yU N).kc ρ 5) N:=Fx.uL [] (aey N) ρ (gv.l6 N ((yU N).kc ρ 5)) λn ρ' e d=>by rw[e,d 5 rfl];rfl
theorem alN(K ρ):(yU N).bd K ρ 5=gv.fy N ((yU N).kc K 13) ((yU N).kc ρ 5):=κ
theorem alO(ρ):(yU N).kc ((yU N).ch ρ) 5=gv.l2 N N:=Fx.uL [13] (alN N) ρ (gv.l2 N) λn ρ' e d=>by rw[aez,e];rfl
theorem aw9(K):(yU N).top K=gv.b N ((yU N).kc K 5):=κ
def axa:Kn Tryz.prog:=⟨208,(yU N).S true (gv N),Fx.u1 (yU N) aC Tryz.func208 [5] (aw9 N) (by rw[alO];rfl)⟩
def arW:Fx:=⟨9,tab,[],N,Tryz.f211,[.v cU],[.v cU],[],none⟩
def axb:Kn Tryz.prog:=⟨211,(arW N).S false (acH N),Fx.u0 (arW N) aC Tryz.func211⟩
def iY:Fx:=⟨173,tab,Kn.l [ad1 N,are N,ak9 N,axa N,Qk N,ari N,aaY N,k64 N,W9 N,alu N,axb N],N,Tryz.f146,[.v cU,.v cU],[.v cU,.v I],[⟨36,[(1,.v cU),(8,.own iT),(10,.obj iT),(11,.v I),(54,.v cU),(55,.v I),(56,.v I)],[1,1,1,1,1,0,1,0,0,1,1,0,0,1,1,1],[27]⟩,⟨33,[(1,.v cU),(8,.own iT),(10,.obj iT),(11,.v I),(54,.v cU),(55,.v I),(56,.v I)],[1,1,1,1,1,0,1,0,0,1,1,0,0,1,1,0,0,0],[27]⟩,⟨55,[(1,.v cU),(12,.own iT),(14,.obj iT),(15,.own dj),(107,.own iT),(108,.v I),(109,.v I),(117,.v cU),(118,.v I),(119,.v I)],[1,1,1,1,1,1,1,0,1,0,0,1,1,0,0,1,1,0,1,0,0],[47]⟩,⟨47,[(1,.v cU),(12,.own iT),(107,.own iT),(108,.v I),(109,.v I)],[1,1,1,1,1,1,1,0,1,0,0],[]⟩,⟨27,[(1,.v cU),(8,.own iT),(54,.v cU),(55,.v I),(56,.v I)],[1,1,1,1,1,0,1,0,0],[]⟩,⟨9,[(0,.v cU),(1,.v cU),(30,.v cU),(31,.v I),(32,.v I)],[1,1,0,1,0,0],[]⟩],none⟩
theorem aeA(K ρ):(iY N).bd K ρ 36=cw.akq N ((iY N).kc ρ 27):=κ
theorem aeB(ρ):(iY N).kc ((iY N).ch ρ) 36=cw.j18 N ((iY N).kc ρ 27):=Fx.uJ [47] (aeA N) ρ
theorem aeC(K ρ):(iY N).bd K ρ 33=cw.wP N ((iY N).kc K 36) ((iY N).kc ρ 27) ((iY N).kc ρ 33):=κ
theorem aeD(ρ):(iY N).kc ((iY N).ch ρ) 33=cw.xK N ((iY N).kc ρ 27) N:=Fx.uL [47,36] (aeC N) ρ (cw.xK N ((iY N).kc ρ 27)) λn ρ' e d=>by rw[aeB,e,d 27 rfl];rfl
theorem aeE(K ρ):(iY N).bd K ρ 55=cw.acI N ((iY N).kc ρ 47) ((iY N).kc ρ 55):=κ
theorem aeF(ρ):(iY N).kc ((iY N).ch ρ) 55=cw.l27 N ((iY N).kc ρ 47) N:=Fx.uL [] (aeE N) ρ (cw.l27 N ((iY N).kc ρ 47)) λn ρ' e d=>by rw[e,d 47 rfl];rfl
theorem aeG(K ρ):(iY N).bd K ρ 47=cw.acK N ((iY N).kc K 55) ((iY N).kc ρ 47):=κ
theorem aeH(ρ):(iY N).kc ((iY N).ch ρ) 47=cw.l23 N N:=Fx.uL [55] (aeG N) ρ (cw.l23 N) λn ρ' e d=>by rw[aeF,e];rfl
theorem aeI(K ρ):(iY N).bd K ρ 27=cw.mF N ((iY N).kc K 33) ((iY N).kc K 47) ((iY N).kc ρ 27):=κ
theorem aeJ(ρ):(iY N).kc ((iY N).ch ρ) 27=cw.oi N N:=Fx.uL [47,33,36] (aeI N) ρ (cw.oi N) λn ρ' e d=>by rw[aeD,aeH,e];rfl
theorem alP(K ρ):(iY N).bd K ρ 9=cw.eN N ((iY N).kc K 27) ((iY N).kc ρ 9):=κ
theorem alQ(ρ):(iY N).kc ((iY N).ch ρ) 9=cw.l4 N N:=Fx.uL [27,47] (alP N) ρ (cw.l4 N) λn ρ' e d=>by rw[aeJ,e];rfl
theorem axc(K):(iY N).top K=cw.b N ((iY N).kc K 9):=κ
def axd:Kn Tryz.prog:=⟨146,(iY N).S false (cw N),Fx.u1 (iY N) aC Tryz.func146 [9,27,47] (axc N) (by rw[alQ];rfl)⟩
def arX:Fx:=⟨9,tab,[],N,Tryz.f213,[.v cU],[.v cU],[],none⟩
def axe:Kn Tryz.prog:=⟨213,(arX N).S false (aks N),Fx.u0 (arX N) aC Tryz.func213⟩
def iZ:Fx:=⟨185,tab,Kn.l [k77 N,aq7 N,W9 N,k78 N,Qi N,aq9 N,aaZ N,k64 N,alu N,axe N],N,Tryz.f147,[.v cU,.v jV],[.v cU,.v I],[⟨42,[(1,.v jV),(11,.own iT),(13,.obj wu),(14,.v I),(68,.v jV),(69,.v I),(70,.v I)],[1,1,1,1,1,1,0,1,0,0,1,1,0,0,1,1,1],[33]⟩,⟨39,[(1,.v jV),(11,.own iT),(13,.obj wu),(14,.v I),(68,.v jV),(69,.v I),(70,.v I)],[1,1,1,1,1,1,0,1,0,0,1,1,0,0,1,1,0,0,0],[33]⟩,⟨61,[(1,.v jV),(15,.own iT),(17,.obj iT),(18,.own dj),(121,.own iT),(122,.v I),(123,.v I),(131,.v jV),(132,.v I),(133,.v I)],[1,1,1,1,1,1,1,1,0,1,0,0,1,1,0,0,1,1,0,1,0,0],[53]⟩,⟨53,[(1,.v jV),(15,.own iT),(121,.own iT),(122,.v I),(123,.v I)],[1,1,1,1,1,1,1,1,0,1,0,0],[]⟩,⟨33,[(1,.v jV),(11,.own iT),(68,.v jV),(69,.v I),(70,.v I)],[1,1,1,1,1,1,0,1,0,0],[]⟩,⟨11,[(0,.v cU),(1,.v jV),(6,.own dj),(36,.v jV),(37,.v I),(38,.v I)],[1,1,1,0,1,0,0],[]⟩],none⟩
theorem aeK(K ρ):(iZ N).bd K ρ 42=cy.RT N ((iZ N).kc ρ 33):=κ
theorem aeL(ρ):(iZ N).kc ((iZ N).ch ρ) 42=cy.Xl N ((iZ N).kc ρ 33):=Fx.uJ [53] (aeK N) ρ
theorem aeM(K ρ):(iZ N).bd K ρ 39=cy.Sg N ((iZ N).kc K 42) ((iZ N).kc ρ 33) ((iZ N).kc ρ 39):=κ
theorem aeN(ρ):(iZ N).kc ((iZ N).ch ρ) 39=cy.V1 N ((iZ N).kc ρ 33) N:=Fx.uL [53,42] (aeM N) ρ (cy.V1 N ((iZ N).kc ρ 33)) λn ρ' e d=>by rw[aeL,e,d 33 rfl];rfl
theorem aeO(K ρ):(iZ N).bd K ρ 61=cy.LC N ((iZ N).kc ρ 53) ((iZ N).kc ρ 61):=κ
theorem aeP(ρ):(iZ N).kc ((iZ N).ch ρ) 61=cy.OI N ((iZ N).kc ρ 53) N:=Fx.uL [] (aeO N) ρ (cy.OI N ((iZ N).kc ρ 53)) λn ρ' e d=>by rw[e,d 53 rfl];rfl
theorem aeQ(K ρ):(iZ N).bd K ρ 53=cy.acO N ((iZ N).kc K 61) ((iZ N).kc ρ 53):=κ
theorem aeR(ρ):(iZ N).kc ((iZ N).ch ρ) 53=cy.l26 N N:=Fx.uL [61] (aeQ N) ρ (cy.l26 N) λn ρ' e d=>by rw[aeP,e];rfl
theorem aeS(K ρ):(iZ N).bd K ρ 33=cy.wP N ((iZ N).kc K 39) ((iZ N).kc K 53) ((iZ N).kc ρ 33):=κ
theorem aeT(ρ):(iZ N).kc ((iZ N).ch ρ) 33=cy.xK N N:=Fx.uL [53,39,42] (aeS N) ρ (cy.xK N) λn ρ' e d=>by rw[aeN,aeR,e];rfl
theorem aeU(K ρ):(iZ N).bd K ρ 11=cy.eA N ((iZ N).kc K 33) ((iZ N).kc ρ 11):=κ
theorem aeV(ρ):(iZ N).kc ((iZ N).ch ρ) 11=cy.l5 N N:=Fx.uL [33,53] (aeU N) ρ (cy.l5 N) λn ρ' e d=>by rw[aeT,e];rfl
theorem axf(K):(iZ N).top K=cy.b N ((iZ N).kc K 11):=κ
def axg:Kn Tryz.prog:=⟨147,(iZ N).S false (cy N),Fx.u1 (iZ N) aC Tryz.func147 [11,33,53] (axf N) (by rw[aeV];rfl)⟩
def X65:Fx:=⟨37,tab,Kn.l [aw8 N,axd N,axg N],N,Tryz.f65,[.v aL,.v cU,.v jV],[.v aL,.v I],[],none⟩
def k65:Kn Tryz.prog:=⟨65,(X65 N).S false (F65 N),Fx.u0 (X65 N) aC Tryz.func65⟩
def CU:Fx:=⟨113,tab,Kn.l [k25 N,aw5 N,k82 N,aw7 N,k65 N],N,Tryz.f117,[.v aB,.v aL,.v yR],[.v aL,.v I],[⟨25,[(4,.obj aL),(6,.obj aL),(10,.own iT),(11,.own wu),(68,.v yR),(69,.v I),(70,.v I)],[1,1,1,1,1,0,1,0,0],[]⟩,⟨9,[(2,.v yR),(3,.obj aB),(4,.obj aL),(6,.obj aL),(30,.v yR),(31,.v I),(32,.v I)],[1,1,0,1,0,0],[]⟩],none⟩
theorem aeW(K ρ):(CU N).bd K ρ 25=iR.kt N ((CU N).kc ρ 25):=κ
theorem aeX(ρ):(CU N).kc ((CU N).ch ρ) 25=iR.lx N N:=Fx.uL [] (aeW N) ρ (iR.lx N) λn ρ' e d=>by rw[e];rfl
theorem alR(K ρ):(CU N).bd K ρ 9=iR.eN N ((CU N).kc K 25) ((CU N).kc ρ 9):=κ
theorem alS(ρ):(CU N).kc ((CU N).ch ρ) 9=iR.l4 N N:=Fx.uL [25] (alR N) ρ (iR.l4 N) λn ρ' e d=>by rw[aeX,e];rfl
theorem axh(K):(CU N).top K=iR.b N ((CU N).kc K 9):=κ
def axi:Kn Tryz.prog:=⟨117,(CU N).S false (iR N),Fx.u1 (CU N) aC Tryz.func117 [9,25] (axh N) (by rw[alS];rfl)⟩
def X49:Fx:=⟨101,tab,Kn.l [k25 N,k48 N,arJ N,k85 N,k50 N,axi N],N,Tryz.f49,[.v aB,.v aL,.v eu,.v I,.v I,.v I],[.v aL,.v eu,.v I],[⟨24,[(4,.v I),(6,.obj aB),(7,.obj aL),(8,.obj eu),(12,.obj aL),(13,.obj eu),(17,.obj ry)],[1,1,1,1,1,1],[]⟩],none⟩
theorem alU(K ρ):(X49 N).bd K ρ 24=Ic.akH N:=κ
theorem alV(ρ):(X49 N).kc ((X49 N).ch ρ) 24=Ic.j12 N:=Fx.uJ [] (alU N) ρ
theorem h49(K):(X49 N).top K=Ic.b N ((X49 N).kc K 24):=κ
def k49:Kn Tryz.prog:=⟨49,(X49 N).S false (Ic N),Fx.u1 (X49 N) aC Tryz.func49 [24] (h49 N) (by rw[alV];rfl)⟩
def X69:Fx:=⟨78,tab,[],N,Tryz.f69,[.v cU],[.v B],[⟨5,[(0,.v cU),(3,.v I)],[1,0,1,0,0],[]⟩],none⟩
theorem arY(K ρ):(X69 N).bd K ρ 5=zU.fy N ((X69 N).kc ρ 5):=κ
theorem arZ(ρ):(X69 N).kc ((X69 N).ch ρ) 5=zU.l2 N N:=Fx.uL [] (arY N) ρ (zU.l2 N) λn ρ' e d=>by rw[e];rfl
theorem h69(K):(X69 N).top K=zU.b N ((X69 N).kc K 5):=κ
def k69:Kn Tryz.prog:=⟨69,(X69 N).S true (zU N),Fx.u1 (X69 N) aC Tryz.func69 [5] (h69 N) (by rw[arZ];rfl)⟩
def X20:Fx:=⟨38,tab,Kn.l [k69 N],N,Tryz.f20,[.v cU,.v I,.v I],[.v I],[⟨9,[(0,.v cU),(1,.v I),(2,.v I),(7,.v I)],[1,1,0,1,0,0],[]⟩],none⟩
theorem ar0(K ρ):(X20 N).bd K ρ 9=BV.eN N ((X20 N).kc ρ 9):=κ
theorem ar1(ρ):(X20 N).kc ((X20 N).ch ρ) 9=BV.l4 N N:=Fx.uL [] (ar0 N) ρ (BV.l4 N) λn ρ' e d=>by rw[e];rfl
theorem h20(K):(X20 N).top K=BV.b N ((X20 N).kc K 9):=κ
def k20:Kn Tryz.prog:=⟨20,(X20 N).S true (BV N),Fx.u1 (X20 N) aC Tryz.func20 [9] (h20 N) (by rw[ar1];rfl)⟩
def ar2:Fx:=⟨30,tab,[],N,Tryz.f149,[.v I,.v I],[.v B],[],none⟩
def ar3:Kn Tryz.prog:=⟨149,(ar2 N).S true (RY N),Fx.u0 (ar2 N) aC Tryz.func149⟩
def X68:Fx:=⟨74,tab,Kn.l [ar3 N],N,Tryz.f68,[.v cU],[.v B],[⟨5,[(0,.v cU),(3,.v I)],[1,0,1,0,0],[]⟩],none⟩
theorem ar4(K ρ):(X68 N).bd K ρ 5=Cj.fy N ((X68 N).kc ρ 5):=κ
theorem ar5(ρ):(X68 N).kc ((X68 N).ch ρ) 5=Cj.l2 N N:=Fx.uL [] (ar4 N) ρ (Cj.l2 N) λn ρ' e d=>by rw[e];rfl
theorem h68(K):(X68 N).top K=Cj.b N ((X68 N).kc K 5):=κ
def k68:Kn Tryz.prog:=⟨68,(X68 N).S true (Cj N),Fx.u1 (X68 N) aC Tryz.func68 [5] (h68 N) (by rw[ar5];rfl)⟩
def X19:Fx:=⟨38,tab,Kn.l [k68 N],N,Tryz.f19,[.v cU,.v I,.v I],[.v I],[⟨9,[(0,.v cU),(1,.v I),(2,.v I),(7,.v I)],[1,1,0,1,0,0],[]⟩],none⟩
theorem ar6(K ρ):(X19 N).bd K ρ 9=wF.eN N ((X19 N).kc ρ 9):=κ
theorem ar7(ρ):(X19 N).kc ((X19 N).ch ρ) 9=wF.l4 N N:=Fx.uL [] (ar6 N) ρ (wF.l4 N) λn ρ' e d=>by rw[e];rfl
theorem h19(K):(X19 N).top K=wF.b N ((X19 N).kc K 9):=κ
def k19:Kn Tryz.prog:=⟨19,(X19 N).S true (wF N),Fx.u1 (X19 N) aC Tryz.func19 [9] (h19 N) (by rw[ar7];rfl)⟩
def X38:Fx:=⟨108,tab,Kn.l [k99 N,k43 N,k44 N,k49 N,k20 N,k19 N,k48 N],N,Tryz.f38,[],[.v B],[],none⟩
theorem aBg:uS Tryz.prog (X38 N).E:=Fx.TK (X38 N) aC (Kn.all _) κ
theorem aBh: ∀x,Rk (X38 N).E (X38 N).fn (X38 N).args (X38 N).res x=Ld (X38 N).args (F38 N) x:=Fx.akb κ
def k38:Kn Tryz.prog:=⟨38,(X38 N).S true (F38 N),Fx.u0 (X38 N) aC Tryz.func38⟩
def X13:Fx:=⟨6,tab,[],N,Tryz.f13,[.v LU],[.ptr fF],[],none⟩
def k13:Kn Tryz.prog:=⟨13,(X13 N).S false (F13 N),Fx.u0 (X13 N) aC Tryz.func13⟩
def X42:Fx:=⟨32,tab,[],N,Tryz.f42,[.io fF],[.v U,.io fF],[],none⟩
def k42:Kn Tryz.prog:=⟨42,(X42 N).S false (F42 N),Fx.u0 (X42 N) aC Tryz.func42⟩
def X41:Fx:=⟨11,tab,Kn.l [k42 N],N,Tryz.f41,[.io fF,.v I],[.v I,.io fF],[],none⟩
def k41:Kn Tryz.prog:=⟨41,(X41 N).S false (uh N),Fx.u0 (X41 N) aC Tryz.func41⟩
def X54:Fx:=⟨11,tab,Kn.l [k41 N],N,Tryz.f54,[.io fF,.v I],[.v B,.io fF],[],none⟩
def k54:Kn Tryz.prog:=⟨54,(X54 N).S false (F54 N),Fx.u0 (X54 N) aC Tryz.func54⟩
def X89:Fx:=⟨29,tab,Kn.l [k42 N],N,Tryz.f89,[.io fF],[.v I,.io fF],[],none⟩
def k89:Kn Tryz.prog:=⟨89,(X89 N).S false (MM N),Fx.u0 (X89 N) aC Tryz.func89⟩
def UQ:Fx:=⟨71,tab,Kn.l [k41 N,k54 N,k89 N],N,Tryz.f27,[.io fF],[.v aB,.io fF],[⟨16,[(0,.io fF),(2,.obj aB),(3,.ga aB [.kE 0] eu),(4,.v I),(5,.obj eu)],[1,1,0,1,0,0,1,0,0,1,1],[7]⟩,⟨7,[(0,.io fF),(2,.obj aB),(3,.ga aB [.kE 0] eu),(4,.v I)],[1,1,0,1,0,0],[]⟩],some (aB,[.kE 0],eu,[3])⟩
theorem alW(K ρ):(UQ N).bd K ρ 16=vP.YG N ((UQ N).kc ρ 7):=κ
theorem alX(ρ):(UQ N).kc ((UQ N).ch ρ) 16=vP.j8 N ((UQ N).kc ρ 7):=Fx.uJ [] (alW N) ρ
theorem ar9(K ρ):(UQ N).bd K ρ 7=vP.ob N ((UQ N).kc K 16) ((UQ N).kc ρ 7):=κ
theorem asa(ρ):(UQ N).kc ((UQ N).ch ρ) 7=vP.l3 N N:=Fx.uL [16] (ar9 N) ρ (vP.l3 N) λn ρ' e d=>by rw[alX,e];rfl
theorem h27(K):(UQ N).top K=vP.b N ((UQ N).kc K 7):=κ
def k27:Kn Tryz.prog:=⟨27,(UQ N).S false (vP N),Fx.u1 (UQ N) aC Tryz.func27 [7] (h27 N) (by rw[asa];rfl)⟩
def wS:Fx:=⟨62,tab,Kn.l [k54 N,k41 N],N,Tryz.f157,[.io fF,.v aB],[.own pI,.io fF],[⟨27,[(0,.io fF),(5,.own pI),(8,.v I)],[1,1,1,1,0,1,0,0],[]⟩,⟨19,[(0,.io fF),(5,.own pI),(7,.v I)],[1,1,1,0,1,0,0],[]⟩,⟨7,[(0,.io fF),(5,.own pI),(6,.v I)],[1,1,0,1,0,0],[]⟩],none⟩
theorem ae0(K ρ):(wS N).bd K ρ 27=fM.mF N ((wS N).kc ρ 27):=κ
theorem ae1(ρ):(wS N).kc ((wS N).ch ρ) 27=fM.oi N N:=Fx.uL [] (ae0 N) ρ (fM.oi N) λn ρ' e d=>by rw[e];rfl
theorem ae2(K ρ):(wS N).bd K ρ 19=fM.xG N ((wS N).kc K 27) ((wS N).kc ρ 19):=κ
theorem ae3(ρ):(wS N).kc ((wS N).ch ρ) 19=fM.l9 N N:=Fx.uL [27] (ae2 N) ρ (fM.l9 N) λn ρ' e d=>by rw[ae1,e];rfl
theorem alY(K ρ):(wS N).bd K ρ 7=fM.ob N ((wS N).kc K 19) ((wS N).kc ρ 7):=κ
theorem alZ(ρ):(wS N).kc ((wS N).ch ρ) 7=fM.l3 N N:=Fx.uL [19,27] (alY N) ρ (fM.l3 N) λn ρ' e d=>by rw[ae3,e];rfl
theorem axl(K):(wS N).top K=fM.b N ((wS N).kc K 7):=κ
def axm:Kn Tryz.prog:=⟨157,(wS N).S false (fM N),Fx.u1 (wS N) aC Tryz.func157 [7,19,27] (axl N) (by rw[alZ];rfl)⟩
def asb:Fx:=⟨30,tab,Kn.l [k41 N,k54 N,k89 N],N,Tryz.f159,[.io fF,.v aB,.v I],[.v pI,.io fF],[],none⟩
def al0:Kn Tryz.prog:=⟨159,(asb N).S false (Wv N),Fx.u0 (asb N) aC Tryz.func159⟩
def asc:Fx:=⟨48,tab,Kn.l [k41 N,k54 N,k89 N],N,Tryz.f160,[.io fF,.v aB],[.v pI,.io fF],[],none⟩
def asd:Kn Tryz.prog:=⟨160,(asc N).S false (ZH N),Fx.u0 (asc N) aC Tryz.func160⟩
def ase:Fx:=⟨133,tab,Kn.l [k41 N,k89 N,al0 N,asd N],N,Tryz.f158,[.io fF,.v aB],[.v pI,.io fF],[],none⟩
def asf:Kn Tryz.prog:=⟨158,(ase N).S false (ZI N),Fx.u0 (ase N) aC Tryz.func158⟩
def X90:Fx:=⟨50,tab,Kn.l [axm N,k41 N,asf N,al0 N,asd N],N,Tryz.f90,[.io fF,.v aB,.v I],[.own pI,.io fF],[⟨7,[(0,.io fF),(4,.obj aB),(7,.own pI),(8,.v I)],[1,1,0,1,0,0],[]⟩],none⟩
theorem asg(K ρ):(X90 N).bd K ρ 7=E4.ob N ((X90 N).kc ρ 7):=κ
theorem ash(ρ):(X90 N).kc ((X90 N).ch ρ) 7=E4.l3 N N:=Fx.uL [] (asg N) ρ (E4.l3 N) λn ρ' e d=>by rw[e];rfl
theorem h90(K):(X90 N).top K=E4.b N ((X90 N).kc K 7):=κ
def k90:Kn Tryz.prog:=⟨90,(X90 N).S false (E4 N),Fx.u1 (X90 N) aC Tryz.func90 [7] (h90 N) (by rw[ash];rfl)⟩
def X91:Fx:=⟨33,tab,Kn.l [k41 N,k54 N,al0 N,asf N],N,Tryz.f91,[.io fF,.v aB],[.own pI,.io fF],[⟨7,[(0,.io fF),(3,.obj aB),(5,.own pI),(6,.v I)],[1,1,0,1,0,0],[]⟩],none⟩
theorem asi(K ρ):(X91 N).bd K ρ 7=Es.ob N ((X91 N).kc ρ 7):=κ
theorem asj(ρ):(X91 N).kc ((X91 N).ch ρ) 7=Es.l3 N N:=Fx.uL [] (asi N) ρ (Es.l3 N) λn ρ' e d=>by rw[e];rfl
theorem h91(K):(X91 N).top K=Es.b N ((X91 N).kc K 7):=κ
def k91:Kn Tryz.prog:=⟨91,(X91 N).S false (Es N),Fx.u1 (X91 N) aC Tryz.func91 [7] (h91 N) (by rw[asj];rfl)⟩
def asl:Fx:=⟨15,tab,[],N,Tryz.f176,[.v I,.v I,.v I],[.v B],[],none⟩
def axn:Kn Tryz.prog:=⟨176,(asl N).S true (IE N),Fx.u0 (asl N) aC Tryz.func176⟩
def QE:Fx:=⟨77,tab,Kn.l [axn N],N,Tryz.f115,[.v aB],[.v B],[⟨9,[(1,.obj aB),(3,.v I)],[1,1,0,1,0,0],[]⟩],none⟩
theorem al1(K ρ):(QE N).bd K ρ 9=mA.eN N ((QE N).kc ρ 9):=κ
theorem al2(ρ):(QE N).kc ((QE N).ch ρ) 9=mA.l4 N N:=Fx.uL [] (al1 N) ρ (mA.l4 N) λn ρ' e d=>by rw[e];rfl
theorem axo(K):(QE N).top K=mA.b N ((QE N).kc K 9):=κ
def Tj:Kn Tryz.prog:=⟨115,(QE N).S true (mA N),Fx.u1 (QE N) aC Tryz.func115 [9] (axo N) (by rw[al2];rfl)⟩
def Ey:Fx:=⟨41,tab,Kn.l [Tj N],N,Tryz.f214,[.v aB],[.v aL,.v I],[⟨15,[(1,.obj aB),(2,.obj aL),(4,.ga aL [.kE 4] I),(5,.v I)],[1,1,1,1,0,1,0,0],[]⟩,⟨12,[(1,.obj aB),(2,.obj aL),(4,.ga aL [.kE 4] I)],[1,1,1,1],[]⟩],some (aL,[.kE 4],I,[4])⟩
theorem ae4(K ρ):(Ey N).bd K ρ 15=gY.p6 N ((Ey N).kc ρ 15):=κ
theorem ae5(ρ):(Ey N).kc ((Ey N).ch ρ) 15=gY.l7 N N:=Fx.uL [] (ae4 N) ρ (gY.l7 N) λn ρ' e d=>by rw[e];rfl
theorem ae6(K ρ):(Ey N).bd K ρ 12=gY.Oe N ((Ey N).kc K 15):=κ
theorem ae7(ρ):(Ey N).kc ((Ey N).ch ρ) 12=gY.j6 N:=Fx.uJ [15] (ae6 N) ρ (by rw[ae5];rfl)
theorem axp(K):(Ey N).top K=gY.b N ((Ey N).kc K 12):=κ
def axq:Kn Tryz.prog:=⟨214,(Ey N).S false (gY N),Fx.u1 (Ey N) aC Tryz.func214 [12,15] (axp N) (by rw[ae7];rfl)⟩
def asm:Fx:=⟨17,tab,Kn.l [axq N],N,Tryz.f161,[.v aB],[.v eg,.v I],[],none⟩
def axr:Kn Tryz.prog:=⟨161,(asm N).S false (akm N),Fx.u0 (asm N) aC Tryz.func161⟩
def asn:Fx:=⟨9,tab,[],N,Tryz.f246,[.v I],[.v B],[],none⟩
def axs:Kn Tryz.prog:=⟨246,(asn N).S true (akL N),Fx.u0 (asn N) aC Tryz.func246⟩
def aso:Fx:=⟨32,tab,[],N,Tryz.f247,[.v I],[.v Z],[],none⟩
def axt:Kn Tryz.prog:=⟨247,(aso N).S true (adl N),Fx.u0 (aso N) aC Tryz.func247⟩
def asq:Fx:=⟨12,tab,[],N,Tryz.f275,[.v I],[.v I,.v I],[],none⟩
def axu:Kn Tryz.prog:=⟨275,(asq N).S true (akJ N),Fx.u0 (asq N) aC Tryz.func275⟩
def asr:Fx:=⟨6,tab,[],N,Tryz.f276,[.v I],[.v I,.v I],[],none⟩
def axv:Kn Tryz.prog:=⟨276,(asr N).S true (akK N),Fx.u0 (asr N) aC Tryz.func276⟩
def ass:Fx:=⟨27,tab,Kn.l [axu N,axv N],N,Tryz.f248,[.v I,.v (.int .u8)],[.v I,.v I],[],none⟩
def axw:Kn Tryz.prog:=⟨248,(ass N).S true (adm N),Fx.u0 (ass N) aC Tryz.func248⟩
def ast:Fx:=⟨32,tab,[],N,Tryz.f249,[.v pI,.v (.int .u8)],[.v I],[],none⟩
def axx:Kn Tryz.prog:=⟨249,(ast N).S true (adn N),Fx.u0 (ast N) aC Tryz.func249⟩
def asu:Fx:=⟨35,tab,[],N,Tryz.f250,[.v pI,.v (.int .u8),.v I],[.v pI],[],none⟩
def axy:Kn Tryz.prog:=⟨250,(asu N).S true (ado N),Fx.u0 (asu N) aC Tryz.func250⟩
def QF:Fx:=⟨56,tab,Kn.l [axs N,axt N,axw N,axx N,axy N],N,Tryz.f215,[.v pI],[.v B],[⟨13,[(1,.obj pI),(3,.v Z),(4,.obj pI),(5,.v I)],[1,1,1,1,0,1,0,0],[]⟩],none⟩
theorem ae8(K ρ):(QF N).bd K ρ 13=sF.tX N ((QF N).kc ρ 13):=κ
theorem ae9(ρ):(QF N).kc ((QF N).ch ρ) 13=sF.l6 N N:=Fx.uL [] (ae8 N) ρ (sF.l6 N) λn ρ' e d=>by rw[e];rfl
theorem axz(K):(QF N).top K=sF.b N ((QF N).kc K 13):=κ
def axA:Kn Tryz.prog:=⟨215,(QF N).S true (sF N),Fx.u1 (QF N) aC Tryz.func215 [13] (axz N) (by rw[ae9];rfl)⟩
def QG:Fx:=⟨58,tab,[],N,Tryz.f235,[.v dJ],[.v B],[⟨5,[(0,.v dJ),(3,.v I)],[1,0,1,0,0],[]⟩],none⟩
theorem al3(K ρ):(QG N).bd K ρ 5=oe.fy N ((QG N).kc ρ 5):=κ
theorem al4(ρ):(QG N).kc ((QG N).ch ρ) 5=oe.l2 N N:=Fx.uL [] (al3 N) ρ (oe.l2 N) λn ρ' e d=>by rw[e];rfl
theorem axB(K):(QG N).top K=oe.b N ((QG N).kc K 5):=κ
def afa:Kn Tryz.prog:=⟨235,(QG N).S true (oe N),Fx.u1 (QG N) aC Tryz.func235 [5] (axB N) (by rw[al4];rfl)⟩
def QH:Fx:=⟨24,tab,[],N,Tryz.f236,[.v dJ,.v I],[.v I],[⟨5,[(0,.v dJ),(1,.v I),(5,.v I)],[1,0,1,0,0],[]⟩],none⟩
theorem al5(K ρ):(QH N).bd K ρ 5=m4.fy N ((QH N).kc ρ 5):=κ
theorem al6(ρ):(QH N).kc ((QH N).ch ρ) 5=m4.l2 N N:=Fx.uL [] (al5 N) ρ (m4.l2 N) λn ρ' e d=>by rw[e];rfl
theorem axC(K):(QH N).top K=m4.b N ((QH N).kc K 5):=κ
def Xa:Kn Tryz.prog:=⟨236,(QH N).S true (m4 N),Fx.u1 (QH N) aC Tryz.func236 [5] (axC N) (by rw[al6];rfl)⟩
def Ez:Fx:=⟨53,tab,Kn.l [afa N,Xa N],N,Tryz.f251,[.v dJ,.v I],[.own jH,.v I],[⟨18,[(0,.v dJ),(1,.v I),(6,.own jH),(7,.v I)],[1,1,1,1,1,1],[]⟩,⟨15,[(0,.v dJ),(1,.v I),(6,.own jH),(7,.v I)],[1,1,1,1,1,0,0,0],[]⟩],none⟩
theorem afb(K ρ):(Ez N).bd K ρ 18=iq.On N:=κ
theorem afc(ρ):(Ez N).kc ((Ez N).ch ρ) 18=iq.j9 N:=Fx.uJ [] (afb N) ρ
theorem afd(K ρ):(Ez N).bd K ρ 15=iq.p6 N ((Ez N).kc K 18) ((Ez N).kc ρ 15):=κ
theorem afe(ρ):(Ez N).kc ((Ez N).ch ρ) 15=iq.l7 N N:=Fx.uL [18] (afd N) ρ (iq.l7 N) λn ρ' e d=>by rw[afc,e];rfl
theorem axD(K):(Ez N).top K=iq.b N ((Ez N).kc K 15):=κ
def axE:Kn Tryz.prog:=⟨251,(Ez N).S false (iq N),Fx.u1 (Ez N) aC Tryz.func251 [15,18] (axD N) (by rw[afe];rfl)⟩
def asv:Fx:=⟨5,tab,[],N,Tryz.f252,[.v I],[.v iT],[],none⟩
def aff:Kn Tryz.prog:=⟨252,(asv N).S true (fC N),Fx.u0 (asv N) aC Tryz.func252⟩
def Ii:Fx:=⟨95,tab,[],N,Tryz.f71,[.v fE],[.v B],[⟨17,[(0,.v fE),(3,.v I),(4,.obj eu),(5,.v I)],[1,0,1,0,0,1,0,0,1,1,1,0,0],[5]⟩,⟨14,[(0,.v fE),(3,.v I),(4,.obj eu)],[1,0,1,0,0,1,0,0,1,1],[5]⟩,⟨5,[(0,.v fE),(3,.v I)],[1,0,1,0,0],[]⟩],none⟩
theorem al7(K ρ):(Ii N).bd K ρ 17=mu.Dy N ((Ii N).kc ρ 5) ((Ii N).kc ρ 17):=κ
theorem al8(ρ):(Ii N).kc ((Ii N).ch ρ) 17=mu.l8 N ((Ii N).kc ρ 5) N:=Fx.uL [] (al7 N) ρ (mu.l8 N ((Ii N).kc ρ 5)) λn ρ' e d=>by rw[e,d 5 rfl];rfl
theorem al9(K ρ):(Ii N).bd K ρ 14=mu.Rr N ((Ii N).kc K 17) ((Ii N).kc ρ 5):=κ
theorem ama(ρ):(Ii N).kc ((Ii N).ch ρ) 14=mu.j7 N ((Ii N).kc ρ 5):=Fx.uJ [17] (al9 N) ρ (by rw[al8];rfl)
theorem asw(K ρ):(Ii N).bd K ρ 5=mu.fy N ((Ii N).kc K 14) ((Ii N).kc ρ 5):=κ
theorem asx(ρ):(Ii N).kc ((Ii N).ch ρ) 5=mu.l2 N N:=Fx.uL [14,17] (asw N) ρ (mu.l2 N) λn ρ' e d=>by rw[ama,e];rfl
theorem h71(K):(Ii N).top K=mu.b N ((Ii N).kc K 5):=κ
def k71:Kn Tryz.prog:=⟨71,(Ii N).S true (mu N),Fx.u1 (Ii N) aC Tryz.func71 [5] (h71 N) (by rw[asx];rfl)⟩
def QI:Fx:=⟨28,tab,Kn.l [afa N,k71 N,Xa N],N,Tryz.f185,[.v dJ,.v fE],[.v B],[⟨9,[(0,.v dJ),(1,.v fE),(5,.v I)],[1,1,0,1,0,0],[]⟩],none⟩
theorem amb(K ρ):(QI N).bd K ρ 9=oH.eN N ((QI N).kc ρ 9):=κ
theorem amc(ρ):(QI N).kc ((QI N).ch ρ) 9=oH.l4 N N:=Fx.uL [] (amb N) ρ (oH.l4 N) λn ρ' e d=>by rw[e];rfl
theorem axF(K):(QI N).top K=oH.b N ((QI N).kc K 9):=κ
def amd:Kn Tryz.prog:=⟨185,(QI N).S true (oH N),Fx.u1 (QI N) aC Tryz.func185 [9] (axF N) (by rw[amc];rfl)⟩
def QJ:Fx:=⟨25,tab,[],N,Tryz.f267,[.v fE,.v I],[.v eu,.v B],[⟨5,[(0,.v fE),(1,.v I),(4,.obj eu),(6,.v I)],[1,0,1,0,0],[]⟩],none⟩
theorem ame(K ρ):(QJ N).bd K ρ 5=oh.fy N ((QJ N).kc ρ 5):=κ
theorem amf(ρ):(QJ N).kc ((QJ N).ch ρ) 5=oh.l2 N N:=Fx.uL [] (ame N) ρ (oh.l2 N) λn ρ' e d=>by rw[e];rfl
theorem axG(K):(QJ N).top K=oh.b N ((QJ N).kc K 5):=κ
def afg:Kn Tryz.prog:=⟨267,(QJ N).S true (oh N),Fx.u1 (QJ N) aC Tryz.func267 [5] (axG N) (by rw[amf];rfl)⟩
def X22:Fx:=⟨35,tab,Kn.l [k71 N],N,Tryz.f22,[.v fE,.v I],[.v I],[⟨9,[(0,.v fE),(1,.v I),(5,.v I)],[1,1,0,1,0,0],[]⟩],none⟩
theorem asy(K ρ):(X22 N).bd K ρ 9=zz.eN N ((X22 N).kc ρ 9):=κ
theorem asz(ρ):(X22 N).kc ((X22 N).ch ρ) 9=zz.l4 N N:=Fx.uL [] (asy N) ρ (zz.l4 N) λn ρ' e d=>by rw[e];rfl
theorem h22(K):(X22 N).top K=zz.b N ((X22 N).kc K 9):=κ
def k22:Kn Tryz.prog:=⟨22,(X22 N).S true (zz N),Fx.u1 (X22 N) aC Tryz.func22 [9] (h22 N) (by rw[asz];rfl)⟩
def yV:Fx:=⟨81,tab,Kn.l [amd N,k71 N,Xa N,afg N,k22 N],N,Tryz.f253,[.v dJ,.v fE,.v eu],[.own eu,.v I],[⟨30,[(1,.v fE),(5,.obj eu),(11,.own eu),(12,.v I)],[1,1,1,1,1,1,1,1,1],[]⟩,⟨27,[(1,.v fE),(5,.obj eu),(11,.own eu),(12,.v I)],[1,1,1,1,1,1,1,1,0,0,0],[]⟩,⟨22,[(1,.v fE),(5,.obj eu)],[1,1,1,1,1,1],[]⟩],none⟩
theorem afh(K ρ):(yV N).bd K ρ 30=fm.s0 N:=κ
theorem afi(ρ):(yV N).kc ((yV N).ch ρ) 30=fm.ze N:=Fx.uJ [] (afh N) ρ
theorem afj(K ρ):(yV N).bd K ρ 27=fm.mF N ((yV N).kc K 30) ((yV N).kc ρ 27):=κ
theorem afk(ρ):(yV N).kc ((yV N).ch ρ) 27=fm.oi N N:=Fx.uL [30] (afj N) ρ (fm.oi N) λn ρ' e d=>by rw[afi,e];rfl
theorem afl(K ρ):(yV N).bd K ρ 22=fm.CG N ((yV N).kc K 27):=κ
theorem afm(ρ):(yV N).kc ((yV N).ch ρ) 22=fm.Kl N:=Fx.uJ [27,30] (afl N) ρ (by rw[afk];rfl)
theorem axH(K):(yV N).top K=fm.b N ((yV N).kc K 22):=κ
def axI:Kn Tryz.prog:=⟨253,(yV N).S false (fm N),Fx.u1 (yV N) aC Tryz.func253 [22,27,30] (axH N) (by rw[afm];rfl)⟩
def asB:Fx:=⟨15,tab,Kn.l [k71 N,afg N],N,Tryz.f222,[.v fE,.v I],[.v eu,.v B],[],none⟩
def Tk:Kn Tryz.prog:=⟨222,(asB N).S true (El N),Fx.u0 (asB N) aC Tryz.func222⟩
def asC:Fx:=⟨16,tab,Kn.l [Tk N],N,Tryz.f254,[.v eg,.v I],[.v B],[],none⟩
def axJ:Kn Tryz.prog:=⟨254,(asC N).S true (SN N),Fx.u0 (asC N) aC Tryz.func254⟩
def QK:Fx:=⟨22,tab,[],N,Tryz.f148,[.v LU],[.v LU],[⟨5,[(0,.v LU),(3,.v I)],[1,1,0,0,0],[]⟩],none⟩
theorem amg(K ρ):(QK N).bd K ρ 5=oD.fy N ((QK N).kc ρ 5):=κ
theorem amh(ρ):(QK N).kc ((QK N).ch ρ) 5=oD.l2 N N:=Fx.uL [] (amg N) ρ (oD.l2 N) λn ρ' e d=>by rw[e];rfl
theorem axK(K):(QK N).top K=oD.b N ((QK N).kc K 5):=κ
def ami:Kn Tryz.prog:=⟨148,(QK N).S false (oD N),Fx.u1 (QK N) aC Tryz.func148 [5] (axK N) (by rw[amh];rfl)⟩
def X67:Fx:=⟨9,tab,Kn.l [ami N],N,Tryz.f67,[.v U],[.v LU],[],none⟩
def k67:Kn Tryz.prog:=⟨67,(X67 N).S false (F67 N),Fx.u0 (X67 N) aC Tryz.func67⟩
def X66:Fx:=⟨15,tab,Kn.l [ami N],N,Tryz.f66,[.v B,.v LU],[.v c4],[],none⟩
def k66:Kn Tryz.prog:=⟨66,(X66 N).S false (VB N),Fx.u0 (X66 N) aC Tryz.func66⟩
def X18:Fx:=⟨15,tab,Kn.l [k67 N,k66 N],N,Tryz.f18,[.v I],[.v c4],[],none⟩
def zh:Kn Tryz.prog:=⟨18,(X18 N).S false (jD N),Fx.u0 (X18 N) aC Tryz.func18⟩
def X70:Fx:=⟨9,tab,Kn.l [k66 N],N,Tryz.f70,[.v c4],[.v c4],[],none⟩
def k70:Kn Tryz.prog:=⟨70,(X70 N).S false (Xm N),Fx.u0 (X70 N) aC Tryz.func70⟩
def asD:Fx:=⟨21,tab,Kn.l [k70 N],N,Tryz.f134,[.v I,.v I,.v I,.v I,.v c4],[.own sO],[],none⟩
def aa2:Kn Tryz.prog:=⟨134,(asD N).S false (CI N),Fx.u0 (asD N) aC Tryz.func134⟩
def X98:Fx:=⟨13,tab,[],N,Tryz.f98,[.v LU,.v I],[.v U],[],none⟩
def k98:Kn Tryz.prog:=⟨98,(X98 N).S true (F98 N),Fx.u0 (X98 N) aC Tryz.func98⟩
def UR:Fx:=⟨41,tab,Kn.l [k98 N],N,Tryz.f72,[.v LU,.v LU],[.own U],[⟨12,[(0,.v LU),(1,.v LU),(5,.own U),(6,.v U),(7,.v I)],[1,1,1,0,1,0,0,1],[9]⟩,⟨9,[(0,.v LU),(1,.v LU),(5,.own U),(6,.v U),(7,.v I)],[1,1,1,0,1,0,0],[]⟩],none⟩
theorem amk(K ρ):(UR N).bd K ρ 12=wE.Oe N ((UR N).kc ρ 9):=κ
theorem aml(ρ):(UR N).kc ((UR N).ch ρ) 12=wE.j6 N ((UR N).kc ρ 9):=Fx.uJ [] (amk N) ρ
theorem asE(K ρ):(UR N).bd K ρ 9=wE.eN N ((UR N).kc K 12) ((UR N).kc ρ 9):=κ
theorem asF(ρ):(UR N).kc ((UR N).ch ρ) 9=wE.l4 N N:=Fx.uL [12] (asE N) ρ (wE.l4 N) λn ρ' e d=>by rw[aml,e];rfl
theorem h72(K):(UR N).top K=wE.b N ((UR N).kc K 9):=κ
def k72:Kn Tryz.prog:=⟨72,(UR N).S false (wE N),Fx.u1 (UR N) aC Tryz.func72 [9] (h72 N) (by rw[asF];rfl)⟩
def X73:Fx:=⟨41,tab,[],N,Tryz.f73,[.v LU,.v LU],[.v I],[⟨13,[(0,.v LU),(1,.v LU),(5,.v I)],[1,1,0,1,0,0],[]⟩],none⟩
theorem amm(K ρ):(X73 N).bd K ρ 13=Eg.tX N ((X73 N).kc ρ 13):=κ
theorem amn(ρ):(X73 N).kc ((X73 N).ch ρ) 13=Eg.l6 N N:=Fx.uL [] (amm N) ρ (Eg.l6 N) λn ρ' e d=>by rw[e];rfl
theorem h73(K):(X73 N).top K=Eg.b N ((X73 N).kc K 13):=κ
def k73:Kn Tryz.prog:=⟨73,(X73 N).S true (Eg N),Fx.u1 (X73 N) aC Tryz.func73 [13] (h73 N) (by rw[amn];rfl)⟩
def X74:Fx:=⟨37,tab,Kn.l [k98 N],N,Tryz.f74,[.v LU,.v LU],[.own U],[⟨9,[(0,.v LU),(1,.v LU),(5,.own U),(6,.v U),(7,.v I)],[1,1,1,0,1,0,0],[]⟩],none⟩
theorem asG(K ρ):(X74 N).bd K ρ 9=EL.eN N ((X74 N).kc ρ 9):=κ
theorem asH(ρ):(X74 N).kc ((X74 N).ch ρ) 9=EL.l4 N N:=Fx.uL [] (asG N) ρ (EL.l4 N) λn ρ' e d=>by rw[e];rfl
theorem h74(K):(X74 N).top K=EL.b N ((X74 N).kc K 9):=κ
def k74:Kn Tryz.prog:=⟨74,(X74 N).S false (EL N),Fx.u1 (X74 N) aC Tryz.func74 [9] (h74 N) (by rw[asH];rfl)⟩
def X23:Fx:=⟨40,tab,Kn.l [k72 N,k66 N,k73 N,k74 N],N,Tryz.f23,[.v c4,.v c4],[.v c4],[],none⟩
def Rv:Kn Tryz.prog:=⟨23,(X23 N).S false (zT N),Fx.u0 (X23 N) aC Tryz.func23⟩
def asI:Fx:=⟨28,tab,Kn.l [k98 N],N,Tryz.f102,[.v c4],[.v I,.v B],[],none⟩
def HW:Kn Tryz.prog:=⟨102,(asI N).S true (xD N),Fx.u0 (asI N) aC Tryz.func102⟩
def asJ:Fx:=⟨18,tab,Kn.l [HW N],N,Tryz.f239,[.v c4],[.v I,.v B],[],none⟩
def asK:Kn Tryz.prog:=⟨239,(asJ N).S true (Se N),Fx.u0 (asJ N) aC Tryz.func239⟩
def kD:Fx:=⟨106,tab,Kn.l [zh N,Rv N,asK N],N,Tryz.f196,[.v cU,.v cU],[.own iT,.v B],[⟨31,[(0,.v cU),(1,.v cU),(6,.own iT),(7,.v I),(8,.v I),(9,.v I),(10,.v I),(11,.v B),(12,.obj c4),(13,.v I)],[1,1,1,0,1,0,0,1,0,0,1,0,0,1,0,0,1,1,1,0,1,0,0],[9,15]⟩,⟨26,[(0,.v cU),(1,.v cU),(6,.own iT),(7,.v I),(8,.v I),(9,.v I),(10,.v I),(11,.v B)],[1,1,1,0,1,0,0,1,0,0,1,0,0,1,0,0,1,1],[9,15]⟩,⟨15,[(0,.v cU),(1,.v cU),(6,.own iT),(7,.v I),(8,.v I),(9,.v I)],[1,1,1,0,1,0,0,1,0,0,1,0,0],[9]⟩,⟨9,[(0,.v cU),(1,.v cU),(6,.own iT),(7,.v I),(8,.v I)],[1,1,1,0,1,0,0],[]⟩],none⟩
theorem afn(K ρ):(kD N).bd K ρ 31=cA.IM N ((kD N).kc ρ 9) ((kD N).kc ρ 15) ((kD N).kc ρ 31):=κ
theorem afo(ρ):(kD N).kc ((kD N).ch ρ) 31=cA.JG N ((kD N).kc ρ 9) ((kD N).kc ρ 15) N:=Fx.uL [] (afn N) ρ (cA.JG N ((kD N).kc ρ 9) ((kD N).kc ρ 15)) λn ρ' e d=>by rw[e,d 9 rfl,d 15 rfl];rfl
theorem afp(K ρ):(kD N).bd K ρ 26=cA.A7 N ((kD N).kc K 31) ((kD N).kc ρ 9) ((kD N).kc ρ 15):=κ
theorem afq(ρ):(kD N).kc ((kD N).ch ρ) 26=cA.Lp N ((kD N).kc ρ 9) ((kD N).kc ρ 15):=Fx.uJ [31] (afp N) ρ (by rw[afo];rfl)
theorem afr(K ρ):(kD N).bd K ρ 15=cA.p6 N ((kD N).kc K 26) ((kD N).kc ρ 9) ((kD N).kc ρ 15):=κ
theorem afs(ρ):(kD N).kc ((kD N).ch ρ) 15=cA.l7 N ((kD N).kc ρ 9) N:=Fx.uL [26,31] (afr N) ρ (cA.l7 N ((kD N).kc ρ 9)) λn ρ' e d=>by rw[afq,e,d 9 rfl];rfl
theorem amo(K ρ):(kD N).bd K ρ 9=cA.eN N ((kD N).kc K 15) ((kD N).kc ρ 9):=κ
theorem amp(ρ):(kD N).kc ((kD N).ch ρ) 9=cA.l4 N N:=Fx.uL [15] (amo N) ρ (cA.l4 N) λn ρ' e d=>by rw[afs,e];rfl
theorem axL(K):(kD N).top K=cA.b N ((kD N).kc K 9):=κ
def axM:Kn Tryz.prog:=⟨196,(kD N).S false (cA N),Fx.u1 (kD N) aC Tryz.func196 [9] (axL N) (by rw[amp];rfl)⟩
def QL:Fx:=⟨53,tab,Kn.l [Rv N,zh N,HW N],N,Tryz.f240,[.v I,.v I,.v I,.v o5],[.v I,.v B],[⟨7,[(0,.v I),(1,.v I),(2,.v I),(3,.v o5),(10,.obj c4),(11,.v B),(12,.v I)],[1,1,0,1,0,0],[]⟩],none⟩
theorem amq(K ρ):(QL N).bd K ρ 7=nS.ob N ((QL N).kc ρ 7):=κ
theorem amr(ρ):(QL N).kc ((QL N).ch ρ) 7=nS.l3 N N:=Fx.uL [] (amq N) ρ (nS.l3 N) λn ρ' e d=>by rw[e];rfl
theorem axN(K):(QL N).top K=nS.b N ((QL N).kc K 7):=κ
def axO:Kn Tryz.prog:=⟨240,(QL N).S true (nS N),Fx.u1 (QL N) aC Tryz.func240 [7] (axN N) (by rw[amr];rfl)⟩
def q6:Fx:=⟨69,tab,Kn.l [axO N],N,Tryz.f197,[.v cU,.v o5],[.own iT,.v B],[⟨26,[(0,.v cU),(1,.v o5),(6,.own iT),(7,.v I),(8,.v I),(9,.v I),(10,.v I)],[1,1,1,0,1,0,0,1,0,0,1,0,0,1,0,0,1,1],[9,15]⟩,⟨15,[(0,.v cU),(1,.v o5),(6,.own iT),(7,.v I),(8,.v I),(9,.v I)],[1,1,1,0,1,0,0,1,0,0,1,0,0],[9]⟩,⟨9,[(0,.v cU),(1,.v o5),(6,.own iT),(7,.v I),(8,.v I)],[1,1,1,0,1,0,0],[]⟩],none⟩
theorem aft(K ρ):(q6 N).bd K ρ 26=dH.A7 N ((q6 N).kc ρ 9) ((q6 N).kc ρ 15):=κ
theorem afu(ρ):(q6 N).kc ((q6 N).ch ρ) 26=dH.Lp N ((q6 N).kc ρ 9) ((q6 N).kc ρ 15):=Fx.uJ [] (aft N) ρ
theorem afv(K ρ):(q6 N).bd K ρ 15=dH.p6 N ((q6 N).kc K 26) ((q6 N).kc ρ 9) ((q6 N).kc ρ 15):=κ
theorem afw(ρ):(q6 N).kc ((q6 N).ch ρ) 15=dH.l7 N ((q6 N).kc ρ 9) N:=Fx.uL [26] (afv N) ρ (dH.l7 N ((q6 N).kc ρ 9)) λn ρ' e d=>by rw[afu,e,d 9 rfl];rfl
theorem ams(K ρ):(q6 N).bd K ρ 9=dH.eN N ((q6 N).kc K 15) ((q6 N).kc ρ 9):=κ
theorem amt(ρ):(q6 N).kc ((q6 N).ch ρ) 9=dH.l4 N N:=Fx.uL [15] (ams N) ρ (dH.l4 N) λn ρ' e d=>by rw[afw,e];rfl
theorem axP(K):(q6 N).top K=dH.b N ((q6 N).kc K 9):=κ
def axQ:Kn Tryz.prog:=⟨197,(q6 N).S false (dH N),Fx.u1 (q6 N) aC Tryz.func197 [9] (axP N) (by rw[amt];rfl)⟩
def asL:Fx:=⟨36,tab,Kn.l [axM N,axQ N],N,Tryz.f135,[.v aL,.v cU,.v o5],[.v aL,.v I],[],none⟩
def QM:Kn Tryz.prog:=⟨135,(asL N).S false (BG N),Fx.u0 (asL N) aC Tryz.func135⟩
def asM:Fx:=⟨34,tab,Kn.l [zh N,aa2 N,QM N],N,Tryz.f255,[.v eg,.v I,.v I,.v I,.v I,.v I],[.v eg,.v iT],[],none⟩
def axR:Kn Tryz.prog:=⟨255,(asM N).S false (PM N),Fx.u0 (asM N) aC Tryz.func255⟩
def QN:Fx:=⟨33,tab,Kn.l [k69 N,zh N,Rv N],N,Tryz.f237,[.v cU,.v I],[.v c4],[⟨11,[(0,.v cU),(1,.v I),(4,.obj c4),(5,.obj c4),(6,.v I)],[1,1,1,0,1,0,0],[]⟩],none⟩
theorem afx(K ρ):(QN N).bd K ρ 11=pL.eA N ((QN N).kc ρ 11):=κ
theorem afy(ρ):(QN N).kc ((QN N).ch ρ) 11=pL.l5 N N:=Fx.uL [] (afx N) ρ (pL.l5 N) λn ρ' e d=>by rw[e];rfl
theorem axS(K):(QN N).top K=pL.b N ((QN N).kc K 11):=κ
def axT:Kn Tryz.prog:=⟨237,(QN N).S false (pL N),Fx.u1 (QN N) aC Tryz.func237 [11] (axS N) (by rw[afy];rfl)⟩
def X47:Fx:=⟨9,tab,[],N,Tryz.f47,[.v c4],[.v I],[],none⟩
def k47:Kn Tryz.prog:=⟨47,(X47 N).S true (Ol N),Fx.u0 (X47 N) aC Tryz.func47⟩
def QO:Fx:=⟨15,tab,Kn.l [axT N,k47 N,k69 N],N,Tryz.f186,[.v cU],[.v B],[⟨5,[(0,.v cU),(3,.v I)],[1,0,1,0,0],[]⟩],none⟩
theorem amu(K ρ):(QO N).bd K ρ 5=qp.fy N ((QO N).kc ρ 5):=κ
theorem amv(ρ):(QO N).kc ((QO N).ch ρ) 5=qp.l2 N N:=Fx.uL [] (amu N) ρ (qp.l2 N) λn ρ' e d=>by rw[e];rfl
theorem axU(K):(QO N).top K=qp.b N ((QO N).kc K 5):=κ
def axV:Kn Tryz.prog:=⟨186,(QO N).S true (qp N),Fx.u1 (QO N) aC Tryz.func186 [5] (axU N) (by rw[amv];rfl)⟩
def asN:Fx:=⟨9,tab,[],N,Tryz.f191,[.v I],[.v B],[],none⟩
def Tl:Kn Tryz.prog:=⟨191,(asN N).S true (Ek N),Fx.u0 (asN N) aC Tryz.func191⟩
def asO:Fx:=⟨56,tab,Kn.l [Tl N],N,Tryz.f221,[.v lE],[.v B],[],none⟩
def afz:Kn Tryz.prog:=⟨221,(asO N).S true (R4 N),Fx.u0 (asO N) aC Tryz.func221⟩
def QP:Fx:=⟨37,tab,Kn.l [afz N],N,Tryz.f187,[.v p4],[.v B],[⟨9,[(0,.v p4),(3,.v I)],[1,1,0,1,0,0],[]⟩],none⟩
theorem amw(K ρ):(QP N).bd K ρ 9=m0.eN N ((QP N).kc ρ 9):=κ
theorem amx(ρ):(QP N).kc ((QP N).ch ρ) 9=m0.l4 N N:=Fx.uL [] (amw N) ρ (m0.l4 N) λn ρ' e d=>by rw[e];rfl
theorem axW(K):(QP N).top K=m0.b N ((QP N).kc K 9):=κ
def Xb:Kn Tryz.prog:=⟨187,(QP N).S true (m0 N),Fx.u1 (QP N) aC Tryz.func187 [9] (axW N) (by rw[amx];rfl)⟩
def QQ:Fx:=⟨24,tab,Kn.l [k68 N,zh N,Rv N],N,Tryz.f188,[.v cU],[.v c4],[⟨11,[(0,.v cU),(2,.obj c4),(3,.obj c4),(4,.v I)],[1,1,1,0,1,0,0],[]⟩],none⟩
theorem afA(K ρ):(QQ N).bd K ρ 11=pJ.eA N ((QQ N).kc ρ 11):=κ
theorem afB(ρ):(QQ N).kc ((QQ N).ch ρ) 11=pJ.l5 N N:=Fx.uL [] (afA N) ρ (pJ.l5 N) λn ρ' e d=>by rw[e];rfl
theorem axX(K):(QQ N).top K=pJ.b N ((QQ N).kc K 11):=κ
def axY:Kn Tryz.prog:=⟨188,(QQ N).S false (pJ N),Fx.u1 (QQ N) aC Tryz.func188 [11] (axX N) (by rw[afB];rfl)⟩
def asP:Fx:=⟨19,tab,Kn.l [Tk N],N,Tryz.f189,[.v aL,.v I],[.v B],[],none⟩
def asQ:Kn Tryz.prog:=⟨189,(asP N).S true (Lv N),Fx.u0 (asP N) aC Tryz.func189⟩
def asR:Fx:=⟨11,tab,Kn.l [afa N,Xa N],N,Tryz.f190,[.v dJ,.v I],[.v I],[],none⟩
def Tm:Kn Tryz.prog:=⟨190,(asR N).S true (Bc N),Fx.u0 (asR N) aC Tryz.func190⟩
def sT:Fx:=⟨163,tab,Kn.l [Tj N,amd N,k68 N,axV N,Xb N,axY N,k47 N,asQ N,Tm N,Tl N],N,Tryz.f127,[.v aB,.v aL],[.v B],[⟨45,[(2,.obj aB),(3,.obj aL),(9,.v I)],[1,1,1,1,1,1,0,1,0,0],[]⟩,⟨35,[(2,.obj aB),(3,.obj aL),(8,.v I)],[1,1,1,1,1,0,1,0,0],[]⟩,⟨25,[(2,.obj aB),(3,.obj aL),(7,.v I)],[1,1,1,1,0,1,0,0],[]⟩,⟨13,[(2,.obj aB),(3,.obj aL),(5,.v I)],[1,1,1,0,1,0,0],[]⟩],none⟩
theorem afC(K ρ):(sT N).bd K ρ 45=cN.wQ N ((sT N).kc ρ 45):=κ
theorem afD(ρ):(sT N).kc ((sT N).ch ρ) 45=cN.xL N N:=Fx.uL [] (afC N) ρ (cN.xL N) λn ρ' e d=>by rw[e];rfl
theorem afE(K ρ):(sT N).bd K ρ 35=cN.N9 N ((sT N).kc K 45) ((sT N).kc ρ 35):=κ
theorem afF(ρ):(sT N).kc ((sT N).ch ρ) 35=cN.N8 N N:=Fx.uL [45] (afE N) ρ (cN.N8 N) λn ρ' e d=>by rw[afD,e];rfl
theorem afG(K ρ):(sT N).bd K ρ 25=cN.kt N ((sT N).kc K 35) ((sT N).kc ρ 25):=κ
theorem afH(ρ):(sT N).kc ((sT N).ch ρ) 25=cN.lx N N:=Fx.uL [35,45] (afG N) ρ (cN.lx N) λn ρ' e d=>by rw[afF,e];rfl
theorem afI(K ρ):(sT N).bd K ρ 13=cN.tX N ((sT N).kc K 25) ((sT N).kc ρ 13):=κ
theorem afJ(ρ):(sT N).kc ((sT N).ch ρ) 13=cN.l6 N N:=Fx.uL [25,35,45] (afI N) ρ (cN.l6 N) λn ρ' e d=>by rw[afH,e];rfl
theorem axZ(K):(sT N).top K=cN.b N ((sT N).kc K 13):=κ
def vm:Kn Tryz.prog:=⟨127,(sT N).S true (cN N),Fx.u1 (sT N) aC Tryz.func127 [13,25,35,45] (axZ N) (by rw[afJ];rfl)⟩
def X21:Fx:=⟨9,tab,Kn.l [k70 N,Rv N],N,Tryz.f21,[.v c4,.v c4],[.v c4],[],none⟩
def k21:Kn Tryz.prog:=⟨21,(X21 N).S false (RU N),Fx.u0 (X21 N) aC Tryz.func21⟩
def X31:Fx:=⟨39,tab,Kn.l [k69 N],N,Tryz.f31,[.v cU,.v I],[.own jH],[⟨11,[(0,.v cU),(1,.v I),(5,.own jH),(6,.v I)],[1,1,1,0,1,0,0],[]⟩],none⟩
theorem amy(K ρ):(X31 N).bd K ρ 11=y9.eA N ((X31 N).kc ρ 11):=κ
theorem amz(ρ):(X31 N).kc ((X31 N).ch ρ) 11=y9.l5 N N:=Fx.uL [] (amy N) ρ (y9.l5 N) λn ρ' e d=>by rw[e];rfl
theorem h31(K):(X31 N).top K=y9.b N ((X31 N).kc K 11):=κ
def k31:Kn Tryz.prog:=⟨31,(X31 N).S false (y9 N),Fx.u1 (X31 N) aC Tryz.func31 [11] (h31 N) (by rw[amz];rfl)⟩
def yW:Fx:=⟨74,tab,[],N,Tryz.f224,[.v p4,.v I],[.own iT],[⟨15,[(0,.v p4),(1,.v I),(5,.own iT),(6,.v I),(7,.obj iT),(8,.v I)],[1,1,0,1,0,0,1,0,0,1,0,1,0,0],[7]⟩,⟨7,[(0,.v p4),(1,.v I),(5,.own iT),(6,.v I)],[1,1,0,1,0,0],[]⟩],none⟩
theorem afK(K ρ):(yW N).bd K ρ 15=g8.p6 N ((yW N).kc ρ 7) ((yW N).kc ρ 15):=κ
theorem afL(ρ):(yW N).kc ((yW N).ch ρ) 15=g8.l7 N ((yW N).kc ρ 7) N:=Fx.uL [] (afK N) ρ (g8.l7 N ((yW N).kc ρ 7)) λn ρ' e d=>by rw[e,d 7 rfl];rfl
theorem amA(K ρ):(yW N).bd K ρ 7=g8.ob N ((yW N).kc K 15) ((yW N).kc ρ 7):=κ
theorem amB(ρ):(yW N).kc ((yW N).ch ρ) 7=g8.l3 N N:=Fx.uL [15] (amA N) ρ (g8.l3 N) λn ρ' e d=>by rw[afL,e];rfl
theorem ax0(K):(yW N).top K=g8.b N ((yW N).kc K 7):=κ
def amC:Kn Tryz.prog:=⟨224,(yW N).S false (g8 N),Fx.u1 (yW N) aC Tryz.func224 [7] (ax0 N) (by rw[amB];rfl)⟩
def QR:Fx:=⟨66,tab,Kn.l [Tj N],N,Tryz.f194,[.v aB,.v dJ],[.v B],[⟨9,[(1,.v dJ),(2,.obj aB),(5,.v I)],[1,1,0,1,0,0],[]⟩],none⟩
theorem amD(K ρ):(QR N).bd K ρ 9=nQ.eN N ((QR N).kc ρ 9):=κ
theorem amE(ρ):(QR N).kc ((QR N).ch ρ) 9=nQ.l4 N N:=Fx.uL [] (amD N) ρ (nQ.l4 N) λn ρ' e d=>by rw[e];rfl
theorem ax1(K):(QR N).top K=nQ.b N ((QR N).kc K 9):=κ
def afM:Kn Tryz.prog:=⟨194,(QR N).S true (nQ N),Fx.u1 (QR N) aC Tryz.func194 [9] (ax1 N) (by rw[amE];rfl)⟩
def QS:Fx:=⟨79,tab,Kn.l [Tj N],N,Tryz.f268,[.v aB,.v cU],[.v B],[⟨11,[(1,.v cU),(2,.obj aB),(5,.v I),(6,.v I)],[1,1,1,0,1,0,0],[]⟩],none⟩
theorem afN(K ρ):(QS N).bd K ρ 11=qY.eA N ((QS N).kc ρ 11):=κ
theorem afO(ρ):(QS N).kc ((QS N).ch ρ) 11=qY.l5 N N:=Fx.uL [] (afN N) ρ (qY.l5 N) λn ρ' e d=>by rw[e];rfl
theorem ax2(K):(QS N).top K=qY.b N ((QS N).kc K 11):=κ
def asS:Kn Tryz.prog:=⟨268,(QS N).S true (qY N),Fx.u1 (QS N) aC Tryz.func268 [11] (ax2 N) (by rw[afO];rfl)⟩
def X36:Fx:=⟨6,tab,Kn.l [k66 N],N,Tryz.f36,[.v c4],[.v c4],[],none⟩
def k36:Kn Tryz.prog:=⟨36,(X36 N).S false (Xn N),Fx.u0 (X36 N) aC Tryz.func36⟩
def X24:Fx:=⟨9,tab,Kn.l [k21 N,k47 N],N,Tryz.f24,[.v c4,.v c4],[.v I],[],none⟩
def k24:Kn Tryz.prog:=⟨24,(X24 N).S true (Lo N),Fx.u0 (X24 N) aC Tryz.func24⟩
def CV:Fx:=⟨96,tab,Kn.l [afM N,asS N,zh N,Rv N,k36 N,k21 N,k24 N],N,Tryz.f223,[.v aB,.v dJ,.v cU,.v I],[.v c4,.v I],[⟨25,[(2,.v cU),(3,.v I),(8,.obj c4),(10,.obj c4),(11,.obj c4),(12,.obj c4),(14,.v I)],[1,1,1,1,1,0,1,0,0],[]⟩,⟨15,[(1,.v dJ),(2,.v cU),(3,.v I),(8,.obj c4),(10,.obj c4),(11,.obj c4),(12,.obj c4),(13,.v I)],[1,1,1,1,0,1,0,0],[]⟩],none⟩
theorem afP(K ρ):(CV N).bd K ρ 25=jm.kt N ((CV N).kc ρ 25):=κ
theorem afQ(ρ):(CV N).kc ((CV N).ch ρ) 25=jm.lx N N:=Fx.uL [] (afP N) ρ (jm.lx N) λn ρ' e d=>by rw[e];rfl
theorem afR(K ρ):(CV N).bd K ρ 15=jm.p6 N ((CV N).kc K 25) ((CV N).kc ρ 15):=κ
theorem afS(ρ):(CV N).kc ((CV N).ch ρ) 15=jm.l7 N N:=Fx.uL [25] (afR N) ρ (jm.l7 N) λn ρ' e d=>by rw[afQ,e];rfl
theorem ax3(K):(CV N).top K=jm.b N ((CV N).kc K 15):=κ
def asU:Kn Tryz.prog:=⟨223,(CV N).S false (jm N),Fx.u1 (CV N) aC Tryz.func223 [15,25] (ax3 N) (by rw[afS];rfl)⟩
def E7:Fx:=⟨71,tab,Kn.l [k98 N,k66 N],N,Tryz.f37,[.v c4,.v c4],[.v c4],[⟨18,[(2,.obj c4),(3,.obj c4),(4,.obj c4),(5,.own U),(6,.v I),(7,.v U),(8,.v I)],[1,1,0,1,0,0,1,0,0,1,1,0,0,1],[7,15]⟩,⟨15,[(2,.obj c4),(3,.obj c4),(4,.obj c4),(5,.own U),(6,.v I),(7,.v U),(8,.v I)],[1,1,0,1,0,0,1,0,0,1,1,0,0],[7]⟩,⟨7,[(2,.obj c4),(3,.obj c4),(4,.obj c4),(5,.own U),(6,.v I)],[1,1,0,1,0,0],[]⟩],none⟩
theorem amF(K ρ):(E7 N).bd K ρ 18=jE.On N ((E7 N).kc ρ 7) ((E7 N).kc ρ 15):=κ
theorem amG(ρ):(E7 N).kc ((E7 N).ch ρ) 18=jE.j9 N ((E7 N).kc ρ 7) ((E7 N).kc ρ 15):=Fx.uJ [] (amF N) ρ
theorem amH(K ρ):(E7 N).bd K ρ 15=jE.p6 N ((E7 N).kc K 18) ((E7 N).kc ρ 7) ((E7 N).kc ρ 15):=κ
theorem amI(ρ):(E7 N).kc ((E7 N).ch ρ) 15=jE.l7 N ((E7 N).kc ρ 7) N:=Fx.uL [18] (amH N) ρ (jE.l7 N ((E7 N).kc ρ 7)) λn ρ' e d=>by rw[amG,e,d 7 rfl];rfl
theorem asV(K ρ):(E7 N).bd K ρ 7=jE.ob N ((E7 N).kc K 15) ((E7 N).kc ρ 7):=κ
theorem asW(ρ):(E7 N).kc ((E7 N).ch ρ) 7=jE.l3 N N:=Fx.uL [15] (asV N) ρ (jE.l3 N) λn ρ' e d=>by rw[amI,e];rfl
theorem h37(K):(E7 N).top K=jE.b N ((E7 N).kc K 7):=κ
def Xs:Kn Tryz.prog:=⟨37,(E7 N).S false (jE N),Fx.u1 (E7 N) aC Tryz.func37 [7] (h37 N) (by rw[asW];rfl)⟩
def QT:Fx:=⟨50,tab,Kn.l [afM N,asS N,asU N,zh N,Xs N,Rv N],N,Tryz.f269,[.v aB,.v dJ,.v cU],[.v c4,.v I],[⟨11,[(1,.v dJ),(2,.v cU),(3,.obj aB),(6,.obj c4),(8,.obj c4),(9,.v I)],[1,1,1,0,1,0,0],[]⟩],none⟩
theorem afT(K ρ):(QT N).bd K ρ 11=qZ.eA N ((QT N).kc ρ 11):=κ
theorem afU(ρ):(QT N).kc ((QT N).ch ρ) 11=qZ.l5 N N:=Fx.uL [] (afT N) ρ (qZ.l5 N) λn ρ' e d=>by rw[e];rfl
theorem ax4(K):(QT N).top K=qZ.b N ((QT N).kc K 11):=κ
def asX:Kn Tryz.prog:=⟨269,(QT N).S false (qZ N),Fx.u1 (QT N) aC Tryz.func269 [11] (ax4 N) (by rw[afU];rfl)⟩
def asY:Fx:=⟨31,tab,Kn.l [k31 N,amC N,asX N],N,Tryz.f226,[.v aB,.v aL,.v I,.v p4],[.v c4],[],none⟩
def asZ:Kn Tryz.prog:=⟨226,(asY N).S false (ZE N),Fx.u0 (asY N) aC Tryz.func226⟩
def as0:Fx:=⟨63,tab,Kn.l [vm N,Tk N,Tm N,k19 N,zh N,k21 N,asZ N,k24 N,aa2 N,QM N],N,Tryz.f256,[.v aB,.v aL,.v I,.v I],[.v aL,.v I],[],none⟩
def ax5:Kn Tryz.prog:=⟨256,(as0 N).S false (WC N),Fx.u0 (as0 N) aC Tryz.func256⟩
def as2:Fx:=⟨10,tab,Kn.l [Tm N],N,Tryz.f257,[.v eg,.v I],[.v I],[],none⟩
def as3:Kn Tryz.prog:=⟨257,(as2 N).S true (Hr N),Fx.u0 (as2 N) aC Tryz.func257⟩
def QU:Fx:=⟨53,tab,Kn.l [k71 N,afg N],N,Tryz.f258,[.v fE,.v I,.v I],[.own eu,.v I],[⟨17,[(1,.v I),(2,.v I),(10,.own eu),(11,.v I)],[1,1,1,1,0,1,0,0],[]⟩],none⟩
theorem afV(K ρ):(QU N).bd K ρ 17=nX.Dy N ((QU N).kc ρ 17):=κ
theorem afW(ρ):(QU N).kc ((QU N).ch ρ) 17=nX.l8 N N:=Fx.uL [] (afV N) ρ (nX.l8 N) λn ρ' e d=>by rw[e];rfl
theorem ax6(K):(QU N).top K=nX.b N ((QU N).kc K 17):=κ
def ax7:Kn Tryz.prog:=⟨258,(QU N).S false (nX N),Fx.u1 (QU N) aC Tryz.func258 [17] (ax6 N) (by rw[afW];rfl)⟩
def as4:Fx:=⟨36,tab,Kn.l [afz N,Tl N,zh N,Xs N],N,Tryz.f225,[.v lE,.v I],[.v c4,.v I],[],none⟩
def ax8:Kn Tryz.prog:=⟨225,(as4 N).S false (adi N),Fx.u0 (as4 N) aC Tryz.func225⟩
def as5:Fx:=⟨104,tab,Kn.l [vm N,afz N,Tk N,Tm N,k31 N,amC N,asU N,zh N,k24 N,ax8 N,k19 N,k21 N,asZ N],N,Tryz.f168,[.v aB,.v aL,.v lE],[.v I],[],none⟩
def as6:Kn Tryz.prog:=⟨168,(as5 N).S true (ZF N),Fx.u0 (as5 N) aC Tryz.func168⟩
def as7:Fx:=⟨24,tab,[],N,Tryz.f302,[.v lE,.v lE],[.v B],[],none⟩
def ax9:Kn Tryz.prog:=⟨302,(as7 N).S true (WA N),Fx.u0 (as7 N) aC Tryz.func302⟩
def s7:Fx:=⟨72,tab,Kn.l [Xb N,ax9 N],N,Tryz.f290,[.v p4,.v I,.v I],[.own lE],[⟨22,[(0,.v p4),(1,.v I),(2,.v I),(7,.own lE),(8,.v I),(9,.v I)],[1,1,1,0,1,0,0,1,0,0,1,1,1],[11]⟩,⟨19,[(0,.v p4),(1,.v I),(2,.v I),(7,.own lE),(8,.v I),(9,.v I)],[1,1,1,0,1,0,0,1,0,0,1,1,0,0,0],[11]⟩,⟨11,[(0,.v p4),(1,.v I),(2,.v I),(7,.own lE),(8,.v I)],[1,1,1,0,1,0,0],[]⟩],none⟩
theorem afX(K ρ):(s7 N).bd K ρ 22=dU.CG N ((s7 N).kc ρ 11):=κ
theorem afY(ρ):(s7 N).kc ((s7 N).ch ρ) 22=dU.Kl N ((s7 N).kc ρ 11):=Fx.uJ [] (afX N) ρ
theorem afZ(K ρ):(s7 N).bd K ρ 19=dU.xG N ((s7 N).kc K 22) ((s7 N).kc ρ 11) ((s7 N).kc ρ 19):=κ
theorem af0(ρ):(s7 N).kc ((s7 N).ch ρ) 19=dU.l9 N ((s7 N).kc ρ 11) N:=Fx.uL [22] (afZ N) ρ (dU.l9 N ((s7 N).kc ρ 11)) λn ρ' e d=>by rw[afY,e,d 11 rfl];rfl
theorem af1(K ρ):(s7 N).bd K ρ 11=dU.eA N ((s7 N).kc K 19) ((s7 N).kc ρ 11):=κ
theorem af2(ρ):(s7 N).kc ((s7 N).ch ρ) 11=dU.l5 N N:=Fx.uL [19,22] (af1 N) ρ (dU.l5 N) λn ρ' e d=>by rw[af0,e];rfl
theorem aya(K):(s7 N).top K=dU.b N ((s7 N).kc K 11):=κ
def ayb:Kn Tryz.prog:=⟨290,(s7 N).S false (dU N),Fx.u1 (s7 N) aC Tryz.func290 [11] (aya N) (by rw[af2];rfl)⟩
def jJ:Fx:=⟨174,tab,Kn.l [Xb N,afz N,ayb N],N,Tryz.f277,[.v p4,.v lE],[.own lE,.own ry,.v I,.v I],[⟨49,[(8,.own lE),(9,.v I),(10,.own ry),(16,.own lE),(17,.v I)],[1,1,1,1,1,1,1,0,1,0,0],[]⟩,⟨44,[(8,.own lE),(9,.v I),(10,.own ry)],[1,1,1,1,1,1],[]⟩,⟨37,[(3,.obj lE),(8,.own lE),(9,.v I),(10,.own ry),(11,.own lE),(12,.v I),(13,.v I),(15,.v I)],[1,1,1,1,1,0,1,0,0,1,0,0,1,1,1,1,1,1,1,1,0,0],[15]⟩,⟨30,[(3,.obj lE),(8,.own lE),(9,.v I),(10,.own ry),(11,.own lE),(12,.v I),(13,.v I),(14,.obj ry)],[1,1,1,1,1,0,1,0,0,1,0,0,1,1,1,1,1],[15]⟩,⟨20,[(3,.obj lE),(8,.own lE),(9,.v I),(10,.own ry),(11,.own lE),(12,.v I)],[1,1,1,1,1,0,1,0,0,1,0,0,1],[15]⟩,⟨15,[(3,.obj lE),(8,.own lE),(9,.v I),(10,.own ry),(11,.own lE),(12,.v I)],[1,1,1,1,1,0,1,0,0],[]⟩],none⟩
theorem af3(K ρ):(jJ N).bd K ρ 49=cq.Ef N ((jJ N).kc ρ 49):=κ
theorem af4(ρ):(jJ N).kc ((jJ N).ch ρ) 49=cq.Ds N N:=Fx.uL [] (af3 N) ρ (cq.Ds N) λn ρ' e d=>by rw[e];rfl
theorem af5(K ρ):(jJ N).bd K ρ 44=cq.ads N ((jJ N).kc K 49):=κ
theorem af6(ρ):(jJ N).kc ((jJ N).ch ρ) 44=cq.j22 N:=Fx.uJ [49] (af5 N) ρ (by rw[af4];rfl)
theorem af7(K ρ):(jJ N).bd K ρ 37=cq.Et N ((jJ N).kc ρ 15) ((jJ N).kc ρ 37):=κ
theorem af8(ρ):(jJ N).kc ((jJ N).ch ρ) 37=cq.Ie N ((jJ N).kc ρ 15) N:=Fx.uL [44,49] (af7 N) ρ (cq.Ie N ((jJ N).kc ρ 15)) λn ρ' e d=>by rw[e,d 15 rfl];rfl
theorem af9(K ρ):(jJ N).bd K ρ 30=cq.s0 N ((jJ N).kc K 37) ((jJ N).kc ρ 15):=κ
theorem aga(ρ):(jJ N).kc ((jJ N).ch ρ) 30=cq.ze N ((jJ N).kc ρ 15):=Fx.uJ [44,49,37] (af9 N) ρ (by rw[af8];rfl)
theorem agb(K ρ):(jJ N).bd K ρ 20=cq.Mb N ((jJ N).kc K 30) ((jJ N).kc ρ 15):=κ
theorem agc(ρ):(jJ N).kc ((jJ N).ch ρ) 20=cq.SJ N ((jJ N).kc ρ 15):=Fx.uJ [44,49,30,37] (agb N) ρ (by rw[aga];rfl)
theorem agd(K ρ):(jJ N).bd K ρ 15=cq.p6 N ((jJ N).kc K 44) ((jJ N).kc K 20) ((jJ N).kc ρ 15):=κ
theorem age(ρ):(jJ N).kc ((jJ N).ch ρ) 15=cq.l7 N N:=Fx.uL [44,49,20,30,37] (agd N) ρ (cq.l7 N) λn ρ' e d=>by rw[af6,agc,e];rfl
theorem ayc(K):(jJ N).top K=cq.b N ((jJ N).kc K 15):=κ
def ayd:Kn Tryz.prog:=⟨277,(jJ N).S false (cq N),Fx.u1 (jJ N) aC Tryz.func277 [15,44,49] (ayc N) (by rw[age];rfl)⟩
def as8:Fx:=⟨53,tab,Kn.l [Tl N],N,Tryz.f227,[.v ry],[.v B],[],none⟩
def as9:Kn Tryz.prog:=⟨227,(as8 N).S true (Y9 N),Fx.u0 (as8 N) aC Tryz.func227⟩
def ata:Fx:=⟨7,tab,[],N,Tryz.f270,[.v I],[.v I,.v I],[],none⟩
def atb:Kn Tryz.prog:=⟨270,(ata N).S true (LD N),Fx.u0 (ata N) aC Tryz.func270⟩
def atc:Fx:=⟨53,tab,Kn.l [as9 N,Tl N,zh N,Xs N,k47 N,atb N,k70 N],N,Tryz.f228,[.v ry,.v I],[.own sO,.v I],[],none⟩
def aye:Kn Tryz.prog:=⟨228,(atc N).S false (Sl N),Fx.u0 (atc N) aC Tryz.func228⟩
def CW:Fx:=⟨107,tab,Kn.l [vm N,as9 N,asQ N,aye N,QM N],N,Tryz.f169,[.v aB,.v aL,.v yR],[.v aL,.v I],[⟨23,[(2,.v yR),(3,.obj aB),(4,.obj aL),(6,.obj aL),(9,.own iT),(10,.own sO),(11,.v I)],[1,1,1,1,1,0,1,0,0],[]⟩,⟨9,[(2,.v yR),(3,.obj aB),(4,.obj aL),(6,.obj aL),(8,.v I)],[1,1,0,1,0,0],[]⟩],none⟩
theorem agf(K ρ):(CW N).bd K ρ 23=gz.zL N ((CW N).kc ρ 23):=κ
theorem agh(ρ):(CW N).kc ((CW N).ch ρ) 23=gz.CE N N:=Fx.uL [] (agf N) ρ (gz.CE N) λn ρ' e d=>by rw[e];rfl
theorem amJ(K ρ):(CW N).bd K ρ 9=gz.eN N ((CW N).kc K 23) ((CW N).kc ρ 9):=κ
theorem amK(ρ):(CW N).kc ((CW N).ch ρ) 9=gz.l4 N N:=Fx.uL [23] (amJ N) ρ (gz.l4 N) λn ρ' e d=>by rw[agh,e];rfl
theorem ayf(K):(CW N).top K=gz.b N ((CW N).kc K 9):=κ
def atd:Kn Tryz.prog:=⟨169,(CW N).S false (gz N),Fx.u1 (CW N) aC Tryz.func169 [9,23] (ayf N) (by rw[amK];rfl)⟩
def HX:Fx:=⟨85,tab,Kn.l [as6 N,ayd N,atd N],N,Tryz.f259,[.v aB,.v aL,.v lE],[.v aL,.v yR,.v I,.v I],[⟨20,[(3,.obj aB),(4,.obj aL),(5,.obj lE),(6,.obj aL),(12,.own lE),(13,.own ry),(14,.v I)],[1,1,1,1,1],[]⟩,⟨14,[(3,.obj aB),(4,.obj aL),(5,.obj lE),(6,.obj aL)],[1,1,1],[]⟩],none⟩
theorem agi(K ρ):(HX N).bd K ρ 20=jn.Mb N:=κ
theorem agj(ρ):(HX N).kc ((HX N).ch ρ) 20=jn.SJ N:=Fx.uJ [] (agi N) ρ
theorem agk(K ρ):(HX N).bd K ρ 14=jn.Rr N ((HX N).kc K 20):=κ
theorem agl(ρ):(HX N).kc ((HX N).ch ρ) 14=jn.j7 N:=Fx.uJ [20] (agk N) ρ (by rw[agj];rfl)
theorem ayg(K):(HX N).top K=jn.b N ((HX N).kc K 14):=κ
def ayh:Kn Tryz.prog:=⟨259,(HX N).S false (jn N),Fx.u1 (HX N) aC Tryz.func259 [14,20] (ayg N) (by rw[agl];rfl)⟩
def QV:Fx:=⟨48,tab,Kn.l [Xb N],N,Tryz.f260,[.v p4,.v I,.v I],[.own lE,.v I],[⟨11,[(0,.v p4),(1,.v I),(2,.v I),(8,.own lE),(9,.v I)],[1,1,1,0,1,0,0],[]⟩],none⟩
theorem agm(K ρ):(QV N).bd K ρ 11=nZ.eA N ((QV N).kc ρ 11):=κ
theorem agn(ρ):(QV N).kc ((QV N).ch ρ) 11=nZ.l5 N N:=Fx.uL [] (agm N) ρ (nZ.l5 N) λn ρ' e d=>by rw[e];rfl
theorem ayi(K):(QV N).top K=nZ.b N ((QV N).kc K 11):=κ
def ayj:Kn Tryz.prog:=⟨260,(QV N).S false (nZ N),Fx.u1 (QV N) aC Tryz.func260 [11] (ayi N) (by rw[agn];rfl)⟩
def QW:Fx:=⟨76,tab,Kn.l [k69 N,Tl N,zh N,k21 N,k47 N,atb N,Xs N],N,Tryz.f278,[.v cU,.v I,.v I,.v I],[.own sO,.v I],[⟨13,[(0,.v cU),(1,.v I),(10,.own sO),(11,.obj c4),(12,.v I)],[1,1,1,1,0,1,0,0],[]⟩],none⟩
theorem ago(K ρ):(QW N).bd K ρ 13=n0.tX N ((QW N).kc ρ 13):=κ
theorem agp(ρ):(QW N).kc ((QW N).ch ρ) 13=n0.l6 N N:=Fx.uL [] (ago N) ρ (n0.l6 N) λn ρ' e d=>by rw[e];rfl
theorem ayk(K):(QW N).top K=n0.b N ((QW N).kc K 13):=κ
def ayl:Kn Tryz.prog:=⟨278,(QW N).S false (n0 N),Fx.u1 (QW N) aC Tryz.func278 [13] (ayk N) (by rw[agp];rfl)⟩
def ate:Fx:=⟨70,tab,Kn.l [vm N,Tl N,ayl N,QM N],N,Tryz.f261,[.v aB,.v aL,.v I,.v I],[.v aL,.v o5,.v I],[],some (aL,[.kE 4],I,[5,13])⟩
def aym:Kn Tryz.prog:=⟨261,(ate N).S false (WB N),Fx.u0 (ate N) aC Tryz.func261⟩
def QX:Fx:=⟨50,tab,[],N,Tryz.f279,[.v dJ],[.v B],[⟨5,[(0,.v dJ),(3,.v I)],[1,0,1,0,0],[]⟩],none⟩
theorem amL(K ρ):(QX N).bd K ρ 5=q3.fy N ((QX N).kc ρ 5):=κ
theorem amM(ρ):(QX N).kc ((QX N).ch ρ) 5=q3.l2 N N:=Fx.uL [] (amL N) ρ (q3.l2 N) λn ρ' e d=>by rw[e];rfl
theorem ayn(K):(QX N).top K=q3.b N ((QX N).kc K 5):=κ
def atf:Kn Tryz.prog:=⟨279,(QX N).S true (q3 N),Fx.u1 (QX N) aC Tryz.func279 [5] (ayn N) (by rw[amM];rfl)⟩
def q7:Fx:=⟨84,tab,Kn.l [atf N,zh N,Rv N,HW N],N,Tryz.f262,[.v dJ,.v o5],[.own jH,.v I],[⟨29,[(0,.v dJ),(1,.v o5),(6,.own jH),(7,.v I),(8,.obj c4),(10,.v I)],[1,1,1,0,1,0,0,1,0,0,1,1,0,1,0,0],[11]⟩,⟨19,[(0,.v dJ),(1,.v o5),(6,.own jH),(7,.v I),(8,.obj c4),(9,.v I)],[1,1,1,0,1,0,0,1,0,0,1,0,1,0,0],[11]⟩,⟨11,[(0,.v dJ),(1,.v o5),(6,.own jH),(7,.v I)],[1,1,1,0,1,0,0],[]⟩],none⟩
theorem agq(K ρ):(q7 N).bd K ρ 29=e8.G0 N ((q7 N).kc ρ 11) ((q7 N).kc ρ 29):=κ
theorem agr(ρ):(q7 N).kc ((q7 N).ch ρ) 29=e8.JV N ((q7 N).kc ρ 11) N:=Fx.uL [] (agq N) ρ (e8.JV N ((q7 N).kc ρ 11)) λn ρ' e d=>by rw[e,d 11 rfl];rfl
theorem ags(K ρ):(q7 N).bd K ρ 19=e8.xG N ((q7 N).kc K 29) ((q7 N).kc ρ 11) ((q7 N).kc ρ 19):=κ
theorem agt(ρ):(q7 N).kc ((q7 N).ch ρ) 19=e8.l9 N ((q7 N).kc ρ 11) N:=Fx.uL [29] (ags N) ρ (e8.l9 N ((q7 N).kc ρ 11)) λn ρ' e d=>by rw[agr,e,d 11 rfl];rfl
theorem agu(K ρ):(q7 N).bd K ρ 11=e8.eA N ((q7 N).kc K 19) ((q7 N).kc ρ 11):=κ
theorem agv(ρ):(q7 N).kc ((q7 N).ch ρ) 11=e8.l5 N N:=Fx.uL [19,29] (agu N) ρ (e8.l5 N) λn ρ' e d=>by rw[agt,e];rfl
theorem ayo(K):(q7 N).top K=e8.b N ((q7 N).kc K 11):=κ
def ayp:Kn Tryz.prog:=⟨262,(q7 N).S false (e8 N),Fx.u1 (q7 N) aC Tryz.func262 [11] (ayo N) (by rw[agv];rfl)⟩
def atg:Fx:=⟨15,tab,Kn.l [zh N,Rv N,HW N],N,Tryz.f263,[.v eg,.v I],[.v I,.v B],[],none⟩
def amN:Kn Tryz.prog:=⟨263,(atg N).S true (WQ N),Fx.u0 (atg N) aC Tryz.func263⟩
def ath:Fx:=⟨41,tab,[],N,Tryz.f291,[.v I,.v I],[.v I,.v B],[],none⟩
def ayq:Kn Tryz.prog:=⟨291,(ath N).S true (Wy N),Fx.u0 (ath N) aC Tryz.func291⟩
def QY:Fx:=⟨51,tab,Kn.l [afa N,Xa N,ayq N],N,Tryz.f280,[.v dJ,.v I,.v I],[.own jH,.v I],[⟨23,[(1,.v I),(9,.v I),(11,.own jH),(12,.v I)],[1,1,1,1,1,1,1,0,1,0,0],[]⟩],none⟩
theorem agw(K ρ):(QY N).bd K ρ 23=lV.zL N ((QY N).kc ρ 23):=κ
theorem agx(ρ):(QY N).kc ((QY N).ch ρ) 23=lV.CE N N:=Fx.uL [] (agw N) ρ (lV.CE N) λn ρ' e d=>by rw[e];rfl
theorem ayr(K):(QY N).top K=lV.b N ((QY N).kc K 23):=κ
def ati:Kn Tryz.prog:=⟨280,(QY N).S false (lV N),Fx.u1 (QY N) aC Tryz.func280 [23] (ayr N) (by rw[agx];rfl)⟩
def QZ:Fx:=⟨33,tab,Kn.l [k71 N],N,Tryz.f293,[.v fE,.v I],[.own I],[⟨11,[(0,.v fE),(1,.v I),(5,.own I),(6,.v I)],[1,1,1,0,1,0,0],[]⟩],none⟩
theorem agy(K ρ):(QZ N).bd K ρ 11=sG.eA N ((QZ N).kc ρ 11):=κ
theorem agz(ρ):(QZ N).kc ((QZ N).ch ρ) 11=sG.l5 N N:=Fx.uL [] (agy N) ρ (sG.l5 N) λn ρ' e d=>by rw[e];rfl
theorem ays(K):(QZ N).top K=sG.b N ((QZ N).kc K 11):=κ
def ayt:Kn Tryz.prog:=⟨293,(QZ N).S false (sG N),Fx.u1 (QZ N) aC Tryz.func293 [11] (ays N) (by rw[agz];rfl)⟩
def yX:Fx:=⟨48,tab,Kn.l [Xb N],N,Tryz.f292,[.v p4,.v LI],[.own lE],[⟨19,[(0,.v p4),(1,.v LI),(5,.own lE),(6,.v I),(7,.v B),(8,.v I)],[1,1,1,0,1,0,0,1,0,0,1,0,1,0,0],[11]⟩,⟨11,[(0,.v p4),(1,.v LI),(5,.own lE),(6,.v I)],[1,1,1,0,1,0,0],[]⟩],none⟩
theorem agA(K ρ):(yX N).bd K ρ 19=fP.xG N ((yX N).kc ρ 11) ((yX N).kc ρ 19):=κ
theorem agB(ρ):(yX N).kc ((yX N).ch ρ) 19=fP.l9 N ((yX N).kc ρ 11) N:=Fx.uL [] (agA N) ρ (fP.l9 N ((yX N).kc ρ 11)) λn ρ' e d=>by rw[e,d 11 rfl];rfl
theorem agC(K ρ):(yX N).bd K ρ 11=fP.eA N ((yX N).kc K 19) ((yX N).kc ρ 11):=κ
theorem agD(ρ):(yX N).kc ((yX N).ch ρ) 11=fP.l5 N N:=Fx.uL [19] (agC N) ρ (fP.l5 N) λn ρ' e d=>by rw[agB,e];rfl
theorem ayu(K):(yX N).top K=fP.b N ((yX N).kc K 11):=κ
def ayv:Kn Tryz.prog:=⟨292,(yX N).S false (fP N),Fx.u1 (yX N) aC Tryz.func292 [11] (ayu N) (by rw[agD];rfl)⟩
def atj:Fx:=⟨28,tab,Kn.l [vm N,Tm N,ayt N,ayv N],N,Tryz.f281,[.v aB,.v aL,.v I],[.v aL,.v I],[],none⟩
def ayw:Kn Tryz.prog:=⟨281,(atj N).S false (L9 N),Fx.u0 (atj N) aC Tryz.func281⟩
def atk:Fx:=⟨41,tab,[],N,Tryz.f195,[.v eu],[.v B],[],none⟩
def atl:Kn Tryz.prog:=⟨195,(atk N).S true (YN N),Fx.u0 (atk N) aC Tryz.func195⟩
def s8:Fx:=⟨67,tab,Kn.l [atl N],N,Tryz.f132,[.v fE],[.v B],[⟨19,[(0,.v fE),(3,.v I),(4,.v I)],[1,1,0,1,0,0,1,0,0,1,1,0,0],[9]⟩,⟨16,[(0,.v fE),(3,.v I)],[1,1,0,1,0,0,1,0,0,1],[9]⟩,⟨9,[(0,.v fE),(3,.v I)],[1,1,0,1,0,0],[]⟩],none⟩
theorem agE(K ρ):(s8 N).bd K ρ 19=eQ.xG N ((s8 N).kc ρ 9) ((s8 N).kc ρ 19):=κ
theorem agF(ρ):(s8 N).kc ((s8 N).ch ρ) 19=eQ.l9 N ((s8 N).kc ρ 9) N:=Fx.uL [] (agE N) ρ (eQ.l9 N ((s8 N).kc ρ 9)) λn ρ' e d=>by rw[e,d 9 rfl];rfl
theorem agG(K ρ):(s8 N).bd K ρ 16=eQ.YG N ((s8 N).kc K 19) ((s8 N).kc ρ 9):=κ
theorem agH(ρ):(s8 N).kc ((s8 N).ch ρ) 16=eQ.j8 N ((s8 N).kc ρ 9):=Fx.uJ [19] (agG N) ρ (by rw[agF];rfl)
theorem amO(K ρ):(s8 N).bd K ρ 9=eQ.eN N ((s8 N).kc K 16) ((s8 N).kc ρ 9):=κ
theorem amP(ρ):(s8 N).kc ((s8 N).ch ρ) 9=eQ.l4 N N:=Fx.uL [16,19] (amO N) ρ (eQ.l4 N) λn ρ' e d=>by rw[agH,e];rfl
theorem ayx(K):(s8 N).top K=eQ.b N ((s8 N).kc K 9):=κ
def aa3:Kn Tryz.prog:=⟨132,(s8 N).S true (eQ N),Fx.u1 (s8 N) aC Tryz.func132 [9] (ayx N) (by rw[amP];rfl)⟩
def Q0:Fx:=⟨32,tab,Kn.l [aa3 N],N,Tryz.f282,[.v fE,.v I],[.own eu],[⟨11,[(0,.v fE),(1,.v I),(5,.own eu),(6,.v I)],[1,1,1,0,1,0,0],[]⟩],none⟩
theorem agI(K ρ):(Q0 N).bd K ρ 11=pX.eA N ((Q0 N).kc ρ 11):=κ
theorem agJ(ρ):(Q0 N).kc ((Q0 N).ch ρ) 11=pX.l5 N N:=Fx.uL [] (agI N) ρ (pX.l5 N) λn ρ' e d=>by rw[e];rfl
theorem ayy(K):(Q0 N).top K=pX.b N ((Q0 N).kc K 11):=κ
def ayz:Kn Tryz.prog:=⟨282,(Q0 N).S false (pX N),Fx.u1 (Q0 N) aC Tryz.func282 [11] (ayy N) (by rw[agJ];rfl)⟩
def atm:Fx:=⟨66,tab,[],N,Tryz.f283,[.v eg,.v I],[.v B],[],none⟩
def ayA:Kn Tryz.prog:=⟨283,(atm N).S true (adF N),Fx.u0 (atm N) aC Tryz.func283⟩
def atn:Fx:=⟨9,tab,Kn.l [Tm N],N,Tryz.f133,[.v aL,.v I],[.v I],[],none⟩
def agK:Kn Tryz.prog:=⟨133,(atn N).S true (Mc N),Fx.u0 (atn N) aC Tryz.func133⟩
def Q1:Fx:=⟨56,tab,Kn.l [afM N,zh N,k36 N,Xs N,Rv N],N,Tryz.f193,[.v aB,.v dJ,.v B],[.v c4,.v I],[⟨11,[(1,.v dJ),(2,.v B),(3,.obj aB),(6,.obj c4),(8,.obj c4),(9,.v I)],[1,1,1,0,1,0,0],[]⟩],none⟩
theorem agL(K ρ):(Q1 N).bd K ρ 11=qx.eA N ((Q1 N).kc ρ 11):=κ
theorem agM(ρ):(Q1 N).kc ((Q1 N).ch ρ) 11=qx.l5 N N:=Fx.uL [] (agL N) ρ (qx.l5 N) λn ρ' e d=>by rw[e];rfl
theorem ayB(K):(Q1 N).top K=qx.b N ((Q1 N).kc K 11):=κ
def ato:Kn Tryz.prog:=⟨193,(Q1 N).S false (qx N),Fx.u1 (Q1 N) aC Tryz.func193 [11] (ayB N) (by rw[agM];rfl)⟩
def atp:Fx:=⟨11,tab,Kn.l [ato N],N,Tryz.f317,[.v aB,.v dJ],[.v c4,.v I],[],none⟩
def ayC:Kn Tryz.prog:=⟨317,(atp N).S false (akO N),Fx.u0 (atp N) aC Tryz.func317⟩
def atq:Fx:=⟨9,tab,Kn.l [k19 N],N,Tryz.f306,[.v aL,.v I],[.v I],[],none⟩
def agN:Kn Tryz.prog:=⟨306,(atq N).S true (SK N),Fx.u0 (atq N) aC Tryz.func306⟩
def atr:Fx:=⟨69,tab,Kn.l [vm N,Tk N,agK N,k31 N,ayC N,agN N,zh N,k24 N],N,Tryz.f303,[.v aB,.v aL,.v I,.v I,.v I],[.v I],[],none⟩
def ayD:Kn Tryz.prog:=⟨303,(atr N).S true (adt N),Fx.u0 (atr N) aC Tryz.func303⟩
def Q2:Fx:=⟨61,tab,Kn.l [amd N,afg N,Xa N],N,Tryz.f304,[.v dJ,.v fE,.v I,.v I],[.own eu,.v I],[⟨27,[(2,.v I),(3,.v I),(13,.own eu),(14,.v I)],[1,1,1,1,1,1,1,1,0,1,0,0],[]⟩],none⟩
theorem agO(K ρ):(Q2 N).bd K ρ 27=nY.mF N ((Q2 N).kc ρ 27):=κ
theorem agP(ρ):(Q2 N).kc ((Q2 N).ch ρ) 27=nY.oi N N:=Fx.uL [] (agO N) ρ (nY.oi N) λn ρ' e d=>by rw[e];rfl
theorem ayE(K):(Q2 N).top K=nY.b N ((Q2 N).kc K 27):=κ
def ayF:Kn Tryz.prog:=⟨304,(Q2 N).S false (nY N),Fx.u1 (Q2 N) aC Tryz.func304 [27] (ayE N) (by rw[agP];rfl)⟩
def ats:Fx:=⟨42,tab,Kn.l [ayD N,ayF N],N,Tryz.f294,[.v aB,.v aL,.v I,.v I,.v I],[.v aL,.v I],[],none⟩
def ayG:Kn Tryz.prog:=⟨294,(ats N).S false (WD N),Fx.u0 (ats N) aC Tryz.func294⟩
def att:Fx:=⟨11,tab,Kn.l [ato N],N,Tryz.f130,[.v aB,.v dJ],[.v c4,.v I],[],none⟩
def atu:Kn Tryz.prog:=⟨130,(att N).S false (ZY N),Fx.u0 (att N) aC Tryz.func130⟩
def atv:Fx:=⟨55,tab,Kn.l [vm N,Tk N,k31 N,atu N,agN N,HW N],N,Tryz.f305,[.v aB,.v aL,.v I],[.v I,.v I],[],none⟩
def ayH:Kn Tryz.prog:=⟨305,(atv N).S true (adC N),Fx.u0 (atv N) aC Tryz.func305⟩
def Q3:Fx:=⟨76,tab,Kn.l [k69 N],N,Tryz.f307,[.v cU,.v I,.v I],[.own iT],[⟨11,[(0,.v cU),(1,.v I),(2,.v I),(7,.own iT),(8,.v I)],[1,1,1,0,1,0,0],[]⟩],none⟩
theorem agQ(K ρ):(Q3 N).bd K ρ 11=m6.eA N ((Q3 N).kc ρ 11):=κ
theorem agR(ρ):(Q3 N).kc ((Q3 N).ch ρ) 11=m6.l5 N N:=Fx.uL [] (agQ N) ρ (m6.l5 N) λn ρ' e d=>by rw[e];rfl
theorem ayI(K):(Q3 N).top K=m6.b N ((Q3 N).kc K 11):=κ
def ayJ:Kn Tryz.prog:=⟨307,(Q3 N).S false (m6 N),Fx.u1 (Q3 N) aC Tryz.func307 [11] (ayI N) (by rw[agR];rfl)⟩
def BR:Fx:=⟨86,tab,Kn.l [vm N,agK N,ayH N,zh N,aa2 N,agN N,k70 N,ayJ N,QM N],N,Tryz.f295,[.v aB,.v aL,.v I],[.v aL,.v I],[⟨30,[(2,.v I),(3,.obj aB),(4,.obj aL),(6,.obj aL),(8,.own iT),(9,.own sO),(10,.v I),(11,.obj eu)],[1,1,1,1,1,0,1,0,0,1,0,0,1,1,1],[17]⟩,⟨17,[(2,.v I),(3,.obj aB),(4,.obj aL),(6,.obj aL),(8,.own iT),(9,.own sO),(10,.v I)],[1,1,1,1,1,0,1,0,0],[]⟩],none⟩
theorem agS(K ρ):(BR N).bd K ρ 30=gA.s0 N ((BR N).kc ρ 17):=κ
theorem agT(ρ):(BR N).kc ((BR N).ch ρ) 30=gA.ze N ((BR N).kc ρ 17):=Fx.uJ [] (agS N) ρ
theorem agU(K ρ):(BR N).bd K ρ 17=gA.Dy N ((BR N).kc K 30) ((BR N).kc ρ 17):=κ
theorem agV(ρ):(BR N).kc ((BR N).ch ρ) 17=gA.l8 N N:=Fx.uL [30] (agU N) ρ (gA.l8 N) λn ρ' e d=>by rw[agT,e];rfl
theorem ayK(K):(BR N).top K=gA.b N ((BR N).kc K 17):=κ
def ayL:Kn Tryz.prog:=⟨295,(BR N).S false (gA N),Fx.u1 (BR N) aC Tryz.func295 [17] (ayK N) (by rw[agV];rfl)⟩
def Q4:Fx:=⟨48,tab,Kn.l [vm N,k20 N,zh N,Xs N,Rv N],N,Tryz.f100,[.v aB,.v aL],[.own c4,.v I],[⟨11,[(2,.obj aB),(3,.obj aL),(6,.own c4),(7,.v I)],[1,1,1,0,1,0,0],[]⟩],none⟩
theorem agW(K ρ):(Q4 N).bd K ρ 11=sE.eA N ((Q4 N).kc ρ 11):=κ
theorem agX(ρ):(Q4 N).kc ((Q4 N).ch ρ) 11=sE.l5 N N:=Fx.uL [] (agW N) ρ (sE.l5 N) λn ρ' e d=>by rw[e];rfl
theorem ayM(K):(Q4 N).top K=sE.b N ((Q4 N).kc K 11):=κ
def ayN:Kn Tryz.prog:=⟨100,(Q4 N).S false (sE N),Fx.u1 (Q4 N) aC Tryz.func100 [11] (ayM N) (by rw[agX];rfl)⟩
def X45:Fx:=⟨31,tab,Kn.l [Tj N],N,Tryz.f45,[.v aB,.v I],[.own I],[⟨11,[(1,.v I),(2,.obj aB),(5,.own I),(6,.v I)],[1,1,1,0,1,0,0],[]⟩],none⟩
theorem amQ(K ρ):(X45 N).bd K ρ 11=Cw.eA N ((X45 N).kc ρ 11):=κ
theorem amR(ρ):(X45 N).kc ((X45 N).ch ρ) 11=Cw.l5 N N:=Fx.uL [] (amQ N) ρ (Cw.l5 N) λn ρ' e d=>by rw[e];rfl
theorem h45(K):(X45 N).top K=Cw.b N ((X45 N).kc K 11):=κ
def k45:Kn Tryz.prog:=⟨45,(X45 N).S false (Cw N),Fx.u1 (X45 N) aC Tryz.func45 [11] (h45 N) (by rw[amR];rfl)⟩
def Q5:Fx:=⟨35,tab,Kn.l [ami N],N,Tryz.f167,[.v LU],[.v LU,.v U],[⟨9,[(0,.v LU),(4,.own U),(5,.v U),(6,.v I)],[1,1,1,0,1,0,0],[]⟩],none⟩
theorem amS(K ρ):(Q5 N).bd K ρ 9=qj.eN N ((Q5 N).kc ρ 9):=κ
theorem amT(ρ):(Q5 N).kc ((Q5 N).ch ρ) 9=qj.l4 N N:=Fx.uL [] (amS N) ρ (qj.l4 N) λn ρ' e d=>by rw[e];rfl
theorem ayO(K):(Q5 N).top K=qj.b N ((Q5 N).kc K 9):=κ
def ayP:Kn Tryz.prog:=⟨167,(Q5 N).S false (qj N),Fx.u1 (Q5 N) aC Tryz.func167 [9] (ayO N) (by rw[amT];rfl)⟩
def CX:Fx:=⟨77,tab,Kn.l [ayP N,Rv N,zh N,k24 N,k21 N,k47 N,k70 N],N,Tryz.f101,[.v c4,.v c4],[.v c4,.v c4],[⟨19,[(2,.obj c4),(3,.obj c4),(4,.obj c4),(5,.obj c4),(6,.own U),(10,.obj c4),(11,.obj c4),(12,.v I)],[1,1,1,1,0,1,0,0],[]⟩,⟨7,[(2,.obj c4),(3,.obj c4),(4,.obj c4),(5,.obj c4),(6,.own U),(7,.v LU)],[1,1,0,1,0,0],[]⟩],none⟩
theorem agY(K ρ):(CX N).bd K ρ 19=iz.xG N ((CX N).kc ρ 19):=κ
theorem agZ(ρ):(CX N).kc ((CX N).ch ρ) 19=iz.l9 N N:=Fx.uL [] (agY N) ρ (iz.l9 N) λn ρ' e d=>by rw[e];rfl
theorem amU(K ρ):(CX N).bd K ρ 7=iz.ob N ((CX N).kc K 19) ((CX N).kc ρ 7):=κ
theorem amV(ρ):(CX N).kc ((CX N).ch ρ) 7=iz.l3 N N:=Fx.uL [19] (amU N) ρ (iz.l3 N) λn ρ' e d=>by rw[agZ,e];rfl
theorem ayQ(K):(CX N).top K=iz.b N ((CX N).kc K 7):=κ
def atw:Kn Tryz.prog:=⟨101,(CX N).S false (iz N),Fx.u1 (CX N) aC Tryz.func101 [7,19] (ayQ N) (by rw[amV];rfl)⟩
def US:Fx:=⟨104,tab,Kn.l [ayN N,k45 N,k36 N,zh N,k24 N,atw N,HW N,k47 N],N,Tryz.f39,[.v aB,.v aL,.v I],[.own eu,.v I],[⟨30,[(2,.v I),(3,.obj aB),(4,.obj aL),(8,.own c4),(10,.own eu),(11,.v I),(12,.own I),(16,.v I)],[1,1,1,1,0,1,0,0,1,0,0,1,1,1,1,1,1],[13]⟩,⟨13,[(2,.v I),(3,.obj aB),(4,.obj aL),(8,.own c4),(10,.own eu),(11,.v I)],[1,1,1,1,0,1,0,0],[]⟩],none⟩
theorem amW(K ρ):(US N).bd K ρ 30=wj.s0 N ((US N).kc ρ 13):=κ
theorem amX(ρ):(US N).kc ((US N).ch ρ) 30=wj.ze N ((US N).kc ρ 13):=Fx.uJ [] (amW N) ρ
theorem amY(K ρ):(US N).bd K ρ 13=wj.tX N ((US N).kc K 30) ((US N).kc ρ 13):=κ
theorem amZ(ρ):(US N).kc ((US N).ch ρ) 13=wj.l6 N N:=Fx.uL [30] (amY N) ρ (wj.l6 N) λn ρ' e d=>by rw[amX,e];rfl
theorem h39(K):(US N).top K=wj.b N ((US N).kc K 13):=κ
def k39:Kn Tryz.prog:=⟨39,(US N).S false (wj N),Fx.u1 (US N) aC Tryz.func39 [13] (h39 N) (by rw[amZ];rfl)⟩
def atx:Fx:=⟨41,tab,[],N,Tryz.f106,[.v eu],[.v B],[],none⟩
def ayR:Kn Tryz.prog:=⟨106,(atx N).S true (ZB N),Fx.u0 (atx N) aC Tryz.func106⟩
def Tn:Fx:=⟨113,tab,Kn.l [vm N,ayR N,as6 N,atd N],N,Tryz.f103,[.v aB,.v aL,.v eu,.v I,.v I,.v I],[.v aL,.v eu,.v I],[⟨28,[(4,.v I),(6,.obj aB),(7,.obj aL),(8,.obj eu),(12,.obj aL),(13,.obj eu),(17,.obj ry)],[1,1,1,1,1,1,1,1],[]⟩],none⟩
theorem ag0(K ρ):(Tn N).bd K ρ 28=qw.adj N:=κ
theorem ag1(ρ):(Tn N).kc ((Tn N).ch ρ) 28=qw.j14 N:=Fx.uJ [] (ag0 N) ρ
theorem ayS(K):(Tn N).top K=qw.b N ((Tn N).kc K 28):=κ
def ayT:Kn Tryz.prog:=⟨103,(Tn N).S false (qw N),Fx.u1 (Tn N) aC Tryz.func103 [28] (ayS N) (by rw[ag1];rfl)⟩
def Q6:Fx:=⟨77,tab,Kn.l [ayT N,aff N],N,Tryz.f296,[.v aB,.v eg,.v pI],[.v eg,.v iT],[⟨11,[(3,.obj aB),(4,.obj eg),(5,.obj pI),(6,.obj eg),(7,.obj iT),(8,.own eu),(9,.v B),(10,.v I),(11,.v I)],[1,1,1,1,0,1,0,0],[]⟩],none⟩
theorem ag2(K ρ):(Q6 N).bd K ρ 11=n6.eA N ((Q6 N).kc ρ 11):=κ
theorem ag3(ρ):(Q6 N).kc ((Q6 N).ch ρ) 11=n6.l5 N N:=Fx.uL [] (ag2 N) ρ (n6.l5 N) λn ρ' e d=>by rw[e];rfl
theorem ayU(K):(Q6 N).top K=n6.b N ((Q6 N).kc K 11):=κ
def ayV:Kn Tryz.prog:=⟨296,(Q6 N).S false (n6 N),Fx.u1 (Q6 N) aC Tryz.func296 [11] (ayU N) (by rw[ag3];rfl)⟩
def Q7:Fx:=⟨28,tab,Kn.l [k47 N,zh N,Xs N,k24 N],N,Tryz.f128,[.v c4,.v I],[.v I],[⟨9,[(1,.v I),(2,.obj c4),(5,.v I)],[1,1,1,0,0,0],[]⟩],none⟩
theorem am0(K ρ):(Q7 N).bd K ρ 9=sH.eN N ((Q7 N).kc ρ 9):=κ
theorem am1(ρ):(Q7 N).kc ((Q7 N).ch ρ) 9=sH.l4 N N:=Fx.uL [] (am0 N) ρ (sH.l4 N) λn ρ' e d=>by rw[e];rfl
theorem V4(K):(Q7 N).top K=sH.b N ((Q7 N).kc K 9):=κ
def ayW:Kn Tryz.prog:=⟨128,(Q7 N).S true (sH N),Fx.u1 (Q7 N) aC Tryz.func128 [9] (V4 N) (by rw[am1];rfl)⟩
def Q8:Fx:=⟨24,tab,[],N,Tryz.f217,[.v I,.v LI],[.v B],[⟨9,[(1,.v LI),(5,.v I)],[1,1,0,1,0,0],[]⟩],none⟩
theorem am2(K ρ):(Q8 N).bd K ρ 9=qu.eN N ((Q8 N).kc ρ 9):=κ
theorem am3(ρ):(Q8 N).kc ((Q8 N).ch ρ) 9=qu.l4 N N:=Fx.uL [] (am2 N) ρ (qu.l4 N) λn ρ' e d=>by rw[e];rfl
theorem ayX(K):(Q8 N).top K=qu.b N ((Q8 N).kc K 9):=κ
def aty:Kn Tryz.prog:=⟨217,(Q8 N).S true (qu N),Fx.u1 (Q8 N) aC Tryz.func217 [9] (ayX N) (by rw[am3];rfl)⟩
def Q9:Fx:=⟨19,tab,Kn.l [zh N,Rv N],N,Tryz.f218,[.v LI],[.v c4],[⟨7,[(0,.v LI),(2,.obj c4),(3,.obj c4),(4,.v I)],[1,1,0,1,0,0],[]⟩],none⟩
theorem am4(K ρ):(Q9 N).bd K ρ 7=qg.ob N ((Q9 N).kc ρ 7):=κ
theorem am5(ρ):(Q9 N).kc ((Q9 N).ch ρ) 7=qg.l3 N N:=Fx.uL [] (am4 N) ρ (qg.l3 N) λn ρ' e d=>by rw[e];rfl
theorem ayY(K):(Q9 N).top K=qg.b N ((Q9 N).kc K 7):=κ
def am6:Kn Tryz.prog:=⟨218,(Q9 N).S false (qg N),Fx.u1 (Q9 N) aC Tryz.func218 [7] (ayY N) (by rw[am5];rfl)⟩
def s9:Fx:=⟨48,tab,[],N,Tryz.f238,[.v LI],[.own I],[⟨16,[(0,.v LI),(3,.own I),(4,.v I),(5,.v I)],[1,1,0,1,0,0,1,0,0,1,1],[7]⟩,⟨13,[(0,.v LI),(3,.own I),(4,.v I),(5,.v I)],[1,1,0,1,0,0,1,0,0,1,0,0,0],[7]⟩,⟨7,[(0,.v LI),(3,.own I),(4,.v I)],[1,1,0,1,0,0],[]⟩],none⟩
theorem ag4(K ρ):(s9 N).bd K ρ 16=fD.YG N ((s9 N).kc ρ 7):=κ
theorem ag5(ρ):(s9 N).kc ((s9 N).ch ρ) 16=fD.j8 N ((s9 N).kc ρ 7):=Fx.uJ [] (ag4 N) ρ
theorem ag6(K ρ):(s9 N).bd K ρ 13=fD.tX N ((s9 N).kc K 16) ((s9 N).kc ρ 7) ((s9 N).kc ρ 13):=κ
theorem ag7(ρ):(s9 N).kc ((s9 N).ch ρ) 13=fD.l6 N ((s9 N).kc ρ 7) N:=Fx.uL [16] (ag6 N) ρ (fD.l6 N ((s9 N).kc ρ 7)) λn ρ' e d=>by rw[ag5,e,d 7 rfl];rfl
theorem am7(K ρ):(s9 N).bd K ρ 7=fD.ob N ((s9 N).kc K 13) ((s9 N).kc ρ 7):=κ
theorem am8(ρ):(s9 N).kc ((s9 N).ch ρ) 7=fD.l3 N N:=Fx.uL [13,16] (am7 N) ρ (fD.l3 N) λn ρ' e d=>by rw[ag7,e];rfl
theorem ayZ(K):(s9 N).top K=fD.b N ((s9 N).kc K 7):=κ
def ay0:Kn Tryz.prog:=⟨238,(s9 N).S false (fD N),Fx.u1 (s9 N) aC Tryz.func238 [7] (ayZ N) (by rw[am8];rfl)⟩
def yg:Fx:=⟨112,tab,Kn.l [aty N,am6 N,k47 N,HW N,zh N,Xs N,atw N,ay0 N],N,Tryz.f192,[.v I,.v LI],[.own I,.v I],[⟨45,[(9,.own I),(11,.v I),(15,.own I),(16,.v I)],[1,1,1,1,1,1,1,1,1,1,0,1,0,0],[]⟩,⟨29,[(0,.v I),(1,.v LI),(6,.obj c4),(9,.own I),(10,.own I),(11,.v I),(12,.v I)],[1,1,1,1,1,1,1,1,0,1,0,0],[]⟩,⟨12,[(0,.v I),(1,.v LI),(6,.obj c4)],[1,1,1,1],[]⟩],none⟩
theorem ag8(K ρ):(yg N).bd K ρ 45=fK.wQ N ((yg N).kc ρ 45):=κ
theorem ag9(ρ):(yg N).kc ((yg N).ch ρ) 45=fK.xL N N:=Fx.uL [] (ag8 N) ρ (fK.xL N) λn ρ' e d=>by rw[e];rfl
theorem aha(K ρ):(yg N).bd K ρ 29=fK.G0 N ((yg N).kc K 45) ((yg N).kc ρ 29):=κ
theorem ahb(ρ):(yg N).kc ((yg N).ch ρ) 29=fK.JV N N:=Fx.uL [45] (aha N) ρ (fK.JV N) λn ρ' e d=>by rw[ag9,e];rfl
theorem ahc(K ρ):(yg N).bd K ρ 12=fK.Oe N ((yg N).kc K 29):=κ
theorem ahd(ρ):(yg N).kc ((yg N).ch ρ) 12=fK.j6 N:=Fx.uJ [29,45] (ahc N) ρ (by rw[ahb];rfl)
theorem ay1(K):(yg N).top K=fK.b N ((yg N).kc K 12):=κ
def am9:Kn Tryz.prog:=⟨192,(yg N).S false (fK N),Fx.u1 (yg N) aC Tryz.func192 [12,29,45] (ay1 N) (by rw[ahd];rfl)⟩
def Ra:Fx:=⟨33,tab,Kn.l [am9 N],N,Tryz.f129,[.v I,.v I],[.own I,.v I],[⟨11,[(0,.v I),(1,.v I),(6,.own I),(7,.v I)],[1,1,1,0,1,0,0],[]⟩],none⟩
theorem ahe(K ρ):(Ra N).bd K ρ 11=sy.eA N ((Ra N).kc ρ 11):=κ
theorem ahf(ρ):(Ra N).kc ((Ra N).ch ρ) 11=sy.l5 N N:=Fx.uL [] (ahe N) ρ (sy.l5 N) λn ρ' e d=>by rw[e];rfl
theorem ay2(K):(Ra N).top K=sy.b N ((Ra N).kc K 11):=κ
def ay3:Kn Tryz.prog:=⟨129,(Ra N).S false (sy N),Fx.u1 (Ra N) aC Tryz.func129 [11] (ay2 N) (by rw[ahf];rfl)⟩
def o6:Fx:=⟨175,tab,Kn.l [vm N,k31 N,zh N,k36 N,Rv N,ayW N,ay3 N,atu N,k70 N,HW N],N,Tryz.f53,[.v aB,.v aL,.v I],[.own jI,.v I],[⟨64,[(2,.v I),(3,.obj aB),(8,.own jH),(9,.own jI),(10,.v I),(11,.own jH),(14,.v I),(15,.v I),(16,.ga jI [.kE 1] jH),(17,.v I),(19,.own I)],[1,1,1,1,1,0,1,0,0,1,0,0,1,1,1,1,1,0,0,1,0,0,1,0,1,0,0,1,0,0,1,1,1,1],[17,41,49]⟩,⟨58,[(2,.v I),(3,.obj aB),(8,.own jH),(9,.own jI),(10,.v I),(11,.own jH),(14,.v I),(15,.v I),(16,.ga jI [.kE 1] jH),(17,.v I),(18,.v I)],[1,1,1,1,1,0,1,0,0,1,0,0,1,1,1,1,1,0,0,1,0,0,1,0,1,0,0,1,0,0,1,1],[17,41,49]⟩,⟨49,[(2,.v I),(3,.obj aB),(8,.own jH),(9,.own jI),(10,.v I),(11,.own jH),(14,.v I),(15,.v I),(16,.ga jI [.kE 1] jH),(17,.v I)],[1,1,1,1,1,0,1,0,0,1,0,0,1,1,1,1,1,0,0,1,0,0,1,0,1,0,0],[17,41]⟩,⟨41,[(2,.v I),(3,.obj aB),(8,.own jH),(9,.own jI),(10,.v I),(11,.own jH),(14,.v I),(15,.v I)],[1,1,1,1,1,0,1,0,0,1,0,0,1,1,1,1,1,0,0],[17]⟩,⟨27,[(2,.v I),(3,.obj aB),(8,.own jH),(9,.own jI),(10,.v I),(11,.own jH),(12,.obj c4),(13,.v I)],[1,1,1,1,1,0,1,0,0,1,0,0,1,1,0,1,0,0],[17]⟩,⟨17,[(2,.v I),(3,.obj aB),(8,.own jH),(9,.own jI),(10,.v I)],[1,1,1,1,1,0,1,0,0],[]⟩],some (jI,[.kE 1],jH,[16])⟩
theorem ana(K ρ):(o6 N).bd K ρ 64=eH.akQ N ((o6 N).kc ρ 17) ((o6 N).kc ρ 41) ((o6 N).kc ρ 49):=κ
theorem anb(ρ):(o6 N).kc ((o6 N).ch ρ) 64=eH.j32 N ((o6 N).kc ρ 17) ((o6 N).kc ρ 41) ((o6 N).kc ρ 49):=Fx.uJ [] (ana N) ρ
theorem anc(K ρ):(o6 N).bd K ρ 58=eH.PG N ((o6 N).kc K 64) ((o6 N).kc ρ 17) ((o6 N).kc ρ 41) ((o6 N).kc ρ 49):=κ
theorem ane(ρ):(o6 N).kc ((o6 N).ch ρ) 58=eH.WI N ((o6 N).kc ρ 17) ((o6 N).kc ρ 41) ((o6 N).kc ρ 49):=Fx.uJ [64] (anc N) ρ (by rw[anb];rfl)
theorem anf(K ρ):(o6 N).bd K ρ 49=eH.Ef N ((o6 N).kc K 58) ((o6 N).kc ρ 17) ((o6 N).kc ρ 41) ((o6 N).kc ρ 49):=κ
theorem ang(ρ):(o6 N).kc ((o6 N).ch ρ) 49=eH.Ds N ((o6 N).kc ρ 17) ((o6 N).kc ρ 41) N:=Fx.uL [58,64] (anf N) ρ (eH.Ds N ((o6 N).kc ρ 17) ((o6 N).kc ρ 41)) λn ρ' e d=>by rw[ane,e,d 17 rfl,d 41 rfl];rfl
theorem anh(K ρ):(o6 N).bd K ρ 41=eH.PF N ((o6 N).kc K 49) ((o6 N).kc ρ 17) ((o6 N).kc ρ 41):=κ
theorem ani(ρ):(o6 N).kc ((o6 N).ch ρ) 41=eH.IV N ((o6 N).kc ρ 17) N:=Fx.uL [49] (anh N) ρ (eH.IV N ((o6 N).kc ρ 17)) λn ρ' e d=>by rw[ang,e,d 17 rfl];rfl
theorem anj(K ρ):(o6 N).bd K ρ 27=eH.mF N ((o6 N).kc K 41) ((o6 N).kc ρ 17) ((o6 N).kc ρ 27):=κ
theorem ank(ρ):(o6 N).kc ((o6 N).ch ρ) 27=eH.oi N ((o6 N).kc ρ 17) N:=Fx.uL [41] (anj N) ρ (eH.oi N ((o6 N).kc ρ 17)) λn ρ' e d=>by rw[ani,e,d 17 rfl];rfl
theorem anl(K ρ):(o6 N).bd K ρ 17=eH.Dy N ((o6 N).kc K 27) ((o6 N).kc ρ 17):=κ
theorem anm(ρ):(o6 N).kc ((o6 N).ch ρ) 17=eH.l8 N N:=Fx.uL [27,41] (anl N) ρ (eH.l8 N) λn ρ' e d=>by rw[ank,e];rfl
theorem h53(K):(o6 N).top K=eH.b N ((o6 N).kc K 17):=κ
def k53:Kn Tryz.prog:=⟨53,(o6 N).S false (eH N),Fx.u1 (o6 N) aC Tryz.func53 [17] (h53 N) (by rw[anm];rfl)⟩
def Rb:Fx:=⟨48,tab,Kn.l [vm N,k19 N],N,Tryz.f297,[.v aB,.v aL],[.own I,.v I],[⟨11,[(3,.obj aL),(6,.own I),(7,.v I)],[1,1,1,0,1,0,0],[]⟩],none⟩
theorem ahg(K ρ):(Rb N).bd K ρ 11=sI.eA N ((Rb N).kc ρ 11):=κ
theorem ahh(ρ):(Rb N).kc ((Rb N).ch ρ) 11=sI.l5 N N:=Fx.uL [] (ahg N) ρ (sI.l5 N) λn ρ' e d=>by rw[e];rfl
theorem ay4(K):(Rb N).top K=sI.b N ((Rb N).kc K 11):=κ
def ay5:Kn Tryz.prog:=⟨297,(Rb N).S false (sI N),Fx.u1 (Rb N) aC Tryz.func297 [11] (ay4 N) (by rw[ahh];rfl)⟩
def BS:Fx:=⟨99,tab,Kn.l [Tj N,afM N],N,Tryz.f131,[.v aB,.v lW],[.v B],[⟨18,[(1,.v lW),(2,.obj aB),(5,.v I),(6,.obj jI)],[1,1,0,1,0,0,1,0,0,1,1],[9]⟩,⟨9,[(1,.v lW),(2,.obj aB),(5,.v I)],[1,1,0,1,0,0],[]⟩],none⟩
theorem ahi(K ρ):(BS N).bd K ρ 18=iX.On N ((BS N).kc ρ 9):=κ
theorem ahj(ρ):(BS N).kc ((BS N).ch ρ) 18=iX.j9 N ((BS N).kc ρ 9):=Fx.uJ [] (ahi N) ρ
theorem ann(K ρ):(BS N).bd K ρ 9=iX.eN N ((BS N).kc K 18) ((BS N).kc ρ 9):=κ
theorem ano(ρ):(BS N).kc ((BS N).ch ρ) 9=iX.l4 N N:=Fx.uL [18] (ann N) ρ (iX.l4 N) λn ρ' e d=>by rw[ahj,e];rfl
theorem ay6(K):(BS N).top K=iX.b N ((BS N).kc K 9):=κ
def anp:Kn Tryz.prog:=⟨131,(BS N).S true (iX N),Fx.u1 (BS N) aC Tryz.func131 [9] (ay6 N) (by rw[ano];rfl)⟩
def Rc:Fx:=⟨25,tab,[],N,Tryz.f318,[.v lW,.v I],[.v jI,.v B],[⟨5,[(0,.v lW),(1,.v I),(4,.obj jI),(6,.v I)],[1,0,1,0,0],[]⟩],none⟩
theorem anq(K ρ):(Rc N).bd K ρ 5=q4.fy N ((Rc N).kc ρ 5):=κ
theorem anr(ρ):(Rc N).kc ((Rc N).ch ρ) 5=q4.l2 N N:=Fx.uL [] (anq N) ρ (q4.l2 N) λn ρ' e d=>by rw[e];rfl
theorem ay7(K):(Rc N).top K=q4.b N ((Rc N).kc K 5):=κ
def atz:Kn Tryz.prog:=⟨318,(Rc N).S false (q4 N),Fx.u1 (Rc N) aC Tryz.func318 [5] (ay7 N) (by rw[anr];rfl)⟩
def ra:Fx:=⟨75,tab,Kn.l [zh N,Rv N,asK N],N,Tryz.f319,[.v dJ,.v dJ],[.own jH,.v B],[⟨25,[(0,.v dJ),(1,.v dJ),(6,.own jH),(7,.v I),(8,.obj c4),(10,.v I)],[1,1,0,1,0,0,1,0,0,1,1,0,1,0,0],[7]⟩,⟨15,[(0,.v dJ),(1,.v dJ),(6,.own jH),(7,.v I),(8,.obj c4),(9,.v I)],[1,1,0,1,0,0,1,0,0,1,0,1,0,0],[7]⟩,⟨7,[(0,.v dJ),(1,.v dJ),(6,.own jH),(7,.v I)],[1,1,0,1,0,0],[]⟩],none⟩
theorem ahk(K ρ):(ra N).bd K ρ 25=e9.kt N ((ra N).kc ρ 7) ((ra N).kc ρ 25):=κ
theorem ahl(ρ):(ra N).kc ((ra N).ch ρ) 25=e9.lx N ((ra N).kc ρ 7) N:=Fx.uL [] (ahk N) ρ (e9.lx N ((ra N).kc ρ 7)) λn ρ' e d=>by rw[e,d 7 rfl];rfl
theorem ahm(K ρ):(ra N).bd K ρ 15=e9.p6 N ((ra N).kc K 25) ((ra N).kc ρ 7) ((ra N).kc ρ 15):=κ
theorem ahn(ρ):(ra N).kc ((ra N).ch ρ) 15=e9.l7 N ((ra N).kc ρ 7) N:=Fx.uL [25] (ahm N) ρ (e9.l7 N ((ra N).kc ρ 7)) λn ρ' e d=>by rw[ahl,e,d 7 rfl];rfl
theorem ans(K ρ):(ra N).bd K ρ 7=e9.ob N ((ra N).kc K 15) ((ra N).kc ρ 7):=κ
theorem ant(ρ):(ra N).kc ((ra N).ch ρ) 7=e9.l3 N N:=Fx.uL [15,25] (ans N) ρ (e9.l3 N) λn ρ' e d=>by rw[ahn,e];rfl
theorem ay8(K):(ra N).top K=e9.b N ((ra N).kc K 7):=κ
def ay9:Kn Tryz.prog:=⟨319,(ra N).S false (e9 N),Fx.u1 (ra N) aC Tryz.func319 [7] (ay8 N) (by rw[ant];rfl)⟩
def atA:Fx:=⟨11,tab,Kn.l [Xb N,amC N],N,Tryz.f320,[.v p4,.v I],[.own iT],[],none⟩
def aza:Kn Tryz.prog:=⟨320,(atA N).S false (akP N),Fx.u0 (atA N) aC Tryz.func320⟩
def EA:Fx:=⟨157,tab,Kn.l [vm N,anp N,aa3 N,atl N,agK N,atz N,k22 N,zh N,Xs N,k24 N,k31 N,ay9 N,aza N,asX N,agN N,k21 N],N,Tryz.f308,[.v aB,.v aL,.v lW,.v fE,.v eu],[.v I],[⟨27,[(3,.v fE),(5,.obj aB),(6,.obj aL),(9,.obj eu),(12,.obj jI),(14,.v I),(15,.v I)],[1,1,1,1,1,1,1,1,0,1,0,0],[]⟩,⟨6,[(2,.v lW),(3,.v fE),(5,.obj aB),(6,.obj aL),(9,.obj eu)],[1,1],[]⟩],none⟩
theorem aho(K ρ):(EA N).bd K ρ 27=kZ.mF N ((EA N).kc ρ 27):=κ
theorem ahp(ρ):(EA N).kc ((EA N).ch ρ) 27=kZ.oi N N:=Fx.uL [] (aho N) ρ (kZ.oi N) λn ρ' e d=>by rw[e];rfl
theorem anu(K ρ):(EA N).bd K ρ 6=kZ.j3b N ((EA N).kc K 27):=κ
theorem anv(ρ):(EA N).kc ((EA N).ch ρ) 6=kZ.j3 N:=Fx.uJ [27] (anu N) ρ (by rw[ahp];rfl)
theorem azb(K):(EA N).top K=kZ.b N ((EA N).kc K 6):=κ
def azc:Kn Tryz.prog:=⟨308,(EA N).S true (kZ N),Fx.u1 (EA N) aC Tryz.func308 [6,27] (azb N) (by rw[anv];rfl)⟩
def atB:Fx:=⟨28,tab,Kn.l [azc N],N,Tryz.f298,[.v aB,.v aL,.v lW,.v fE,.v eu],[.own eu,.v I],[],none⟩
def azd:Kn Tryz.prog:=⟨298,(atB N).S false (adv N),Fx.u0 (atB N) aC Tryz.func298⟩
def X56:Fx:=⟨46,tab,Kn.l [aa3 N],N,Tryz.f56,[.v fE,.v I],[.v eu,.v B],[⟨13,[(0,.v fE),(1,.v I),(4,.obj eu),(6,.obj eu),(7,.v B),(8,.v I)],[1,1,1,1,0,1,0,0],[]⟩],none⟩
theorem anw(K ρ):(X56 N).bd K ρ 13=Hp.tX N ((X56 N).kc ρ 13):=κ
theorem anx(ρ):(X56 N).kc ((X56 N).ch ρ) 13=Hp.l6 N N:=Fx.uL [] (anw N) ρ (Hp.l6 N) λn ρ' e d=>by rw[e];rfl
theorem h56(K):(X56 N).top K=Hp.b N ((X56 N).kc K 13):=κ
def k56:Kn Tryz.prog:=⟨56,(X56 N).S true (Hp N),Fx.u1 (X56 N) aC Tryz.func56 [13] (h56 N) (by rw[anx];rfl)⟩
def Rw:Fx:=⟨158,tab,Kn.l [vm N,anp N,aa3 N,k56 N,k22 N,agK N,zh N,aa2 N,QM N],N,Tryz.f55,[.v aB,.v aL,.v lW,.v fE],[.v aL,.own jI,.v I],[⟨45,[(2,.v lW),(3,.v fE),(5,.obj aL),(8,.obj aL),(11,.own iT),(12,.own sO),(13,.own jI),(14,.v I),(15,.obj jI),(16,.obj eu),(18,.v I),(19,.v I)],[1,1,1,1,1,0,1,0,0,1,0,0,1,1,1,1,1,1,1,1,0,1,0,0],[15]⟩,⟨15,[(2,.v lW),(3,.v fE),(5,.obj aL),(8,.obj aL),(11,.own iT),(12,.own sO),(13,.own jI),(14,.v I)],[1,1,1,1,1,0,1,0,0],[]⟩],none⟩
theorem anz(K ρ):(Rw N).bd K ρ 45=pq.wQ N ((Rw N).kc ρ 15) ((Rw N).kc ρ 45):=κ
theorem anA(ρ):(Rw N).kc ((Rw N).ch ρ) 45=pq.xL N ((Rw N).kc ρ 15) N:=Fx.uL [] (anz N) ρ (pq.xL N ((Rw N).kc ρ 15)) λn ρ' e d=>by rw[e,d 15 rfl];rfl
theorem anB(K ρ):(Rw N).bd K ρ 15=pq.p6 N ((Rw N).kc K 45) ((Rw N).kc ρ 15):=κ
theorem anC(ρ):(Rw N).kc ((Rw N).ch ρ) 15=pq.l7 N N:=Fx.uL [45] (anB N) ρ (pq.l7 N) λn ρ' e d=>by rw[anA,e];rfl
theorem h55(K):(Rw N).top K=pq.b N ((Rw N).kc K 15):=κ
def k55:Kn Tryz.prog:=⟨55,(Rw N).S false (pq N),Fx.u1 (Rw N) aC Tryz.func55 [15] (h55 N) (by rw[anC];rfl)⟩
def Re:Fx:=⟨58,tab,[],N,Tryz.f309,[.v dJ],[.v B],[⟨5,[(0,.v dJ),(3,.v I)],[1,0,1,0,0],[]⟩],none⟩
theorem anD(K ρ):(Re N).bd K ρ 5=pY.fy N ((Re N).kc ρ 5):=κ
theorem anE(ρ):(Re N).kc ((Re N).ch ρ) 5=pY.l2 N N:=Fx.uL [] (anD N) ρ (pY.l2 N) λn ρ' e d=>by rw[e];rfl
theorem aze(K):(Re N).top K=pY.b N ((Re N).kc K 5):=κ
def ahq:Kn Tryz.prog:=⟨309,(Re N).S true (pY N),Fx.u1 (Re N) aC Tryz.func309 [5] (aze N) (by rw[anE];rfl)⟩
def Rf:Fx:=⟨38,tab,[],N,Tryz.f310,[.v LI],[.v B],[⟨5,[(0,.v LI),(3,.v I)],[1,0,1,0,0],[]⟩],none⟩
theorem anF(K ρ):(Rf N).bd K ρ 5=sJ.fy N ((Rf N).kc ρ 5):=κ
theorem anG(ρ):(Rf N).kc ((Rf N).ch ρ) 5=sJ.l2 N N:=Fx.uL [] (anF N) ρ (sJ.l2 N) λn ρ' e d=>by rw[e];rfl
theorem azf(K):(Rf N).top K=sJ.b N ((Rf N).kc K 5):=κ
def azg:Kn Tryz.prog:=⟨310,(Rf N).S true (sJ N),Fx.u1 (Rf N) aC Tryz.func310 [5] (azf N) (by rw[anG];rfl)⟩
def CY:Fx:=⟨72,tab,Kn.l [atz N],N,Tryz.f311,[.v I,.v lW,.v fE],[.v I],[⟨25,[(0,.v I),(1,.v lW),(7,.v I),(12,.v I)],[1,1,1,0,1,0,0],[]⟩,⟨7,[(0,.v I),(1,.v lW),(2,.v fE),(7,.v I),(8,.v I)],[1,1,0,1,0,0],[]⟩],none⟩
theorem ahr(K ρ):(CY N).bd K ρ 25=jz.kt N ((CY N).kc ρ 25):=κ
theorem ahs(ρ):(CY N).kc ((CY N).ch ρ) 25=jz.lx N N:=Fx.uL [] (ahr N) ρ (jz.lx N) λn ρ' e d=>by rw[e];rfl
theorem anH(K ρ):(CY N).bd K ρ 7=jz.ob N ((CY N).kc K 25) ((CY N).kc ρ 7):=κ
theorem anI(ρ):(CY N).kc ((CY N).ch ρ) 7=jz.l3 N N:=Fx.uL [25] (anH N) ρ (jz.l3 N) λn ρ' e d=>by rw[ahs,e];rfl
theorem azh(K):(CY N).top K=jz.b N ((CY N).kc K 7):=κ
def azi:Kn Tryz.prog:=⟨311,(CY N).S true (jz N),Fx.u1 (CY N) aC Tryz.func311 [7,25] (azh N) (by rw[anI];rfl)⟩
def lX:Fx:=⟨104,tab,Kn.l [ahq N,azg N,anp N,aa3 N,azi N],N,Tryz.f299,[.v aB,.v dJ,.v LI,.v lW,.v fE],[.own jH,.v I],[⟨37,[(1,.v dJ),(2,.v LI),(3,.v lW),(4,.v fE),(12,.own jH),(13,.v I),(14,.v I),(15,.v B),(18,.v I)],[1,1,1,0,1,0,0,1,0,0,1,1,1,0,1,0,0],[11]⟩,⟨29,[(1,.v dJ),(2,.v LI),(3,.v lW),(4,.v fE),(12,.own jH),(13,.v I),(14,.v I),(15,.v B),(17,.v I)],[1,1,1,0,1,0,0,1,0,0,1,1,0,1,0,0],[11]⟩,⟨19,[(1,.v dJ),(2,.v LI),(3,.v lW),(4,.v fE),(12,.own jH),(13,.v I),(14,.v I),(15,.v B),(16,.v I)],[1,1,1,0,1,0,0,1,0,0,1,0,1,0,0],[11]⟩,⟨11,[(1,.v dJ),(2,.v LI),(3,.v lW),(4,.v fE),(12,.own jH),(13,.v I)],[1,1,1,0,1,0,0],[]⟩],none⟩
theorem aht(K ρ):(lX N).bd K ρ 37=dI.Et N ((lX N).kc ρ 11) ((lX N).kc ρ 37):=κ
theorem ahu(ρ):(lX N).kc ((lX N).ch ρ) 37=dI.Ie N ((lX N).kc ρ 11) N:=Fx.uL [] (aht N) ρ (dI.Ie N ((lX N).kc ρ 11)) λn ρ' e d=>by rw[e,d 11 rfl];rfl
theorem ahv(K ρ):(lX N).bd K ρ 29=dI.G0 N ((lX N).kc K 37) ((lX N).kc ρ 11) ((lX N).kc ρ 29):=κ
theorem ahw(ρ):(lX N).kc ((lX N).ch ρ) 29=dI.JV N ((lX N).kc ρ 11) N:=Fx.uL [37] (ahv N) ρ (dI.JV N ((lX N).kc ρ 11)) λn ρ' e d=>by rw[ahu,e,d 11 rfl];rfl
theorem ahx(K ρ):(lX N).bd K ρ 19=dI.xG N ((lX N).kc K 29) ((lX N).kc ρ 11) ((lX N).kc ρ 19):=κ
theorem ahy(ρ):(lX N).kc ((lX N).ch ρ) 19=dI.l9 N ((lX N).kc ρ 11) N:=Fx.uL [29,37] (ahx N) ρ (dI.l9 N ((lX N).kc ρ 11)) λn ρ' e d=>by rw[ahw,e,d 11 rfl];rfl
theorem ahz(K ρ):(lX N).bd K ρ 11=dI.eA N ((lX N).kc K 19) ((lX N).kc ρ 11):=κ
theorem ahA(ρ):(lX N).kc ((lX N).ch ρ) 11=dI.l5 N N:=Fx.uL [19,29,37] (ahz N) ρ (dI.l5 N) λn ρ' e d=>by rw[ahy,e];rfl
theorem azj(K):(lX N).top K=dI.b N ((lX N).kc K 11):=κ
def azk:Kn Tryz.prog:=⟨299,(lX N).S false (dI N),Fx.u1 (lX N) aC Tryz.func299 [11] (azj N) (by rw[ahA];rfl)⟩
def atC:Fx:=⟨28,tab,Kn.l [k19 N],N,Tryz.f321,[.own ry,.v aL,.v I,.v I,.v I],[.own ry],[],none⟩
def azl:Kn Tryz.prog:=⟨321,(atC N).S false (Mf N),Fx.u0 (atC N) aC Tryz.func321⟩
def atD:Fx:=⟨9,tab,[],N,Tryz.f323,[.v I],[.v B],[],none⟩
def atE:Kn Tryz.prog:=⟨323,(atD N).S true (Z1 N),Fx.u0 (atD N) aC Tryz.func323⟩
def Rg:Fx:=⟨27,tab,Kn.l [ahq N],N,Tryz.f325,[.v dJ,.v I],[.v I],[⟨9,[(0,.v dJ),(1,.v I),(5,.v I)],[1,1,0,1,0,0],[]⟩],none⟩
theorem anJ(K ρ):(Rg N).bd K ρ 9=sK.eN N ((Rg N).kc ρ 9):=κ
theorem anK(ρ):(Rg N).kc ((Rg N).ch ρ) 9=sK.l4 N N:=Fx.uL [] (anJ N) ρ (sK.l4 N) λn ρ' e d=>by rw[e];rfl
theorem azm(K):(Rg N).top K=sK.b N ((Rg N).kc K 9):=κ
def azn:Kn Tryz.prog:=⟨325,(Rg N).S true (sK N),Fx.u1 (Rg N) aC Tryz.func325 [9] (azm N) (by rw[anK];rfl)⟩
def Rh:Fx:=⟨67,tab,Kn.l [vm N,ahq N,atE N,k19 N,azn N],N,Tryz.f322,[.v aB,.v aL,.v dJ,.v I,.v I],[.own I,.v I],[⟨11,[(2,.v dJ),(3,.v I),(4,.v I),(6,.obj aL),(12,.own I),(13,.v I)],[1,1,1,0,1,0,0],[]⟩],none⟩
theorem ahB(K ρ):(Rh N).bd K ρ 11=sL.eA N ((Rh N).kc ρ 11):=κ
theorem ahC(ρ):(Rh N).kc ((Rh N).ch ρ) 11=sL.l5 N N:=Fx.uL [] (ahB N) ρ (sL.l5 N) λn ρ' e d=>by rw[e];rfl
theorem azo(K):(Rh N).top K=sL.b N ((Rh N).kc K 11):=κ
def azp:Kn Tryz.prog:=⟨322,(Rh N).S false (sL N),Fx.u1 (Rh N) aC Tryz.func322 [11] (azo N) (by rw[ahC];rfl)⟩
def m7:Fx:=⟨188,tab,Kn.l [vm N,ahq N,atf N,Tm N,k22 N,azl N,azp N,atE N,zh N,k19 N,Xs N,HW N,Tk N],N,Tryz.f312,[.v aB,.v aL,.v I,.v dJ,.v dJ],[.own ry,.v I],[⟨33,[(2,.v I),(3,.v dJ),(4,.v dJ),(5,.obj aB),(6,.obj aL),(12,.own ry),(14,.v I),(15,.own I),(17,.v I)],[1,1,1,1,1,1,1,0,1,0,0,1,0,0,1,1,0,0],[25]⟩,⟨61,[(2,.v I),(4,.v dJ),(6,.obj aL),(12,.own ry),(22,.v I)],[1,1,1,1,1,1,1,1,1,0,1,0,0],[]⟩,⟨41,[(2,.v I),(4,.v dJ),(5,.obj aB),(6,.obj aL),(12,.own ry),(18,.v I)],[1,1,1,1,1,1,1,1,0,1,0,0],[]⟩,⟨25,[(2,.v I),(3,.v dJ),(4,.v dJ),(5,.obj aB),(6,.obj aL),(12,.own ry),(14,.v I)],[1,1,1,1,1,1,1,0,1,0,0],[]⟩,⟨18,[(2,.v I),(3,.v dJ),(4,.v dJ),(5,.obj aB),(6,.obj aL),(12,.own ry)],[1,1,1,1,1],[]⟩],none⟩
theorem ahD(K ρ):(m7 N).bd K ρ 33=cP.wP N ((m7 N).kc ρ 25) ((m7 N).kc ρ 33):=κ
theorem ahE(ρ):(m7 N).kc ((m7 N).ch ρ) 33=cP.xK N ((m7 N).kc ρ 25) N:=Fx.uL [41,61] (ahD N) ρ (cP.xK N ((m7 N).kc ρ 25)) λn ρ' e d=>by rw[e,d 25 rfl];rfl
theorem ahF(K ρ):(m7 N).bd K ρ 61=cP.LC N ((m7 N).kc ρ 61):=κ
theorem ahG(ρ):(m7 N).kc ((m7 N).ch ρ) 61=cP.OI N N:=Fx.uL [] (ahF N) ρ (cP.OI N) λn ρ' e d=>by rw[e];rfl
theorem ahH(K ρ):(m7 N).bd K ρ 41=cP.PF N ((m7 N).kc K 61) ((m7 N).kc ρ 41):=κ
theorem ahI(ρ):(m7 N).kc ((m7 N).ch ρ) 41=cP.IV N N:=Fx.uL [61] (ahH N) ρ (cP.IV N) λn ρ' e d=>by rw[ahG,e];rfl
theorem ahJ(K ρ):(m7 N).bd K ρ 25=cP.kt N ((m7 N).kc K 33) ((m7 N).kc K 41) ((m7 N).kc ρ 25):=κ
theorem ahK(ρ):(m7 N).kc ((m7 N).ch ρ) 25=cP.lx N N:=Fx.uL [41,61,33] (ahJ N) ρ (cP.lx N) λn ρ' e d=>by rw[ahE,ahI,e];rfl
theorem ahL(K ρ):(m7 N).bd K ρ 18=cP.On N ((m7 N).kc K 25):=κ
theorem ahM(ρ):(m7 N).kc ((m7 N).ch ρ) 18=cP.j9 N:=Fx.uJ [25,41,61] (ahL N) ρ (by rw[ahK];rfl)
theorem azq(K):(m7 N).top K=cP.b N ((m7 N).kc K 18):=κ
def azr:Kn Tryz.prog:=⟨312,(m7 N).S false (cP N),Fx.u1 (m7 N) aC Tryz.func312 [18,25,41,61] (azq N) (by rw[ahM];rfl)⟩
def atG:Fx:=⟨19,tab,Kn.l [vm N,k19 N],N,Tryz.f313,[.v aB,.v aL],[.v I,.v I],[],none⟩
def azs:Kn Tryz.prog:=⟨313,(atG N).S true (adw N),Fx.u0 (atG N) aC Tryz.func313⟩
def Ri:Fx:=⟨97,tab,Kn.l [ar3 N],N,Tryz.f324,[.v yR],[.v B],[⟨9,[(0,.v yR),(3,.v I)],[1,1,0,1,0,0],[]⟩],none⟩
theorem anL(K ρ):(Ri N).bd K ρ 9=sM.eN N ((Ri N).kc ρ 9):=κ
theorem anM(ρ):(Ri N).kc ((Ri N).ch ρ) 9=sM.l4 N N:=Fx.uL [] (anL N) ρ (sM.l4 N) λn ρ' e d=>by rw[e];rfl
theorem azt(K):(Ri N).top K=sM.b N ((Ri N).kc K 9):=κ
def azu:Kn Tryz.prog:=⟨324,(Ri N).S true (sM N),Fx.u1 (Ri N) aC Tryz.func324 [9] (azt N) (by rw[anM];rfl)⟩
def m8:Fx:=⟨106,tab,Kn.l [azu N,am6 N,HW N,am9 N],N,Tryz.f314,[.v yR,.v I],[.own ry,.v I,.v I],[⟨37,[(7,.own ry),(8,.v I),(9,.v I),(10,.v I),(14,.own I),(16,.v I)],[1,1,1,0,1,0,0,1,0,1,1,1,1,1,1,1,0,1,0,0],[11]⟩,⟨22,[(7,.own ry),(8,.v I),(9,.v I),(10,.v I),(11,.own I)],[1,1,1,0,1,0,0,1,0,1,1,1],[11]⟩,⟨17,[(7,.own ry),(8,.v I),(9,.v I),(10,.v I),(11,.own I)],[1,1,1,0,1,0,0,1,0,1,1,0,0,0],[11]⟩,⟨11,[(7,.own ry),(8,.v I),(9,.v I)],[1,1,1,0,1,0,0],[]⟩],none⟩
theorem ahN(K ρ):(m8 N).bd K ρ 37=dN.Et N ((m8 N).kc ρ 11) ((m8 N).kc ρ 37):=κ
theorem ahO(ρ):(m8 N).kc ((m8 N).ch ρ) 37=dN.Ie N ((m8 N).kc ρ 11) N:=Fx.uL [] (ahN N) ρ (dN.Ie N ((m8 N).kc ρ 11)) λn ρ' e d=>by rw[e,d 11 rfl];rfl
theorem ahP(K ρ):(m8 N).bd K ρ 22=dN.CG N ((m8 N).kc K 37) ((m8 N).kc ρ 11):=κ
theorem ahQ(ρ):(m8 N).kc ((m8 N).ch ρ) 22=dN.Kl N ((m8 N).kc ρ 11):=Fx.uJ [37] (ahP N) ρ (by rw[ahO];rfl)
theorem ahR(K ρ):(m8 N).bd K ρ 17=dN.Dy N ((m8 N).kc K 22) ((m8 N).kc ρ 11) ((m8 N).kc ρ 17):=κ
theorem ahS(ρ):(m8 N).kc ((m8 N).ch ρ) 17=dN.l8 N ((m8 N).kc ρ 11) N:=Fx.uL [22,37] (ahR N) ρ (dN.l8 N ((m8 N).kc ρ 11)) λn ρ' e d=>by rw[ahQ,e,d 11 rfl];rfl
theorem ahT(K ρ):(m8 N).bd K ρ 11=dN.eA N ((m8 N).kc K 17) ((m8 N).kc ρ 11):=κ
theorem ahU(ρ):(m8 N).kc ((m8 N).ch ρ) 11=dN.l5 N N:=Fx.uL [17,22,37] (ahT N) ρ (dN.l5 N) λn ρ' e d=>by rw[ahS,e];rfl
theorem azv(K):(m8 N).top K=dN.b N ((m8 N).kc K 11):=κ
def azw:Kn Tryz.prog:=⟨314,(m8 N).S false (dN N),Fx.u1 (m8 N) aC Tryz.func314 [11] (azv N) (by rw[ahU];rfl)⟩
def atH:Fx:=⟨14,tab,Kn.l [vm N,k19 N],N,Tryz.f315,[.v aB,.v aL],[.v I,.v I],[],none⟩
def azx:Kn Tryz.prog:=⟨315,(atH N).S true (adx N),Fx.u0 (atH N) aC Tryz.func315⟩
def EB:Fx:=⟨156,tab,Kn.l [azr N,azs N,azw N,zh N,aa2 N,azx N,k22 N,QM N],N,Tryz.f300,[.v aB,.v aL,.v I,.v dJ,.v dJ],[.v aL,.v gi,.v I],[⟨52,[(6,.obj aL),(10,.obj aL),(11,.obj gi),(18,.own sO),(19,.ga gi [.kE 2] ry),(21,.v I),(23,.v I),(24,.v I)],[1,1,1,1,1,1,1,1,1,1,1,1,1,1,1],[]⟩,⟨31,[(2,.v I),(5,.obj aB),(6,.obj aL),(10,.obj aL),(11,.obj gi),(13,.own ry),(17,.v I),(18,.own sO),(19,.ga gi [.kE 2] ry),(20,.v I)],[1,1,1,1,1,1,1,1,1,1,0,1,0,0],[]⟩],some (gi,[.kE 2],ry,[19])⟩
theorem ahV(K ρ):(EB N).bd K ρ 52=ir.adz N:=κ
theorem ahW(ρ):(EB N).kc ((EB N).ch ρ) 52=ir.j26 N:=Fx.uJ [] (ahV N) ρ
theorem ahX(K ρ):(EB N).bd K ρ 31=ir.IM N ((EB N).kc K 52) ((EB N).kc ρ 31):=κ
theorem ahY(ρ):(EB N).kc ((EB N).ch ρ) 31=ir.JG N N:=Fx.uL [52] (ahX N) ρ (ir.JG N) λn ρ' e d=>by rw[ahW,e];rfl
theorem azy(K):(EB N).top K=ir.b N ((EB N).kc K 31):=κ
def azz:Kn Tryz.prog:=⟨300,(EB N).S false (ir N),Fx.u1 (EB N) aC Tryz.func300 [31,52] (azy N) (by rw[ahY];rfl)⟩
def rf:Fx:=⟨129,tab,Kn.l [aty N,am6 N,HW N,am9 N],N,Tryz.f163,[.v I,.v LI,.v LI],[.own I,.v I,.v I],[⟨39,[(1,.v LI),(2,.v LI),(11,.own I),(12,.v I),(13,.v I),(17,.own I),(19,.v I)],[1,1,1,1,0,1,0,0,1,0,0,1,1,1,1,1,0,0],[17]⟩,⟨25,[(1,.v LI),(2,.v LI),(11,.own I),(12,.v I),(13,.v I),(14,.own I),(15,.v B),(16,.v I)],[1,1,1,1,0,1,0,0,1,0,0,1,0,1,0,0],[17]⟩,⟨17,[(1,.v LI),(2,.v LI),(11,.own I),(12,.v I),(13,.v I)],[1,1,1,1,0,1,0,0],[]⟩],none⟩
theorem ahZ(K ρ):(rf N).bd K ρ 39=eZ.Sg N ((rf N).kc ρ 17) ((rf N).kc ρ 39):=κ
theorem ah0(ρ):(rf N).kc ((rf N).ch ρ) 39=eZ.V1 N ((rf N).kc ρ 17) N:=Fx.uL [] (ahZ N) ρ (eZ.V1 N ((rf N).kc ρ 17)) λn ρ' e d=>by rw[e,d 17 rfl];rfl
theorem ah1(K ρ):(rf N).bd K ρ 25=eZ.kt N ((rf N).kc K 39) ((rf N).kc ρ 17) ((rf N).kc ρ 25):=κ
theorem ah2(ρ):(rf N).kc ((rf N).ch ρ) 25=eZ.lx N ((rf N).kc ρ 17) N:=Fx.uL [39] (ah1 N) ρ (eZ.lx N ((rf N).kc ρ 17)) λn ρ' e d=>by rw[ah0,e,d 17 rfl];rfl
theorem ah3(K ρ):(rf N).bd K ρ 17=eZ.Dy N ((rf N).kc K 25) ((rf N).kc ρ 17):=κ
theorem ah4(ρ):(rf N).kc ((rf N).ch ρ) 17=eZ.l8 N N:=Fx.uL [25,39] (ah3 N) ρ (eZ.l8 N) λn ρ' e d=>by rw[ah2,e];rfl
theorem azA(K):(rf N).top K=eZ.b N ((rf N).kc K 17):=κ
def azB:Kn Tryz.prog:=⟨163,(rf N).S false (eZ N),Fx.u1 (rf N) aC Tryz.func163 [17] (azA N) (by rw[ah4];rfl)⟩
def Xc:Fx:=⟨127,tab,Kn.l [vm N,k20 N,azB N],N,Tryz.f93,[.v aB,.v aL,.v I],[.own iT,.v I],[⟨43,[(2,.v I),(8,.v I),(9,.own I),(13,.own I),(16,.own iT),(17,.v I)],[1,1,1,1,1,1,1,1,1,1,1,0,1,0,0],[]⟩,⟨23,[(2,.v I),(4,.obj aL),(8,.v I),(9,.own I),(10,.own I),(11,.v I)],[1,1,1,1,1,1,1,0,1,0,0],[]⟩],none⟩
theorem anN(K ρ):(Xc N).bd K ρ 43=oZ.Z2 N ((Xc N).kc ρ 43):=κ
theorem anO(ρ):(Xc N).kc ((Xc N).ch ρ) 43=oZ.WN N N:=Fx.uL [] (anN N) ρ (oZ.WN N) λn ρ' e d=>by rw[e];rfl
theorem anP(K ρ):(Xc N).bd K ρ 23=oZ.zL N ((Xc N).kc K 43) ((Xc N).kc ρ 23):=κ
theorem anQ(ρ):(Xc N).kc ((Xc N).ch ρ) 23=oZ.CE N N:=Fx.uL [43] (anP N) ρ (oZ.CE N) λn ρ' e d=>by rw[anO,e];rfl
theorem h93(K):(Xc N).top K=oZ.b N ((Xc N).kc K 23):=κ
def k93:Kn Tryz.prog:=⟨93,(Xc N).S false (oZ N),Fx.u1 (Xc N) aC Tryz.func93 [23,43] (h93 N) (by rw[anQ];rfl)⟩
def X94:Fx:=⟨41,tab,Kn.l [vm N,k93 N,QM N],N,Tryz.f94,[.v aB,.v aL],[.v aL,.v I],[⟨11,[(2,.obj aB),(3,.obj aL),(4,.obj aL),(6,.own iT),(7,.v I)],[1,1,1,0,1,0,0],[]⟩],none⟩
theorem anR(K ρ):(X94 N).bd K ρ 11=BJ.eA N ((X94 N).kc ρ 11):=κ
theorem anS(ρ):(X94 N).kc ((X94 N).ch ρ) 11=BJ.l5 N N:=Fx.uL [] (anR N) ρ (BJ.l5 N) λn ρ' e d=>by rw[e];rfl
theorem h94(K):(X94 N).top K=BJ.b N ((X94 N).kc K 11):=κ
def k94:Kn Tryz.prog:=⟨94,(X94 N).S false (BJ N),Fx.u1 (X94 N) aC Tryz.func94 [11] (h94 N) (by rw[anS];rfl)⟩
def Rj:Fx:=⟨325,tab,Kn.l [ayG N,aff N,ayL N,k39 N,ayV N,k53 N,amN N,ay5 N,azd N,k55 N,azk N,azz N,k94 N,ati N],N,Tryz.f284,[.v aB,.v eg,.v pI],[.v eg,.v iT],[⟨83,[(4,.obj eg),(6,.obj eg),(7,.obj iT),(14,.v lW),(16,.v I),(17,.v I)],[1,1,0,1,0,1,1,1,1,1,1,1,1,1,1,1,1,1,0,1,1,1,1,1,1,0,1,0,0],[]⟩],none⟩
theorem ah5(K ρ):(Rj N).bd K ρ 83=n7.adE N ((Rj N).kc ρ 83):=κ
theorem ah6(ρ):(Rj N).kc ((Rj N).ch ρ) 83=n7.l41 N N:=Fx.uL [] (ah5 N) ρ (n7.l41 N) λn ρ' e d=>by rw[e];rfl
theorem azC(K):(Rj N).top K=n7.b N ((Rj N).kc K 83):=κ
def azD:Kn Tryz.prog:=⟨284,(Rj N).S false (n7 N),Fx.u1 (Rj N) aC Tryz.func284 [83] (azC N) (by rw[ah6];rfl)⟩
def To:Fx:=⟨141,tab,Kn.l [ati N,ayw N,ayz N,aff N,as3 N,amN N,ayA N,azD N],N,Tryz.f264,[.v aB,.v eg,.v pI],[.v eg,.v iT],[⟨58,[(3,.obj aB),(4,.obj eg),(5,.obj pI),(6,.obj eg),(7,.obj iT)],[1,1,1],[]⟩],none⟩
theorem ah7(K ρ):(To N).bd K ρ 58=qy.PG N:=κ
theorem ah8(ρ):(To N).kc ((To N).ch ρ) 58=qy.WI N:=Fx.uJ [] (ah7 N) ρ
theorem azE(K):(To N).top K=qy.b N ((To N).kc K 58):=κ
def azF:Kn Tryz.prog:=⟨264,(To N).S false (qy N),Fx.u1 (To N) aC Tryz.func264 [58] (azE N) (by rw[ah8];rfl)⟩
def atI:Fx:=⟨295,tab,Kn.l [axE N,aff N,axI N,axJ N,axR N,ax5 N,as3 N,k19 N,zh N,k70 N,k24 N,ax7 N,ayh N,ayj N,aym N,ayp N,amN N,azF N],N,Tryz.f216,[.v aB,.v eg,.v pI],[.v eg,.v iT],[],none⟩
def azG:Kn Tryz.prog:=⟨216,(atI N).S false (WR N),Fx.u0 (atI N) aC Tryz.func216⟩
def atJ:Fx:=⟨36,tab,Kn.l [Tj N,axA N,azG N],N,Tryz.f162,[.v aB,.v eg,.v pI],[.v eg,.v iT],[],none⟩
def azH:Kn Tryz.prog:=⟨162,(atJ N).S false (WT N),Fx.u0 (atJ N) aC Tryz.func162⟩
def X92:Fx:=⟨43,tab,Kn.l [axr N,azH N],N,Tryz.f92,[.v aB,.v ak0],[.v eg,.own iT],[⟨13,[(1,.v ak0),(2,.obj aB),(4,.obj eg),(6,.obj eg),(8,.own iT),(9,.v I)],[1,1,1,1,0,1,0,0],[]⟩],none⟩
theorem anT(K ρ):(X92 N).bd K ρ 13=Gw.tX N ((X92 N).kc ρ 13):=κ
theorem anU(ρ):(X92 N).kc ((X92 N).ch ρ) 13=Gw.l6 N N:=Fx.uL [] (anT N) ρ (Gw.l6 N) λn ρ' e d=>by rw[e];rfl
theorem h92(K):(X92 N).top K=Gw.b N ((X92 N).kc K 13):=κ
def k92:Kn Tryz.prog:=⟨92,(X92 N).S false (Gw N),Fx.u1 (X92 N) aC Tryz.func92 [13] (h92 N) (by rw[anU];rfl)⟩
def X28:Fx:=⟨46,tab,Kn.l [k90 N,k41 N,k91 N,k92 N],N,Tryz.f28,[.io fF,.v aB,.v I],[.v eg,.io fF],[],none⟩
def k28:Kn Tryz.prog:=⟨28,(X28 N).S false (F28 N),Fx.u0 (X28 N) aC Tryz.func28⟩
def X46:Fx:=⟨16,tab,Kn.l [zh N,k66 N,Xs N,k67 N,Rv N],N,Tryz.f46,[.v dj],[.v c4],[],none⟩
def k46:Kn Tryz.prog:=⟨46,(X46 N).S false (F46 N),Fx.u0 (X46 N) aC Tryz.func46⟩
def Tp:Fx:=⟨174,tab,Kn.l [k38 N,k13 N,k27 N,k28 N,k43 N,k44 N,k45 N,k46 N,k36 N,k47 N,zh N,k24 N,k48 N,Xs N,k21 N],N,Tryz.f10,[.v LU],[.v B],[⟨25,[(4,.obj aB),(5,.obj eg),(6,.own dj),(8,.own eu),(10,.v I),(11,.v I)],[1,1,1,1,1,1,1,1,1,0,1,0,0],[]⟩],none⟩
theorem atK:uS Tryz.prog (Tp N).E:=Fx.TK (Tp N) aC (Kn.all _) κ
theorem anV(K ρ):(Tp N).bd K ρ 25=Cr.kt N ((Tp N).kc ρ 25):=κ
theorem aa4(ρ):(Tp N).kc ((Tp N).ch ρ) 25=Cr.lx N N:=Fx.uL [] (anV N) ρ (Cr.lx N) λn ρ' e d=>by rw[e];rfl
theorem h10(K):(Tp N).top K=Cr.b N ((Tp N).kc K 25):=κ
theorem atL: ∀x,Rk (Tp N).E (Tp N).fn (Tp N).args (Tp N).res x=Ld (Tp N).args (Cr N) x:=Fx.apx κ [25] (λK=>κ) (h10 N) (by rw[aa4];rfl)
def UG:Kn Tryz.prog:=⟨10,(Tp N).S true (Cr N),Fx.u1 (Tp N) aC Tryz.func10 [25] (h10 N) (by rw[aa4];rfl)⟩
end
end VM.F
