/- A part of the proof of BookAtOnce of layer 18: each function of the program does what its equation says; printed by a program. -/
import Derived.Test.YthkjjlcblhbifaaGreatText
import Derived.Test.YthkjjlcblhbifaaGreatVm8
import Derived.Test.YthkjjlcblhbifaaGreatProg
import Derived.KernelRfl
set_option linter.all false
noncomputable section
namespace VM.F
open Go VM Go.Proofs
open Tryz
set_option maxRecDepth 100000
abbrev I:Ty:= .int .i64
abbrev U:Ty:= .int .u64
abbrev B:Ty:= .bool
abbrev Z:Ty:= .str
abbrev Qy:Ty:= .slice mu
abbrev dE:Ty:= .slice kN
abbrev Td:Ty:= .slice eP
abbrev aqQ:Ty:= .slice dk
abbrev awq:Ty:= .slice dF
abbrev cQ:Ty:= .slice jZ
abbrev abA:Ty:= .slice wa
abbrev fx:Ty:= .slice fc
abbrev jl:Ty:= .slice sQ
abbrev yj:Ty:= .slice p9
abbrev ph:Ty:= .slice sR
abbrev lG:Ty:= .slice nh
abbrev als:Ty:= .slice me
abbrev mN:Ty:= .slice jW
abbrev aqR:Ty:= .slice iq
abbrev aqS:Ty:= .slice aA
abbrev awr:Ty:= .slice aK
abbrev aoo:Ty:= .slice sL
abbrev auK:Ty:= .slice dL
abbrev auL:Ty:= .slice nj
abbrev LI:Ty:= .slice I
abbrev LU:Ty:= .slice U
def tab:List (Nat×Ty):=[(2,I),(3,I),(4,B),(5,(.int .u8)),(9,Z),(22,LU),(26,fx),(28,aA),(30,dE),(31,fx),(32,cQ),(33,cQ),(34,LI),(35,lG),(37,aK),(38,fx),(39,mN),(40,fx),(41,LI),(42,dE),(43,dE),(45,sL),(46,yj),(48,iq),(50,dL),(53,jZ),(55,jZ),(57,nh),(59,fc),(63,yj),(65,I),(74,p9),(75,jl),(78,U),(80,eP),(89,dF),(92,fc),(95,cQ),(98,als),(113,dk),(115,ph),(124,cQ),(125,jZ),(134,kN),(137,dE),(139,cQ),(149,jZ),(153,me),(161,Td),(179,sQ),(181,sR),(185,(.arr 2 I)),(197,kN),(199,jZ),(213,nj),(215,(.arr 13 B)),(268,fc),(270,jW),(286,kN),(295,fc),(323,aqQ),(342,kN),(350,p9)]
theorem aC:G1 prog tab:=⟨κ,κ⟩
section
variable(N:Nat)
abbrev aa3:m1:=tg.S N
abbrev aa4:m1:=ux.S N
theorem aa5:jw prog 138 (aa4 N):=VF N func138 κ κ κ κ
def Te:Kn prog:=⟨138,aa4 N,aa5 N⟩
theorem aa6:jw prog 198 (aa3 N):=VG N func198 κ κ κ κ
def Tf:Kn prog:=⟨198,aa3 N,aa6 N⟩
abbrev Qz:m1:=xc (.pair (.int .i64) (.pair (.int .i64) .unit)) N
def M4.Tg:Go.Shelf.Ren:={f:=λi=>0,t:=λi=>cond (Nat.beq i 3) 134 (cond (Nat.beq i 4) 4 30),g:=λ_=>0}
theorem M4.Ab:LY prog (.pair (.int .i64) (.pair (.int .i64) .unit)) M4.Tg 121 f121:=⟨Tryz.func121.trans κ,underlying4,underlying30,iE (x:= .inl 134) κ,δ,κ⟩
theorem Th:jw prog 121 (Qz N):=rq M4.Ab κ κ N
def QA:Kn prog:=⟨121,Qz N,Th N⟩
abbrev QB:m1:=xc (.pair (.int .i64) (.pair (.int .i64) (.pair (.int .i64) (.pair (.int .i64) .unit)))) N
def M5.Tg:Go.Shelf.Ren:={f:=λi=>0,t:=λi=>cond (Nat.beq i 3) 59 (cond (Nat.beq i 4) 4 31),g:=λ_=>0}
theorem M5.Ab:LY prog (.pair (.int .i64) (.pair (.int .i64) (.pair (.int .i64) (.pair (.int .i64) .unit)))) M5.Tg 122 f122:=⟨Tryz.func122.trans κ,underlying4,underlying31,iE (x:= .inl 59) κ,δ,κ⟩
theorem Ti:jw prog 122 (QB N):=rq M5.Ab κ κ N
def QC:Kn prog:=⟨122,QB N,Ti N⟩
abbrev QD:m1:=xc (.pair (.int .i64) (.pair (.int .i64) (.pair (.int .i64) .unit))) N
def M6.Tg:Go.Shelf.Ren:={f:=λi=>0,t:=λi=>cond (Nat.beq i 3) 53 (cond (Nat.beq i 4) 4 32),g:=λ_=>0}
theorem M6.Ab:LY prog (.pair (.int .i64) (.pair (.int .i64) (.pair (.int .i64) .unit))) M6.Tg 123 f123:=⟨Tryz.func123.trans κ,underlying4,underlying32,iE (x:= .inl 53) κ,δ,κ⟩
theorem Tj:jw prog 123 (QD N):=rq M6.Ab κ κ N
def IT:Kn prog:=⟨123,QD N,Tj N⟩
abbrev QE:m1:=xc (.pair (.int .i64) (.pair (.int .i64) (.pair (.int .i64) .unit))) N
def M7.Tg:Go.Shelf.Ren:={f:=λi=>0,t:=λi=>cond (Nat.beq i 3) 55 (cond (Nat.beq i 4) 4 33),g:=λ_=>0}
theorem M7.Ab:LY prog (.pair (.int .i64) (.pair (.int .i64) (.pair (.int .i64) .unit))) M7.Tg 124 f124:=⟨Tryz.func124.trans κ,underlying4,underlying33,iE (x:= .inl 55) κ,δ,κ⟩
theorem Tk:jw prog 124 (QE N):=rq M7.Ab κ κ N
def IU:Kn prog:=⟨124,QE N,Tk N⟩
abbrev QF:m1:=xc (.int .i64) N
def M8.Tg:Go.Shelf.Ren:={f:=λi=>0,t:=λi=>cond (Nat.beq i 3) 2 (cond (Nat.beq i 4) 4 34),g:=λ_=>0}
theorem M8.Ab:LY prog (.int .i64) M8.Tg 125 f125:=⟨Tryz.func125.trans κ,underlying4,underlying34,iE (x:= .inl 2) κ,δ,κ⟩
theorem Tl:jw prog 125 (QF N):=rq M8.Ab κ κ N
def QG:Kn prog:=⟨125,QF N,Tl N⟩
abbrev QH:m1:=xc (.pair (.int .i64) (.pair (.int .i64) (.pair (.int .i64) (.pair (.int .i64) (.pair (.int .i64) (.pair (.int .i64) .unit)))))) N
def M9.Tg:Go.Shelf.Ren:={f:=λi=>0,t:=λi=>cond (Nat.beq i 3) 57 (cond (Nat.beq i 4) 4 35),g:=λ_=>0}
theorem M9.Ab:LY prog (.pair (.int .i64) (.pair (.int .i64) (.pair (.int .i64) (.pair (.int .i64) (.pair (.int .i64) (.pair (.int .i64) .unit)))))) M9.Tg 126 f126:=⟨Tryz.func126.trans κ,underlying4,underlying35,iE (x:= .inl 57) κ,δ,κ⟩
theorem Tm:jw prog 126 (QH N):=rq M9.Ab κ κ N
def IV:Kn prog:=⟨126,QH N,Tm N⟩
abbrev QI:m1:=mV (.pair (.int .i64) (.pair (.int .i64) (.pair (.int .i64) .unit))) N
def Na.Tg:Go.Shelf.Ren:={f:=λi=>cond (Nat.beq i 29) 199 (cond (Nat.beq i 30) 200 0),t:=λi=>cond (Nat.beq i 24) 33 (cond (Nat.beq i 9) 55 (cond (Nat.beq i 3) 3 (cond (Nat.beq i 4) 4 0))),g:=λ_=>0}
theorem Na.Ab:VH prog (.pair (.int .i64) (.pair (.int .i64) (.pair (.int .i64) .unit))) Na.Tg 161 f161 f199:=⟨Tryz.func161.trans κ,underlying3,underlying4,underlying33,iE (x:= .inl 55) κ,δ,κ⟩
theorem Tn:jw prog 161 (QI N):=G8 Na.Ab ⟨func199,κ,κ,κ,κ⟩ κ κ N
def aa7:Kn prog:=⟨161,QI N,Tn N⟩
abbrev QJ:m1:=mV (.pair (.int .i64) (.pair (.int .i64) (.pair (.int .i64) .unit))) N
def Nb.Tg:Go.Shelf.Ren:={f:=λi=>cond (Nat.beq i 29) 201 (cond (Nat.beq i 30) 202 0),t:=λi=>cond (Nat.beq i 24) 32 (cond (Nat.beq i 9) 53 (cond (Nat.beq i 3) 3 (cond (Nat.beq i 4) 4 0))),g:=λ_=>0}
theorem Nb.Ab:VH prog (.pair (.int .i64) (.pair (.int .i64) (.pair (.int .i64) .unit))) Nb.Tg 164 f164 f201:=⟨Tryz.func164.trans κ,underlying3,underlying4,underlying32,iE (x:= .inl 53) κ,δ,κ⟩
theorem To:jw prog 164 (QJ N):=G8 Nb.Ab ⟨func201,κ,κ,κ,κ⟩ κ κ N
def aa8:Kn prog:=⟨164,QJ N,To N⟩
def X15:Fx:=⟨21,tab,[],N,f15,[],[.v aA,.v aK],[],none⟩
theorem aAW:tp prog (X15 N).E:=Fx.OE (X15 N) aC trivial κ
theorem aAX: ∀x,NT (X15 N).E (X15 N).fn (X15 N).args (X15 N).res x=Jz (X15 N).args (F15 N) x:=Fx.akx κ
def k15:Kn prog:=⟨15,(X15 N).S false (F15 N),Fx.u0 (X15 N) aC func15⟩
def X80:Fx:=⟨15,tab,[],N,f80,[.v I,.v I,.v I],[.v B],[],none⟩
def k80:Kn prog:=⟨80,(X80 N).S true (Xq N),Fx.u0 (X80 N) aC func80⟩
def X29:Fx:=⟨68,tab,Kn.l [k80 N],N,f29,[.v aA],[.v B],[⟨9,[(1,.obj aA),(11,.v fx),(12,.v I),(13,.v I)],[1,1,0,1,0,0],[]⟩],none⟩
theorem aqT(K ρ):(X29 N).bd K ρ 9=Ch.dQ N ((X29 N).kc ρ 9):=κ
theorem aqU(ρ):(X29 N).kc ((X29 N).cq ρ) 9=Ch.l4 N N:=Fx.uL [] (aqT N) ρ (Ch.l4 N) λn ρ' e d=>by rw[e];rfl
theorem h29(K):(X29 N).top K=Ch.b N ((X29 N).kc K 9):=κ
def k29:Kn prog:=⟨29,(X29 N).S true (Ch N),Fx.u1 (X29 N) aC func29 [9] (h29 N) (by rw[aqU];rfl)⟩
def Xu:Fx:=⟨39,tab,Kn.l [k29 N],N,f16,[.v aA],[.v aK,.v I],[⟨15,[(2,.obj aK),(4,.gg aK [.gG 4] I),(24,.v fx),(25,.v I),(26,.v I)],[1,1,1,1,0,1,0,0],[]⟩,⟨12,[(1,.obj aA),(2,.obj aK),(4,.gg aK [.gG 4] I)],[1,1,1,1],[]⟩],some (aK,[.gG 4],I,[4])⟩
theorem alu(K ρ):(Xu N).bd K ρ 15=wJ.oJ N ((Xu N).kc ρ 15):=κ
theorem alv(ρ):(Xu N).kc ((Xu N).cq ρ) 15=wJ.l7 N N:=Fx.uL [] (alu N) ρ (wJ.l7 N) λn ρ' e d=>by rw[e];rfl
theorem alw(K ρ):(Xu N).bd K ρ 12=wJ.OL N ((Xu N).kc K 15):=κ
theorem alx(ρ):(Xu N).kc ((Xu N).cq ρ) 12=wJ.j6 N:=Fx.uJ [15] (alw N) ρ (by rw[alv];rfl)
theorem h16(K):(Xu N).top K=wJ.b N ((Xu N).kc K 12):=κ
def k16:Kn prog:=⟨16,(Xu N).S false (wJ N),Fx.u1 (Xu N) aC func16 [12,15] (h16 N) (by rw[alx];rfl)⟩
def X81:Fx:=⟨46,tab,[],N,f81,[.v dE],[.v B],[⟨5,[(0,.v dE),(5,.v dE),(6,.v I),(7,.v I)],[1,0,1,0,0],[]⟩],none⟩
theorem aqV(K ρ):(X81 N).bd K ρ 5=D2.fM N ((X81 N).kc ρ 5):=κ
theorem aqW(ρ):(X81 N).kc ((X81 N).cq ρ) 5=D2.l2 N N:=Fx.uL [] (aqV N) ρ (D2.l2 N) λn ρ' e d=>by rw[e];rfl
theorem h81(K):(X81 N).top K=D2.b N ((X81 N).kc K 5):=κ
def k81:Kn prog:=⟨81,(X81 N).S true (D2 N),Fx.u1 (X81 N) aC func81 [5] (h81 N) (by rw[aqW];rfl)⟩
def X82:Fx:=⟨77,tab,[],N,f82,[.v fx],[.v B],[⟨7,[(0,.v fx),(3,.obj (.arr 13 B)),(6,.v fx),(7,.v I),(8,.v I)],[1,1,0,1,0,0],[]⟩],none⟩
theorem aqX(K ρ):(X82 N).bd K ρ 7=zS.nr N ((X82 N).kc ρ 7):=κ
theorem aqY(ρ):(X82 N).kc ((X82 N).cq ρ) 7=zS.l3 N N:=Fx.uL [] (aqX N) ρ (zS.l3 N) λn ρ' e d=>by rw[e];rfl
theorem h82(K):(X82 N).top K=zS.b N ((X82 N).kc K 7):=κ
def k82:Kn prog:=⟨82,(X82 N).S true (zS N),Fx.u1 (X82 N) aC func82 [7] (h82 N) (by rw[aqY];rfl)⟩
def X37:Fx:=⟨23,tab,Kn.l [k81 N],N,f37,[.v dE,.v I],[.v I],[⟨9,[(1,.v I),(10,.v dE),(11,.v I),(12,.v I)],[1,1,0,1,0,0],[]⟩],none⟩
theorem aqZ(K ρ):(X37 N).bd K ρ 9=By.dQ N ((X37 N).kc ρ 9):=κ
theorem aq0(ρ):(X37 N).kc ((X37 N).cq ρ) 9=By.l4 N N:=Fx.uL [] (aqZ N) ρ (By.l4 N) λn ρ' e d=>by rw[e];rfl
theorem h37(K):(X37 N).top K=By.b N ((X37 N).kc K 9):=κ
def k37:Kn prog:=⟨37,(X37 N).S true (By N),Fx.u1 (X37 N) aC func37 [9] (h37 N) (by rw[aq0];rfl)⟩
def X30:Fx:=⟨27,tab,Kn.l [k81 N,k82 N,k37 N],N,f30,[.v dE,.v fx],[.v B],[⟨9,[(0,.v dE),(15,.v fx),(16,.v I),(17,.v I)],[1,1,0,1,0,0],[]⟩],none⟩
theorem aq1(K ρ):(X30 N).bd K ρ 9=EU.dQ N ((X30 N).kc ρ 9):=κ
theorem aq2(ρ):(X30 N).kc ((X30 N).cq ρ) 9=EU.l4 N N:=Fx.uL [] (aq1 N) ρ (EU.l4 N) λn ρ' e d=>by rw[e];rfl
theorem h30(K):(X30 N).top K=EU.b N ((X30 N).kc K 9):=κ
def k30:Kn prog:=⟨30,(X30 N).S true (EU N),Fx.u1 (X30 N) aC func30 [9] (h30 N) (by rw[aq2];rfl)⟩
def X83:Fx:=⟨30,tab,[],N,f83,[.v I,.v I],[.v B],[],none⟩
def k83:Kn prog:=⟨83,(X83 N).S true (F83 N),Fx.u0 (X83 N) aC func83⟩
def X84:Fx:=⟨19,tab,[],N,f84,[.v I,.v I,.v jZ],[.v I],[],none⟩
def k84:Kn prog:=⟨84,(X84 N).S true (F84 N),Fx.u0 (X84 N) aC func84⟩
def X31:Fx:=⟨41,tab,Kn.l [k83 N,k84 N],N,f31,[.v cQ],[.v B],[⟨5,[(0,.v cQ),(5,.v cQ),(6,.v I),(7,.v I)],[1,0,1,0,0],[]⟩],none⟩
theorem aq3(K ρ):(X31 N).bd K ρ 5=CI.fM N ((X31 N).kc ρ 5):=κ
theorem aq4(ρ):(X31 N).kc ((X31 N).cq ρ) 5=CI.l2 N N:=Fx.uL [] (aq3 N) ρ (CI.l2 N) λn ρ' e d=>by rw[e];rfl
theorem h31(K):(X31 N).top K=CI.b N ((X31 N).kc K 5):=κ
def k31:Kn prog:=⟨31,(X31 N).S true (CI N),Fx.u1 (X31 N) aC func31 [5] (h31 N) (by rw[aq4];rfl)⟩
def X86:Fx:=⟨8,tab,[],N,f86,[.v I],[.v eP],[],none⟩
def k86:Kn prog:=⟨86,(X86 N).S true (OS N),Fx.u0 (X86 N) aC func86⟩
def X87:Fx:=⟨51,tab,Kn.l [Te N],N,f87,[.v Td],[.v eP,.v B],[⟨7,[(2,.obj eP),(4,.v I),(5,.v U),(6,.v U),(10,.v Td),(11,.v I),(12,.v I)],[1,1,0,1,0,0],[]⟩],none⟩
theorem aq5(K ρ):(X87 N).bd K ρ 7=Ae.nr N ((X87 N).kc ρ 7):=κ
theorem aq6(ρ):(X87 N).kc ((X87 N).cq ρ) 7=Ae.l3 N N:=Fx.uL [] (aq5 N) ρ (Ae.l3 N) λn ρ' e d=>by rw[e];rfl
theorem h87(K):(X87 N).top K=Ae.b N ((X87 N).kc K 7):=κ
def k87:Kn prog:=⟨87,(X87 N).S true (Ae N),Fx.u1 (X87 N) aC func87 [7] (h87 N) (by rw[aq6];rfl)⟩
def X33:Fx:=⟨31,tab,Kn.l [k31 N,k86 N,k87 N],N,f33,[.v cQ],[.v eP],[⟨11,[(2,.obj eP),(3,.own eP),(12,.v cQ),(13,.v I),(14,.v I)],[1,1,1,0,1,0,0],[]⟩],none⟩
theorem aly(K ρ):(X33 N).bd K ρ 11=D5.eo N ((X33 N).kc ρ 11):=κ
theorem alz(ρ):(X33 N).kc ((X33 N).cq ρ) 11=D5.l5 N N:=Fx.uL [] (aly N) ρ (D5.l5 N) λn ρ' e d=>by rw[e];rfl
theorem h33(K):(X33 N).top K=D5.b N ((X33 N).kc K 11):=κ
def k33:Kn prog:=⟨33,(X33 N).S true (D5 N),Fx.u1 (X33 N) aC func33 [11] (h33 N) (by rw[alz];rfl)⟩
def X85:Fx:=⟨27,tab,[],N,f85,[.v eP,.v eP],[.v I],[],none⟩
def k85:Kn prog:=⟨85,(X85 N).S true (F85 N),Fx.u0 (X85 N) aC func85⟩
def X32:Fx:=⟨6,tab,Kn.l [k85 N],N,f32,[.v eP],[.v I],[],none⟩
def k32:Kn prog:=⟨32,(X32 N).S true (F32 N),Fx.u0 (X32 N) aC func32⟩
def aq7:Fx:=⟨19,tab,[],N,f139,[.v I,.v I],[.v B],[],none⟩
def aq8:Kn prog:=⟨139,(aq7 N).S true (YT N),Fx.u0 (aq7 N) aC func139⟩
def aq9:Fx:=⟨5,tab,[],N,f140,[.v I],[.v B],[],none⟩
def alA:Kn prog:=⟨140,(aq9 N).S true (Sb N),Fx.u0 (aq9 N) aC func140⟩
def ara:Fx:=⟨19,tab,[],N,f141,[.v I,.v I,.v jZ],[.v I],[],none⟩
def arb:Kn prog:=⟨141,(ara N).S true (VW N),Fx.u0 (ara N) aC func141⟩
def X89:Fx:=⟨47,tab,Kn.l [aq8 N,alA N,arb N],N,f89,[.v cQ],[.v B],[⟨5,[(0,.v cQ),(5,.v cQ),(6,.v I),(7,.v I)],[1,0,1,0,0],[]⟩],none⟩
theorem arc(K ρ):(X89 N).bd K ρ 5=Bu.fM N ((X89 N).kc ρ 5):=κ
theorem ard(ρ):(X89 N).kc ((X89 N).cq ρ) 5=Bu.l2 N N:=Fx.uL [] (arc N) ρ (Bu.l2 N) λn ρ' e d=>by rw[e];rfl
theorem h89(K):(X89 N).top K=Bu.b N ((X89 N).kc K 5):=κ
def k89:Kn prog:=⟨89,(X89 N).S true (Bu N),Fx.u1 (X89 N) aC func89 [5] (h89 N) (by rw[ard];rfl)⟩
def X88:Fx:=⟨37,tab,Kn.l [k89 N,k86 N,k87 N],N,f88,[.v cQ,.v I],[.v eP],[⟨11,[(1,.v I),(4,.obj eP),(5,.own eP),(14,.v cQ),(15,.v I),(16,.v I)],[1,1,1,0,1,0,0],[]⟩],none⟩
theorem alB(K ρ):(X88 N).bd K ρ 11=D7.eo N ((X88 N).kc ρ 11):=κ
theorem alC(ρ):(X88 N).kc ((X88 N).cq ρ) 11=D7.l5 N N:=Fx.uL [] (alB N) ρ (D7.l5 N) λn ρ' e d=>by rw[e];rfl
theorem h88(K):(X88 N).top K=D7.b N ((X88 N).kc K 11):=κ
def k88:Kn prog:=⟨88,(X88 N).S true (D7 N),Fx.u1 (X88 N) aC func88 [11] (h88 N) (by rw[alC];rfl)⟩
def X34:Fx:=⟨15,tab,Kn.l [k88 N,k32 N,k89 N],N,f34,[.v cQ],[.v B],[⟨5,[(0,.v cQ),(4,.v I)],[1,0,1,0,0],[]⟩],none⟩
theorem arf(K ρ):(X34 N).bd K ρ 5=EV.fM N ((X34 N).kc ρ 5):=κ
theorem arh(ρ):(X34 N).kc ((X34 N).cq ρ) 5=EV.l2 N N:=Fx.uL [] (arf N) ρ (EV.l2 N) λn ρ' e d=>by rw[e];rfl
theorem h34(K):(X34 N).top K=EV.b N ((X34 N).kc K 5):=κ
def k34:Kn prog:=⟨34,(X34 N).S true (EV N),Fx.u1 (X34 N) aC func34 [5] (h34 N) (by rw[arh];rfl)⟩
def X90:Fx:=⟨61,tab,[],N,f90,[.v nh],[.v B],[],none⟩
def k90:Kn prog:=⟨90,(X90 N).S true (F90 N),Fx.u0 (X90 N) aC func90⟩
def X35:Fx:=⟨34,tab,Kn.l [k90 N],N,f35,[.v lG],[.v B],[⟨5,[(0,.v lG),(5,.v lG),(6,.v I),(7,.v I)],[1,0,1,0,0],[]⟩],none⟩
theorem ari(K ρ):(X35 N).bd K ρ 5=CO.fM N ((X35 N).kc ρ 5):=κ
theorem arj(ρ):(X35 N).kc ((X35 N).cq ρ) 5=CO.l2 N N:=Fx.uL [] (ari N) ρ (CO.l2 N) λn ρ' e d=>by rw[e];rfl
theorem h35(K):(X35 N).top K=CO.b N ((X35 N).kc K 5):=κ
def k35:Kn prog:=⟨35,(X35 N).S true (CO N),Fx.u1 (X35 N) aC func35 [5] (h35 N) (by rw[arj];rfl)⟩
def X91:Fx:=⟨25,tab,Kn.l [k82 N],N,f91,[.v fx,.v I],[.v fc,.v B],[⟨9,[(1,.v I),(4,.obj fc),(12,.v fx),(13,.v I),(14,.v I)],[1,1,0,1,0,0],[]⟩],none⟩
theorem ark(K ρ):(X91 N).bd K ρ 9=D3.dQ N ((X91 N).kc ρ 9):=κ
theorem arl(ρ):(X91 N).kc ((X91 N).cq ρ) 9=D3.l4 N N:=Fx.uL [] (ark N) ρ (D3.l4 N) λn ρ' e d=>by rw[e];rfl
theorem h91(K):(X91 N).top K=D3.b N ((X91 N).kc K 9):=κ
def k91:Kn prog:=⟨91,(X91 N).S true (D3 N),Fx.u1 (X91 N) aC func91 [9] (h91 N) (by rw[arl];rfl)⟩
def X36:Fx:=⟨15,tab,Kn.l [k91 N],N,f36,[.v aK,.v I],[.v B],[],none⟩
def k36:Kn prog:=⟨36,(X36 N).S true (F36 N),Fx.u0 (X36 N) aC func36⟩
def X40:Fx:=⟨9,tab,[],N,f40,[.v I],[.v B],[],none⟩
def k40:Kn prog:=⟨40,(X40 N).S true (F40 N),Fx.u0 (X40 N) aC func40⟩
def X39:Fx:=⟨6,tab,Kn.l [k40 N],N,f39,[.v I],[.v B],[],none⟩
def k39:Kn prog:=⟨39,(X39 N).S true (F39 N),Fx.u0 (X39 N) aC func39⟩
def X92:Fx:=⟨19,tab,Kn.l [k39 N],N,f92,[.v LI,.fn 39 .unit],[.v I],[⟨5,[(0,.v LI),(1,.fn 39 .unit),(7,.v I),(8,.v I)],[1,0,1,0,0],[]⟩],none⟩
theorem aro(K ρ):(X92 N).bd K ρ 5=I9.fM N ((X92 N).kc ρ 5):=κ
theorem arp(ρ):(X92 N).kc ((X92 N).cq ρ) 5=I9.l2 N N:=Fx.uL [] (aro N) ρ (I9.l2 N) λn ρ' e d=>by rw[e];rfl
theorem h92(K):(X92 N).top K=I9.b N ((X92 N).kc K 5):=κ
def k92:Kn prog:=⟨92,(X92 N).S true (I9 N),Fx.u1 (X92 N) aC func92 [5] (h92 N) (by rw[arp];rfl)⟩
def X38:Fx:=⟨9,tab,Kn.l [k92 N],N,f38,[.v LI,.fn 39 .unit],[.v B],[],none⟩
def k38:Kn prog:=⟨38,(X38 N).S true (F38 N),Fx.u0 (X38 N) aC func38⟩
def X9:Fx:=⟨133,tab,Kn.l [k29 N,k30 N,k31 N,k33 N,k32 N,k34 N,k35 N,k36 N,k37 N,k38 N],N,f9,[.v aA,.v aK],[.v B],[⟨45,[(2,.obj aA),(3,.obj aK),(109,.v lG),(110,.v I),(111,.v I)],[1,1,1,1,0,1,0,0],[]⟩,⟨33,[(2,.obj aA),(3,.obj aK),(83,.v cQ),(84,.v I),(85,.v I)],[1,1,1,0,1,0,0],[]⟩,⟨9,[(2,.obj aA),(3,.obj aK),(57,.v cQ),(58,.v I),(59,.v I)],[1,1,0,1,0,0],[]⟩],none⟩
theorem arq(K ρ):(X9 N).bd K ρ 45=F9.wF N ((X9 N).kc ρ 45):=κ
theorem ars(ρ):(X9 N).kc ((X9 N).cq ρ) 45=F9.xI N N:=Fx.uL [] (arq N) ρ (F9.xI N) λn ρ' e d=>by rw[e];rfl
theorem art(K ρ):(X9 N).bd K ρ 33=F9.wE N ((X9 N).kc K 45) ((X9 N).kc ρ 33):=κ
theorem aru(ρ):(X9 N).kc ((X9 N).cq ρ) 33=F9.xH N N:=Fx.uL [45] (art N) ρ (F9.xH N) λn ρ' e d=>by rw[ars,e];rfl
theorem awx(K ρ):(X9 N).bd K ρ 9=F9.dQ N ((X9 N).kc K 33) ((X9 N).kc ρ 9):=κ
theorem awy(ρ):(X9 N).kc ((X9 N).cq ρ) 9=F9.l4 N N:=Fx.uL [33,45] (awx N) ρ (F9.l4 N) λn ρ' e d=>by rw[aru,e];rfl
theorem h9(K):(X9 N).top K=F9.b N ((X9 N).kc K 9):=κ
def k9:Kn prog:=⟨9,(X9 N).S true (F9 N),Fx.u1 (X9 N) aC func9 [9,33,45] (h9 N) (by rw[awy];rfl)⟩
def X59:Fx:=⟨50,tab,Kn.l [k40 N],N,f59,[.v p9],[.v B],[⟨5,[(1,.obj p9),(9,.v (.arr 2 I)),(10,.v I)],[1,0,1,0,0],[]⟩],none⟩
theorem arv(K ρ):(X59 N).bd K ρ 5=C3.fM N ((X59 N).kc ρ 5):=κ
theorem arw(ρ):(X59 N).kc ((X59 N).cq ρ) 5=C3.l2 N N:=Fx.uL [] (arv N) ρ (C3.l2 N) λn ρ' e d=>by rw[e];rfl
theorem h59(K):(X59 N).top K=C3.b N ((X59 N).kc K 5):=κ
def k59:Kn prog:=⟨59,(X59 N).S true (C3 N),Fx.u1 (X59 N) aC func59 [5] (h59 N) (by rw[arw];rfl)⟩
def X58:Fx:=⟨6,tab,Kn.l [k59 N],N,f58,[.v p9],[.v B],[],none⟩
def k58:Kn prog:=⟨58,(X58 N).S true (F58 N),Fx.u0 (X58 N) aC func58⟩
def QK:Fx:=⟨19,tab,Kn.l [k58 N],N,f112,[.v yj,.fn 58 .unit],[.v I],[⟨5,[(0,.v yj),(1,.fn 58 .unit),(7,.v I),(8,.v I)],[1,0,1,0,0],[]⟩],none⟩
theorem alD(K ρ):(QK N).bd K ρ 5=sZ.fM N ((QK N).kc ρ 5):=κ
theorem alE(ρ):(QK N).kc ((QK N).cq ρ) 5=sZ.l2 N N:=Fx.uL [] (alD N) ρ (sZ.l2 N) λn ρ' e d=>by rw[e];rfl
theorem awz(K):(QK N).top K=sZ.b N ((QK N).kc K 5):=κ
def awA:Kn prog:=⟨112,(QK N).S true (sZ N),Fx.u1 (QK N) aC func112 [5] (awz N) (by rw[alE];rfl)⟩
def X57:Fx:=⟨9,tab,Kn.l [awA N],N,f57,[.v yj,.fn 58 .unit],[.v B],[],none⟩
def k57:Kn prog:=⟨57,(X57 N).S true (F57 N),Fx.u0 (X57 N) aC func57⟩
def arx:Fx:=⟨10,tab,[],N,f158,[.v I],[.v U],[],none⟩
def ary:Kn prog:=⟨158,(arx N).S true (VQ N),Fx.u0 (arx N) aC func158⟩
def arz:Fx:=⟨51,tab,[],N,f157,[.v U,.v U],[.v U,.v U],[],none⟩
def arA:Kn prog:=⟨157,(arz N).S true (VP N),Fx.u0 (arz N) aC func157⟩
def Tp:Fx:=⟨47,tab,Kn.l [Tf N],N,f159,[.v B,.v U,.v U],[.v eP,.v B],[⟨14,[(1,.v U),(2,.v U),(6,.obj eP)],[1,1,1],[]⟩],none⟩
theorem adX(K ρ):(Tp N).bd K ρ 14=qP.Xp N:=κ
theorem adY(ρ):(Tp N).kc ((Tp N).cq ρ) 14=qP.j7 N:=Fx.uJ [] (adX N) ρ
theorem awB(K):(Tp N).top K=qP.b N ((Tp N).kc K 14):=κ
def arB:Kn prog:=⟨159,(Tp N).S true (qP N),Fx.u1 (Tp N) aC func159 [14] (awB N) (by rw[adY];rfl)⟩
def arC:Fx:=⟨29,tab,Kn.l [ary N,arA N,arB N],N,f114,[.v I,.v I],[.v eP],[],none⟩
def arD:Kn prog:=⟨114,(arC N).S true (VV N),Fx.u0 (arC N) aC func114⟩
def arE:Fx:=⟨12,tab,[],N,f113,[.v I,.v eP],[.v sQ],[],none⟩
def arF:Kn prog:=⟨113,(arE N).S true (Wi N),Fx.u0 (arE N) aC func113⟩
def X60:Fx:=⟨41,tab,Kn.l [k59 N,k40 N,arD N,arF N],N,f60,[.v p9,.v I],[.own sQ,.v I],[],none⟩
def k60:Kn prog:=⟨60,(X60 N).S false (F60 N),Fx.u0 (X60 N) aC func60⟩
def X70:Fx:=⟨22,tab,Kn.l [QA N,QC N,IT N,IU N,QG N,IV N],N,f70,[.v aK],[.v aK],[],none⟩
def k70:Kn prog:=⟨70,(X70 N).S false (F70 N),Fx.u0 (X70 N) aC func70⟩
def zb:Fx:=⟨42,tab,Kn.l [k86 N,k87 N,k32 N],N,f160,[.v cQ],[.v B],[⟨13,[(0,.v cQ),(3,.v I),(4,.own eP),(9,.v I),(12,.v cQ),(13,.v I),(14,.v I)],[1,0,1,0,0,1,1,0,0,1,1,0,1,0,0],[5]⟩,⟨5,[(0,.v cQ),(9,.v I)],[1,0,1,0,0],[]⟩],none⟩
theorem adZ(K ρ):(zb N).bd K ρ 13=gX.vu N ((zb N).kc ρ 5) ((zb N).kc ρ 13):=κ
theorem ad0(ρ):(zb N).kc ((zb N).cq ρ) 13=gX.l6 N ((zb N).kc ρ 5) N:=Fx.uL [] (adZ N) ρ (gX.l6 N ((zb N).kc ρ 5)) λn ρ' e d=>by rw[e,d 5 rfl];rfl
theorem alF(K ρ):(zb N).bd K ρ 5=gX.fM N ((zb N).kc K 13) ((zb N).kc ρ 5):=κ
theorem alG(ρ):(zb N).kc ((zb N).cq ρ) 5=gX.l2 N N:=Fx.uL [13] (alF N) ρ (gX.l2 N) λn ρ' e d=>by rw[ad0,e];rfl
theorem awC(K):(zb N).top K=gX.b N ((zb N).kc K 5):=κ
def awD:Kn prog:=⟨160,(zb N).S true (gX N),Fx.u1 (zb N) aC func160 [5] (awC N) (by rw[alG];rfl)⟩
def arG:Fx:=⟨14,tab,[],N,f162,[.v eP],[.v I,.v B],[],none⟩
def arH:Kn prog:=⟨162,(arG N).S true (R7 N),Fx.u0 (arG N) aC func162⟩
def arI:Fx:=⟨9,tab,[],N,f163,[.v cQ],[.v cQ],[],none⟩
def awE:Kn prog:=⟨163,(arI N).S false (acE N),Fx.u0 (arI N) aC func163⟩
def jI:Fx:=⟨173,tab,Kn.l [k89 N,aq8 N,alA N,awD N,IU N,arb N,aa7 N,k86 N,k87 N,arH N,awE N],N,f115,[.v cQ,.v cQ],[.v cQ,.v I],[⟨36,[(1,.v cQ),(8,.own jZ),(10,.obj jZ),(11,.v I),(54,.v cQ),(55,.v I),(56,.v I)],[1,1,1,1,1,0,1,0,0,1,1,0,0,1,1,1],[27]⟩,⟨33,[(1,.v cQ),(8,.own jZ),(10,.obj jZ),(11,.v I),(54,.v cQ),(55,.v I),(56,.v I)],[1,1,1,1,1,0,1,0,0,1,1,0,0,1,1,0,0,0],[27]⟩,⟨55,[(1,.v cQ),(12,.own jZ),(14,.obj jZ),(15,.own eP),(107,.own jZ),(108,.v I),(109,.v I),(117,.v cQ),(118,.v I),(119,.v I)],[1,1,1,1,1,1,1,0,1,0,0,1,1,0,0,1,1,0,1,0,0],[47]⟩,⟨47,[(1,.v cQ),(12,.own jZ),(107,.own jZ),(108,.v I),(109,.v I)],[1,1,1,1,1,1,1,0,1,0,0],[]⟩,⟨27,[(1,.v cQ),(8,.own jZ),(54,.v cQ),(55,.v I),(56,.v I)],[1,1,1,1,1,0,1,0,0],[]⟩,⟨9,[(0,.v cQ),(1,.v cQ),(30,.v cQ),(31,.v I),(32,.v I)],[1,1,0,1,0,0],[]⟩],none⟩
theorem ad1(K ρ):(jI N).bd K ρ 36=cH.akN N ((jI N).kc ρ 27):=κ
theorem ad2(ρ):(jI N).kc ((jI N).cq ρ) 36=cH.j18 N ((jI N).kc ρ 27):=Fx.uJ [47] (ad1 N) ρ
theorem ad3(K ρ):(jI N).bd K ρ 33=cH.wE N ((jI N).kc K 36) ((jI N).kc ρ 27) ((jI N).kc ρ 33):=κ
theorem ad4(ρ):(jI N).kc ((jI N).cq ρ) 33=cH.xH N ((jI N).kc ρ 27) N:=Fx.uL [47,36] (ad3 N) ρ (cH.xH N ((jI N).kc ρ 27)) λn ρ' e d=>by rw[ad2,e,d 27 rfl];rfl
theorem ad5(K ρ):(jI N).bd K ρ 55=cH.acF N ((jI N).kc ρ 47) ((jI N).kc ρ 55):=κ
theorem ad6(ρ):(jI N).kc ((jI N).cq ρ) 55=cH.l27 N ((jI N).kc ρ 47) N:=Fx.uL [] (ad5 N) ρ (cH.l27 N ((jI N).kc ρ 47)) λn ρ' e d=>by rw[e,d 47 rfl];rfl
theorem ad7(K ρ):(jI N).bd K ρ 47=cH.acH N ((jI N).kc K 55) ((jI N).kc ρ 47):=κ
theorem ad8(ρ):(jI N).kc ((jI N).cq ρ) 47=cH.l23 N N:=Fx.uL [55] (ad7 N) ρ (cH.l23 N) λn ρ' e d=>by rw[ad6,e];rfl
theorem ad9(K ρ):(jI N).bd K ρ 27=cH.lz N ((jI N).kc K 33) ((jI N).kc K 47) ((jI N).kc ρ 27):=κ
theorem aea(ρ):(jI N).kc ((jI N).cq ρ) 27=cH.mw N N:=Fx.uL [47,33,36] (ad9 N) ρ (cH.mw N) λn ρ' e d=>by rw[ad4,ad8,e];rfl
theorem alH(K ρ):(jI N).bd K ρ 9=cH.dQ N ((jI N).kc K 27) ((jI N).kc ρ 9):=κ
theorem alI(ρ):(jI N).kc ((jI N).cq ρ) 9=cH.l4 N N:=Fx.uL [27,47] (alH N) ρ (cH.l4 N) λn ρ' e d=>by rw[aea,e];rfl
theorem awF(K):(jI N).top K=cH.b N ((jI N).kc K 9):=κ
def arJ:Kn prog:=⟨115,(jI N).S false (cH N),Fx.u1 (jI N) aC func115 [9,27,47] (awF N) (by rw[alI];rfl)⟩
def arK:Fx:=⟨9,tab,[],N,f165,[.v cQ],[.v cQ],[],none⟩
def awG:Kn prog:=⟨165,(arK N).S false (akP N),Fx.u0 (arK N) aC func165⟩
def jJ:Fx:=⟨185,tab,Kn.l [k31 N,k83 N,k87 N,k32 N,IT N,k84 N,aa8 N,k86 N,arH N,awG N],N,f116,[.v cQ,.v jl],[.v cQ,.v I],[⟨42,[(1,.v jl),(11,.own jZ),(13,.obj sQ),(14,.v I),(68,.v jl),(69,.v I),(70,.v I)],[1,1,1,1,1,1,0,1,0,0,1,1,0,0,1,1,1],[33]⟩,⟨39,[(1,.v jl),(11,.own jZ),(13,.obj sQ),(14,.v I),(68,.v jl),(69,.v I),(70,.v I)],[1,1,1,1,1,1,0,1,0,0,1,1,0,0,1,1,0,0,0],[33]⟩,⟨61,[(1,.v jl),(15,.own jZ),(17,.obj jZ),(18,.own eP),(121,.own jZ),(122,.v I),(123,.v I),(131,.v jl),(132,.v I),(133,.v I)],[1,1,1,1,1,1,1,1,0,1,0,0,1,1,0,0,1,1,0,1,0,0],[53]⟩,⟨53,[(1,.v jl),(15,.own jZ),(121,.own jZ),(122,.v I),(123,.v I)],[1,1,1,1,1,1,1,1,0,1,0,0],[]⟩,⟨33,[(1,.v jl),(11,.own jZ),(68,.v jl),(69,.v I),(70,.v I)],[1,1,1,1,1,1,0,1,0,0],[]⟩,⟨11,[(0,.v cQ),(1,.v jl),(6,.own eP),(36,.v jl),(37,.v I),(38,.v I)],[1,1,1,0,1,0,0],[]⟩],none⟩
theorem aeb(K ρ):(jJ N).bd K ρ 42=cI.akQ N ((jJ N).kc ρ 33):=κ
theorem aec(ρ):(jJ N).kc ((jJ N).cq ρ) 42=cI.j21 N ((jJ N).kc ρ 33):=Fx.uJ [53] (aeb N) ρ
theorem aed(K ρ):(jJ N).bd K ρ 39=cI.Sm N ((jJ N).kc K 42) ((jJ N).kc ρ 33) ((jJ N).kc ρ 39):=κ
theorem aee(ρ):(jJ N).kc ((jJ N).cq ρ) 39=cI.Wb N ((jJ N).kc ρ 33) N:=Fx.uL [53,42] (aed N) ρ (cI.Wb N ((jJ N).kc ρ 33)) λn ρ' e d=>by rw[aec,e,d 33 rfl];rfl
theorem aef(K ρ):(jJ N).bd K ρ 61=cI.Mj N ((jJ N).kc ρ 53) ((jJ N).kc ρ 61):=κ
theorem aeg(ρ):(jJ N).kc ((jJ N).cq ρ) 61=cI.O4 N ((jJ N).kc ρ 53) N:=Fx.uL [] (aef N) ρ (cI.O4 N ((jJ N).kc ρ 53)) λn ρ' e d=>by rw[e,d 53 rfl];rfl
theorem aeh(K ρ):(jJ N).bd K ρ 53=cI.acL N ((jJ N).kc K 61) ((jJ N).kc ρ 53):=κ
theorem aei(ρ):(jJ N).kc ((jJ N).cq ρ) 53=cI.l26 N N:=Fx.uL [61] (aeh N) ρ (cI.l26 N) λn ρ' e d=>by rw[aeg,e];rfl
theorem aej(K ρ):(jJ N).bd K ρ 33=cI.wE N ((jJ N).kc K 39) ((jJ N).kc K 53) ((jJ N).kc ρ 33):=κ
theorem aek(ρ):(jJ N).kc ((jJ N).cq ρ) 33=cI.xH N N:=Fx.uL [53,39,42] (aej N) ρ (cI.xH N) λn ρ' e d=>by rw[aee,aei,e];rfl
theorem ael(K ρ):(jJ N).bd K ρ 11=cI.eo N ((jJ N).kc K 33) ((jJ N).kc ρ 11):=κ
theorem aem(ρ):(jJ N).kc ((jJ N).cq ρ) 11=cI.l5 N N:=Fx.uL [33,53] (ael N) ρ (cI.l5 N) λn ρ' e d=>by rw[aek,e];rfl
theorem awH(K):(jJ N).top K=cI.b N ((jJ N).kc K 11):=κ
def arL:Kn prog:=⟨116,(jJ N).S false (cI N),Fx.u1 (jJ N) aC func116 [11,33,53] (awH N) (by rw[aem];rfl)⟩
def X61:Fx:=⟨37,tab,Kn.l [k70 N,arJ N,arL N],N,f61,[.v aK,.v cQ,.v jl],[.v aK,.v I],[],none⟩
def k61:Kn prog:=⟨61,(X61 N).S false (F61 N),Fx.u0 (X61 N) aC func61⟩
def Xg:Fx:=⟨113,tab,Kn.l [k9 N,k57 N,k36 N,k60 N,k61 N],N,f13,[.v aA,.v aK,.v yj],[.v aK,.v I],[⟨25,[(4,.obj aK),(6,.obj aK),(10,.own jZ),(11,.own sQ),(68,.v yj),(69,.v I),(70,.v I)],[1,1,1,1,1,0,1,0,0],[]⟩,⟨9,[(2,.v yj),(3,.obj aA),(4,.obj aK),(6,.obj aK),(30,.v yj),(31,.v I),(32,.v I)],[1,1,0,1,0,0],[]⟩],none⟩
theorem alJ(K ρ):(Xg N).bd K ρ 25=tE.nD N ((Xg N).kc ρ 25):=κ
theorem alK(ρ):(Xg N).kc ((Xg N).cq ρ) 25=tE.oH N N:=Fx.uL [] (alJ N) ρ (tE.oH N) λn ρ' e d=>by rw[e];rfl
theorem arM(K ρ):(Xg N).bd K ρ 9=tE.dQ N ((Xg N).kc K 25) ((Xg N).kc ρ 9):=κ
theorem arN(ρ):(Xg N).kc ((Xg N).cq ρ) 9=tE.l4 N N:=Fx.uL [25] (arM N) ρ (tE.l4 N) λn ρ' e d=>by rw[alK,e];rfl
theorem h13(K):(Xg N).top K=tE.b N ((Xg N).kc K 9):=κ
def k13:Kn prog:=⟨13,(Xg N).S false (tE N),Fx.u1 (Xg N) aC func13 [9,25] (h13 N) (by rw[arN];rfl)⟩
def X66:Fx:=⟨55,tab,Kn.l [k89 N,k40 N,arD N,arF N],N,f66,[.v cQ,.v I,.v I,.v I],[.own sQ,.v I],[⟨11,[(1,.v I),(2,.v I),(3,.v I),(10,.own sQ),(26,.v cQ),(27,.v I),(28,.v I)],[1,1,1,0,1,0,0],[]⟩],none⟩
theorem alL(K ρ):(X66 N).bd K ρ 11=Ev.eo N ((X66 N).kc ρ 11):=κ
theorem alM(ρ):(X66 N).kc ((X66 N).cq ρ) 11=Ev.l5 N N:=Fx.uL [] (alL N) ρ (Ev.l5 N) λn ρ' e d=>by rw[e];rfl
theorem h66(K):(X66 N).top K=Ev.b N ((X66 N).kc K 11):=κ
def k66:Kn prog:=⟨66,(X66 N).S false (Ev N),Fx.u1 (X66 N) aC func66 [11] (h66 N) (by rw[alM];rfl)⟩
def arO:Fx:=⟨22,tab,Kn.l [QA N,QC N,IT N,IU N,QG N,IV N],N,f70,[.v aK],[.sp aK 4 I],[],some (aK,[.gG 4],I,[1,2,1000000])⟩
def awI:Kn prog:=⟨70,(arO N).S false (aqC N),Fx.u0 (arO N) aC func70⟩
def arP:Fx:=⟨37,tab,Kn.l [awI N,arJ N,arL N],N,f61,[.v aK,.v cQ,.v jl],[.sp aK 4 I,.v I],[],some (aK,[.gG 4],I,[3,6,8,1000000])⟩
def awJ:Kn prog:=⟨61,(arP N).S false (alf N),Fx.u0 (arP N) aC func61⟩
def X17:Fx:=⟨67,tab,Kn.l [k9 N,k40 N,k66 N,awJ N],N,f17,[.v aA,.v aK,.v I,.v I],[.v aK,.v jl,.v I],[],some (aK,[.gG 4],I,[5,13])⟩
def k17:Kn prog:=⟨17,(X17 N).S false (F17 N),Fx.u0 (X17 N) aC func17⟩
def X68:Fx:=⟨31,tab,Kn.l [k89 N],N,f68,[.v cQ,.v I],[.own kN],[⟨11,[(1,.v I),(5,.own kN),(11,.v cQ),(12,.v I),(13,.v I)],[1,1,1,0,1,0,0],[]⟩],none⟩
theorem alN(K ρ):(X68 N).bd K ρ 11=Ec.eo N ((X68 N).kc ρ 11):=κ
theorem alO(ρ):(X68 N).kc ((X68 N).cq ρ) 11=Ec.l5 N N:=Fx.uL [] (alN N) ρ (Ec.l5 N) λn ρ' e d=>by rw[e];rfl
theorem h68(K):(X68 N).top K=Ec.b N ((X68 N).kc K 11):=κ
def k68:Kn prog:=⟨68,(X68 N).S false (Ec N),Fx.u1 (X68 N) aC func68 [11] (h68 N) (by rw[alO];rfl)⟩
def RI:Fx:=⟨64,tab,Kn.l [k35 N],N,f69,[.v lG,.v I],[.own jZ],[⟨19,[(0,.v lG),(1,.v I),(5,.own jZ),(6,.v I),(7,.obj jZ),(13,.v I),(18,.v lG),(19,.v I),(20,.v I)],[1,1,1,0,1,0,0,1,1,0,0,1,1,0,1,0,0],[11]⟩,⟨11,[(0,.v lG),(1,.v I),(5,.own jZ),(13,.v I)],[1,1,1,0,1,0,0],[]⟩],none⟩
theorem alP(K ρ):(RI N).bd K ρ 19=rz.vz N ((RI N).kc ρ 11) ((RI N).kc ρ 19):=κ
theorem alQ(ρ):(RI N).kc ((RI N).cq ρ) 19=rz.l9 N ((RI N).kc ρ 11) N:=Fx.uL [] (alP N) ρ (rz.l9 N ((RI N).kc ρ 11)) λn ρ' e d=>by rw[e,d 11 rfl];rfl
theorem alR(K ρ):(RI N).bd K ρ 11=rz.eo N ((RI N).kc K 19) ((RI N).kc ρ 11):=κ
theorem alS(ρ):(RI N).kc ((RI N).cq ρ) 11=rz.l5 N N:=Fx.uL [19] (alR N) ρ (rz.l5 N) λn ρ' e d=>by rw[alQ,e];rfl
theorem h69(K):(RI N).top K=rz.b N ((RI N).kc K 11):=κ
def k69:Kn prog:=⟨69,(RI N).S false (rz N),Fx.u1 (RI N) aC func69 [11] (h69 N) (by rw[alS];rfl)⟩
def QL:Fx:=⟨54,tab,Kn.l [alA N,k29 N],N,f117,[.v aA,.v dE],[.v B],[⟨5,[(1,.v dE),(2,.obj aA),(7,.v dE),(8,.v I),(9,.v I)],[1,0,1,0,0],[]⟩],none⟩
theorem alT(K ρ):(QL N).bd K ρ 5=pU.fM N ((QL N).kc ρ 5):=κ
theorem alU(ρ):(QL N).kc ((QL N).cq ρ) 5=pU.l2 N N:=Fx.uL [] (alT N) ρ (pU.l2 N) λn ρ' e d=>by rw[e];rfl
theorem awK(K):(QL N).top K=pU.b N ((QL N).kc K 5):=κ
def arQ:Kn prog:=⟨117,(QL N).S true (pU N),Fx.u1 (QL N) aC func117 [5] (awK N) (by rw[alU];rfl)⟩
def QM:Fx:=⟨73,tab,Kn.l [k29 N],N,f118,[.v aA,.v cQ],[.v B],[⟨5,[(1,.v cQ),(2,.obj aA),(7,.v cQ),(8,.v I),(9,.v I)],[1,0,1,0,0],[]⟩],none⟩
theorem alV(K ρ):(QM N).bd K ρ 5=p4.fM N ((QM N).kc ρ 5):=κ
theorem alW(ρ):(QM N).kc ((QM N).cq ρ) 5=p4.l2 N N:=Fx.uL [] (alV N) ρ (p4.l2 N) λn ρ' e d=>by rw[e];rfl
theorem awL(K):(QM N).top K=p4.b N ((QM N).kc K 5):=κ
def arR:Kn prog:=⟨118,(QM N).S true (p4 N),Fx.u1 (QM N) aC func118 [5] (awL N) (by rw[alW];rfl)⟩
def arS:Fx:=⟨52,tab,Kn.l [Te N],N,f166,[.v eP,.v eP],[.v eP,.v B],[],none⟩
def awM:Kn prog:=⟨166,(arS N).S true (Zq N),Fx.u0 (arS N) aC func166⟩
def arT:Fx:=⟨52,tab,Kn.l [Tf N],N,f167,[.v eP,.v eP],[.v eP,.v B],[],none⟩
def arU:Kn prog:=⟨167,(arT N).S true (SE N),Fx.u0 (arT N) aC func167⟩
def arV:Fx:=⟨9,tab,Kn.l [arU N],N,f203,[.v eP],[.v eP,.v B],[],none⟩
def awN:Kn prog:=⟨203,(arV N).S true (acX N),Fx.u0 (arV N) aC func203⟩
def arW:Fx:=⟨12,tab,Kn.l [awN N],N,f168,[.v eP],[.v eP,.v B],[],none⟩
def awO:Kn prog:=⟨168,(arW N).S true (SF N),Fx.u0 (arW N) aC func168⟩
def Ds:Fx:=⟨104,tab,Kn.l [arQ N,arR N,k86 N,awM N,arU N,awO N,k85 N],N,f119,[.v aA,.v dE,.v cQ,.v I],[.v eP,.v I],[⟨27,[(3,.v I),(8,.obj eP),(10,.v I),(11,.v I),(12,.v I),(57,.v cQ),(58,.v I),(59,.v I)],[1,1,1,1,0,1,0,0],[]⟩,⟨15,[(2,.v cQ),(3,.v I),(8,.obj eP),(10,.v I),(11,.v I),(12,.v I),(44,.v dE),(45,.v I),(46,.v I)],[1,1,1,0,1,0,0],[]⟩],none⟩
theorem aen(K ρ):(Ds N).bd K ρ 27=iV.lz N ((Ds N).kc ρ 27):=κ
theorem aeo(ρ):(Ds N).kc ((Ds N).cq ρ) 27=iV.mw N N:=Fx.uL [] (aen N) ρ (iV.mw N) λn ρ' e d=>by rw[e];rfl
theorem aep(K ρ):(Ds N).bd K ρ 15=iV.oJ N ((Ds N).kc K 27) ((Ds N).kc ρ 15):=κ
theorem aeq(ρ):(Ds N).kc ((Ds N).cq ρ) 15=iV.l7 N N:=Fx.uL [27] (aep N) ρ (iV.l7 N) λn ρ' e d=>by rw[aeo,e];rfl
theorem awP(K):(Ds N).top K=iV.b N ((Ds N).kc K 15):=κ
def awQ:Kn prog:=⟨119,(Ds N).S true (iV N),Fx.u1 (Ds N) aC func119 [15,27] (awP N) (by rw[aeq];rfl)⟩
def arX:Fx:=⟨32,tab,Kn.l [Tf N],N,f169,[.v eP],[.v U,.v U],[],none⟩
def awR:Kn prog:=⟨169,(arX N).S true (acr N),Fx.u0 (arX N) aC func169⟩
def arY:Fx:=⟨55,tab,Kn.l [awR N,ary N,arA N,Te N,arB N],N,f120,[.v eP,.v I],[.v eP,.v B],[],none⟩
def awS:Kn prog:=⟨120,(arY N).S true (acZ N),Fx.u0 (arY N) aC func120⟩
def X67:Fx:=⟨62,tab,Kn.l [arQ N,arR N,awQ N,awS N,k87 N],N,f67,[.v aA,.v dE,.v cQ],[.v eP,.v I],[⟨11,[(1,.v dE),(2,.v cQ),(3,.obj aA),(6,.obj eP),(8,.own eP),(29,.v fx),(30,.v I),(31,.v I)],[1,1,1,0,1,0,0],[]⟩],none⟩
theorem alX(K ρ):(X67 N).bd K ρ 11=H8.eo N ((X67 N).kc ρ 11):=κ
theorem alY(ρ):(X67 N).kc ((X67 N).cq ρ) 11=H8.l5 N N:=Fx.uL [] (alX N) ρ (H8.l5 N) λn ρ' e d=>by rw[e];rfl
theorem h67(K):(X67 N).top K=H8.b N ((X67 N).kc K 11):=κ
def k67:Kn prog:=⟨67,(X67 N).S true (H8 N),Fx.u1 (X67 N) aC func67 [11] (h67 N) (by rw[alY];rfl)⟩
def X18:Fx:=⟨32,tab,Kn.l [k9 N,k36 N,k68 N,k69 N,k67 N],N,f18,[.v aA,.v aK,.v I],[.v eP,.v I],[],none⟩
def k18:Kn prog:=⟨18,(X18 N).S true (F18 N),Fx.u0 (X18 N) aC func18⟩
def X72:Fx:=⟨28,tab,Kn.l [k82 N],N,f72,[.v fx,.v I],[.own I],[⟨11,[(1,.v I),(5,.own I),(11,.v fx),(12,.v I),(13,.v I)],[1,1,1,0,1,0,0],[]⟩],none⟩
theorem alZ(K ρ):(X72 N).bd K ρ 11=Ex.eo N ((X72 N).kc ρ 11):=κ
theorem al0(ρ):(X72 N).kc ((X72 N).cq ρ) 11=Ex.l5 N N:=Fx.uL [] (alZ N) ρ (Ex.l5 N) λn ρ' e d=>by rw[e];rfl
theorem h72(K):(X72 N).top K=Ex.b N ((X72 N).kc K 11):=κ
def k72:Kn prog:=⟨72,(X72 N).S false (Ex N),Fx.u1 (X72 N) aC func72 [11] (h72 N) (by rw[al0];rfl)⟩
def QN:Fx:=⟨19,tab,[],N,f171,[.v LI,.v I],[.v I],[⟨5,[(0,.v LI),(1,.v I),(7,.v I),(8,.v I)],[1,0,1,0,0],[]⟩],none⟩
theorem al1(K ρ):(QN N).bd K ρ 5=sO.fM N ((QN N).kc ρ 5):=κ
theorem al2(ρ):(QN N).kc ((QN N).cq ρ) 5=sO.l2 N N:=Fx.uL [] (al1 N) ρ (sO.l2 N) λn ρ' e d=>by rw[e];rfl
theorem awT(K):(QN N).top K=sO.b N ((QN N).kc K 5):=κ
def awU:Kn prog:=⟨171,(QN N).S true (sO N),Fx.u1 (QN N) aC func171 [5] (awT N) (by rw[al2];rfl)⟩
def arZ:Fx:=⟨9,tab,Kn.l [awU N],N,f129,[.v LI,.v I],[.v B],[],none⟩
def awV:Kn prog:=⟨129,(arZ N).S true (adF N),Fx.u0 (arZ N) aC func129⟩
def ar0:Fx:=⟨8,tab,Kn.l [awV N],N,f128,[.v nh,.jd LI],[.v B],[],none⟩
def ar1:Kn prog:=⟨128,(ar0 N).S true (aaq N),Fx.u0 (ar0 N) aC func128⟩
def QO:Fx:=⟨19,tab,Kn.l [ar1 N],N,f170,[.v lG,.fn 128 (.pair (.pair LI .unit) .unit)],[.v I],[⟨5,[(0,.v lG),(1,.fn 128 (.pair (.pair LI .unit) .unit)),(7,.v I),(8,.v I)],[1,0,1,0,0],[]⟩],none⟩
theorem al3(K ρ):(QO N).bd K ρ 5=qy.fM N ((QO N).kc ρ 5):=κ
theorem al4(ρ):(QO N).kc ((QO N).cq ρ) 5=qy.l2 N N:=Fx.uL [] (al3 N) ρ (qy.l2 N) λn ρ' e d=>by rw[e];rfl
theorem awW(K):(QO N).top K=qy.b N ((QO N).kc K 5):=κ
def awX:Kn prog:=⟨170,(QO N).S true (qy N),Fx.u1 (QO N) aC func170 [5] (awW N) (by rw[al4];rfl)⟩
def QP:Fx:=⟨42,tab,Kn.l [awX N,ar1 N],N,f127,[.own nh,.fn 128 (.pair (.pair LI .unit) .unit)],[.v lG],[⟨11,[(0,.own nh),(1,.fn 128 (.pair (.pair LI .unit) .unit)),(5,.v I),(6,.v I)],[1,1,1,0,1,0,0],[]⟩],some (.unit,[],.unit,[1000001])⟩
theorem aer(K ρ):(QP N).bd K ρ 11=sP.eo N ((QP N).kc ρ 11):=κ
theorem aes(ρ):(QP N).kc ((QP N).cq ρ) 11=sP.l5 N N:=Fx.uL [] (aer N) ρ (sP.l5 N) λn ρ' e d=>by rw[e];rfl
theorem awY(K):(QP N).top K=sP.b N ((QP N).kc K 11):=κ
def awZ:Kn prog:=⟨127,(QP N).S false (sP N),Fx.u1 (QP N) aC func127 [11] (awY N) (by rw[aes];rfl)⟩
def X71:Fx:=⟨12,tab,Kn.l [k35 N,IV N,awZ N],N,f71,[.v lG,.v LI],[.v lG],[],none⟩
def k71:Kn prog:=⟨71,(X71 N).S false (F71 N),Fx.u0 (X71 N) aC func71⟩
def X19:Fx:=⟨33,tab,Kn.l [k9 N,k37 N,k70 N,k72 N,k71 N],N,f19,[.v aA,.v aK,.v I],[.v aK,.v I],[],none⟩
def k19:Kn prog:=⟨19,(X19 N).S false (F19 N),Fx.u0 (X19 N) aC func19⟩
def X20:Fx:=⟨26,tab,[],N,f20,[.v cQ,.v cQ],[.v B],[⟨9,[(0,.v cQ),(1,.v cQ),(5,.v I)],[1,1,0,1,0,0],[]⟩],none⟩
theorem ar2(K ρ):(X20 N).bd K ρ 9=CY.dQ N ((X20 N).kc ρ 9):=κ
theorem ar3(ρ):(X20 N).kc ((X20 N).cq ρ) 9=CY.l4 N N:=Fx.uL [] (ar2 N) ρ (CY.l4 N) λn ρ' e d=>by rw[e];rfl
theorem h20(K):(X20 N).top K=CY.b N ((X20 N).kc K 9):=κ
def k20:Kn prog:=⟨20,(X20 N).S true (CY N),Fx.u1 (X20 N) aC func20 [9] (h20 N) (by rw[ar3];rfl)⟩
def X21:Fx:=⟨26,tab,[],N,f21,[.v LI,.v LI],[.v B],[⟨9,[(0,.v LI),(1,.v LI),(5,.v I)],[1,1,0,1,0,0],[]⟩],none⟩
theorem ar4(K ρ):(X21 N).bd K ρ 9=CZ.dQ N ((X21 N).kc ρ 9):=κ
theorem ar5(ρ):(X21 N).kc ((X21 N).cq ρ) 9=CZ.l4 N N:=Fx.uL [] (ar4 N) ρ (CZ.l4 N) λn ρ' e d=>by rw[e];rfl
theorem h21(K):(X21 N).top K=CZ.b N ((X21 N).kc K 9):=κ
def k21:Kn prog:=⟨21,(X21 N).S true (CZ N),Fx.u1 (X21 N) aC func21 [9] (h21 N) (by rw[ar5];rfl)⟩
def X73:Fx:=⟨78,tab,[],N,f73,[.v cQ],[.v B],[⟨5,[(0,.v cQ),(3,.v I)],[1,0,1,0,0],[]⟩],none⟩
theorem ar6(K ρ):(X73 N).bd K ρ 5=Af.fM N ((X73 N).kc ρ 5):=κ
theorem ar7(ρ):(X73 N).kc ((X73 N).cq ρ) 5=Af.l2 N N:=Fx.uL [] (ar6 N) ρ (Af.l2 N) λn ρ' e d=>by rw[e];rfl
theorem h73(K):(X73 N).top K=Af.b N ((X73 N).kc K 5):=κ
def k73:Kn prog:=⟨73,(X73 N).S true (Af N),Fx.u1 (X73 N) aC func73 [5] (h73 N) (by rw[ar7];rfl)⟩
def X22:Fx:=⟨38,tab,Kn.l [k73 N],N,f22,[.v cQ,.v I,.v I],[.v I],[⟨9,[(0,.v cQ),(1,.v I),(2,.v I),(7,.v I)],[1,1,0,1,0,0],[]⟩],none⟩
theorem ar8(K ρ):(X22 N).bd K ρ 9=Cj.dQ N ((X22 N).kc ρ 9):=κ
theorem ar9(ρ):(X22 N).kc ((X22 N).cq ρ) 9=Cj.l4 N N:=Fx.uL [] (ar8 N) ρ (Cj.l4 N) λn ρ' e d=>by rw[e];rfl
theorem h22(K):(X22 N).top K=Cj.b N ((X22 N).kc K 9):=κ
def k22:Kn prog:=⟨22,(X22 N).S true (Cj N),Fx.u1 (X22 N) aC func22 [9] (h22 N) (by rw[ar9];rfl)⟩
def X97:Fx:=⟨30,tab,[],N,f97,[.v I,.v I],[.v B],[],none⟩
def k97:Kn prog:=⟨97,(X97 N).S true (F97 N),Fx.u0 (X97 N) aC func97⟩
def X43:Fx:=⟨74,tab,Kn.l [k97 N],N,f43,[.v cQ],[.v B],[⟨5,[(0,.v cQ),(3,.v I)],[1,0,1,0,0],[]⟩],none⟩
theorem asa(K ρ):(X43 N).bd K ρ 5=CJ.fM N ((X43 N).kc ρ 5):=κ
theorem asb(ρ):(X43 N).kc ((X43 N).cq ρ) 5=CJ.l2 N N:=Fx.uL [] (asa N) ρ (CJ.l2 N) λn ρ' e d=>by rw[e];rfl
theorem h43(K):(X43 N).top K=CJ.b N ((X43 N).kc K 5):=κ
def k43:Kn prog:=⟨43,(X43 N).S true (CJ N),Fx.u1 (X43 N) aC func43 [5] (h43 N) (by rw[asb];rfl)⟩
def X23:Fx:=⟨38,tab,Kn.l [k43 N],N,f23,[.v cQ,.v I,.v I],[.v I],[⟨9,[(0,.v cQ),(1,.v I),(2,.v I),(7,.v I)],[1,1,0,1,0,0],[]⟩],none⟩
theorem asc(K ρ):(X23 N).bd K ρ 9=uY.dQ N ((X23 N).kc ρ 9):=κ
theorem asd(ρ):(X23 N).kc ((X23 N).cq ρ) 9=uY.l4 N N:=Fx.uL [] (asc N) ρ (uY.l4 N) λn ρ' e d=>by rw[e];rfl
theorem h23(K):(X23 N).top K=uY.b N ((X23 N).kc K 9):=κ
def k23:Kn prog:=⟨23,(X23 N).S true (uY N),Fx.u1 (X23 N) aC func23 [9] (h23 N) (by rw[asd];rfl)⟩
def X5:Fx:=⟨145,tab,Kn.l [k15 N,k16 N,k13 N,k17 N,k18 N,k19 N,k20 N,k21 N,k22 N,k23 N,k9 N],N,f5,[],[.v B],[],none⟩
theorem aEL:tp prog (X5 N).E:=Fx.OE (X5 N) aC (Kn.all _) κ
theorem aEM: ∀x,NT (X5 N).E (X5 N).fn (X5 N).args (X5 N).res x=Jz (X5 N).args (F5 N) x:=Fx.akx κ
def k5:Kn prog:=⟨5,(X5 N).S true (F5 N),Fx.u0 (X5 N) aC func5⟩
def X6:Fx:=⟨6,tab,[],N,f6,[.v LU],[.ptr dF],[],none⟩
def k6:Kn prog:=⟨6,(X6 N).S false (F6 N),Fx.u0 (X6 N) aC func6⟩
def X74:Fx:=⟨32,tab,[],N,f74,[.io dF],[.v U,.io dF],[],none⟩
def k74:Kn prog:=⟨74,(X74 N).S false (F74 N),Fx.u0 (X74 N) aC func74⟩
def X24:Fx:=⟨11,tab,Kn.l [k74 N],N,f24,[.io dF,.v I],[.v I,.io dF],[],none⟩
def Xv:Kn prog:=⟨24,(X24 N).S false (oR N),Fx.u0 (X24 N) aC func24⟩
def X25:Fx:=⟨11,tab,Kn.l [Xv N],N,f25,[.io dF,.v I],[.v B,.io dF],[],none⟩
def k25:Kn prog:=⟨25,(X25 N).S false (PJ N),Fx.u0 (X25 N) aC func25⟩
def X26:Fx:=⟨29,tab,Kn.l [k74 N],N,f26,[.io dF],[.v I,.io dF],[],none⟩
def k26:Kn prog:=⟨26,(X26 N).S false (K2 N),Fx.u0 (X26 N) aC func26⟩
def X7:Fx:=⟨71,tab,Kn.l [Xv N,k25 N,k26 N],N,f7,[.io dF],[.v aA,.io dF],[⟨16,[(0,.io dF),(2,.obj aA),(3,.gg aA [.gG 0] fc),(4,.v I),(5,.obj fc)],[1,1,0,1,0,0,1,0,0,1,1],[7]⟩,⟨7,[(0,.io dF),(2,.obj aA),(3,.gg aA [.gG 0] fc),(4,.v I)],[1,1,0,1,0,0],[]⟩],some (aA,[.gG 0],fc,[3])⟩
theorem asf(K ρ):(X7 N).bd K ρ 16=F7.Zd N ((X7 N).kc ρ 7):=κ
theorem asg(ρ):(X7 N).kc ((X7 N).cq ρ) 16=F7.j8 N ((X7 N).kc ρ 7):=Fx.uJ [] (asf N) ρ
theorem aw3(K ρ):(X7 N).bd K ρ 7=F7.nr N ((X7 N).kc K 16) ((X7 N).kc ρ 7):=κ
theorem aw4(ρ):(X7 N).kc ((X7 N).cq ρ) 7=F7.l3 N N:=Fx.uL [16] (aw3 N) ρ (F7.l3 N) λn ρ' e d=>by rw[asg,e];rfl
theorem h7(K):(X7 N).top K=F7.b N ((X7 N).kc K 7):=κ
def k7:Kn prog:=⟨7,(X7 N).S false (F7 N),Fx.u1 (X7 N) aC func7 [7] (h7 N) (by rw[aw4];rfl)⟩
def ash:Fx:=⟨30,tab,Kn.l [Xv N,k25 N,k26 N],N,f133,[.io dF,.v aA,.v I],[.v me,.io dF],[],none⟩
def al5:Kn prog:=⟨133,(ash N).S false (Wv N),Fx.u0 (ash N) aC func133⟩
def asi:Fx:=⟨48,tab,Kn.l [Xv N,k25 N,k26 N],N,f134,[.io dF,.v aA],[.v me,.io dF],[],none⟩
def asj:Kn prog:=⟨134,(asi N).S false (ZP N),Fx.u0 (asi N) aC func134⟩
def X77:Fx:=⟨133,tab,Kn.l [Xv N,k26 N,al5 N,asj N],N,f77,[.io dF,.v aA],[.v me,.io dF],[],none⟩
def k77:Kn prog:=⟨77,(X77 N).S false (F77 N),Fx.u0 (X77 N) aC func77⟩
def wK:Fx:=⟨62,tab,Kn.l [k25 N,Xv N],N,f135,[.io dF,.v aA],[.own me,.io dF],[⟨27,[(0,.io dF),(5,.own me),(8,.v I)],[1,1,1,1,0,1,0,0],[]⟩,⟨19,[(0,.io dF),(5,.own me),(7,.v I)],[1,1,1,0,1,0,0],[]⟩,⟨7,[(0,.io dF),(5,.own me),(6,.v I)],[1,1,0,1,0,0],[]⟩],none⟩
theorem aet(K ρ):(wK N).bd K ρ 27=gz.lz N ((wK N).kc ρ 27):=κ
theorem aeu(ρ):(wK N).kc ((wK N).cq ρ) 27=gz.mw N N:=Fx.uL [] (aet N) ρ (gz.mw N) λn ρ' e d=>by rw[e];rfl
theorem aev(K ρ):(wK N).bd K ρ 19=gz.vz N ((wK N).kc K 27) ((wK N).kc ρ 19):=κ
theorem aew(ρ):(wK N).kc ((wK N).cq ρ) 19=gz.l9 N N:=Fx.uL [27] (aev N) ρ (gz.l9 N) λn ρ' e d=>by rw[aeu,e];rfl
theorem al6(K ρ):(wK N).bd K ρ 7=gz.nr N ((wK N).kc K 19) ((wK N).kc ρ 7):=κ
theorem al7(ρ):(wK N).kc ((wK N).cq ρ) 7=gz.l3 N N:=Fx.uL [19,27] (al6 N) ρ (gz.l3 N) λn ρ' e d=>by rw[aew,e];rfl
theorem aw6(K):(wK N).top K=gz.b N ((wK N).kc K 7):=κ
def aw7:Kn prog:=⟨135,(wK N).S false (gz N),Fx.u1 (wK N) aC func135 [7,19,27] (aw6 N) (by rw[al7];rfl)⟩
def X78:Fx:=⟨50,tab,Kn.l [aw7 N,Xv N,k77 N,al5 N,asj N],N,f78,[.io dF,.v aA,.v I],[.own me,.io dF],[⟨7,[(0,.io dF),(4,.obj aA),(7,.own me),(8,.v I)],[1,1,0,1,0,0],[]⟩],none⟩
theorem asl(K ρ):(X78 N).bd K ρ 7=E4.nr N ((X78 N).kc ρ 7):=κ
theorem asm(ρ):(X78 N).kc ((X78 N).cq ρ) 7=E4.l3 N N:=Fx.uL [] (asl N) ρ (E4.l3 N) λn ρ' e d=>by rw[e];rfl
theorem h78(K):(X78 N).top K=E4.b N ((X78 N).kc K 7):=κ
def k78:Kn prog:=⟨78,(X78 N).S false (E4 N),Fx.u1 (X78 N) aC func78 [7] (h78 N) (by rw[asm];rfl)⟩
def X93:Fx:=⟨15,tab,[],N,f93,[.v I,.v I,.v I],[.v B],[],none⟩
def k93:Kn prog:=⟨93,(X93 N).S true (F93 N),Fx.u0 (X93 N) aC func93⟩
def X41:Fx:=⟨77,tab,Kn.l [k93 N],N,f41,[.v aA],[.v B],[⟨9,[(1,.obj aA),(3,.v I)],[1,1,0,1,0,0],[]⟩],none⟩
theorem asn(K ρ):(X41 N).bd K ρ 9=zP.dQ N ((X41 N).kc ρ 9):=κ
theorem aso(ρ):(X41 N).kc ((X41 N).cq ρ) 9=zP.l4 N N:=Fx.uL [] (asn N) ρ (zP.l4 N) λn ρ' e d=>by rw[e];rfl
theorem h41(K):(X41 N).top K=zP.b N ((X41 N).kc K 9):=κ
def k41:Kn prog:=⟨41,(X41 N).S true (zP N),Fx.u1 (X41 N) aC func41 [9] (h41 N) (by rw[aso];rfl)⟩
def Fc:Fx:=⟨41,tab,Kn.l [k41 N],N,f130,[.v aA],[.v aK,.v I],[⟨15,[(1,.obj aA),(2,.obj aK),(4,.gg aK [.gG 4] I),(5,.v I)],[1,1,1,1,0,1,0,0],[]⟩,⟨12,[(1,.obj aA),(2,.obj aK),(4,.gg aK [.gG 4] I)],[1,1,1,1],[]⟩],some (aK,[.gG 4],I,[4])⟩
theorem aex(K ρ):(Fc N).bd K ρ 15=iX.oJ N ((Fc N).kc ρ 15):=κ
theorem aey(ρ):(Fc N).kc ((Fc N).cq ρ) 15=iX.l7 N N:=Fx.uL [] (aex N) ρ (iX.l7 N) λn ρ' e d=>by rw[e];rfl
theorem aez(K ρ):(Fc N).bd K ρ 12=iX.OL N ((Fc N).kc K 15):=κ
theorem aeA(ρ):(Fc N).kc ((Fc N).cq ρ) 12=iX.j6 N:=Fx.uJ [15] (aez N) ρ (by rw[aey];rfl)
theorem aw8(K):(Fc N).top K=iX.b N ((Fc N).kc K 12):=κ
def aw9:Kn prog:=⟨130,(Fc N).S false (iX N),Fx.u1 (Fc N) aC func130 [12,15] (aw8 N) (by rw[aeA];rfl)⟩
def X75:Fx:=⟨17,tab,Kn.l [aw9 N],N,f75,[.v aA],[.v dL,.v I],[],none⟩
def k75:Kn prog:=⟨75,(X75 N).S false (F75 N),Fx.u0 (X75 N) aC func75⟩
def QQ:Fx:=⟨33,tab,Kn.l [Xv N,k25 N,al5 N,k77 N],N,f136,[.io dF,.v aA],[.own me,.io dF],[⟨7,[(0,.io dF),(3,.obj aA),(5,.own me),(6,.v I)],[1,1,0,1,0,0],[]⟩],none⟩
theorem al9(K ρ):(QQ N).bd K ρ 7=ow.nr N ((QQ N).kc ρ 7):=κ
theorem ama(ρ):(QQ N).kc ((QQ N).cq ρ) 7=ow.l3 N N:=Fx.uL [] (al9 N) ρ (ow.l3 N) λn ρ' e d=>by rw[e];rfl
theorem axa(K):(QQ N).top K=ow.b N ((QQ N).kc K 7):=κ
def asq:Kn prog:=⟨136,(QQ N).S false (ow N),Fx.u1 (QQ N) aC func136 [7] (axa N) (by rw[ama];rfl)⟩
def asr:Fx:=⟨9,tab,[],N,f172,[.v I],[.v B],[],none⟩
def axb:Kn prog:=⟨172,(asr N).S true (ak4 N),Fx.u0 (asr N) aC func172⟩
def ass:Fx:=⟨32,tab,[],N,f173,[.v I],[.v Z],[],none⟩
def axc:Kn prog:=⟨173,(ass N).S true (ada N),Fx.u0 (ass N) aC func173⟩
def ast:Fx:=⟨12,tab,[],N,f204,[.v I],[.v I,.v I],[],none⟩
def axd:Kn prog:=⟨204,(ast N).S true (ak2 N),Fx.u0 (ast N) aC func204⟩
def asu:Fx:=⟨6,tab,[],N,f205,[.v I],[.v I,.v I],[],none⟩
def axe:Kn prog:=⟨205,(asu N).S true (ak3 N),Fx.u0 (asu N) aC func205⟩
def asv:Fx:=⟨27,tab,Kn.l [axd N,axe N],N,f174,[.v I,.v (.int .u8)],[.v I,.v I],[],none⟩
def axf:Kn prog:=⟨174,(asv N).S true (adb N),Fx.u0 (asv N) aC func174⟩
def asw:Fx:=⟨32,tab,[],N,f175,[.v me,.v (.int .u8)],[.v I],[],none⟩
def axg:Kn prog:=⟨175,(asw N).S true (ade N),Fx.u0 (asw N) aC func175⟩
def asx:Fx:=⟨35,tab,[],N,f176,[.v me,.v (.int .u8),.v I],[.v me],[],none⟩
def axh:Kn prog:=⟨176,(asx N).S true (adf N),Fx.u0 (asx N) aC func176⟩
def QR:Fx:=⟨56,tab,Kn.l [axb N,axc N,axf N,axg N,axh N],N,f131,[.v me],[.v B],[⟨13,[(1,.obj me),(3,.v Z),(4,.obj me),(5,.v I)],[1,1,1,1,0,1,0,0],[]⟩],none⟩
theorem aeB(K ρ):(QR N).bd K ρ 13=sC.vu N ((QR N).kc ρ 13):=κ
theorem aeC(ρ):(QR N).kc ((QR N).cq ρ) 13=sC.l6 N N:=Fx.uL [] (aeB N) ρ (sC.l6 N) λn ρ' e d=>by rw[e];rfl
theorem axi(K):(QR N).top K=sC.b N ((QR N).kc K 13):=κ
def axj:Kn prog:=⟨131,(QR N).S true (sC N),Fx.u1 (QR N) aC func131 [13] (axi N) (by rw[aeC];rfl)⟩
def X94:Fx:=⟨58,tab,[],N,f94,[.v dE],[.v B],[⟨5,[(0,.v dE),(3,.v I)],[1,0,1,0,0],[]⟩],none⟩
theorem asy(K ρ):(X94 N).bd K ρ 5=Ci.fM N ((X94 N).kc ρ 5):=κ
theorem asz(ρ):(X94 N).kc ((X94 N).cq ρ) 5=Ci.l2 N N:=Fx.uL [] (asy N) ρ (Ci.l2 N) λn ρ' e d=>by rw[e];rfl
theorem h94(K):(X94 N).top K=Ci.b N ((X94 N).kc K 5):=κ
def k94:Kn prog:=⟨94,(X94 N).S true (Ci N),Fx.u1 (X94 N) aC func94 [5] (h94 N) (by rw[asz];rfl)⟩
def X96:Fx:=⟨24,tab,[],N,f96,[.v dE,.v I],[.v I],[⟨5,[(0,.v dE),(1,.v I),(5,.v I)],[1,0,1,0,0],[]⟩],none⟩
theorem asA(K ρ):(X96 N).bd K ρ 5=Ai.fM N ((X96 N).kc ρ 5):=κ
theorem asB(ρ):(X96 N).kc ((X96 N).cq ρ) 5=Ai.l2 N N:=Fx.uL [] (asA N) ρ (Ai.l2 N) λn ρ' e d=>by rw[e];rfl
theorem h96(K):(X96 N).top K=Ai.b N ((X96 N).kc K 5):=κ
def k96:Kn prog:=⟨96,(X96 N).S true (Ai N),Fx.u1 (X96 N) aC func96 [5] (h96 N) (by rw[asB];rfl)⟩
def Fe:Fx:=⟨53,tab,Kn.l [k94 N,k96 N],N,f177,[.v dE,.v I],[.own kN,.v I],[⟨18,[(0,.v dE),(1,.v I),(6,.own kN),(7,.v I)],[1,1,1,1,1,1],[]⟩,⟨15,[(0,.v dE),(1,.v I),(6,.own kN),(7,.v I)],[1,1,1,1,1,0,0,0],[]⟩],none⟩
theorem aeD(K ρ):(Fe N).bd K ρ 18=iW.JA N:=κ
theorem aeE(ρ):(Fe N).kc ((Fe N).cq ρ) 18=iW.j9 N:=Fx.uJ [] (aeD N) ρ
theorem aeF(K ρ):(Fe N).bd K ρ 15=iW.oJ N ((Fe N).kc K 18) ((Fe N).kc ρ 15):=κ
theorem aeG(ρ):(Fe N).kc ((Fe N).cq ρ) 15=iW.l7 N N:=Fx.uL [18] (aeF N) ρ (iW.l7 N) λn ρ' e d=>by rw[aeE,e];rfl
theorem axk(K):(Fe N).top K=iW.b N ((Fe N).kc K 15):=κ
def axl:Kn prog:=⟨177,(Fe N).S false (iW N),Fx.u1 (Fe N) aC func177 [15,18] (axk N) (by rw[aeG];rfl)⟩
def asC:Fx:=⟨5,tab,[],N,f178,[.v I],[.v jZ],[],none⟩
def aeH:Kn prog:=⟨178,(asC N).S true (gd N),Fx.u0 (asC N) aC func178⟩
def Jf:Fx:=⟨95,tab,[],N,f95,[.v fx],[.v B],[⟨17,[(0,.v fx),(3,.v I),(4,.obj fc),(5,.v I)],[1,0,1,0,0,1,0,0,1,1,1,0,0],[5]⟩,⟨14,[(0,.v fx),(3,.v I),(4,.obj fc)],[1,0,1,0,0,1,0,0,1,1],[5]⟩,⟨5,[(0,.v fx),(3,.v I)],[1,0,1,0,0],[]⟩],none⟩
theorem amb(K ρ):(Jf N).bd K ρ 17=mX.D4 N ((Jf N).kc ρ 5) ((Jf N).kc ρ 17):=κ
theorem amc(ρ):(Jf N).kc ((Jf N).cq ρ) 17=mX.l8 N ((Jf N).kc ρ 5) N:=Fx.uL [] (amb N) ρ (mX.l8 N ((Jf N).kc ρ 5)) λn ρ' e d=>by rw[e,d 5 rfl];rfl
theorem amd(K ρ):(Jf N).bd K ρ 14=mX.Xp N ((Jf N).kc K 17) ((Jf N).kc ρ 5):=κ
theorem ame(ρ):(Jf N).kc ((Jf N).cq ρ) 14=mX.j7 N ((Jf N).kc ρ 5):=Fx.uJ [17] (amd N) ρ (by rw[amc];rfl)
theorem asD(K ρ):(Jf N).bd K ρ 5=mX.fM N ((Jf N).kc K 14) ((Jf N).kc ρ 5):=κ
theorem asE(ρ):(Jf N).kc ((Jf N).cq ρ) 5=mX.l2 N N:=Fx.uL [14,17] (asD N) ρ (mX.l2 N) λn ρ' e d=>by rw[ame,e];rfl
theorem h95(K):(Jf N).top K=mX.b N ((Jf N).kc K 5):=κ
def k95:Kn prog:=⟨95,(Jf N).S true (mX N),Fx.u1 (Jf N) aC func95 [5] (h95 N) (by rw[asE];rfl)⟩
def X42:Fx:=⟨28,tab,Kn.l [k94 N,k95 N,k96 N],N,f42,[.v dE,.v fx],[.v B],[⟨9,[(0,.v dE),(1,.v fx),(5,.v I)],[1,1,0,1,0,0],[]⟩],none⟩
theorem asF(K ρ):(X42 N).bd K ρ 9=CR.dQ N ((X42 N).kc ρ 9):=κ
theorem asG(ρ):(X42 N).kc ((X42 N).cq ρ) 9=CR.l4 N N:=Fx.uL [] (asF N) ρ (CR.l4 N) λn ρ' e d=>by rw[e];rfl
theorem h42(K):(X42 N).top K=CR.b N ((X42 N).kc K 9):=κ
def k42:Kn prog:=⟨42,(X42 N).S true (CR N),Fx.u1 (X42 N) aC func42 [9] (h42 N) (by rw[asG];rfl)⟩
def QS:Fx:=⟨25,tab,[],N,f147,[.v fx,.v I],[.v fc,.v B],[⟨5,[(0,.v fx),(1,.v I),(4,.obj fc),(6,.v I)],[1,0,1,0,0],[]⟩],none⟩
theorem amf(K ρ):(QS N).bd K ρ 5=oK.fM N ((QS N).kc ρ 5):=κ
theorem amg(ρ):(QS N).kc ((QS N).cq ρ) 5=oK.l2 N N:=Fx.uL [] (amf N) ρ (oK.l2 N) λn ρ' e d=>by rw[e];rfl
theorem axn(K):(QS N).top K=oK.b N ((QS N).kc K 5):=κ
def aeI:Kn prog:=⟨147,(QS N).S true (oK N),Fx.u1 (QS N) aC func147 [5] (axn N) (by rw[amg];rfl)⟩
def QT:Fx:=⟨35,tab,Kn.l [k95 N],N,f206,[.v fx,.v I],[.v I],[⟨9,[(0,.v fx),(1,.v I),(5,.v I)],[1,1,0,1,0,0],[]⟩],none⟩
theorem amh(K ρ):(QT N).bd K ρ 9=m8.dQ N ((QT N).kc ρ 9):=κ
theorem ami(ρ):(QT N).kc ((QT N).cq ρ) 9=m8.l4 N N:=Fx.uL [] (amh N) ρ (m8.l4 N) λn ρ' e d=>by rw[e];rfl
theorem axo(K):(QT N).top K=m8.b N ((QT N).kc K 9):=κ
def aba:Kn prog:=⟨206,(QT N).S true (m8 N),Fx.u1 (QT N) aC func206 [9] (axo N) (by rw[ami];rfl)⟩
def zd:Fx:=⟨81,tab,Kn.l [k42 N,k95 N,k96 N,aeI N,aba N],N,f179,[.v dE,.v fx,.v fc],[.own fc,.v I],[⟨30,[(1,.v fx),(5,.obj fc),(11,.own fc),(12,.v I)],[1,1,1,1,1,1,1,1,1],[]⟩,⟨27,[(1,.v fx),(5,.obj fc),(11,.own fc),(12,.v I)],[1,1,1,1,1,1,1,1,0,0,0],[]⟩,⟨22,[(1,.v fx),(5,.obj fc)],[1,1,1,1,1,1],[]⟩],none⟩
theorem aeJ(K ρ):(zd N).bd K ρ 30=fT.wI N:=κ
theorem aeK(ρ):(zd N).kc ((zd N).cq ρ) 30=fT.Da N:=Fx.uJ [] (aeJ N) ρ
theorem aeL(K ρ):(zd N).bd K ρ 27=fT.lz N ((zd N).kc K 30) ((zd N).kc ρ 27):=κ
theorem aeM(ρ):(zd N).kc ((zd N).cq ρ) 27=fT.mw N N:=Fx.uL [30] (aeL N) ρ (fT.mw N) λn ρ' e d=>by rw[aeK,e];rfl
theorem aeN(K ρ):(zd N).bd K ρ 22=fT.xV N ((zd N).kc K 27):=κ
theorem aeO(ρ):(zd N).kc ((zd N).cq ρ) 22=fT.E5 N:=Fx.uJ [27,30] (aeN N) ρ (by rw[aeM];rfl)
theorem axp(K):(zd N).top K=fT.b N ((zd N).kc K 22):=κ
def axq:Kn prog:=⟨179,(zd N).S false (fT N),Fx.u1 (zd N) aC func179 [22,27,30] (axp N) (by rw[aeO];rfl)⟩
def asH:Fx:=⟨15,tab,Kn.l [k95 N,aeI N],N,f102,[.v fx,.v I],[.v fc,.v B],[],none⟩
def Tq:Kn prog:=⟨102,(asH N).S true (ET N),Fx.u0 (asH N) aC func102⟩
def asI:Fx:=⟨16,tab,Kn.l [Tq N],N,f180,[.v dL,.v I],[.v B],[],none⟩
def axr:Kn prog:=⟨180,(asI N).S true (SQ N),Fx.u0 (asI N) aC func180⟩
def QU:Fx:=⟨22,tab,[],N,f191,[.v LU],[.v LU],[⟨5,[(0,.v LU),(3,.v I)],[1,1,0,0,0],[]⟩],none⟩
theorem amj(K ρ):(QU N).bd K ρ 5=oY.fM N ((QU N).kc ρ 5):=κ
theorem amk(ρ):(QU N).kc ((QU N).cq ρ) 5=oY.l2 N N:=Fx.uL [] (amj N) ρ (oY.l2 N) λn ρ' e d=>by rw[e];rfl
theorem axs(K):(QU N).top K=oY.b N ((QU N).kc K 5):=κ
def aml:Kn prog:=⟨191,(QU N).S false (oY N),Fx.u1 (QU N) aC func191 [5] (axs N) (by rw[amk];rfl)⟩
def asJ:Fx:=⟨9,tab,Kn.l [aml N],N,f146,[.v U],[.v LU],[],none⟩
def axt:Kn prog:=⟨146,(asJ N).S false (YN N),Fx.u0 (asJ N) aC func146⟩
def asK:Fx:=⟨15,tab,Kn.l [aml N],N,f142,[.v B,.v LU],[.v dk],[],none⟩
def abb:Kn prog:=⟨142,(asK N).S false (He N),Fx.u0 (asK N) aC func142⟩
def asL:Fx:=⟨15,tab,Kn.l [axt N,abb N],N,f101,[.v I],[.v dk],[],none⟩
def nG:Kn prog:=⟨101,(asL N).S false (eI N),Fx.u0 (asL N) aC func101⟩
def asM:Fx:=⟨9,tab,Kn.l [abb N],N,f150,[.v dk],[.v dk],[],none⟩
def Ts:Kn prog:=⟨150,(asM N).S false (ES N),Fx.u0 (asM N) aC func150⟩
def asN:Fx:=⟨21,tab,Kn.l [Ts N],N,f207,[.v I,.v I,.v I,.v I,.v dk],[.own sR],[],none⟩
def abc:Kn prog:=⟨207,(asN N).S false (Dd N),Fx.u0 (asN N) aC func207⟩
def asO:Fx:=⟨13,tab,[],N,f192,[.v LU,.v I],[.v U],[],none⟩
def aeP:Kn prog:=⟨192,(asO N).S true (L7 N),Fx.u0 (asO N) aC func192⟩
def Cb:Fx:=⟨41,tab,Kn.l [aeP N],N,f143,[.v LU,.v LU],[.own U],[⟨12,[(0,.v LU),(1,.v LU),(5,.own U),(6,.v U),(7,.v I)],[1,1,1,0,1,0,0,1],[9]⟩,⟨9,[(0,.v LU),(1,.v LU),(5,.own U),(6,.v U),(7,.v I)],[1,1,1,0,1,0,0],[]⟩],none⟩
theorem aeQ(K ρ):(Cb N).bd K ρ 12=kb.OL N ((Cb N).kc ρ 9):=κ
theorem aeR(ρ):(Cb N).kc ((Cb N).cq ρ) 12=kb.j6 N ((Cb N).kc ρ 9):=Fx.uJ [] (aeQ N) ρ
theorem amm(K ρ):(Cb N).bd K ρ 9=kb.dQ N ((Cb N).kc K 12) ((Cb N).kc ρ 9):=κ
theorem amn(ρ):(Cb N).kc ((Cb N).cq ρ) 9=kb.l4 N N:=Fx.uL [12] (amm N) ρ (kb.l4 N) λn ρ' e d=>by rw[aeR,e];rfl
theorem axu(K):(Cb N).top K=kb.b N ((Cb N).kc K 9):=κ
def axv:Kn prog:=⟨143,(Cb N).S false (kb N),Fx.u1 (Cb N) aC func143 [9] (axu N) (by rw[amn];rfl)⟩
def QV:Fx:=⟨41,tab,[],N,f144,[.v LU,.v LU],[.v I],[⟨13,[(0,.v LU),(1,.v LU),(5,.v I)],[1,1,0,1,0,0],[]⟩],none⟩
theorem aeS(K ρ):(QV N).bd K ρ 13=ql.vu N ((QV N).kc ρ 13):=κ
theorem aeT(ρ):(QV N).kc ((QV N).cq ρ) 13=ql.l6 N N:=Fx.uL [] (aeS N) ρ (ql.l6 N) λn ρ' e d=>by rw[e];rfl
theorem axw(K):(QV N).top K=ql.b N ((QV N).kc K 13):=κ
def axx:Kn prog:=⟨144,(QV N).S true (ql N),Fx.u1 (QV N) aC func144 [13] (axw N) (by rw[aeT];rfl)⟩
def QW:Fx:=⟨37,tab,Kn.l [aeP N],N,f145,[.v LU,.v LU],[.own U],[⟨9,[(0,.v LU),(1,.v LU),(5,.own U),(6,.v U),(7,.v I)],[1,1,1,0,1,0,0],[]⟩],none⟩
theorem amo(K ρ):(QW N).bd K ρ 9=qN.dQ N ((QW N).kc ρ 9):=κ
theorem amp(ρ):(QW N).kc ((QW N).cq ρ) 9=qN.l4 N N:=Fx.uL [] (amo N) ρ (qN.l4 N) λn ρ' e d=>by rw[e];rfl
theorem axy(K):(QW N).top K=qN.b N ((QW N).kc K 9):=κ
def axz:Kn prog:=⟨145,(QW N).S false (qN N),Fx.u1 (QW N) aC func145 [9] (axy N) (by rw[amp];rfl)⟩
def asP:Fx:=⟨40,tab,Kn.l [axv N,abb N,axx N,axz N],N,f100,[.v dk,.v dk],[.v dk],[],none⟩
def Ac:Kn prog:=⟨100,(asP N).S false (nZ N),Fx.u0 (asP N) aC func100⟩
def asQ:Fx:=⟨28,tab,Kn.l [aeP N],N,f211,[.v dk],[.v I,.v B],[],none⟩
def IW:Kn prog:=⟨211,(asQ N).S true (xB N),Fx.u0 (asQ N) aC func211⟩
def asR:Fx:=⟨18,tab,Kn.l [IW N],N,f193,[.v dk],[.v I,.v B],[],none⟩
def asS:Kn prog:=⟨193,(asR N).S true (Sl N),Fx.u0 (asR N) aC func193⟩
def lH:Fx:=⟨106,tab,Kn.l [nG N,Ac N,asS N],N,f151,[.v cQ,.v cQ],[.own jZ,.v B],[⟨31,[(0,.v cQ),(1,.v cQ),(6,.own jZ),(7,.v I),(8,.v I),(9,.v I),(10,.v I),(11,.v B),(12,.obj dk),(13,.v I)],[1,1,1,0,1,0,0,1,0,0,1,0,0,1,0,0,1,1,1,0,1,0,0],[9,15]⟩,⟨26,[(0,.v cQ),(1,.v cQ),(6,.own jZ),(7,.v I),(8,.v I),(9,.v I),(10,.v I),(11,.v B)],[1,1,1,0,1,0,0,1,0,0,1,0,0,1,0,0,1,1],[9,15]⟩,⟨15,[(0,.v cQ),(1,.v cQ),(6,.own jZ),(7,.v I),(8,.v I),(9,.v I)],[1,1,1,0,1,0,0,1,0,0,1,0,0],[9]⟩,⟨9,[(0,.v cQ),(1,.v cQ),(6,.own jZ),(7,.v I),(8,.v I)],[1,1,1,0,1,0,0],[]⟩],none⟩
theorem aeU(K ρ):(lH N).bd K ρ 31=cM.JJ N ((lH N).kc ρ 9) ((lH N).kc ρ 15) ((lH N).kc ρ 31):=κ
theorem aeV(ρ):(lH N).kc ((lH N).cq ρ) 31=cM.Kx N ((lH N).kc ρ 9) ((lH N).kc ρ 15) N:=Fx.uL [] (aeU N) ρ (cM.Kx N ((lH N).kc ρ 9) ((lH N).kc ρ 15)) λn ρ' e d=>by rw[e,d 9 rfl,d 15 rfl];rfl
theorem aeW(K ρ):(lH N).bd K ρ 26=cM.Mg N ((lH N).kc K 31) ((lH N).kc ρ 9) ((lH N).kc ρ 15):=κ
theorem aeX(ρ):(lH N).kc ((lH N).cq ρ) 26=cM.Uk N ((lH N).kc ρ 9) ((lH N).kc ρ 15):=Fx.uJ [31] (aeW N) ρ (by rw[aeV];rfl)
theorem aeY(K ρ):(lH N).bd K ρ 15=cM.oJ N ((lH N).kc K 26) ((lH N).kc ρ 9) ((lH N).kc ρ 15):=κ
theorem aeZ(ρ):(lH N).kc ((lH N).cq ρ) 15=cM.l7 N ((lH N).kc ρ 9) N:=Fx.uL [26,31] (aeY N) ρ (cM.l7 N ((lH N).kc ρ 9)) λn ρ' e d=>by rw[aeX,e,d 9 rfl];rfl
theorem amq(K ρ):(lH N).bd K ρ 9=cM.dQ N ((lH N).kc K 15) ((lH N).kc ρ 9):=κ
theorem amr(ρ):(lH N).kc ((lH N).cq ρ) 9=cM.l4 N N:=Fx.uL [15] (amq N) ρ (cM.l4 N) λn ρ' e d=>by rw[aeZ,e];rfl
theorem axA(K):(lH N).top K=cM.b N ((lH N).kc K 9):=κ
def axB:Kn prog:=⟨151,(lH N).S false (cM N),Fx.u1 (lH N) aC func151 [9] (axA N) (by rw[amr];rfl)⟩
def QX:Fx:=⟨53,tab,Kn.l [Ac N,nG N,IW N],N,f194,[.v I,.v I,.v I,.v ph],[.v I,.v B],[⟨7,[(0,.v I),(1,.v I),(2,.v I),(3,.v ph),(10,.obj dk),(11,.v B),(12,.v I)],[1,1,0,1,0,0],[]⟩],none⟩
theorem ams(K ρ):(QX N).bd K ρ 7=oq.nr N ((QX N).kc ρ 7):=κ
theorem amt(ρ):(QX N).kc ((QX N).cq ρ) 7=oq.l3 N N:=Fx.uL [] (ams N) ρ (oq.l3 N) λn ρ' e d=>by rw[e];rfl
theorem axC(K):(QX N).top K=oq.b N ((QX N).kc K 7):=κ
def axD:Kn prog:=⟨194,(QX N).S true (oq N),Fx.u1 (QX N) aC func194 [7] (axC N) (by rw[amt];rfl)⟩
def q7:Fx:=⟨69,tab,Kn.l [axD N],N,f152,[.v cQ,.v ph],[.own jZ,.v B],[⟨26,[(0,.v cQ),(1,.v ph),(6,.own jZ),(7,.v I),(8,.v I),(9,.v I),(10,.v I)],[1,1,1,0,1,0,0,1,0,0,1,0,0,1,0,0,1,1],[9,15]⟩,⟨15,[(0,.v cQ),(1,.v ph),(6,.own jZ),(7,.v I),(8,.v I),(9,.v I)],[1,1,1,0,1,0,0,1,0,0,1,0,0],[9]⟩,⟨9,[(0,.v cQ),(1,.v ph),(6,.own jZ),(7,.v I),(8,.v I)],[1,1,1,0,1,0,0],[]⟩],none⟩
theorem ae0(K ρ):(q7 N).bd K ρ 26=dN.Mg N ((q7 N).kc ρ 9) ((q7 N).kc ρ 15):=κ
theorem ae1(ρ):(q7 N).kc ((q7 N).cq ρ) 26=dN.Uk N ((q7 N).kc ρ 9) ((q7 N).kc ρ 15):=Fx.uJ [] (ae0 N) ρ
theorem ae2(K ρ):(q7 N).bd K ρ 15=dN.oJ N ((q7 N).kc K 26) ((q7 N).kc ρ 9) ((q7 N).kc ρ 15):=κ
theorem ae3(ρ):(q7 N).kc ((q7 N).cq ρ) 15=dN.l7 N ((q7 N).kc ρ 9) N:=Fx.uL [26] (ae2 N) ρ (dN.l7 N ((q7 N).kc ρ 9)) λn ρ' e d=>by rw[ae1,e,d 9 rfl];rfl
theorem amu(K ρ):(q7 N).bd K ρ 9=dN.dQ N ((q7 N).kc K 15) ((q7 N).kc ρ 9):=κ
theorem amv(ρ):(q7 N).kc ((q7 N).cq ρ) 9=dN.l4 N N:=Fx.uL [15] (amu N) ρ (dN.l4 N) λn ρ' e d=>by rw[ae3,e];rfl
theorem axE(K):(q7 N).top K=dN.b N ((q7 N).kc K 9):=κ
def axF:Kn prog:=⟨152,(q7 N).S false (dN N),Fx.u1 (q7 N) aC func152 [9] (axE N) (by rw[amv];rfl)⟩
def asT:Fx:=⟨36,tab,Kn.l [axB N,axF N],N,f105,[.v aK,.v cQ,.v ph],[.v aK,.v I],[],none⟩
def QY:Kn prog:=⟨105,(asT N).S false (y9 N),Fx.u0 (asT N) aC func105⟩
def asU:Fx:=⟨34,tab,Kn.l [nG N,abc N,QY N],N,f181,[.v dL,.v I,.v I,.v I,.v I,.v I],[.v dL,.v jZ],[],none⟩
def axG:Kn prog:=⟨181,(asU N).S false (P1 N),Fx.u0 (asU N) aC func181⟩
def X98:Fx:=⟨33,tab,Kn.l [k73 N,nG N,Ac N],N,f98,[.v cQ,.v I],[.v dk],[⟨11,[(0,.v cQ),(1,.v I),(4,.obj dk),(5,.obj dk),(6,.v I)],[1,1,1,0,1,0,0],[]⟩],none⟩
theorem amw(K ρ):(X98 N).bd K ρ 11=D8.eo N ((X98 N).kc ρ 11):=κ
theorem amx(ρ):(X98 N).kc ((X98 N).cq ρ) 11=D8.l5 N N:=Fx.uL [] (amw N) ρ (D8.l5 N) λn ρ' e d=>by rw[e];rfl
theorem h98(K):(X98 N).top K=D8.b N ((X98 N).kc K 11):=κ
def k98:Kn prog:=⟨98,(X98 N).S false (D8 N),Fx.u1 (X98 N) aC func98 [11] (h98 N) (by rw[amx];rfl)⟩
def X46:Fx:=⟨9,tab,[],N,f46,[.v dk],[.v I],[],none⟩
def k46:Kn prog:=⟨46,(X46 N).S true (T4 N),Fx.u0 (X46 N) aC func46⟩
def X44:Fx:=⟨15,tab,Kn.l [k98 N,k46 N,k73 N],N,f44,[.v cQ],[.v B],[⟨5,[(0,.v cQ),(3,.v I)],[1,0,1,0,0],[]⟩],none⟩
theorem asV(K ρ):(X44 N).bd K ρ 5=EW.fM N ((X44 N).kc ρ 5):=κ
theorem asW(ρ):(X44 N).kc ((X44 N).cq ρ) 5=EW.l2 N N:=Fx.uL [] (asV N) ρ (EW.l2 N) λn ρ' e d=>by rw[e];rfl
theorem h44(K):(X44 N).top K=EW.b N ((X44 N).kc K 5):=κ
def k44:Kn prog:=⟨44,(X44 N).S true (EW N),Fx.u1 (X44 N) aC func44 [5] (h44 N) (by rw[asW];rfl)⟩
def X50:Fx:=⟨9,tab,[],N,f50,[.v I],[.v B],[],none⟩
def k50:Kn prog:=⟨50,(X50 N).S true (Xr N),Fx.u0 (X50 N) aC func50⟩
def X99:Fx:=⟨56,tab,Kn.l [k50 N],N,f99,[.v nh],[.v B],[],none⟩
def k99:Kn prog:=⟨99,(X99 N).S true (F99 N),Fx.u0 (X99 N) aC func99⟩
def X45:Fx:=⟨37,tab,Kn.l [k99 N],N,f45,[.v lG],[.v B],[⟨9,[(0,.v lG),(3,.v I)],[1,1,0,1,0,0],[]⟩],none⟩
theorem asX(K ρ):(X45 N).bd K ρ 9=Ah.dQ N ((X45 N).kc ρ 9):=κ
theorem asY(ρ):(X45 N).kc ((X45 N).cq ρ) 9=Ah.l4 N N:=Fx.uL [] (asX N) ρ (Ah.l4 N) λn ρ' e d=>by rw[e];rfl
theorem h45(K):(X45 N).top K=Ah.b N ((X45 N).kc K 9):=κ
def k45:Kn prog:=⟨45,(X45 N).S true (Ah N),Fx.u1 (X45 N) aC func45 [9] (h45 N) (by rw[asY];rfl)⟩
def X47:Fx:=⟨24,tab,Kn.l [k43 N,nG N,Ac N],N,f47,[.v cQ],[.v dk],[⟨11,[(0,.v cQ),(2,.obj dk),(3,.obj dk),(4,.v I)],[1,1,1,0,1,0,0],[]⟩],none⟩
theorem amz(K ρ):(X47 N).bd K ρ 11=D6.eo N ((X47 N).kc ρ 11):=κ
theorem amA(ρ):(X47 N).kc ((X47 N).cq ρ) 11=D6.l5 N N:=Fx.uL [] (amz N) ρ (D6.l5 N) λn ρ' e d=>by rw[e];rfl
theorem h47(K):(X47 N).top K=D6.b N ((X47 N).kc K 11):=κ
def k47:Kn prog:=⟨47,(X47 N).S false (D6 N),Fx.u1 (X47 N) aC func47 [11] (h47 N) (by rw[amA];rfl)⟩
def X48:Fx:=⟨19,tab,Kn.l [Tq N],N,f48,[.v aK,.v I],[.v B],[],none⟩
def k48:Kn prog:=⟨48,(X48 N).S true (F48 N),Fx.u0 (X48 N) aC func48⟩
def X49:Fx:=⟨11,tab,Kn.l [k94 N,k96 N],N,f49,[.v dE,.v I],[.v I],[],none⟩
def k49:Kn prog:=⟨49,(X49 N).S true (Ub N),Fx.u0 (X49 N) aC func49⟩
def IX:Fx:=⟨163,tab,Kn.l [k41 N,k42 N,k43 N,k44 N,k45 N,k47 N,k46 N,k48 N,k49 N,k50 N],N,f10,[.v aA,.v aK],[.v B],[⟨45,[(2,.obj aA),(3,.obj aK),(9,.v I)],[1,1,1,1,1,1,0,1,0,0],[]⟩,⟨35,[(2,.obj aA),(3,.obj aK),(8,.v I)],[1,1,1,1,1,0,1,0,0],[]⟩,⟨25,[(2,.obj aA),(3,.obj aK),(7,.v I)],[1,1,1,1,0,1,0,0],[]⟩,⟨13,[(2,.obj aA),(3,.obj aK),(5,.v I)],[1,1,1,0,1,0,0],[]⟩],none⟩
theorem amC(K ρ):(IX N).bd K ρ 45=gH.wF N ((IX N).kc ρ 45):=κ
theorem amD(ρ):(IX N).kc ((IX N).cq ρ) 45=gH.xI N N:=Fx.uL [] (amC N) ρ (gH.xI N) λn ρ' e d=>by rw[e];rfl
theorem amE(K ρ):(IX N).bd K ρ 35=gH.EY N ((IX N).kc K 45) ((IX N).kc ρ 35):=κ
theorem amF(ρ):(IX N).kc ((IX N).cq ρ) 35=gH.FB N N:=Fx.uL [45] (amE N) ρ (gH.FB N) λn ρ' e d=>by rw[amD,e];rfl
theorem amG(K ρ):(IX N).bd K ρ 25=gH.nD N ((IX N).kc K 35) ((IX N).kc ρ 25):=κ
theorem amH(ρ):(IX N).kc ((IX N).cq ρ) 25=gH.oH N N:=Fx.uL [35,45] (amG N) ρ (gH.oH N) λn ρ' e d=>by rw[amF,e];rfl
theorem amI(K ρ):(IX N).bd K ρ 13=gH.vu N ((IX N).kc K 25) ((IX N).kc ρ 13):=κ
theorem amJ(ρ):(IX N).kc ((IX N).cq ρ) 13=gH.l6 N N:=Fx.uL [25,35,45] (amI N) ρ (gH.l6 N) λn ρ' e d=>by rw[amH,e];rfl
theorem h10(K):(IX N).top K=gH.b N ((IX N).kc K 13):=κ
def yR:Kn prog:=⟨10,(IX N).S true (gH N),Fx.u1 (IX N) aC func10 [13,25,35,45] (h10 N) (by rw[amJ];rfl)⟩
def asZ:Fx:=⟨9,tab,Kn.l [Ts N,Ac N],N,f153,[.v dk,.v dk],[.v dk],[],none⟩
def Tt:Kn prog:=⟨153,(asZ N).S false (Bo N),Fx.u0 (asZ N) aC func153⟩
def QZ:Fx:=⟨39,tab,Kn.l [k73 N],N,f155,[.v cQ,.v I],[.own kN],[⟨11,[(0,.v cQ),(1,.v I),(5,.own kN),(6,.v I)],[1,1,1,0,1,0,0],[]⟩],none⟩
theorem ae5(K ρ):(QZ N).bd K ρ 11=mK.eo N ((QZ N).kc ρ 11):=κ
theorem ae6(ρ):(QZ N).kc ((QZ N).cq ρ) 11=mK.l5 N N:=Fx.uL [] (ae5 N) ρ (mK.l5 N) λn ρ' e d=>by rw[e];rfl
theorem axH(K):(QZ N).top K=mK.b N ((QZ N).kc K 11):=κ
def Xh:Kn prog:=⟨155,(QZ N).S false (mK N),Fx.u1 (QZ N) aC func155 [11] (axH N) (by rw[ae6];rfl)⟩
def ze:Fx:=⟨74,tab,[],N,f156,[.v lG,.v I],[.own jZ],[⟨15,[(0,.v lG),(1,.v I),(5,.own jZ),(6,.v I),(7,.obj jZ),(8,.v I)],[1,1,0,1,0,0,1,0,0,1,0,1,0,0],[7]⟩,⟨7,[(0,.v lG),(1,.v I),(5,.own jZ),(6,.v I)],[1,1,0,1,0,0],[]⟩],none⟩
theorem ae7(K ρ):(ze N).bd K ρ 15=iL.oJ N ((ze N).kc ρ 7) ((ze N).kc ρ 15):=κ
theorem ae8(ρ):(ze N).kc ((ze N).cq ρ) 15=iL.l7 N ((ze N).kc ρ 7) N:=Fx.uL [] (ae7 N) ρ (iL.l7 N ((ze N).kc ρ 7)) λn ρ' e d=>by rw[e,d 7 rfl];rfl
theorem amK(K ρ):(ze N).bd K ρ 7=iL.nr N ((ze N).kc K 15) ((ze N).kc ρ 7):=κ
theorem amL(ρ):(ze N).kc ((ze N).cq ρ) 7=iL.l3 N N:=Fx.uL [15] (amK N) ρ (iL.l3 N) λn ρ' e d=>by rw[ae8,e];rfl
theorem axI(K):(ze N).top K=iL.b N ((ze N).kc K 7):=κ
def amM:Kn prog:=⟨156,(ze N).S false (iL N),Fx.u1 (ze N) aC func156 [7] (axI N) (by rw[amL];rfl)⟩
def Q0:Fx:=⟨66,tab,Kn.l [k41 N],N,f195,[.v aA,.v dE],[.v B],[⟨9,[(1,.v dE),(2,.obj aA),(5,.v I)],[1,1,0,1,0,0],[]⟩],none⟩
theorem amN(K ρ):(Q0 N).bd K ρ 9=oi.dQ N ((Q0 N).kc ρ 9):=κ
theorem amO(ρ):(Q0 N).kc ((Q0 N).cq ρ) 9=oi.l4 N N:=Fx.uL [] (amN N) ρ (oi.l4 N) λn ρ' e d=>by rw[e];rfl
theorem axJ(K):(Q0 N).top K=oi.b N ((Q0 N).kc K 9):=κ
def ae9:Kn prog:=⟨195,(Q0 N).S true (oi N),Fx.u1 (Q0 N) aC func195 [9] (axJ N) (by rw[amO];rfl)⟩
def Q1:Fx:=⟨79,tab,Kn.l [k41 N],N,f196,[.v aA,.v cQ],[.v B],[⟨11,[(1,.v cQ),(2,.obj aA),(5,.v I),(6,.v I)],[1,1,1,0,1,0,0],[]⟩],none⟩
theorem afa(K ρ):(Q1 N).bd K ρ 11=qY.eo N ((Q1 N).kc ρ 11):=κ
theorem afb(ρ):(Q1 N).kc ((Q1 N).cq ρ) 11=qY.l5 N N:=Fx.uL [] (afa N) ρ (qY.l5 N) λn ρ' e d=>by rw[e];rfl
theorem axK(K):(Q1 N).top K=qY.b N ((Q1 N).kc K 11):=κ
def as0:Kn prog:=⟨196,(Q1 N).S true (qY N),Fx.u1 (Q1 N) aC func196 [11] (axK N) (by rw[afb];rfl)⟩
def as2:Fx:=⟨6,tab,Kn.l [abb N],N,f216,[.v dk],[.v dk],[],none⟩
def afc:Kn prog:=⟨216,(as2 N).S false (Hg N),Fx.u0 (as2 N) aC func216⟩
def as3:Fx:=⟨9,tab,Kn.l [Tt N,k46 N],N,f110,[.v dk,.v dk],[.v I],[],none⟩
def Nc:Kn prog:=⟨110,(as3 N).S true (y8 N),Fx.u0 (as3 N) aC func110⟩
def Dt:Fx:=⟨96,tab,Kn.l [ae9 N,as0 N,nG N,Ac N,afc N,Tt N,Nc N],N,f197,[.v aA,.v dE,.v cQ,.v I],[.v dk,.v I],[⟨25,[(2,.v cQ),(3,.v I),(8,.obj dk),(10,.obj dk),(11,.obj dk),(12,.obj dk),(14,.v I)],[1,1,1,1,1,0,1,0,0],[]⟩,⟨15,[(1,.v dE),(2,.v cQ),(3,.v I),(8,.obj dk),(10,.obj dk),(11,.obj dk),(12,.obj dk),(13,.v I)],[1,1,1,1,0,1,0,0],[]⟩],none⟩
theorem afd(K ρ):(Dt N).bd K ρ 25=jU.nD N ((Dt N).kc ρ 25):=κ
theorem afe(ρ):(Dt N).kc ((Dt N).cq ρ) 25=jU.oH N N:=Fx.uL [] (afd N) ρ (jU.oH N) λn ρ' e d=>by rw[e];rfl
theorem aff(K ρ):(Dt N).bd K ρ 15=jU.oJ N ((Dt N).kc K 25) ((Dt N).kc ρ 15):=κ
theorem afg(ρ):(Dt N).kc ((Dt N).cq ρ) 15=jU.l7 N N:=Fx.uL [25] (aff N) ρ (jU.l7 N) λn ρ' e d=>by rw[afe,e];rfl
theorem axL(K):(Dt N).top K=jU.b N ((Dt N).kc K 15):=κ
def as4:Kn prog:=⟨197,(Dt N).S false (jU N),Fx.u1 (Dt N) aC func197 [15,25] (axL N) (by rw[afg];rfl)⟩
def ra:Fx:=⟨71,tab,Kn.l [aeP N,abb N],N,f148,[.v dk,.v dk],[.v dk],[⟨18,[(2,.obj dk),(3,.obj dk),(4,.obj dk),(5,.own U),(6,.v I),(7,.v U),(8,.v I)],[1,1,0,1,0,0,1,0,0,1,1,0,0,1],[7,15]⟩,⟨15,[(2,.obj dk),(3,.obj dk),(4,.obj dk),(5,.own U),(6,.v I),(7,.v U),(8,.v I)],[1,1,0,1,0,0,1,0,0,1,1,0,0],[7]⟩,⟨7,[(2,.obj dk),(3,.obj dk),(4,.obj dk),(5,.own U),(6,.v I)],[1,1,0,1,0,0],[]⟩],none⟩
theorem afh(K ρ):(ra N).bd K ρ 18=et.JA N ((ra N).kc ρ 7) ((ra N).kc ρ 15):=κ
theorem afi(ρ):(ra N).kc ((ra N).cq ρ) 18=et.j9 N ((ra N).kc ρ 7) ((ra N).kc ρ 15):=Fx.uJ [] (afh N) ρ
theorem afj(K ρ):(ra N).bd K ρ 15=et.oJ N ((ra N).kc K 18) ((ra N).kc ρ 7) ((ra N).kc ρ 15):=κ
theorem afk(ρ):(ra N).kc ((ra N).cq ρ) 15=et.l7 N ((ra N).kc ρ 7) N:=Fx.uL [18] (afj N) ρ (et.l7 N ((ra N).kc ρ 7)) λn ρ' e d=>by rw[afi,e,d 7 rfl];rfl
theorem amP(K ρ):(ra N).bd K ρ 7=et.nr N ((ra N).kc K 15) ((ra N).kc ρ 7):=κ
theorem amQ(ρ):(ra N).kc ((ra N).cq ρ) 7=et.l3 N N:=Fx.uL [15] (amP N) ρ (et.l3 N) λn ρ' e d=>by rw[afk,e];rfl
theorem axM(K):(ra N).top K=et.b N ((ra N).kc K 7):=κ
def J0:Kn prog:=⟨148,(ra N).S false (et N),Fx.u1 (ra N) aC func148 [7] (axM N) (by rw[amQ];rfl)⟩
def Q2:Fx:=⟨50,tab,Kn.l [ae9 N,as0 N,as4 N,nG N,J0 N,Ac N],N,f154,[.v aA,.v dE,.v cQ],[.v dk,.v I],[⟨11,[(1,.v dE),(2,.v cQ),(3,.obj aA),(6,.obj dk),(8,.obj dk),(9,.v I)],[1,1,1,0,1,0,0],[]⟩],none⟩
theorem afl(K ρ):(Q2 N).bd K ρ 11=qZ.eo N ((Q2 N).kc ρ 11):=κ
theorem afm(ρ):(Q2 N).kc ((Q2 N).cq ρ) 11=qZ.l5 N N:=Fx.uL [] (afl N) ρ (qZ.l5 N) λn ρ' e d=>by rw[e];rfl
theorem axN(K):(Q2 N).top K=qZ.b N ((Q2 N).kc K 11):=κ
def as5:Kn prog:=⟨154,(Q2 N).S false (qZ N),Fx.u1 (Q2 N) aC func154 [11] (axN N) (by rw[afm];rfl)⟩
def as6:Fx:=⟨31,tab,Kn.l [Xh N,amM N,as5 N],N,f107,[.v aA,.v aK,.v I,.v lG],[.v dk],[],none⟩
def as7:Kn prog:=⟨107,(as6 N).S false (ZL N),Fx.u0 (as6 N) aC func107⟩
def as8:Fx:=⟨63,tab,Kn.l [yR N,Tq N,k49 N,k23 N,nG N,Tt N,as7 N,Nc N,abc N,QY N],N,f182,[.v aA,.v aK,.v I,.v I],[.v aK,.v I],[],none⟩
def axO:Kn prog:=⟨182,(as8 N).S false (WB N),Fx.u0 (as8 N) aC func182⟩
def as9:Fx:=⟨10,tab,Kn.l [k49 N],N,f183,[.v dL,.v I],[.v I],[],none⟩
def ata:Kn prog:=⟨183,(as9 N).S true (Ij N),Fx.u0 (as9 N) aC func183⟩
def Q3:Fx:=⟨53,tab,Kn.l [k95 N,aeI N],N,f184,[.v fx,.v I,.v I],[.own fc,.v I],[⟨17,[(1,.v I),(2,.v I),(10,.own fc),(11,.v I)],[1,1,1,1,0,1,0,0],[]⟩],none⟩
theorem afn(K ρ):(Q3 N).bd K ρ 17=ox.D4 N ((Q3 N).kc ρ 17):=κ
theorem afo(ρ):(Q3 N).kc ((Q3 N).cq ρ) 17=ox.l8 N N:=Fx.uL [] (afn N) ρ (ox.l8 N) λn ρ' e d=>by rw[e];rfl
theorem axP(K):(Q3 N).top K=ox.b N ((Q3 N).kc K 17):=κ
def axQ:Kn prog:=⟨184,(Q3 N).S false (ox N),Fx.u1 (Q3 N) aC func184 [17] (axP N) (by rw[afo];rfl)⟩
def atb:Fx:=⟨36,tab,Kn.l [k99 N,k50 N,nG N,J0 N],N,f219,[.v nh,.v I],[.v dk,.v I],[],none⟩
def axR:Kn prog:=⟨219,(atb N).S false (ac8 N),Fx.u0 (atb N) aC func219⟩
def atc:Fx:=⟨104,tab,Kn.l [yR N,k99 N,Tq N,k49 N,Xh N,amM N,as4 N,nG N,Nc N,axR N,k23 N,Tt N,as7 N],N,f208,[.v aA,.v aK,.v nh],[.v I],[],none⟩
def atd:Kn prog:=⟨208,(atc N).S true (ZM N),Fx.u0 (atc N) aC func208⟩
def ate:Fx:=⟨24,tab,[],N,f236,[.v nh,.v nh],[.v B],[],none⟩
def axS:Kn prog:=⟨236,(ate N).S true (WA N),Fx.u0 (ate N) aC func236⟩
def s8:Fx:=⟨72,tab,Kn.l [k45 N,axS N],N,f220,[.v lG,.v I,.v I],[.own nh],[⟨22,[(0,.v lG),(1,.v I),(2,.v I),(7,.own nh),(8,.v I),(9,.v I)],[1,1,1,0,1,0,0,1,0,0,1,1,1],[11]⟩,⟨19,[(0,.v lG),(1,.v I),(2,.v I),(7,.own nh),(8,.v I),(9,.v I)],[1,1,1,0,1,0,0,1,0,0,1,1,0,0,0],[11]⟩,⟨11,[(0,.v lG),(1,.v I),(2,.v I),(7,.own nh),(8,.v I)],[1,1,1,0,1,0,0],[]⟩],none⟩
theorem afp(K ρ):(s8 N).bd K ρ 22=eh.xV N ((s8 N).kc ρ 11):=κ
theorem afq(ρ):(s8 N).kc ((s8 N).cq ρ) 22=eh.E5 N ((s8 N).kc ρ 11):=Fx.uJ [] (afp N) ρ
theorem afr(K ρ):(s8 N).bd K ρ 19=eh.vz N ((s8 N).kc K 22) ((s8 N).kc ρ 11) ((s8 N).kc ρ 19):=κ
theorem afs(ρ):(s8 N).kc ((s8 N).cq ρ) 19=eh.l9 N ((s8 N).kc ρ 11) N:=Fx.uL [22] (afr N) ρ (eh.l9 N ((s8 N).kc ρ 11)) λn ρ' e d=>by rw[afq,e,d 11 rfl];rfl
theorem aft(K ρ):(s8 N).bd K ρ 11=eh.eo N ((s8 N).kc K 19) ((s8 N).kc ρ 11):=κ
theorem afu(ρ):(s8 N).kc ((s8 N).cq ρ) 11=eh.l5 N N:=Fx.uL [19,22] (aft N) ρ (eh.l5 N) λn ρ' e d=>by rw[afs,e];rfl
theorem axT(K):(s8 N).top K=eh.b N ((s8 N).kc K 11):=κ
def axU:Kn prog:=⟨220,(s8 N).S false (eh N),Fx.u1 (s8 N) aC func220 [11] (axT N) (by rw[afu];rfl)⟩
def ku:Fx:=⟨174,tab,Kn.l [k45 N,k99 N,axU N],N,f209,[.v lG,.v nh],[.own nh,.own p9,.v I,.v I],[⟨49,[(8,.own nh),(9,.v I),(10,.own p9),(16,.own nh),(17,.v I)],[1,1,1,1,1,1,1,0,1,0,0],[]⟩,⟨44,[(8,.own nh),(9,.v I),(10,.own p9)],[1,1,1,1,1,1],[]⟩,⟨37,[(3,.obj nh),(8,.own nh),(9,.v I),(10,.own p9),(11,.own nh),(12,.v I),(13,.v I),(15,.v I)],[1,1,1,1,1,0,1,0,0,1,0,0,1,1,1,1,1,1,1,1,0,0],[15]⟩,⟨30,[(3,.obj nh),(8,.own nh),(9,.v I),(10,.own p9),(11,.own nh),(12,.v I),(13,.v I),(14,.obj p9)],[1,1,1,1,1,0,1,0,0,1,0,0,1,1,1,1,1],[15]⟩,⟨20,[(3,.obj nh),(8,.own nh),(9,.v I),(10,.own p9),(11,.own nh),(12,.v I)],[1,1,1,1,1,0,1,0,0,1,0,0,1],[15]⟩,⟨15,[(3,.obj nh),(8,.own nh),(9,.v I),(10,.own p9),(11,.own nh),(12,.v I)],[1,1,1,1,1,0,1,0,0],[]⟩],none⟩
theorem afv(K ρ):(ku N).bd K ρ 49=cv.PN N ((ku N).kc ρ 49):=κ
theorem afw(ρ):(ku N).kc ((ku N).cq ρ) 49=cv.Nl N N:=Fx.uL [] (afv N) ρ (cv.Nl N) λn ρ' e d=>by rw[e];rfl
theorem afx(K ρ):(ku N).bd K ρ 44=cv.adj N ((ku N).kc K 49):=κ
theorem afy(ρ):(ku N).kc ((ku N).cq ρ) 44=cv.j22 N:=Fx.uJ [49] (afx N) ρ (by rw[afw];rfl)
theorem afz(K ρ):(ku N).bd K ρ 37=cv.E6 N ((ku N).kc ρ 15) ((ku N).kc ρ 37):=κ
theorem afA(ρ):(ku N).kc ((ku N).cq ρ) 37=cv.Ja N ((ku N).kc ρ 15) N:=Fx.uL [44,49] (afz N) ρ (cv.Ja N ((ku N).kc ρ 15)) λn ρ' e d=>by rw[e,d 15 rfl];rfl
theorem afB(K ρ):(ku N).bd K ρ 30=cv.wI N ((ku N).kc K 37) ((ku N).kc ρ 15):=κ
theorem afC(ρ):(ku N).kc ((ku N).cq ρ) 30=cv.Da N ((ku N).kc ρ 15):=Fx.uJ [44,49,37] (afB N) ρ (by rw[afA];rfl)
theorem afD(K ρ):(ku N).bd K ρ 20=cv.Db N ((ku N).kc K 30) ((ku N).kc ρ 15):=κ
theorem afE(ρ):(ku N).kc ((ku N).cq ρ) 20=cv.JQ N ((ku N).kc ρ 15):=Fx.uJ [44,49,30,37] (afD N) ρ (by rw[afC];rfl)
theorem afF(K ρ):(ku N).bd K ρ 15=cv.oJ N ((ku N).kc K 44) ((ku N).kc K 20) ((ku N).kc ρ 15):=κ
theorem afG(ρ):(ku N).kc ((ku N).cq ρ) 15=cv.l7 N N:=Fx.uL [44,49,20,30,37] (afF N) ρ (cv.l7 N) λn ρ' e d=>by rw[afy,afE,e];rfl
theorem axV(K):(ku N).top K=cv.b N ((ku N).kc K 15):=κ
def axW:Kn prog:=⟨209,(ku N).S false (cv N),Fx.u1 (ku N) aC func209 [15,44,49] (axV N) (by rw[afG];rfl)⟩
def atf:Fx:=⟨53,tab,Kn.l [k50 N],N,f103,[.v p9],[.v B],[],none⟩
def atg:Kn prog:=⟨103,(atf N).S true (Zo N),Fx.u0 (atf N) aC func103⟩
def ath:Fx:=⟨7,tab,[],N,f149,[.v I],[.v I,.v I],[],none⟩
def ati:Kn prog:=⟨149,(ath N).S true (Mm N),Fx.u0 (ath N) aC func149⟩
def atj:Fx:=⟨53,tab,Kn.l [atg N,k50 N,nG N,J0 N,k46 N,ati N,Ts N],N,f104,[.v p9,.v I],[.own sR,.v I],[],none⟩
def axX:Kn prog:=⟨104,(atj N).S false (Ph N),Fx.u0 (atj N) aC func104⟩
def Xi:Fx:=⟨107,tab,Kn.l [yR N,atg N,k48 N,axX N,QY N],N,f51,[.v aA,.v aK,.v yj],[.v aK,.v I],[⟨23,[(2,.v yj),(3,.obj aA),(4,.obj aK),(6,.obj aK),(9,.own jZ),(10,.own sR),(11,.v I)],[1,1,1,1,1,0,1,0,0],[]⟩,⟨9,[(2,.v yj),(3,.obj aA),(4,.obj aK),(6,.obj aK),(8,.v I)],[1,1,0,1,0,0],[]⟩],none⟩
theorem amR(K ρ):(Xi N).bd K ρ 23=nK.xK N ((Xi N).kc ρ 23):=κ
theorem amS(ρ):(Xi N).kc ((Xi N).cq ρ) 23=nK.zW N N:=Fx.uL [] (amR N) ρ (nK.zW N) λn ρ' e d=>by rw[e];rfl
theorem atk(K ρ):(Xi N).bd K ρ 9=nK.dQ N ((Xi N).kc K 23) ((Xi N).kc ρ 9):=κ
theorem atl(ρ):(Xi N).kc ((Xi N).cq ρ) 9=nK.l4 N N:=Fx.uL [23] (atk N) ρ (nK.l4 N) λn ρ' e d=>by rw[amS,e];rfl
theorem h51(K):(Xi N).top K=nK.b N ((Xi N).kc K 9):=κ
def k51:Kn prog:=⟨51,(Xi N).S false (nK N),Fx.u1 (Xi N) aC func51 [9,23] (h51 N) (by rw[atl];rfl)⟩
def IY:Fx:=⟨85,tab,Kn.l [atd N,axW N,k51 N],N,f185,[.v aA,.v aK,.v nh],[.v aK,.v yj,.v I,.v I],[⟨20,[(3,.obj aA),(4,.obj aK),(5,.obj nh),(6,.obj aK),(12,.own nh),(13,.own p9),(14,.v I)],[1,1,1,1,1],[]⟩,⟨14,[(3,.obj aA),(4,.obj aK),(5,.obj nh),(6,.obj aK)],[1,1,1],[]⟩],none⟩
theorem afH(K ρ):(IY N).bd K ρ 20=jV.Db N:=κ
theorem afI(ρ):(IY N).kc ((IY N).cq ρ) 20=jV.JQ N:=Fx.uJ [] (afH N) ρ
theorem afJ(K ρ):(IY N).bd K ρ 14=jV.Xp N ((IY N).kc K 20):=κ
theorem afK(ρ):(IY N).kc ((IY N).cq ρ) 14=jV.j7 N:=Fx.uJ [20] (afJ N) ρ (by rw[afI];rfl)
theorem axY(K):(IY N).top K=jV.b N ((IY N).kc K 14):=κ
def axZ:Kn prog:=⟨185,(IY N).S false (jV N),Fx.u1 (IY N) aC func185 [14,20] (axY N) (by rw[afK];rfl)⟩
def Q4:Fx:=⟨48,tab,Kn.l [k45 N],N,f186,[.v lG,.v I,.v I],[.own nh,.v I],[⟨11,[(0,.v lG),(1,.v I),(2,.v I),(8,.own nh),(9,.v I)],[1,1,1,0,1,0,0],[]⟩],none⟩
theorem afL(K ρ):(Q4 N).bd K ρ 11=oz.eo N ((Q4 N).kc ρ 11):=κ
theorem afM(ρ):(Q4 N).kc ((Q4 N).cq ρ) 11=oz.l5 N N:=Fx.uL [] (afL N) ρ (oz.l5 N) λn ρ' e d=>by rw[e];rfl
theorem ax0(K):(Q4 N).top K=oz.b N ((Q4 N).kc K 11):=κ
def ax1:Kn prog:=⟨186,(Q4 N).S false (oz N),Fx.u1 (Q4 N) aC func186 [11] (ax0 N) (by rw[afM];rfl)⟩
def Q5:Fx:=⟨76,tab,Kn.l [k73 N,k50 N,nG N,Tt N,k46 N,ati N,J0 N],N,f106,[.v cQ,.v I,.v I,.v I],[.own sR,.v I],[⟨13,[(0,.v cQ),(1,.v I),(10,.own sR),(11,.obj dk),(12,.v I)],[1,1,1,1,0,1,0,0],[]⟩],none⟩
theorem afN(K ρ):(Q5 N).bd K ρ 13=oB.vu N ((Q5 N).kc ρ 13):=κ
theorem afO(ρ):(Q5 N).kc ((Q5 N).cq ρ) 13=oB.l6 N N:=Fx.uL [] (afN N) ρ (oB.l6 N) λn ρ' e d=>by rw[e];rfl
theorem ax2(K):(Q5 N).top K=oB.b N ((Q5 N).kc K 13):=κ
def ax3:Kn prog:=⟨106,(Q5 N).S false (oB N),Fx.u1 (Q5 N) aC func106 [13] (ax2 N) (by rw[afO];rfl)⟩
def X52:Fx:=⟨70,tab,Kn.l [yR N,k50 N,ax3 N,QY N],N,f52,[.v aA,.v aK,.v I,.v I],[.v aK,.v ph,.v I],[],some (aK,[.gG 4],I,[5,13])⟩
def k52:Kn prog:=⟨52,(X52 N).S false (F52 N),Fx.u0 (X52 N) aC func52⟩
def Q6:Fx:=⟨50,tab,[],N,f210,[.v dE],[.v B],[⟨5,[(0,.v dE),(3,.v I)],[1,0,1,0,0],[]⟩],none⟩
theorem amT(K ρ):(Q6 N).bd K ρ 5=q3.fM N ((Q6 N).kc ρ 5):=κ
theorem amU(ρ):(Q6 N).kc ((Q6 N).cq ρ) 5=q3.l2 N N:=Fx.uL [] (amT N) ρ (q3.l2 N) λn ρ' e d=>by rw[e];rfl
theorem ax4(K):(Q6 N).top K=q3.b N ((Q6 N).kc K 5):=κ
def atm:Kn prog:=⟨210,(Q6 N).S true (q3 N),Fx.u1 (Q6 N) aC func210 [5] (ax4 N) (by rw[amU];rfl)⟩
def rf:Fx:=⟨84,tab,Kn.l [atm N,nG N,Ac N,IW N],N,f187,[.v dE,.v ph],[.own kN,.v I],[⟨29,[(0,.v dE),(1,.v ph),(6,.own kN),(7,.v I),(8,.obj dk),(10,.v I)],[1,1,1,0,1,0,0,1,0,0,1,1,0,1,0,0],[11]⟩,⟨19,[(0,.v dE),(1,.v ph),(6,.own kN),(7,.v I),(8,.obj dk),(9,.v I)],[1,1,1,0,1,0,0,1,0,0,1,0,1,0,0],[11]⟩,⟨11,[(0,.v dE),(1,.v ph),(6,.own kN),(7,.v I)],[1,1,1,0,1,0,0],[]⟩],none⟩
theorem afP(K ρ):(rf N).bd K ρ 29=fA.HQ N ((rf N).kc ρ 11) ((rf N).kc ρ 29):=κ
theorem afQ(ρ):(rf N).kc ((rf N).cq ρ) 29=fA.KN N ((rf N).kc ρ 11) N:=Fx.uL [] (afP N) ρ (fA.KN N ((rf N).kc ρ 11)) λn ρ' e d=>by rw[e,d 11 rfl];rfl
theorem afR(K ρ):(rf N).bd K ρ 19=fA.vz N ((rf N).kc K 29) ((rf N).kc ρ 11) ((rf N).kc ρ 19):=κ
theorem afS(ρ):(rf N).kc ((rf N).cq ρ) 19=fA.l9 N ((rf N).kc ρ 11) N:=Fx.uL [29] (afR N) ρ (fA.l9 N ((rf N).kc ρ 11)) λn ρ' e d=>by rw[afQ,e,d 11 rfl];rfl
theorem afT(K ρ):(rf N).bd K ρ 11=fA.eo N ((rf N).kc K 19) ((rf N).kc ρ 11):=κ
theorem afU(ρ):(rf N).kc ((rf N).cq ρ) 11=fA.l5 N N:=Fx.uL [19,29] (afT N) ρ (fA.l5 N) λn ρ' e d=>by rw[afS,e];rfl
theorem ax5(K):(rf N).top K=fA.b N ((rf N).kc K 11):=κ
def ax6:Kn prog:=⟨187,(rf N).S false (fA N),Fx.u1 (rf N) aC func187 [11] (ax5 N) (by rw[afU];rfl)⟩
def atn:Fx:=⟨15,tab,Kn.l [nG N,Ac N,IW N],N,f188,[.v dL,.v I],[.v I,.v B],[],none⟩
def amV:Kn prog:=⟨188,(atn N).S true (WO N),Fx.u0 (atn N) aC func188⟩
def ato:Fx:=⟨41,tab,[],N,f221,[.v I,.v I],[.v I,.v B],[],none⟩
def ax7:Kn prog:=⟨221,(ato N).S true (Wy N),Fx.u0 (ato N) aC func221⟩
def Q7:Fx:=⟨51,tab,Kn.l [k94 N,k96 N,ax7 N],N,f212,[.v dE,.v I,.v I],[.own kN,.v I],[⟨23,[(1,.v I),(9,.v I),(11,.own kN),(12,.v I)],[1,1,1,1,1,1,1,0,1,0,0],[]⟩],none⟩
theorem afV(K ρ):(Q7 N).bd K ρ 23=mM.xK N ((Q7 N).kc ρ 23):=κ
theorem afW(ρ):(Q7 N).kc ((Q7 N).cq ρ) 23=mM.zW N N:=Fx.uL [] (afV N) ρ (mM.zW N) λn ρ' e d=>by rw[e];rfl
theorem ax8(K):(Q7 N).top K=mM.b N ((Q7 N).kc K 23):=κ
def atp:Kn prog:=⟨212,(Q7 N).S false (mM N),Fx.u1 (Q7 N) aC func212 [23] (ax8 N) (by rw[afW];rfl)⟩
def Q8:Fx:=⟨33,tab,Kn.l [k95 N],N,f109,[.v fx,.v I],[.own I],[⟨11,[(0,.v fx),(1,.v I),(5,.own I),(6,.v I)],[1,1,1,0,1,0,0],[]⟩],none⟩
theorem afX(K ρ):(Q8 N).bd K ρ 11=sD.eo N ((Q8 N).kc ρ 11):=κ
theorem afY(ρ):(Q8 N).kc ((Q8 N).cq ρ) 11=sD.l5 N N:=Fx.uL [] (afX N) ρ (sD.l5 N) λn ρ' e d=>by rw[e];rfl
theorem ax9(K):(Q8 N).top K=sD.b N ((Q8 N).kc K 11):=κ
def aya:Kn prog:=⟨109,(Q8 N).S false (sD N),Fx.u1 (Q8 N) aC func109 [11] (ax9 N) (by rw[afY];rfl)⟩
def zf:Fx:=⟨48,tab,Kn.l [k45 N],N,f108,[.v lG,.v LI],[.own nh],[⟨19,[(0,.v lG),(1,.v LI),(5,.own nh),(6,.v I),(7,.v B),(8,.v I)],[1,1,1,0,1,0,0,1,0,0,1,0,1,0,0],[11]⟩,⟨11,[(0,.v lG),(1,.v LI),(5,.own nh),(6,.v I)],[1,1,1,0,1,0,0],[]⟩],none⟩
theorem afZ(K ρ):(zf N).bd K ρ 19=gC.vz N ((zf N).kc ρ 11) ((zf N).kc ρ 19):=κ
theorem af0(ρ):(zf N).kc ((zf N).cq ρ) 19=gC.l9 N ((zf N).kc ρ 11) N:=Fx.uL [] (afZ N) ρ (gC.l9 N ((zf N).kc ρ 11)) λn ρ' e d=>by rw[e,d 11 rfl];rfl
theorem af1(K ρ):(zf N).bd K ρ 11=gC.eo N ((zf N).kc K 19) ((zf N).kc ρ 11):=κ
theorem af2(ρ):(zf N).kc ((zf N).cq ρ) 11=gC.l5 N N:=Fx.uL [19] (af1 N) ρ (gC.l5 N) λn ρ' e d=>by rw[af0,e];rfl
theorem ayb(K):(zf N).top K=gC.b N ((zf N).kc K 11):=κ
def ayc:Kn prog:=⟨108,(zf N).S false (gC N),Fx.u1 (zf N) aC func108 [11] (ayb N) (by rw[af2];rfl)⟩
def X54:Fx:=⟨28,tab,Kn.l [yR N,k49 N,aya N,ayc N],N,f54,[.v aA,.v aK,.v I],[.v aK,.v I],[],none⟩
def k54:Kn prog:=⟨54,(X54 N).S false (F54 N),Fx.u0 (X54 N) aC func54⟩
def atq:Fx:=⟨41,tab,[],N,f237,[.v fc],[.v B],[],none⟩
def atr:Kn prog:=⟨237,(atq N).S true (Y3 N),Fx.u0 (atq N) aC func237⟩
def s9:Fx:=⟨67,tab,Kn.l [atr N],N,f222,[.v fx],[.v B],[⟨19,[(0,.v fx),(3,.v I),(4,.v I)],[1,1,0,1,0,0,1,0,0,1,1,0,0],[9]⟩,⟨16,[(0,.v fx),(3,.v I)],[1,1,0,1,0,0,1,0,0,1],[9]⟩,⟨9,[(0,.v fx),(3,.v I)],[1,1,0,1,0,0],[]⟩],none⟩
theorem af3(K ρ):(s9 N).bd K ρ 19=fe.vz N ((s9 N).kc ρ 9) ((s9 N).kc ρ 19):=κ
theorem af4(ρ):(s9 N).kc ((s9 N).cq ρ) 19=fe.l9 N ((s9 N).kc ρ 9) N:=Fx.uL [] (af3 N) ρ (fe.l9 N ((s9 N).kc ρ 9)) λn ρ' e d=>by rw[e,d 9 rfl];rfl
theorem af5(K ρ):(s9 N).bd K ρ 16=fe.Zd N ((s9 N).kc K 19) ((s9 N).kc ρ 9):=κ
theorem af6(ρ):(s9 N).kc ((s9 N).cq ρ) 16=fe.j8 N ((s9 N).kc ρ 9):=Fx.uJ [19] (af5 N) ρ (by rw[af4];rfl)
theorem amW(K ρ):(s9 N).bd K ρ 9=fe.dQ N ((s9 N).kc K 16) ((s9 N).kc ρ 9):=κ
theorem amX(ρ):(s9 N).kc ((s9 N).cq ρ) 9=fe.l4 N N:=Fx.uL [16,19] (amW N) ρ (fe.l4 N) λn ρ' e d=>by rw[af6,e];rfl
theorem ayd(K):(s9 N).top K=fe.b N ((s9 N).kc K 9):=κ
def abd:Kn prog:=⟨222,(s9 N).S true (fe N),Fx.u1 (s9 N) aC func222 [9] (ayd N) (by rw[amX];rfl)⟩
def Q9:Fx:=⟨32,tab,Kn.l [abd N],N,f213,[.v fx,.v I],[.own fc],[⟨11,[(0,.v fx),(1,.v I),(5,.own fc),(6,.v I)],[1,1,1,0,1,0,0],[]⟩],none⟩
theorem af7(K ρ):(Q9 N).bd K ρ 11=p7.eo N ((Q9 N).kc ρ 11):=κ
theorem af8(ρ):(Q9 N).kc ((Q9 N).cq ρ) 11=p7.l5 N N:=Fx.uL [] (af7 N) ρ (p7.l5 N) λn ρ' e d=>by rw[e];rfl
theorem aye(K):(Q9 N).top K=p7.b N ((Q9 N).kc K 11):=κ
def ayf:Kn prog:=⟨213,(Q9 N).S false (p7 N),Fx.u1 (Q9 N) aC func213 [11] (aye N) (by rw[af8];rfl)⟩
def ats:Fx:=⟨66,tab,[],N,f214,[.v dL,.v I],[.v B],[],none⟩
def ayg:Kn prog:=⟨214,(ats N).S true (ady N),Fx.u0 (ats N) aC func214⟩
def att:Fx:=⟨9,tab,Kn.l [k49 N],N,f240,[.v aK,.v I],[.v I],[],none⟩
def af9:Kn prog:=⟨240,(att N).S true (MF N),Fx.u0 (att N) aC func240⟩
def Ra:Fx:=⟨56,tab,Kn.l [ae9 N,nG N,afc N,J0 N,Ac N],N,f266,[.v aA,.v dE,.v B],[.v dk,.v I],[⟨11,[(1,.v dE),(2,.v B),(3,.obj aA),(6,.obj dk),(8,.obj dk),(9,.v I)],[1,1,1,0,1,0,0],[]⟩],none⟩
theorem aga(K ρ):(Ra N).bd K ρ 11=qw.eo N ((Ra N).kc ρ 11):=κ
theorem agb(ρ):(Ra N).kc ((Ra N).cq ρ) 11=qw.l5 N N:=Fx.uL [] (aga N) ρ (qw.l5 N) λn ρ' e d=>by rw[e];rfl
theorem ayh(K):(Ra N).top K=qw.b N ((Ra N).kc K 11):=κ
def atu:Kn prog:=⟨266,(Ra N).S false (qw N),Fx.u1 (Ra N) aC func266 [11] (ayh N) (by rw[agb];rfl)⟩
def atv:Fx:=⟨11,tab,Kn.l [atu N],N,f262,[.v aA,.v dE],[.v dk,.v I],[],none⟩
def ayi:Kn prog:=⟨262,(atv N).S false (ak7 N),Fx.u0 (atv N) aC func262⟩
def atw:Fx:=⟨9,tab,Kn.l [k23 N],N,f242,[.v aK,.v I],[.v I],[],none⟩
def agc:Kn prog:=⟨242,(atw N).S true (SN N),Fx.u0 (atw N) aC func242⟩
def atx:Fx:=⟨69,tab,Kn.l [yR N,Tq N,af9 N,Xh N,ayi N,agc N,nG N,Nc N],N,f238,[.v aA,.v aK,.v I,.v I,.v I],[.v I],[],none⟩
def ayj:Kn prog:=⟨238,(atx N).S true (adk N),Fx.u0 (atx N) aC func238⟩
def Rb:Fx:=⟨61,tab,Kn.l [k42 N,aeI N,k96 N],N,f239,[.v dE,.v fx,.v I,.v I],[.own fc,.v I],[⟨27,[(2,.v I),(3,.v I),(13,.own fc),(14,.v I)],[1,1,1,1,1,1,1,1,0,1,0,0],[]⟩],none⟩
theorem agd(K ρ):(Rb N).bd K ρ 27=oy.lz N ((Rb N).kc ρ 27):=κ
theorem age(ρ):(Rb N).kc ((Rb N).cq ρ) 27=oy.mw N N:=Fx.uL [] (agd N) ρ (oy.mw N) λn ρ' e d=>by rw[e];rfl
theorem ayk(K):(Rb N).top K=oy.b N ((Rb N).kc K 27):=κ
def ayl:Kn prog:=⟨239,(Rb N).S false (oy N),Fx.u1 (Rb N) aC func239 [27] (ayk N) (by rw[age];rfl)⟩
def aty:Fx:=⟨42,tab,Kn.l [ayj N,ayl N],N,f223,[.v aA,.v aK,.v I,.v I,.v I],[.v aK,.v I],[],none⟩
def aym:Kn prog:=⟨223,(aty N).S false (WC N),Fx.u0 (aty N) aC func223⟩
def atz:Fx:=⟨11,tab,Kn.l [atu N],N,f250,[.v aA,.v dE],[.v dk,.v I],[],none⟩
def atA:Kn prog:=⟨250,(atz N).S false (Z3 N),Fx.u0 (atz N) aC func250⟩
def atB:Fx:=⟨55,tab,Kn.l [yR N,Tq N,Xh N,atA N,agc N,IW N],N,f241,[.v aA,.v aK,.v I],[.v I,.v I],[],none⟩
def ayn:Kn prog:=⟨241,(atB N).S true (adv N),Fx.u0 (atB N) aC func241⟩
def Rc:Fx:=⟨76,tab,Kn.l [k73 N],N,f243,[.v cQ,.v I,.v I],[.own jZ],[⟨11,[(0,.v cQ),(1,.v I),(2,.v I),(7,.own jZ),(8,.v I)],[1,1,1,0,1,0,0],[]⟩],none⟩
theorem agf(K ρ):(Rc N).bd K ρ 11=nE.eo N ((Rc N).kc ρ 11):=κ
theorem agh(ρ):(Rc N).kc ((Rc N).cq ρ) 11=nE.l5 N N:=Fx.uL [] (agf N) ρ (nE.l5 N) λn ρ' e d=>by rw[e];rfl
theorem ayo(K):(Rc N).top K=nE.b N ((Rc N).kc K 11):=κ
def ayp:Kn prog:=⟨243,(Rc N).S false (nE N),Fx.u1 (Rc N) aC func243 [11] (ayo N) (by rw[agh];rfl)⟩
def Cc:Fx:=⟨86,tab,Kn.l [yR N,af9 N,ayn N,nG N,abc N,agc N,Ts N,ayp N,QY N],N,f224,[.v aA,.v aK,.v I],[.v aK,.v I],[⟨30,[(2,.v I),(3,.obj aA),(4,.obj aK),(6,.obj aK),(8,.own jZ),(9,.own sR),(10,.v I),(11,.obj fc)],[1,1,1,1,1,0,1,0,0,1,0,0,1,1,1],[17]⟩,⟨17,[(2,.v I),(3,.obj aA),(4,.obj aK),(6,.obj aK),(8,.own jZ),(9,.own sR),(10,.v I)],[1,1,1,1,1,0,1,0,0],[]⟩],none⟩
theorem agi(K ρ):(Cc N).bd K ρ 30=gY.wI N ((Cc N).kc ρ 17):=κ
theorem agj(ρ):(Cc N).kc ((Cc N).cq ρ) 30=gY.Da N ((Cc N).kc ρ 17):=Fx.uJ [] (agi N) ρ
theorem agk(K ρ):(Cc N).bd K ρ 17=gY.D4 N ((Cc N).kc K 30) ((Cc N).kc ρ 17):=κ
theorem agl(ρ):(Cc N).kc ((Cc N).cq ρ) 17=gY.l8 N N:=Fx.uL [30] (agk N) ρ (gY.l8 N) λn ρ' e d=>by rw[agj,e];rfl
theorem ayq(K):(Cc N).top K=gY.b N ((Cc N).kc K 17):=κ
def ayr:Kn prog:=⟨224,(Cc N).S false (gY N),Fx.u1 (Cc N) aC func224 [17] (ayq N) (by rw[agl];rfl)⟩
def Re:Fx:=⟨48,tab,Kn.l [yR N,k22 N,nG N,J0 N,Ac N],N,f244,[.v aA,.v aK],[.own dk,.v I],[⟨11,[(2,.obj aA),(3,.obj aK),(6,.own dk),(7,.v I)],[1,1,1,0,1,0,0],[]⟩],none⟩
theorem agm(K ρ):(Re N).bd K ρ 11=sB.eo N ((Re N).kc ρ 11):=κ
theorem agn(ρ):(Re N).kc ((Re N).cq ρ) 11=sB.l5 N N:=Fx.uL [] (agm N) ρ (sB.l5 N) λn ρ' e d=>by rw[e];rfl
theorem ays(K):(Re N).top K=sB.b N ((Re N).kc K 11):=κ
def ayt:Kn prog:=⟨244,(Re N).S false (sB N),Fx.u1 (Re N) aC func244 [11] (ays N) (by rw[agn];rfl)⟩
def Rf:Fx:=⟨31,tab,Kn.l [k41 N],N,f245,[.v aA,.v I],[.own I],[⟨11,[(1,.v I),(2,.obj aA),(5,.own I),(6,.v I)],[1,1,1,0,1,0,0],[]⟩],none⟩
theorem ago(K ρ):(Rf N).bd K ρ 11=pX.eo N ((Rf N).kc ρ 11):=κ
theorem agp(ρ):(Rf N).kc ((Rf N).cq ρ) 11=pX.l5 N N:=Fx.uL [] (ago N) ρ (pX.l5 N) λn ρ' e d=>by rw[e];rfl
theorem ayu(K):(Rf N).top K=pX.b N ((Rf N).kc K 11):=κ
def ayv:Kn prog:=⟨245,(Rf N).S false (pX N),Fx.u1 (Rf N) aC func245 [11] (ayu N) (by rw[agp];rfl)⟩
def Rg:Fx:=⟨35,tab,Kn.l [aml N],N,f263,[.v LU],[.v LU,.v U],[⟨9,[(0,.v LU),(4,.own U),(5,.v U),(6,.v I)],[1,1,1,0,1,0,0],[]⟩],none⟩
theorem amY(K ρ):(Rg N).bd K ρ 9=qn.dQ N ((Rg N).kc ρ 9):=κ
theorem amZ(ρ):(Rg N).kc ((Rg N).cq ρ) 9=qn.l4 N N:=Fx.uL [] (amY N) ρ (qn.l4 N) λn ρ' e d=>by rw[e];rfl
theorem ayw(K):(Rg N).top K=qn.b N ((Rg N).kc K 9):=κ
def ayx:Kn prog:=⟨263,(Rg N).S false (qn N),Fx.u1 (Rg N) aC func263 [9] (ayw N) (by rw[amZ];rfl)⟩
def Du:Fx:=⟨77,tab,Kn.l [ayx N,Ac N,nG N,Nc N,Tt N,k46 N,Ts N],N,f246,[.v dk,.v dk],[.v dk,.v dk],[⟨19,[(2,.obj dk),(3,.obj dk),(4,.obj dk),(5,.obj dk),(6,.own U),(10,.obj dk),(11,.obj dk),(12,.v I)],[1,1,1,1,0,1,0,0],[]⟩,⟨7,[(2,.obj dk),(3,.obj dk),(4,.obj dk),(5,.obj dk),(6,.own U),(7,.v LU)],[1,1,0,1,0,0],[]⟩],none⟩
theorem agq(K ρ):(Du N).bd K ρ 19=je.vz N ((Du N).kc ρ 19):=κ
theorem agr(ρ):(Du N).kc ((Du N).cq ρ) 19=je.l9 N N:=Fx.uL [] (agq N) ρ (je.l9 N) λn ρ' e d=>by rw[e];rfl
theorem am0(K ρ):(Du N).bd K ρ 7=je.nr N ((Du N).kc K 19) ((Du N).kc ρ 7):=κ
theorem am1(ρ):(Du N).kc ((Du N).cq ρ) 7=je.l3 N N:=Fx.uL [19] (am0 N) ρ (je.l3 N) λn ρ' e d=>by rw[agr,e];rfl
theorem ayy(K):(Du N).top K=je.b N ((Du N).kc K 7):=κ
def atC:Kn prog:=⟨246,(Du N).S false (je N),Fx.u1 (Du N) aC func246 [7,19] (ayy N) (by rw[am1];rfl)⟩
def Cd:Fx:=⟨104,tab,Kn.l [ayt N,ayv N,afc N,nG N,Nc N,atC N,IW N,k46 N],N,f225,[.v aA,.v aK,.v I],[.own fc,.v I],[⟨30,[(2,.v I),(3,.obj aA),(4,.obj aK),(8,.own dk),(10,.own fc),(11,.v I),(12,.own I),(16,.v I)],[1,1,1,1,0,1,0,0,1,0,0,1,1,1,1,1,1],[13]⟩,⟨13,[(2,.v I),(3,.obj aA),(4,.obj aK),(8,.own dk),(10,.own fc),(11,.v I)],[1,1,1,1,0,1,0,0],[]⟩],none⟩
theorem ags(K ρ):(Cd N).bd K ρ 30=jH.wI N ((Cd N).kc ρ 13):=κ
theorem agt(ρ):(Cd N).kc ((Cd N).cq ρ) 30=jH.Da N ((Cd N).kc ρ 13):=Fx.uJ [] (ags N) ρ
theorem agu(K ρ):(Cd N).bd K ρ 13=jH.vu N ((Cd N).kc K 30) ((Cd N).kc ρ 13):=κ
theorem agv(ρ):(Cd N).kc ((Cd N).cq ρ) 13=jH.l6 N N:=Fx.uL [30] (agu N) ρ (jH.l6 N) λn ρ' e d=>by rw[agt,e];rfl
theorem ayz(K):(Cd N).top K=jH.b N ((Cd N).kc K 13):=κ
def ayA:Kn prog:=⟨225,(Cd N).S false (jH N),Fx.u1 (Cd N) aC func225 [13] (ayz N) (by rw[agv];rfl)⟩
def atD:Fx:=⟨41,tab,[],N,f264,[.v fc],[.v B],[],none⟩
def ayB:Kn prog:=⟨264,(atD N).S true (ac2 N),Fx.u0 (atD N) aC func264⟩
def Tu:Fx:=⟨113,tab,Kn.l [yR N,ayB N,atd N,k51 N],N,f247,[.v aA,.v aK,.v fc,.v I,.v I,.v I],[.v aK,.v fc,.v I],[⟨28,[(4,.v I),(6,.obj aA),(7,.obj aK),(8,.obj fc),(12,.obj aK),(13,.obj fc),(17,.obj p9)],[1,1,1,1,1,1,1,1],[]⟩],none⟩
theorem agw(K ρ):(Tu N).bd K ρ 28=qv.ac9 N:=κ
theorem agx(ρ):(Tu N).kc ((Tu N).cq ρ) 28=qv.j14 N:=Fx.uJ [] (agw N) ρ
theorem ayC(K):(Tu N).top K=qv.b N ((Tu N).kc K 28):=κ
def ayD:Kn prog:=⟨247,(Tu N).S false (qv N),Fx.u1 (Tu N) aC func247 [28] (ayC N) (by rw[agx];rfl)⟩
def Rh:Fx:=⟨77,tab,Kn.l [ayD N,aeH N],N,f226,[.v aA,.v dL,.v me],[.v dL,.v jZ],[⟨11,[(3,.obj aA),(4,.obj dL),(5,.obj me),(6,.obj dL),(7,.obj jZ),(8,.own fc),(9,.v B),(10,.v I),(11,.v I)],[1,1,1,1,0,1,0,0],[]⟩],none⟩
theorem agy(K ρ):(Rh N).bd K ρ 11=oD.eo N ((Rh N).kc ρ 11):=κ
theorem agz(ρ):(Rh N).kc ((Rh N).cq ρ) 11=oD.l5 N N:=Fx.uL [] (agy N) ρ (oD.l5 N) λn ρ' e d=>by rw[e];rfl
theorem ayE(K):(Rh N).top K=oD.b N ((Rh N).kc K 11):=κ
def ayF:Kn prog:=⟨226,(Rh N).S false (oD N),Fx.u1 (Rh N) aC func226 [11] (ayE N) (by rw[agz];rfl)⟩
def Ri:Fx:=⟨28,tab,Kn.l [k46 N,nG N,J0 N,Nc N],N,f248,[.v dk,.v I],[.v I],[⟨9,[(1,.v I),(2,.obj dk),(5,.v I)],[1,1,1,0,0,0],[]⟩],none⟩
theorem am2(K ρ):(Ri N).bd K ρ 9=sE.dQ N ((Ri N).kc ρ 9):=κ
theorem am3(ρ):(Ri N).kc ((Ri N).cq ρ) 9=sE.l4 N N:=Fx.uL [] (am2 N) ρ (sE.l4 N) λn ρ' e d=>by rw[e];rfl
theorem ayG(K):(Ri N).top K=sE.b N ((Ri N).kc K 9):=κ
def ayH:Kn prog:=⟨248,(Ri N).S true (sE N),Fx.u1 (Ri N) aC func248 [9] (ayG N) (by rw[am3];rfl)⟩
def Rj:Fx:=⟨24,tab,[],N,f276,[.v I,.v LI],[.v B],[⟨9,[(1,.v LI),(5,.v I)],[1,1,0,1,0,0],[]⟩],none⟩
theorem am4(K ρ):(Rj N).bd K ρ 9=qt.dQ N ((Rj N).kc ρ 9):=κ
theorem am5(ρ):(Rj N).kc ((Rj N).cq ρ) 9=qt.l4 N N:=Fx.uL [] (am4 N) ρ (qt.l4 N) λn ρ' e d=>by rw[e];rfl
theorem ayI(K):(Rj N).top K=qt.b N ((Rj N).kc K 9):=κ
def atE:Kn prog:=⟨276,(Rj N).S true (qt N),Fx.u1 (Rj N) aC func276 [9] (ayI N) (by rw[am5];rfl)⟩
def Rk:Fx:=⟨19,tab,Kn.l [nG N,Ac N],N,f274,[.v LI],[.v dk],[⟨7,[(0,.v LI),(2,.obj dk),(3,.obj dk),(4,.v I)],[1,1,0,1,0,0],[]⟩],none⟩
theorem am6(K ρ):(Rk N).bd K ρ 7=qm.nr N ((Rk N).kc ρ 7):=κ
theorem am7(ρ):(Rk N).kc ((Rk N).cq ρ) 7=qm.l3 N N:=Fx.uL [] (am6 N) ρ (qm.l3 N) λn ρ' e d=>by rw[e];rfl
theorem ayJ(K):(Rk N).top K=qm.b N ((Rk N).kc K 7):=κ
def am8:Kn prog:=⟨274,(Rk N).S false (qm N),Fx.u1 (Rk N) aC func274 [7] (ayJ N) (by rw[am7];rfl)⟩
def ta:Fx:=⟨48,tab,[],N,f277,[.v LI],[.own I],[⟨16,[(0,.v LI),(3,.own I),(4,.v I),(5,.v I)],[1,1,0,1,0,0,1,0,0,1,1],[7]⟩,⟨13,[(0,.v LI),(3,.own I),(4,.v I),(5,.v I)],[1,1,0,1,0,0,1,0,0,1,0,0,0],[7]⟩,⟨7,[(0,.v LI),(3,.own I),(4,.v I)],[1,1,0,1,0,0],[]⟩],none⟩
theorem agA(K ρ):(ta N).bd K ρ 16=gk.Zd N ((ta N).kc ρ 7):=κ
theorem agB(ρ):(ta N).kc ((ta N).cq ρ) 16=gk.j8 N ((ta N).kc ρ 7):=Fx.uJ [] (agA N) ρ
theorem agC(K ρ):(ta N).bd K ρ 13=gk.vu N ((ta N).kc K 16) ((ta N).kc ρ 7) ((ta N).kc ρ 13):=κ
theorem agD(ρ):(ta N).kc ((ta N).cq ρ) 13=gk.l6 N ((ta N).kc ρ 7) N:=Fx.uL [16] (agC N) ρ (gk.l6 N ((ta N).kc ρ 7)) λn ρ' e d=>by rw[agB,e,d 7 rfl];rfl
theorem am9(K ρ):(ta N).bd K ρ 7=gk.nr N ((ta N).kc K 13) ((ta N).kc ρ 7):=κ
theorem ana(ρ):(ta N).kc ((ta N).cq ρ) 7=gk.l3 N N:=Fx.uL [13,16] (am9 N) ρ (gk.l3 N) λn ρ' e d=>by rw[agD,e];rfl
theorem ayK(K):(ta N).top K=gk.b N ((ta N).kc K 7):=κ
def ayL:Kn prog:=⟨277,(ta N).S false (gk N),Fx.u1 (ta N) aC func277 [7] (ayK N) (by rw[ana];rfl)⟩
def yk:Fx:=⟨112,tab,Kn.l [atE N,am8 N,k46 N,IW N,nG N,J0 N,atC N,ayL N],N,f265,[.v I,.v LI],[.own I,.v I],[⟨45,[(9,.own I),(11,.v I),(15,.own I),(16,.v I)],[1,1,1,1,1,1,1,1,1,1,0,1,0,0],[]⟩,⟨29,[(0,.v I),(1,.v LI),(6,.obj dk),(9,.own I),(10,.own I),(11,.v I),(12,.v I)],[1,1,1,1,1,1,1,1,0,1,0,0],[]⟩,⟨12,[(0,.v I),(1,.v LI),(6,.obj dk)],[1,1,1,1],[]⟩],none⟩
theorem agE(K ρ):(yk N).bd K ρ 45=gw.wF N ((yk N).kc ρ 45):=κ
theorem agF(ρ):(yk N).kc ((yk N).cq ρ) 45=gw.xI N N:=Fx.uL [] (agE N) ρ (gw.xI N) λn ρ' e d=>by rw[e];rfl
theorem agG(K ρ):(yk N).bd K ρ 29=gw.HQ N ((yk N).kc K 45) ((yk N).kc ρ 29):=κ
theorem agH(ρ):(yk N).kc ((yk N).cq ρ) 29=gw.KN N N:=Fx.uL [45] (agG N) ρ (gw.KN N) λn ρ' e d=>by rw[agF,e];rfl
theorem agI(K ρ):(yk N).bd K ρ 12=gw.OL N ((yk N).kc K 29):=κ
theorem agJ(ρ):(yk N).kc ((yk N).cq ρ) 12=gw.j6 N:=Fx.uJ [29,45] (agI N) ρ (by rw[agH];rfl)
theorem ayM(K):(yk N).top K=gw.b N ((yk N).kc K 12):=κ
def anb:Kn prog:=⟨265,(yk N).S false (gw N),Fx.u1 (yk N) aC func265 [12,29,45] (ayM N) (by rw[agJ];rfl)⟩
def Rl:Fx:=⟨33,tab,Kn.l [anb N],N,f249,[.v I,.v I],[.own I,.v I],[⟨11,[(0,.v I),(1,.v I),(6,.own I),(7,.v I)],[1,1,1,0,1,0,0],[]⟩],none⟩
theorem agK(K ρ):(Rl N).bd K ρ 11=sx.eo N ((Rl N).kc ρ 11):=κ
theorem agL(ρ):(Rl N).kc ((Rl N).cq ρ) 11=sx.l5 N N:=Fx.uL [] (agK N) ρ (sx.l5 N) λn ρ' e d=>by rw[e];rfl
theorem ayN(K):(Rl N).top K=sx.b N ((Rl N).kc K 11):=κ
def ayO:Kn prog:=⟨249,(Rl N).S false (sx N),Fx.u1 (Rl N) aC func249 [11] (ayN N) (by rw[agL];rfl)⟩
def gm:Fx:=⟨175,tab,Kn.l [yR N,Xh N,nG N,afc N,Ac N,ayH N,ayO N,atA N,Ts N,IW N],N,f227,[.v aA,.v aK,.v I],[.own jW,.v I],[⟨64,[(2,.v I),(3,.obj aA),(8,.own kN),(9,.own jW),(10,.v I),(11,.own kN),(14,.v I),(15,.v I),(16,.gg jW [.gG 1] kN),(17,.v I),(19,.own I)],[1,1,1,1,1,0,1,0,0,1,0,0,1,1,1,1,1,0,0,1,0,0,1,0,1,0,0,1,0,0,1,1,1,1],[17,41,49]⟩,⟨58,[(2,.v I),(3,.obj aA),(8,.own kN),(9,.own jW),(10,.v I),(11,.own kN),(14,.v I),(15,.v I),(16,.gg jW [.gG 1] kN),(17,.v I),(18,.v I)],[1,1,1,1,1,0,1,0,0,1,0,0,1,1,1,1,1,0,0,1,0,0,1,0,1,0,0,1,0,0,1,1],[17,41,49]⟩,⟨49,[(2,.v I),(3,.obj aA),(8,.own kN),(9,.own jW),(10,.v I),(11,.own kN),(14,.v I),(15,.v I),(16,.gg jW [.gG 1] kN),(17,.v I)],[1,1,1,1,1,0,1,0,0,1,0,0,1,1,1,1,1,0,0,1,0,0,1,0,1,0,0],[17,41]⟩,⟨41,[(2,.v I),(3,.obj aA),(8,.own kN),(9,.own jW),(10,.v I),(11,.own kN),(14,.v I),(15,.v I)],[1,1,1,1,1,0,1,0,0,1,0,0,1,1,1,1,1,0,0],[17]⟩,⟨27,[(2,.v I),(3,.obj aA),(8,.own kN),(9,.own jW),(10,.v I),(11,.own kN),(12,.obj dk),(13,.v I)],[1,1,1,1,1,0,1,0,0,1,0,0,1,1,0,1,0,0],[17]⟩,⟨17,[(2,.v I),(3,.obj aA),(8,.own kN),(9,.own jW),(10,.v I)],[1,1,1,1,1,0,1,0,0],[]⟩],some (jW,[.gG 1],kN,[16])⟩
theorem agM(K ρ):(gm N).bd K ρ 64=cm.ak9 N ((gm N).kc ρ 17) ((gm N).kc ρ 41) ((gm N).kc ρ 49):=κ
theorem agN(ρ):(gm N).kc ((gm N).cq ρ) 64=cm.j32 N ((gm N).kc ρ 17) ((gm N).kc ρ 41) ((gm N).kc ρ 49):=Fx.uJ [] (agM N) ρ
theorem agO(K ρ):(gm N).bd K ρ 58=cm.PV N ((gm N).kc K 64) ((gm N).kc ρ 17) ((gm N).kc ρ 41) ((gm N).kc ρ 49):=κ
theorem agP(ρ):(gm N).kc ((gm N).cq ρ) 58=cm.WH N ((gm N).kc ρ 17) ((gm N).kc ρ 41) ((gm N).kc ρ 49):=Fx.uJ [64] (agO N) ρ (by rw[agN];rfl)
theorem agQ(K ρ):(gm N).bd K ρ 49=cm.PN N ((gm N).kc K 58) ((gm N).kc ρ 17) ((gm N).kc ρ 41) ((gm N).kc ρ 49):=κ
theorem agR(ρ):(gm N).kc ((gm N).cq ρ) 49=cm.Nl N ((gm N).kc ρ 17) ((gm N).kc ρ 41) N:=Fx.uL [58,64] (agQ N) ρ (cm.Nl N ((gm N).kc ρ 17) ((gm N).kc ρ 41)) λn ρ' e d=>by rw[agP,e,d 17 rfl,d 41 rfl];rfl
theorem agS(K ρ):(gm N).bd K ρ 41=cm.PU N ((gm N).kc K 49) ((gm N).kc ρ 17) ((gm N).kc ρ 41):=κ
theorem agT(ρ):(gm N).kc ((gm N).cq ρ) 41=cm.JR N ((gm N).kc ρ 17) N:=Fx.uL [49] (agS N) ρ (cm.JR N ((gm N).kc ρ 17)) λn ρ' e d=>by rw[agR,e,d 17 rfl];rfl
theorem agU(K ρ):(gm N).bd K ρ 27=cm.lz N ((gm N).kc K 41) ((gm N).kc ρ 17) ((gm N).kc ρ 27):=κ
theorem agV(ρ):(gm N).kc ((gm N).cq ρ) 27=cm.mw N ((gm N).kc ρ 17) N:=Fx.uL [41] (agU N) ρ (cm.mw N ((gm N).kc ρ 17)) λn ρ' e d=>by rw[agT,e,d 17 rfl];rfl
theorem agW(K ρ):(gm N).bd K ρ 17=cm.D4 N ((gm N).kc K 27) ((gm N).kc ρ 17):=κ
theorem agX(ρ):(gm N).kc ((gm N).cq ρ) 17=cm.l8 N N:=Fx.uL [27,41] (agW N) ρ (cm.l8 N) λn ρ' e d=>by rw[agV,e];rfl
theorem ayP(K):(gm N).top K=cm.b N ((gm N).kc K 17):=κ
def ayQ:Kn prog:=⟨227,(gm N).S false (cm N),Fx.u1 (gm N) aC func227 [17] (ayP N) (by rw[agX];rfl)⟩
def Rm:Fx:=⟨48,tab,Kn.l [yR N,k23 N],N,f228,[.v aA,.v aK],[.own I,.v I],[⟨11,[(3,.obj aK),(6,.own I),(7,.v I)],[1,1,1,0,1,0,0],[]⟩],none⟩
theorem agY(K ρ):(Rm N).bd K ρ 11=sF.eo N ((Rm N).kc ρ 11):=κ
theorem agZ(ρ):(Rm N).kc ((Rm N).cq ρ) 11=sF.l5 N N:=Fx.uL [] (agY N) ρ (sF.l5 N) λn ρ' e d=>by rw[e];rfl
theorem ayR(K):(Rm N).top K=sF.b N ((Rm N).kc K 11):=κ
def ayS:Kn prog:=⟨228,(Rm N).S false (sF N),Fx.u1 (Rm N) aC func228 [11] (ayR N) (by rw[agZ];rfl)⟩
def Ce:Fx:=⟨99,tab,Kn.l [k41 N,ae9 N],N,f252,[.v aA,.v mN],[.v B],[⟨18,[(1,.v mN),(2,.obj aA),(5,.v I),(6,.obj jW)],[1,1,0,1,0,0,1,0,0,1,1],[9]⟩,⟨9,[(1,.v mN),(2,.obj aA),(5,.v I)],[1,1,0,1,0,0],[]⟩],none⟩
theorem ag0(K ρ):(Ce N).bd K ρ 18=jG.JA N ((Ce N).kc ρ 9):=κ
theorem ag1(ρ):(Ce N).kc ((Ce N).cq ρ) 18=jG.j9 N ((Ce N).kc ρ 9):=Fx.uJ [] (ag0 N) ρ
theorem anc(K ρ):(Ce N).bd K ρ 9=jG.dQ N ((Ce N).kc K 18) ((Ce N).kc ρ 9):=κ
theorem ane(ρ):(Ce N).kc ((Ce N).cq ρ) 9=jG.l4 N N:=Fx.uL [18] (anc N) ρ (jG.l4 N) λn ρ' e d=>by rw[ag1,e];rfl
theorem ayT(K):(Ce N).top K=jG.b N ((Ce N).kc K 9):=κ
def anf:Kn prog:=⟨252,(Ce N).S true (jG N),Fx.u1 (Ce N) aC func252 [9] (ayT N) (by rw[ane];rfl)⟩
def Rn:Fx:=⟨25,tab,[],N,f267,[.v mN,.v I],[.v jW,.v B],[⟨5,[(0,.v mN),(1,.v I),(4,.obj jW),(6,.v I)],[1,0,1,0,0],[]⟩],none⟩
theorem ang(K ρ):(Rn N).bd K ρ 5=q4.fM N ((Rn N).kc ρ 5):=κ
theorem anh(ρ):(Rn N).kc ((Rn N).cq ρ) 5=q4.l2 N N:=Fx.uL [] (ang N) ρ (q4.l2 N) λn ρ' e d=>by rw[e];rfl
theorem ayU(K):(Rn N).top K=q4.b N ((Rn N).kc K 5):=κ
def atG:Kn prog:=⟨267,(Rn N).S false (q4 N),Fx.u1 (Rn N) aC func267 [5] (ayU N) (by rw[anh];rfl)⟩
def ri:Fx:=⟨75,tab,Kn.l [nG N,Ac N,asS N],N,f268,[.v dE,.v dE],[.own kN,.v B],[⟨25,[(0,.v dE),(1,.v dE),(6,.own kN),(7,.v I),(8,.obj dk),(10,.v I)],[1,1,0,1,0,0,1,0,0,1,1,0,1,0,0],[7]⟩,⟨15,[(0,.v dE),(1,.v dE),(6,.own kN),(7,.v I),(8,.obj dk),(9,.v I)],[1,1,0,1,0,0,1,0,0,1,0,1,0,0],[7]⟩,⟨7,[(0,.v dE),(1,.v dE),(6,.own kN),(7,.v I)],[1,1,0,1,0,0],[]⟩],none⟩
theorem ag2(K ρ):(ri N).bd K ρ 25=fB.nD N ((ri N).kc ρ 7) ((ri N).kc ρ 25):=κ
theorem ag3(ρ):(ri N).kc ((ri N).cq ρ) 25=fB.oH N ((ri N).kc ρ 7) N:=Fx.uL [] (ag2 N) ρ (fB.oH N ((ri N).kc ρ 7)) λn ρ' e d=>by rw[e,d 7 rfl];rfl
theorem ag4(K ρ):(ri N).bd K ρ 15=fB.oJ N ((ri N).kc K 25) ((ri N).kc ρ 7) ((ri N).kc ρ 15):=κ
theorem ag5(ρ):(ri N).kc ((ri N).cq ρ) 15=fB.l7 N ((ri N).kc ρ 7) N:=Fx.uL [25] (ag4 N) ρ (fB.l7 N ((ri N).kc ρ 7)) λn ρ' e d=>by rw[ag3,e,d 7 rfl];rfl
theorem ani(K ρ):(ri N).bd K ρ 7=fB.nr N ((ri N).kc K 15) ((ri N).kc ρ 7):=κ
theorem anj(ρ):(ri N).kc ((ri N).cq ρ) 7=fB.l3 N N:=Fx.uL [15,25] (ani N) ρ (fB.l3 N) λn ρ' e d=>by rw[ag5,e];rfl
theorem ayV(K):(ri N).top K=fB.b N ((ri N).kc K 7):=κ
def ayW:Kn prog:=⟨268,(ri N).S false (fB N),Fx.u1 (ri N) aC func268 [7] (ayV N) (by rw[anj];rfl)⟩
def atH:Fx:=⟨11,tab,Kn.l [k45 N,amM N],N,f269,[.v lG,.v I],[.own jZ],[],none⟩
def ayX:Kn prog:=⟨269,(atH N).S false (ak8 N),Fx.u0 (atH N) aC func269⟩
def Ff:Fx:=⟨157,tab,Kn.l [yR N,anf N,abd N,atr N,af9 N,atG N,aba N,nG N,J0 N,Nc N,Xh N,ayW N,ayX N,as5 N,agc N,Tt N],N,f251,[.v aA,.v aK,.v mN,.v fx,.v fc],[.v I],[⟨27,[(3,.v fx),(5,.obj aA),(6,.obj aK),(9,.obj fc),(12,.obj jW),(14,.v I),(15,.v I)],[1,1,1,1,1,1,1,1,0,1,0,0],[]⟩,⟨6,[(2,.v mN),(3,.v fx),(5,.obj aA),(6,.obj aK),(9,.obj fc)],[1,1],[]⟩],none⟩
theorem ag6(K ρ):(Ff N).bd K ρ 27=lX.lz N ((Ff N).kc ρ 27):=κ
theorem ag7(ρ):(Ff N).kc ((Ff N).cq ρ) 27=lX.mw N N:=Fx.uL [] (ag6 N) ρ (lX.mw N) λn ρ' e d=>by rw[e];rfl
theorem ank(K ρ):(Ff N).bd K ρ 6=lX.j3b N ((Ff N).kc K 27):=κ
theorem anl(ρ):(Ff N).kc ((Ff N).cq ρ) 6=lX.j3 N:=Fx.uJ [27] (ank N) ρ (by rw[ag7];rfl)
theorem ayY(K):(Ff N).top K=lX.b N ((Ff N).kc K 6):=κ
def ayZ:Kn prog:=⟨251,(Ff N).S true (lX N),Fx.u1 (Ff N) aC func251 [6,27] (ayY N) (by rw[anl];rfl)⟩
def atI:Fx:=⟨28,tab,Kn.l [ayZ N],N,f229,[.v aA,.v aK,.v mN,.v fx,.v fc],[.own fc,.v I],[],none⟩
def ay0:Kn prog:=⟨229,(atI N).S false (adm N),Fx.u0 (atI N) aC func229⟩
def Ro:Fx:=⟨46,tab,Kn.l [abd N],N,f253,[.v fx,.v I],[.v fc,.v B],[⟨13,[(0,.v fx),(1,.v I),(4,.obj fc),(6,.obj fc),(7,.v B),(8,.v I)],[1,1,1,1,0,1,0,0],[]⟩],none⟩
theorem ag8(K ρ):(Ro N).bd K ρ 13=sK.vu N ((Ro N).kc ρ 13):=κ
theorem ag9(ρ):(Ro N).kc ((Ro N).cq ρ) 13=sK.l6 N N:=Fx.uL [] (ag8 N) ρ (sK.l6 N) λn ρ' e d=>by rw[e];rfl
theorem ay1(K):(Ro N).top K=sK.b N ((Ro N).kc K 13):=κ
def ay2:Kn prog:=⟨253,(Ro N).S true (sK N),Fx.u1 (Ro N) aC func253 [13] (ay1 N) (by rw[ag9];rfl)⟩
def zg:Fx:=⟨158,tab,Kn.l [yR N,anf N,abd N,ay2 N,aba N,af9 N,nG N,abc N,QY N],N,f230,[.v aA,.v aK,.v mN,.v fx],[.v aK,.own jW,.v I],[⟨45,[(2,.v mN),(3,.v fx),(5,.obj aK),(8,.obj aK),(11,.own jZ),(12,.own sR),(13,.own jW),(14,.v I),(15,.obj jW),(16,.obj fc),(18,.v I),(19,.v I)],[1,1,1,1,1,0,1,0,0,1,0,0,1,1,1,1,1,1,1,1,0,1,0,0],[15]⟩,⟨15,[(2,.v mN),(3,.v fx),(5,.obj aK),(8,.obj aK),(11,.own jZ),(12,.own sR),(13,.own jW),(14,.v I)],[1,1,1,1,1,0,1,0,0],[]⟩],none⟩
theorem aha(K ρ):(zg N).bd K ρ 45=gu.wF N ((zg N).kc ρ 15) ((zg N).kc ρ 45):=κ
theorem ahb(ρ):(zg N).kc ((zg N).cq ρ) 45=gu.xI N ((zg N).kc ρ 15) N:=Fx.uL [] (aha N) ρ (gu.xI N ((zg N).kc ρ 15)) λn ρ' e d=>by rw[e,d 15 rfl];rfl
theorem ahc(K ρ):(zg N).bd K ρ 15=gu.oJ N ((zg N).kc K 45) ((zg N).kc ρ 15):=κ
theorem ahd(ρ):(zg N).kc ((zg N).cq ρ) 15=gu.l7 N N:=Fx.uL [45] (ahc N) ρ (gu.l7 N) λn ρ' e d=>by rw[ahb,e];rfl
theorem ay3(K):(zg N).top K=gu.b N ((zg N).kc K 15):=κ
def ay4:Kn prog:=⟨230,(zg N).S false (gu N),Fx.u1 (zg N) aC func230 [15] (ay3 N) (by rw[ahd];rfl)⟩
def Rp:Fx:=⟨58,tab,[],N,f254,[.v dE],[.v B],[⟨5,[(0,.v dE),(3,.v I)],[1,0,1,0,0],[]⟩],none⟩
theorem anm(K ρ):(Rp N).bd K ρ 5=p8.fM N ((Rp N).kc ρ 5):=κ
theorem ann(ρ):(Rp N).kc ((Rp N).cq ρ) 5=p8.l2 N N:=Fx.uL [] (anm N) ρ (p8.l2 N) λn ρ' e d=>by rw[e];rfl
theorem ay5(K):(Rp N).top K=p8.b N ((Rp N).kc K 5):=κ
def ahe:Kn prog:=⟨254,(Rp N).S true (p8 N),Fx.u1 (Rp N) aC func254 [5] (ay5 N) (by rw[ann];rfl)⟩
def Rq:Fx:=⟨38,tab,[],N,f255,[.v LI],[.v B],[⟨5,[(0,.v LI),(3,.v I)],[1,0,1,0,0],[]⟩],none⟩
theorem ano(K ρ):(Rq N).bd K ρ 5=sG.fM N ((Rq N).kc ρ 5):=κ
theorem anp(ρ):(Rq N).kc ((Rq N).cq ρ) 5=sG.l2 N N:=Fx.uL [] (ano N) ρ (sG.l2 N) λn ρ' e d=>by rw[e];rfl
theorem ay6(K):(Rq N).top K=sG.b N ((Rq N).kc K 5):=κ
def ay7:Kn prog:=⟨255,(Rq N).S true (sG N),Fx.u1 (Rq N) aC func255 [5] (ay6 N) (by rw[anp];rfl)⟩
def Dv:Fx:=⟨72,tab,Kn.l [atG N],N,f256,[.v I,.v mN,.v fx],[.v I],[⟨25,[(0,.v I),(1,.v mN),(7,.v I),(12,.v I)],[1,1,1,0,1,0,0],[]⟩,⟨7,[(0,.v I),(1,.v mN),(2,.v fx),(7,.v I),(8,.v I)],[1,1,0,1,0,0],[]⟩],none⟩
theorem ahf(K ρ):(Dv N).bd K ρ 25=ke.nD N ((Dv N).kc ρ 25):=κ
theorem ahg(ρ):(Dv N).kc ((Dv N).cq ρ) 25=ke.oH N N:=Fx.uL [] (ahf N) ρ (ke.oH N) λn ρ' e d=>by rw[e];rfl
theorem anq(K ρ):(Dv N).bd K ρ 7=ke.nr N ((Dv N).kc K 25) ((Dv N).kc ρ 7):=κ
theorem anr(ρ):(Dv N).kc ((Dv N).cq ρ) 7=ke.l3 N N:=Fx.uL [25] (anq N) ρ (ke.l3 N) λn ρ' e d=>by rw[ahg,e];rfl
theorem ay8(K):(Dv N).top K=ke.b N ((Dv N).kc K 7):=κ
def ay9:Kn prog:=⟨256,(Dv N).S true (ke N),Fx.u1 (Dv N) aC func256 [7,25] (ay8 N) (by rw[anr];rfl)⟩
def mO:Fx:=⟨104,tab,Kn.l [ahe N,ay7 N,anf N,abd N,ay9 N],N,f231,[.v aA,.v dE,.v LI,.v mN,.v fx],[.own kN,.v I],[⟨37,[(1,.v dE),(2,.v LI),(3,.v mN),(4,.v fx),(12,.own kN),(13,.v I),(14,.v I),(15,.v B),(18,.v I)],[1,1,1,0,1,0,0,1,0,0,1,1,1,0,1,0,0],[11]⟩,⟨29,[(1,.v dE),(2,.v LI),(3,.v mN),(4,.v fx),(12,.own kN),(13,.v I),(14,.v I),(15,.v B),(17,.v I)],[1,1,1,0,1,0,0,1,0,0,1,1,0,1,0,0],[11]⟩,⟨19,[(1,.v dE),(2,.v LI),(3,.v mN),(4,.v fx),(12,.own kN),(13,.v I),(14,.v I),(15,.v B),(16,.v I)],[1,1,1,0,1,0,0,1,0,0,1,0,1,0,0],[11]⟩,⟨11,[(1,.v dE),(2,.v LI),(3,.v mN),(4,.v fx),(12,.own kN),(13,.v I)],[1,1,1,0,1,0,0],[]⟩],none⟩
theorem ahh(K ρ):(mO N).bd K ρ 37=dO.E6 N ((mO N).kc ρ 11) ((mO N).kc ρ 37):=κ
theorem ahi(ρ):(mO N).kc ((mO N).cq ρ) 37=dO.Ja N ((mO N).kc ρ 11) N:=Fx.uL [] (ahh N) ρ (dO.Ja N ((mO N).kc ρ 11)) λn ρ' e d=>by rw[e,d 11 rfl];rfl
theorem ahj(K ρ):(mO N).bd K ρ 29=dO.HQ N ((mO N).kc K 37) ((mO N).kc ρ 11) ((mO N).kc ρ 29):=κ
theorem ahk(ρ):(mO N).kc ((mO N).cq ρ) 29=dO.KN N ((mO N).kc ρ 11) N:=Fx.uL [37] (ahj N) ρ (dO.KN N ((mO N).kc ρ 11)) λn ρ' e d=>by rw[ahi,e,d 11 rfl];rfl
theorem ahl(K ρ):(mO N).bd K ρ 19=dO.vz N ((mO N).kc K 29) ((mO N).kc ρ 11) ((mO N).kc ρ 19):=κ
theorem ahm(ρ):(mO N).kc ((mO N).cq ρ) 19=dO.l9 N ((mO N).kc ρ 11) N:=Fx.uL [29,37] (ahl N) ρ (dO.l9 N ((mO N).kc ρ 11)) λn ρ' e d=>by rw[ahk,e,d 11 rfl];rfl
theorem ahn(K ρ):(mO N).bd K ρ 11=dO.eo N ((mO N).kc K 19) ((mO N).kc ρ 11):=κ
theorem aho(ρ):(mO N).kc ((mO N).cq ρ) 11=dO.l5 N N:=Fx.uL [19,29,37] (ahn N) ρ (dO.l5 N) λn ρ' e d=>by rw[ahm,e];rfl
theorem aza(K):(mO N).top K=dO.b N ((mO N).kc K 11):=κ
def azb:Kn prog:=⟨231,(mO N).S false (dO N),Fx.u1 (mO N) aC func231 [11] (aza N) (by rw[aho];rfl)⟩
def atJ:Fx:=⟨28,tab,Kn.l [k23 N],N,f270,[.own p9,.v aK,.v I,.v I,.v I],[.own p9],[],none⟩
def azc:Kn prog:=⟨270,(atJ N).S false (MI N),Fx.u0 (atJ N) aC func270⟩
def atK:Fx:=⟨9,tab,[],N,f272,[.v I],[.v B],[],none⟩
def atL:Kn prog:=⟨272,(atK N).S true (Z6 N),Fx.u0 (atK N) aC func272⟩
def Rr:Fx:=⟨27,tab,Kn.l [ahe N],N,f278,[.v dE,.v I],[.v I],[⟨9,[(0,.v dE),(1,.v I),(5,.v I)],[1,1,0,1,0,0],[]⟩],none⟩
theorem ans(K ρ):(Rr N).bd K ρ 9=sH.dQ N ((Rr N).kc ρ 9):=κ
theorem ant(ρ):(Rr N).kc ((Rr N).cq ρ) 9=sH.l4 N N:=Fx.uL [] (ans N) ρ (sH.l4 N) λn ρ' e d=>by rw[e];rfl
theorem azd(K):(Rr N).top K=sH.b N ((Rr N).kc K 9):=κ
def aze:Kn prog:=⟨278,(Rr N).S true (sH N),Fx.u1 (Rr N) aC func278 [9] (azd N) (by rw[ant];rfl)⟩
def Rs:Fx:=⟨67,tab,Kn.l [yR N,ahe N,atL N,k23 N,aze N],N,f271,[.v aA,.v aK,.v dE,.v I,.v I],[.own I,.v I],[⟨11,[(2,.v dE),(3,.v I),(4,.v I),(6,.obj aK),(12,.own I),(13,.v I)],[1,1,1,0,1,0,0],[]⟩],none⟩
theorem ahp(K ρ):(Rs N).bd K ρ 11=sI.eo N ((Rs N).kc ρ 11):=κ
theorem ahq(ρ):(Rs N).kc ((Rs N).cq ρ) 11=sI.l5 N N:=Fx.uL [] (ahp N) ρ (sI.l5 N) λn ρ' e d=>by rw[e];rfl
theorem azf(K):(Rs N).top K=sI.b N ((Rs N).kc K 11):=κ
def azg:Kn prog:=⟨271,(Rs N).S false (sI N),Fx.u1 (Rs N) aC func271 [11] (azf N) (by rw[ahq];rfl)⟩
def nH:Fx:=⟨188,tab,Kn.l [yR N,ahe N,atm N,k49 N,aba N,azc N,azg N,atL N,nG N,k23 N,J0 N,IW N,Tq N],N,f257,[.v aA,.v aK,.v I,.v dE,.v dE],[.own p9,.v I],[⟨33,[(2,.v I),(3,.v dE),(4,.v dE),(5,.obj aA),(6,.obj aK),(12,.own p9),(14,.v I),(15,.own I),(17,.v I)],[1,1,1,1,1,1,1,0,1,0,0,1,0,0,1,1,0,0],[25]⟩,⟨61,[(2,.v I),(4,.v dE),(6,.obj aK),(12,.own p9),(22,.v I)],[1,1,1,1,1,1,1,1,1,0,1,0,0],[]⟩,⟨41,[(2,.v I),(4,.v dE),(5,.obj aA),(6,.obj aK),(12,.own p9),(18,.v I)],[1,1,1,1,1,1,1,1,0,1,0,0],[]⟩,⟨25,[(2,.v I),(3,.v dE),(4,.v dE),(5,.obj aA),(6,.obj aK),(12,.own p9),(14,.v I)],[1,1,1,1,1,1,1,0,1,0,0],[]⟩,⟨18,[(2,.v I),(3,.v dE),(4,.v dE),(5,.obj aA),(6,.obj aK),(12,.own p9)],[1,1,1,1,1],[]⟩],none⟩
theorem ahr(K ρ):(nH N).bd K ρ 33=c3.wE N ((nH N).kc ρ 25) ((nH N).kc ρ 33):=κ
theorem ahs(ρ):(nH N).kc ((nH N).cq ρ) 33=c3.xH N ((nH N).kc ρ 25) N:=Fx.uL [41,61] (ahr N) ρ (c3.xH N ((nH N).kc ρ 25)) λn ρ' e d=>by rw[e,d 25 rfl];rfl
theorem aht(K ρ):(nH N).bd K ρ 61=c3.Mj N ((nH N).kc ρ 61):=κ
theorem ahu(ρ):(nH N).kc ((nH N).cq ρ) 61=c3.O4 N N:=Fx.uL [] (aht N) ρ (c3.O4 N) λn ρ' e d=>by rw[e];rfl
theorem ahv(K ρ):(nH N).bd K ρ 41=c3.PU N ((nH N).kc K 61) ((nH N).kc ρ 41):=κ
theorem ahw(ρ):(nH N).kc ((nH N).cq ρ) 41=c3.JR N N:=Fx.uL [61] (ahv N) ρ (c3.JR N) λn ρ' e d=>by rw[ahu,e];rfl
theorem ahx(K ρ):(nH N).bd K ρ 25=c3.nD N ((nH N).kc K 33) ((nH N).kc K 41) ((nH N).kc ρ 25):=κ
theorem ahy(ρ):(nH N).kc ((nH N).cq ρ) 25=c3.oH N N:=Fx.uL [41,61,33] (ahx N) ρ (c3.oH N) λn ρ' e d=>by rw[ahs,ahw,e];rfl
theorem ahz(K ρ):(nH N).bd K ρ 18=c3.JA N ((nH N).kc K 25):=κ
theorem ahA(ρ):(nH N).kc ((nH N).cq ρ) 18=c3.j9 N:=Fx.uJ [25,41,61] (ahz N) ρ (by rw[ahy];rfl)
theorem azh(K):(nH N).top K=c3.b N ((nH N).kc K 18):=κ
def azi:Kn prog:=⟨257,(nH N).S false (c3 N),Fx.u1 (nH N) aC func257 [18,25,41,61] (azh N) (by rw[ahA];rfl)⟩
def atM:Fx:=⟨19,tab,Kn.l [yR N,k23 N],N,f258,[.v aA,.v aK],[.v I,.v I],[],none⟩
def azj:Kn prog:=⟨258,(atM N).S true (ado N),Fx.u0 (atM N) aC func258⟩
def Rt:Fx:=⟨97,tab,Kn.l [k97 N],N,f273,[.v yj],[.v B],[⟨9,[(0,.v yj),(3,.v I)],[1,1,0,1,0,0],[]⟩],none⟩
theorem anu(K ρ):(Rt N).bd K ρ 9=sJ.dQ N ((Rt N).kc ρ 9):=κ
theorem anv(ρ):(Rt N).kc ((Rt N).cq ρ) 9=sJ.l4 N N:=Fx.uL [] (anu N) ρ (sJ.l4 N) λn ρ' e d=>by rw[e];rfl
theorem azk(K):(Rt N).top K=sJ.b N ((Rt N).kc K 9):=κ
def azl:Kn prog:=⟨273,(Rt N).S true (sJ N),Fx.u1 (Rt N) aC func273 [9] (azk N) (by rw[anv];rfl)⟩
def nI:Fx:=⟨106,tab,Kn.l [azl N,am8 N,IW N,anb N],N,f259,[.v yj,.v I],[.own p9,.v I,.v I],[⟨37,[(7,.own p9),(8,.v I),(9,.v I),(10,.v I),(14,.own I),(16,.v I)],[1,1,1,0,1,0,0,1,0,1,1,1,1,1,1,1,0,1,0,0],[11]⟩,⟨22,[(7,.own p9),(8,.v I),(9,.v I),(10,.v I),(11,.own I)],[1,1,1,0,1,0,0,1,0,1,1,1],[11]⟩,⟨17,[(7,.own p9),(8,.v I),(9,.v I),(10,.v I),(11,.own I)],[1,1,1,0,1,0,0,1,0,1,1,0,0,0],[11]⟩,⟨11,[(7,.own p9),(8,.v I),(9,.v I)],[1,1,1,0,1,0,0],[]⟩],none⟩
theorem ahB(K ρ):(nI N).bd K ρ 37=dX.E6 N ((nI N).kc ρ 11) ((nI N).kc ρ 37):=κ
theorem ahC(ρ):(nI N).kc ((nI N).cq ρ) 37=dX.Ja N ((nI N).kc ρ 11) N:=Fx.uL [] (ahB N) ρ (dX.Ja N ((nI N).kc ρ 11)) λn ρ' e d=>by rw[e,d 11 rfl];rfl
theorem ahD(K ρ):(nI N).bd K ρ 22=dX.xV N ((nI N).kc K 37) ((nI N).kc ρ 11):=κ
theorem ahE(ρ):(nI N).kc ((nI N).cq ρ) 22=dX.E5 N ((nI N).kc ρ 11):=Fx.uJ [37] (ahD N) ρ (by rw[ahC];rfl)
theorem ahF(K ρ):(nI N).bd K ρ 17=dX.D4 N ((nI N).kc K 22) ((nI N).kc ρ 11) ((nI N).kc ρ 17):=κ
theorem ahG(ρ):(nI N).kc ((nI N).cq ρ) 17=dX.l8 N ((nI N).kc ρ 11) N:=Fx.uL [22,37] (ahF N) ρ (dX.l8 N ((nI N).kc ρ 11)) λn ρ' e d=>by rw[ahE,e,d 11 rfl];rfl
theorem ahH(K ρ):(nI N).bd K ρ 11=dX.eo N ((nI N).kc K 17) ((nI N).kc ρ 11):=κ
theorem ahI(ρ):(nI N).kc ((nI N).cq ρ) 11=dX.l5 N N:=Fx.uL [17,22,37] (ahH N) ρ (dX.l5 N) λn ρ' e d=>by rw[ahG,e];rfl
theorem azm(K):(nI N).top K=dX.b N ((nI N).kc K 11):=κ
def azn:Kn prog:=⟨259,(nI N).S false (dX N),Fx.u1 (nI N) aC func259 [11] (azm N) (by rw[ahI];rfl)⟩
def atN:Fx:=⟨14,tab,Kn.l [yR N,k23 N],N,f260,[.v aA,.v aK],[.v I,.v I],[],none⟩
def azo:Kn prog:=⟨260,(atN N).S true (adp N),Fx.u0 (atN N) aC func260⟩
def Fg:Fx:=⟨156,tab,Kn.l [azi N,azj N,azn N,nG N,abc N,azo N,aba N,QY N],N,f232,[.v aA,.v aK,.v I,.v dE,.v dE],[.v aK,.v iq,.v I],[⟨52,[(6,.obj aK),(10,.obj aK),(11,.obj iq),(18,.own sR),(19,.gg iq [.gG 2] p9),(21,.v I),(23,.v I),(24,.v I)],[1,1,1,1,1,1,1,1,1,1,1,1,1,1,1],[]⟩,⟨31,[(2,.v I),(5,.obj aA),(6,.obj aK),(10,.obj aK),(11,.obj iq),(13,.own p9),(17,.v I),(18,.own sR),(19,.gg iq [.gG 2] p9),(20,.v I)],[1,1,1,1,1,1,1,1,1,1,0,1,0,0],[]⟩],some (iq,[.gG 2],p9,[19])⟩
theorem ahJ(K ρ):(Fg N).bd K ρ 52=iY.ads N:=κ
theorem ahK(ρ):(Fg N).kc ((Fg N).cq ρ) 52=iY.j26 N:=Fx.uJ [] (ahJ N) ρ
theorem ahL(K ρ):(Fg N).bd K ρ 31=iY.JJ N ((Fg N).kc K 52) ((Fg N).kc ρ 31):=κ
theorem ahM(ρ):(Fg N).kc ((Fg N).cq ρ) 31=iY.Kx N N:=Fx.uL [52] (ahL N) ρ (iY.Kx N) λn ρ' e d=>by rw[ahK,e];rfl
theorem azp(K):(Fg N).top K=iY.b N ((Fg N).kc K 31):=κ
def azq:Kn prog:=⟨232,(Fg N).S false (iY N),Fx.u1 (Fg N) aC func232 [31,52] (azp N) (by rw[ahM];rfl)⟩
def rj:Fx:=⟨129,tab,Kn.l [atE N,am8 N,IW N,anb N],N,f275,[.v I,.v LI,.v LI],[.own I,.v I,.v I],[⟨39,[(1,.v LI),(2,.v LI),(11,.own I),(12,.v I),(13,.v I),(17,.own I),(19,.v I)],[1,1,1,1,0,1,0,0,1,0,0,1,1,1,1,1,0,0],[17]⟩,⟨25,[(1,.v LI),(2,.v LI),(11,.own I),(12,.v I),(13,.v I),(14,.own I),(15,.v B),(16,.v I)],[1,1,1,1,0,1,0,0,1,0,0,1,0,1,0,0],[17]⟩,⟨17,[(1,.v LI),(2,.v LI),(11,.own I),(12,.v I),(13,.v I)],[1,1,1,1,0,1,0,0],[]⟩],none⟩
theorem ahN(K ρ):(rj N).bd K ρ 39=fk.Sm N ((rj N).kc ρ 17) ((rj N).kc ρ 39):=κ
theorem ahO(ρ):(rj N).kc ((rj N).cq ρ) 39=fk.Wb N ((rj N).kc ρ 17) N:=Fx.uL [] (ahN N) ρ (fk.Wb N ((rj N).kc ρ 17)) λn ρ' e d=>by rw[e,d 17 rfl];rfl
theorem ahP(K ρ):(rj N).bd K ρ 25=fk.nD N ((rj N).kc K 39) ((rj N).kc ρ 17) ((rj N).kc ρ 25):=κ
theorem ahQ(ρ):(rj N).kc ((rj N).cq ρ) 25=fk.oH N ((rj N).kc ρ 17) N:=Fx.uL [39] (ahP N) ρ (fk.oH N ((rj N).kc ρ 17)) λn ρ' e d=>by rw[ahO,e,d 17 rfl];rfl
theorem ahR(K ρ):(rj N).bd K ρ 17=fk.D4 N ((rj N).kc K 25) ((rj N).kc ρ 17):=κ
theorem ahS(ρ):(rj N).kc ((rj N).cq ρ) 17=fk.l8 N N:=Fx.uL [25,39] (ahR N) ρ (fk.l8 N) λn ρ' e d=>by rw[ahQ,e];rfl
theorem azr(K):(rj N).top K=fk.b N ((rj N).kc K 17):=κ
def azs:Kn prog:=⟨275,(rj N).S false (fk N),Fx.u1 (rj N) aC func275 [17] (azr N) (by rw[ahS];rfl)⟩
def Dw:Fx:=⟨127,tab,Kn.l [yR N,k22 N,azs N],N,f261,[.v aA,.v aK,.v I],[.own jZ,.v I],[⟨43,[(2,.v I),(8,.v I),(9,.own I),(13,.own I),(16,.own jZ),(17,.v I)],[1,1,1,1,1,1,1,1,1,1,1,0,1,0,0],[]⟩,⟨23,[(2,.v I),(4,.obj aK),(8,.v I),(9,.own I),(10,.own I),(11,.v I)],[1,1,1,1,1,1,1,0,1,0,0],[]⟩],none⟩
theorem ahT(K ρ):(Dw N).bd K ρ 43=gl.Z7 N ((Dw N).kc ρ 43):=κ
theorem ahU(ρ):(Dw N).kc ((Dw N).cq ρ) 43=gl.WM N N:=Fx.uL [] (ahT N) ρ (gl.WM N) λn ρ' e d=>by rw[e];rfl
theorem ahV(K ρ):(Dw N).bd K ρ 23=gl.xK N ((Dw N).kc K 43) ((Dw N).kc ρ 23):=κ
theorem ahW(ρ):(Dw N).kc ((Dw N).cq ρ) 23=gl.zW N N:=Fx.uL [43] (ahV N) ρ (gl.zW N) λn ρ' e d=>by rw[ahU,e];rfl
theorem azt(K):(Dw N).top K=gl.b N ((Dw N).kc K 23):=κ
def azu:Kn prog:=⟨261,(Dw N).S false (gl N),Fx.u1 (Dw N) aC func261 [23,43] (azt N) (by rw[ahW];rfl)⟩
def Ru:Fx:=⟨41,tab,Kn.l [yR N,azu N,QY N],N,f233,[.v aA,.v aK],[.v aK,.v I],[⟨11,[(2,.obj aA),(3,.obj aK),(4,.obj aK),(6,.own jZ),(7,.v I)],[1,1,1,0,1,0,0],[]⟩],none⟩
theorem ahX(K ρ):(Ru N).bd K ρ 11=oC.eo N ((Ru N).kc ρ 11):=κ
theorem ahY(ρ):(Ru N).kc ((Ru N).cq ρ) 11=oC.l5 N N:=Fx.uL [] (ahX N) ρ (oC.l5 N) λn ρ' e d=>by rw[e];rfl
theorem azv(K):(Ru N).top K=oC.b N ((Ru N).kc K 11):=κ
def azw:Kn prog:=⟨233,(Ru N).S false (oC N),Fx.u1 (Ru N) aC func233 [11] (azv N) (by rw[ahY];rfl)⟩
def Rv:Fx:=⟨325,tab,Kn.l [aym N,aeH N,ayr N,ayA N,ayF N,ayQ N,amV N,ayS N,ay0 N,ay4 N,azb N,azq N,azw N,atp N],N,f215,[.v aA,.v dL,.v me],[.v dL,.v jZ],[⟨83,[(4,.obj dL),(6,.obj dL),(7,.obj jZ),(14,.v mN),(16,.v I),(17,.v I)],[1,1,0,1,0,1,1,1,1,1,1,1,1,1,1,1,1,1,0,1,1,1,1,1,1,0,1,0,0],[]⟩],none⟩
theorem ahZ(K ρ):(Rv N).bd K ρ 83=oE.adx N ((Rv N).kc ρ 83):=κ
theorem ah0(ρ):(Rv N).kc ((Rv N).cq ρ) 83=oE.l41 N N:=Fx.uL [] (ahZ N) ρ (oE.l41 N) λn ρ' e d=>by rw[e];rfl
theorem azx(K):(Rv N).top K=oE.b N ((Rv N).kc K 83):=κ
def azy:Kn prog:=⟨215,(Rv N).S false (oE N),Fx.u1 (Rv N) aC func215 [83] (azx N) (by rw[ah0];rfl)⟩
def Tv:Fx:=⟨141,tab,Kn.l [atp N,k54 N,ayf N,aeH N,ata N,amV N,ayg N,azy N],N,f189,[.v aA,.v dL,.v me],[.v dL,.v jZ],[⟨58,[(3,.obj aA),(4,.obj dL),(5,.obj me),(6,.obj dL),(7,.obj jZ)],[1,1,1],[]⟩],none⟩
theorem ah1(K ρ):(Tv N).bd K ρ 58=qx.PV N:=κ
theorem ah2(ρ):(Tv N).kc ((Tv N).cq ρ) 58=qx.WH N:=Fx.uJ [] (ah1 N) ρ
theorem azz(K):(Tv N).top K=qx.b N ((Tv N).kc K 58):=κ
def azA:Kn prog:=⟨189,(Tv N).S false (qx N),Fx.u1 (Tv N) aC func189 [58] (azz N) (by rw[ah2];rfl)⟩
def atO:Fx:=⟨295,tab,Kn.l [axl N,aeH N,axq N,axr N,axG N,axO N,ata N,k23 N,nG N,Ts N,Nc N,axQ N,axZ N,ax1 N,k52 N,ax6 N,amV N,azA N],N,f132,[.v aA,.v dL,.v me],[.v dL,.v jZ],[],none⟩
def azB:Kn prog:=⟨132,(atO N).S false (WQ N),Fx.u0 (atO N) aC func132⟩
def X76:Fx:=⟨36,tab,Kn.l [k41 N,axj N,azB N],N,f76,[.v aA,.v dL,.v me],[.v dL,.v jZ],[],none⟩
def k76:Kn prog:=⟨76,(X76 N).S false (F76 N),Fx.u0 (X76 N) aC func76⟩
def Rw:Fx:=⟨48,tab,Kn.l [k76 N],N,f190,[.io nj,.lo me],[.v dL,.io nj,.lo me],[⟨3,[(0,.io nj),(1,.own me),(4,.obj dL)],[1,0,0,0],[]⟩],none⟩
theorem anw(K ρ):(Rw N).bd K ρ 3=q6.l1b N ((Rw N).kc ρ 3):=κ
theorem anx(ρ):(Rw N).kc ((Rw N).cq ρ) 3=q6.l1 N N:=Fx.uL [] (anw N) ρ (q6.l1 N) λn ρ' e d=>by rw[e];rfl
theorem azC(K):(Rw N).top K=q6.b N ((Rw N).kc K 3):=κ
def azD:Kn prog:=⟨190,(Rw N).S false (q6 N),Fx.u1 (Rw N) aC func190 [3] (azC N) (by rw[anx];rfl)⟩
def qc:Fx:=⟨119,tab,Kn.l [k25 N,azD N,Xv N,k74 N,asq N],N,f137,[.io dF,.io nj,.own me],[.own me,.io dF,.io nj],[⟨35,[(0,.io dF),(1,.io nj),(2,.own me),(10,.obj dL),(11,.v I),(12,.obj jW),(13,.v I)],[1,1,1,1,0,1,0,0,1,0,0,1,1,0,0],[27]⟩,⟨27,[(0,.io dF),(1,.io nj),(2,.own me),(10,.obj dL),(11,.v I)],[1,1,1,1,0,1,0,0],[]⟩,⟨20,[(0,.io dF),(1,.io nj),(2,.own me)],[1,1],[]⟩,⟨11,[(0,.io dF),(1,.io nj),(2,.own me),(7,.obj dL),(8,.v I)],[1,0,1,0,1,1,1,0,0],[]⟩],none⟩
theorem ah3(K ρ):(qc N).bd K ρ 35=eM.EY N ((qc N).kc ρ 27) ((qc N).kc ρ 35):=κ
theorem ah4(ρ):(qc N).kc ((qc N).cq ρ) 35=eM.FB N ((qc N).kc ρ 27) N:=Fx.uL [] (ah3 N) ρ (eM.FB N ((qc N).kc ρ 27)) λn ρ' e d=>by rw[e,d 27 rfl];rfl
theorem ah5(K ρ):(qc N).bd K ρ 27=eM.lz N ((qc N).kc K 35) ((qc N).kc ρ 27):=κ
theorem ah6(ρ):(qc N).kc ((qc N).cq ρ) 27=eM.mw N N:=Fx.uL [35] (ah5 N) ρ (eM.mw N) λn ρ' e d=>by rw[ah4,e];rfl
theorem ah7(K ρ):(qc N).bd K ρ 20=eM.Db N ((qc N).kc K 27):=κ
theorem UZ(ρ):(qc N).kc ((qc N).cq ρ) 20=eM.JQ N:=Fx.uJ [27] (ah7 N) ρ (by rw[ah6];rfl)
theorem ah8(K ρ):(qc N).bd K ρ 11=eM.eo N ((qc N).kc K 20) ((qc N).kc ρ 11):=κ
theorem ah9(ρ):(qc N).kc ((qc N).cq ρ) 11=eM.l5 N N:=Fx.uL [20,27] (ah8 N) ρ (eM.l5 N) λn ρ' e d=>by rw[UZ,e];rfl
theorem azE(K):(qc N).top K=eM.b N ((qc N).kc K 11) ((qc N).kc K 20):=κ
def azF:Kn prog:=⟨137,(qc N).S false (eM N),Fx.u1 (qc N) aC func137 [11,20,27] (azE N) (by rw[ah9,UZ];rfl)⟩
def Xj:Fx:=⟨99,tab,Kn.l [k75 N,k78 N,Xv N,asq N,k25 N,azF N],N,f79,[.io dF,.v aA,.v I],[.own me,.io dF],[⟨35,[(0,.io dF),(4,.obj aA),(9,.obj nj),(10,.own me),(13,.v I)],[1,1,1,1,1,1,1,1,1,1,1,1,0,1,0,0],[]⟩,⟨19,[(0,.io dF),(4,.obj aA),(9,.obj nj),(10,.own me),(12,.v I)],[1,1,1,1,1,1,1,1,0,1,0,0],[]⟩],none⟩
theorem anz(K ρ):(Xj N).bd K ρ 35=vZ.EY N ((Xj N).kc ρ 35):=κ
theorem anA(ρ):(Xj N).kc ((Xj N).cq ρ) 35=vZ.FB N N:=Fx.uL [] (anz N) ρ (vZ.FB N) λn ρ' e d=>by rw[e];rfl
theorem anB(K ρ):(Xj N).bd K ρ 19=vZ.vz N ((Xj N).kc K 35) ((Xj N).kc ρ 19):=κ
theorem anC(ρ):(Xj N).kc ((Xj N).cq ρ) 19=vZ.l9 N N:=Fx.uL [35] (anB N) ρ (vZ.l9 N) λn ρ' e d=>by rw[anA,e];rfl
theorem h79(K):(Xj N).top K=vZ.b N ((Xj N).kc K 19):=κ
def k79:Kn prog:=⟨79,(Xj N).S false (vZ N),Fx.u1 (Xj N) aC func79 [19,35] (h79 N) (by rw[anC];rfl)⟩
def X28:Fx:=⟨38,tab,Kn.l [Xv N,k77 N,k78 N,k79 N],N,f28,[.io dF,.v aA,.v I],[.own me,.io dF],[⟨11,[(0,.io dF),(4,.obj aA),(7,.own me),(8,.v I)],[1,0,1,0,1,0,1,0,1,0,0],[]⟩],none⟩
theorem anD(K ρ):(X28 N).bd K ρ 11=IE.eo N ((X28 N).kc ρ 11):=κ
theorem anE(ρ):(X28 N).kc ((X28 N).cq ρ) 11=IE.l5 N N:=Fx.uL [] (anD N) ρ (IE.l5 N) λn ρ' e d=>by rw[e];rfl
theorem h28(K):(X28 N).top K=IE.b N ((X28 N).kc K 11):=κ
def k28:Kn prog:=⟨28,(X28 N).S false (IE N),Fx.u1 (X28 N) aC func28 [11] (h28 N) (by rw[anE];rfl)⟩
def X27:Fx:=⟨43,tab,Kn.l [k75 N,k76 N],N,f27,[.v aA,.v als],[.v dL,.own jZ],[⟨13,[(1,.v als),(2,.obj aA),(4,.obj dL),(6,.obj dL),(8,.own jZ),(9,.v I)],[1,1,1,1,0,1,0,0],[]⟩],none⟩
theorem anF(K ρ):(X27 N).bd K ρ 13=ID.vu N ((X27 N).kc ρ 13):=κ
theorem anG(ρ):(X27 N).kc ((X27 N).cq ρ) 13=ID.l6 N N:=Fx.uL [] (anF N) ρ (ID.l6 N) λn ρ' e d=>by rw[e];rfl
theorem h27(K):(X27 N).top K=ID.b N ((X27 N).kc K 13):=κ
def k27:Kn prog:=⟨27,(X27 N).S false (ID N),Fx.u1 (X27 N) aC func27 [13] (h27 N) (by rw[anG];rfl)⟩
def X8:Fx:=⟨19,tab,Kn.l [k28 N,k27 N],N,f8,[.io dF,.v aA,.v I],[.v dL,.io dF],[],none⟩
def k8:Kn prog:=⟨8,(X8 N).S false (F8 N),Fx.u0 (X8 N) aC func8⟩
def Dx:Fx:=⟨75,tab,Kn.l [Xv N,k25 N,k26 N],N,f12,[.io dF,.v aA,.v aK],[.own p9,.io dF],[⟨22,[(0,.io dF),(4,.obj aA),(5,.obj aK),(7,.own p9),(8,.v I),(10,.obj p9)],[1,1,0,1,0,0,1,0,0,1,1,1,1],[7]⟩,⟨18,[(0,.io dF),(4,.obj aA),(5,.obj aK),(7,.own p9),(8,.v I),(10,.obj p9)],[1,1,0,1,0,0,1,0,0,1,1,1],[7]⟩,⟨7,[(0,.io dF),(4,.obj aA),(5,.obj aK),(7,.own p9),(8,.v I)],[1,1,0,1,0,0],[]⟩],none⟩
theorem aBN:tp prog (Dx N).E:=Fx.OE (Dx N) aC (Kn.all _) κ
theorem anH(K ρ):(Dx N).bd K ρ 22=pC.xV N ((Dx N).kc ρ 7):=κ
theorem anI(ρ):(Dx N).kc ((Dx N).cq ρ) 22=pC.E5 N ((Dx N).kc ρ 7):=Fx.uJ [] (anH N) ρ
theorem anJ(K ρ):(Dx N).bd K ρ 18=pC.JA N ((Dx N).kc K 22) ((Dx N).kc ρ 7):=κ
theorem anK(ρ):(Dx N).kc ((Dx N).cq ρ) 18=pC.j9 N ((Dx N).kc ρ 7):=Fx.uJ [22] (anJ N) ρ (by rw[anI];rfl)
theorem atP(K ρ):(Dx N).bd K ρ 7=pC.nr N ((Dx N).kc K 18) ((Dx N).kc ρ 7):=κ
theorem ajx(ρ):(Dx N).kc ((Dx N).cq ρ) 7=pC.l3 N N:=Fx.uL [18,22] (atP N) ρ (pC.l3 N) λn ρ' e d=>by rw[anK,e];rfl
theorem h12(K):(Dx N).top K=pC.b N ((Dx N).kc K 7):=κ
theorem aBO: ∀x,NT (Dx N).E (Dx N).fn (Dx N).args (Dx N).res x=Jz (Dx N).args (pC N) x:=Fx.aky κ [7] (λK=>κ) (h12 N) (by rw[ajx];rfl)
def k12:Kn prog:=⟨12,(Dx N).S false (pC N),Fx.u1 (Dx N) aC func12 [7] (h12 N) (by rw[ajx];rfl)⟩
def X62:Fx:=⟨26,tab,[],N,f62,[.v dE,.v dE],[.v B],[⟨9,[(0,.v dE),(1,.v dE),(5,.v I)],[1,1,0,1,0,0],[]⟩],none⟩
theorem atS(K ρ):(X62 N).bd K ρ 9=E0.dQ N ((X62 N).kc ρ 9):=κ
theorem atT(ρ):(X62 N).kc ((X62 N).cq ρ) 9=E0.l4 N N:=Fx.uL [] (atS N) ρ (E0.l4 N) λn ρ' e d=>by rw[e];rfl
theorem h62(K):(X62 N).top K=E0.b N ((X62 N).kc K 9):=κ
def k62:Kn prog:=⟨62,(X62 N).S true (E0 N),Fx.u1 (X62 N) aC func62 [9] (h62 N) (by rw[atT];rfl)⟩
def X63:Fx:=⟨26,tab,[],N,f63,[.v fx,.v fx],[.v B],[⟨9,[(0,.v fx),(1,.v fx),(5,.v I)],[1,1,0,1,0,0],[]⟩],none⟩
theorem atU(K ρ):(X63 N).bd K ρ 9=E1.dQ N ((X63 N).kc ρ 9):=κ
theorem atV(ρ):(X63 N).kc ((X63 N).cq ρ) 9=E1.l4 N N:=Fx.uL [] (atU N) ρ (E1.l4 N) λn ρ' e d=>by rw[e];rfl
theorem h63(K):(X63 N).top K=E1.b N ((X63 N).kc K 9):=κ
def k63:Kn prog:=⟨63,(X63 N).S true (E1 N),Fx.u1 (X63 N) aC func63 [9] (h63 N) (by rw[atV];rfl)⟩
def X64:Fx:=⟨26,tab,[],N,f64,[.v cQ,.v cQ],[.v B],[⟨9,[(0,.v cQ),(1,.v cQ),(5,.v I)],[1,1,0,1,0,0],[]⟩],none⟩
theorem atW(K ρ):(X64 N).bd K ρ 9=E2.dQ N ((X64 N).kc ρ 9):=κ
theorem atX(ρ):(X64 N).kc ((X64 N).cq ρ) 9=E2.l4 N N:=Fx.uL [] (atW N) ρ (E2.l4 N) λn ρ' e d=>by rw[e];rfl
theorem nJ(K):(X64 N).top K=E2.b N ((X64 N).kc K 9):=κ
def k64:Kn prog:=⟨64,(X64 N).S true (E2 N),Fx.u1 (X64 N) aC func64 [9] (nJ N) (by rw[atX];rfl)⟩
def X65:Fx:=⟨26,tab,[],N,f65,[.v lG,.v lG],[.v B],[⟨9,[(0,.v lG),(1,.v lG),(5,.v I)],[1,1,0,1,0,0],[]⟩],none⟩
theorem atY(K ρ):(X65 N).bd K ρ 9=E3.dQ N ((X65 N).kc ρ 9):=κ
theorem atZ(ρ):(X65 N).kc ((X65 N).cq ρ) 9=E3.l4 N N:=Fx.uL [] (atY N) ρ (E3.l4 N) λn ρ' e d=>by rw[e];rfl
theorem h65(K):(X65 N).top K=E3.b N ((X65 N).kc K 9):=κ
def k65:Kn prog:=⟨65,(X65 N).S true (E3 N),Fx.u1 (X65 N) aC func65 [9] (h65 N) (by rw[atZ];rfl)⟩
def X14:Fx:=⟨45,tab,Kn.l [k62 N,k63 N,k20 N,k64 N,k21 N,k65 N],N,f14,[.v aK,.v aK],[.v B],[],none⟩
def k14:Kn prog:=⟨14,(X14 N).S true (F14 N),Fx.u0 (X14 N) aC func14⟩
def X4:Fx:=⟨68,tab,Kn.l [k5 N,k6 N,k7 N,k8 N,k12 N,k13 N,k14 N],N,f4,[.v LU],[.v B],[⟨21,[(4,.obj aA),(6,.v yj),(7,.obj aK),(8,.v I),(9,.obj aK),(10,.v I)],[1,1,1,1,1,1,1,1,0,1,0,0],[]⟩],none⟩
theorem azG:tp prog (X4 N).E:=Fx.OE (X4 N) aC (Kn.all _) κ
theorem at1(K ρ):(X4 N).bd K ρ 21=F4.akL N ((X4 N).kc ρ 21):=κ
theorem ajC(ρ):(X4 N).kc ((X4 N).cq ρ) 21=F4.l10 N N:=Fx.uL [] (at1 N) ρ (F4.l10 N) λn ρ' e d=>by rw[e];rfl
theorem h4(K):(X4 N).top K=F4.b N ((X4 N).kc K 21):=κ
theorem azH: ∀x,NT (X4 N).E (X4 N).fn (X4 N).args (X4 N).res x=Jz (X4 N).args (F4 N) x:=Fx.aky κ [21] (λK=>κ) (h4 N) (by rw[ajC];rfl)
def k4:Kn prog:=⟨4,(X4 N).S true (F4 N),Fx.u1 (X4 N) aC func4 [21] (h4 N) (by rw[ajC];rfl)⟩
end
end VM.F
