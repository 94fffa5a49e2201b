/- A part of the proof of BookTurned of layer 18: each function of the program does what its equation says; printed by a program. -/
import Derived.Test.YthkjjlcblhbifaaGreatText
import Derived.Test.YthkjjlcblhbifaaGreatVm8
import Derived.Test.YthkjjlcblhbifaaGreatProg
import Derived.KernelRfl
set_option linter.all false
noncomputable section
namespace VM.F
open Go VM Go.Proofs
open Tryz
set_option maxRecDepth 100000
abbrev I:Ty:= .int .i64
abbrev U:Ty:= .int .u64
abbrev B:Ty:= .bool
abbrev Z:Ty:= .str
abbrev QX:Ty:= .slice mu
abbrev dJ:Ty:= .slice kM
abbrev TI:Ty:= .slice eI
abbrev ara:Ty:= .slice dm
abbrev awS:Ty:= .slice eB
abbrev cV:Ty:= .slice kd
abbrev ab0:Ty:= .slice wD
abbrev fy:Ty:= .slice ff
abbrev iB:Ty:= .slice s4
abbrev yG:Ty:= .slice sT
abbrev nB:Ty:= .slice s6
abbrev lE:Ty:= .slice nw
abbrev alQ:Ty:= .slice mc
abbrev mT:Ty:= .slice jT
abbrev arb:Ty:= .slice iz
abbrev arc:Ty:= .slice aA
abbrev awT:Ty:= .slice aK
abbrev aoJ:Ty:= .slice sW
abbrev au6:Ty:= .slice dP
abbrev au7:Ty:= .slice nA
abbrev LI:Ty:= .slice I
abbrev LU:Ty:= .slice U
def tab:List (Nat×Ty):=[(2,I),(3,I),(4,B),(5,(.int .u8)),(9,Z),(22,LU),(26,fy),(28,aA),(30,dJ),(31,fy),(32,cV),(33,cV),(34,LI),(35,lE),(37,aK),(38,fy),(39,mT),(40,fy),(41,LI),(42,dJ),(43,dJ),(45,sW),(46,yG),(48,iz),(50,dP),(53,kd),(55,kd),(57,nw),(59,ff),(63,yG),(65,I),(74,sT),(75,iB),(78,U),(80,eI),(89,eB),(92,ff),(95,cV),(98,alQ),(113,dm),(115,nB),(124,cV),(125,kd),(134,kM),(137,dJ),(139,cV),(149,kd),(153,mc),(161,TI),(179,s4),(181,s6),(185,(.arr 2 I)),(197,kM),(199,kd),(213,nA),(215,(.arr 13 B)),(268,ff),(270,jT),(286,kM),(295,ff),(323,ara),(342,kM),(350,sT)]
theorem aD:Ho prog tab:=⟨κ,κ⟩
section
variable(N:Nat)
abbrev abt:nf:=tA.S N
abbrev abu:nf:=uO.S N
theorem abv:jw prog 138 (abu N):=V7 N func138 κ κ κ κ
def TJ:Kn prog:=⟨138,abu N,abv N⟩
theorem abw:jw prog 198 (abt N):=V8 N func198 κ κ κ κ
def TK:Kn prog:=⟨198,abt N,abw N⟩
abbrev QY:nf:=xA (.pair (.int .i64) (.pair (.int .i64) .unit)) N
def Np.TL:Go.Shelf.Ren:={f:=λi=>0,t:=λi=>cond (Nat.beq i 3) 134 (cond (Nat.beq i 4) 4 30),g:=λ_=>0}
theorem Np.Az:Mh prog (.pair (.int .i64) (.pair (.int .i64) .unit)) Np.TL 121 f121:=⟨Tryz.func121.trans κ,underlying4,underlying30,iL (x:= .inl 134) κ,δ,κ⟩
theorem TM:jw prog 121 (QY N):=rH Np.Az κ κ N
def QZ:Kn prog:=⟨121,QY N,TM N⟩
abbrev Q0:nf:=xA (.pair (.int .i64) (.pair (.int .i64) (.pair (.int .i64) (.pair (.int .i64) .unit)))) N
def Nq.TL:Go.Shelf.Ren:={f:=λi=>0,t:=λi=>cond (Nat.beq i 3) 59 (cond (Nat.beq i 4) 4 31),g:=λ_=>0}
theorem Nq.Az:Mh prog (.pair (.int .i64) (.pair (.int .i64) (.pair (.int .i64) (.pair (.int .i64) .unit)))) Nq.TL 122 f122:=⟨Tryz.func122.trans κ,underlying4,underlying31,iL (x:= .inl 59) κ,δ,κ⟩
theorem TN:jw prog 122 (Q0 N):=rH Nq.Az κ κ N
def Q1:Kn prog:=⟨122,Q0 N,TN N⟩
abbrev Q2:nf:=xA (.pair (.int .i64) (.pair (.int .i64) (.pair (.int .i64) .unit))) N
def Nr.TL:Go.Shelf.Ren:={f:=λi=>0,t:=λi=>cond (Nat.beq i 3) 53 (cond (Nat.beq i 4) 4 32),g:=λ_=>0}
theorem Nr.Az:Mh prog (.pair (.int .i64) (.pair (.int .i64) (.pair (.int .i64) .unit))) Nr.TL 123 f123:=⟨Tryz.func123.trans κ,underlying4,underlying32,iL (x:= .inl 53) κ,δ,κ⟩
theorem TO:jw prog 123 (Q2 N):=rH Nr.Az κ κ N
def Ja:Kn prog:=⟨123,Q2 N,TO N⟩
abbrev Q3:nf:=xA (.pair (.int .i64) (.pair (.int .i64) (.pair (.int .i64) .unit))) N
def Ns.TL:Go.Shelf.Ren:={f:=λi=>0,t:=λi=>cond (Nat.beq i 3) 55 (cond (Nat.beq i 4) 4 33),g:=λ_=>0}
theorem Ns.Az:Mh prog (.pair (.int .i64) (.pair (.int .i64) (.pair (.int .i64) .unit))) Ns.TL 124 f124:=⟨Tryz.func124.trans κ,underlying4,underlying33,iL (x:= .inl 55) κ,δ,κ⟩
theorem TP:jw prog 124 (Q3 N):=rH Ns.Az κ κ N
def Jb:Kn prog:=⟨124,Q3 N,TP N⟩
abbrev Q4:nf:=xA (.int .i64) N
def Nt.TL:Go.Shelf.Ren:={f:=λi=>0,t:=λi=>cond (Nat.beq i 3) 2 (cond (Nat.beq i 4) 4 34),g:=λ_=>0}
theorem Nt.Az:Mh prog (.int .i64) Nt.TL 125 f125:=⟨Tryz.func125.trans κ,underlying4,underlying34,iL (x:= .inl 2) κ,δ,κ⟩
theorem TQ:jw prog 125 (Q4 N):=rH Nt.Az κ κ N
def Q5:Kn prog:=⟨125,Q4 N,TQ N⟩
abbrev Q6:nf:=xA (.pair (.int .i64) (.pair (.int .i64) (.pair (.int .i64) (.pair (.int .i64) (.pair (.int .i64) (.pair (.int .i64) .unit)))))) N
def Nu.TL:Go.Shelf.Ren:={f:=λi=>0,t:=λi=>cond (Nat.beq i 3) 57 (cond (Nat.beq i 4) 4 35),g:=λ_=>0}
theorem Nu.Az:Mh prog (.pair (.int .i64) (.pair (.int .i64) (.pair (.int .i64) (.pair (.int .i64) (.pair (.int .i64) (.pair (.int .i64) .unit)))))) Nu.TL 126 f126:=⟨Tryz.func126.trans κ,underlying4,underlying35,iL (x:= .inl 57) κ,δ,κ⟩
theorem TR:jw prog 126 (Q6 N):=rH Nu.Az κ κ N
def Jc:Kn prog:=⟨126,Q6 N,TR N⟩
abbrev Q7:nf:=m1 (.pair (.int .i64) (.pair (.int .i64) (.pair (.int .i64) .unit))) N
def Nv.TL:Go.Shelf.Ren:={f:=λi=>cond (Nat.beq i 29) 199 (cond (Nat.beq i 30) 200 0),t:=λi=>cond (Nat.beq i 24) 33 (cond (Nat.beq i 9) 55 (cond (Nat.beq i 3) 3 (cond (Nat.beq i 4) 4 0))),g:=λ_=>0}
theorem Nv.Az:V9 prog (.pair (.int .i64) (.pair (.int .i64) (.pair (.int .i64) .unit))) Nv.TL 161 f161 f199:=⟨Tryz.func161.trans κ,underlying3,underlying4,underlying33,iL (x:= .inl 55) κ,δ,κ⟩
theorem TS:jw prog 161 (Q7 N):=Ht Nv.Az ⟨func199,κ,κ,κ,κ⟩ κ κ N
def abx:Kn prog:=⟨161,Q7 N,TS N⟩
abbrev Q8:nf:=m1 (.pair (.int .i64) (.pair (.int .i64) (.pair (.int .i64) .unit))) N
def Nw.TL:Go.Shelf.Ren:={f:=λi=>cond (Nat.beq i 29) 201 (cond (Nat.beq i 30) 202 0),t:=λi=>cond (Nat.beq i 24) 32 (cond (Nat.beq i 9) 53 (cond (Nat.beq i 3) 3 (cond (Nat.beq i 4) 4 0))),g:=λ_=>0}
theorem Nw.Az:V9 prog (.pair (.int .i64) (.pair (.int .i64) (.pair (.int .i64) .unit))) Nw.TL 164 f164 f201:=⟨Tryz.func164.trans κ,underlying3,underlying4,underlying32,iL (x:= .inl 53) κ,δ,κ⟩
theorem TT:jw prog 164 (Q8 N):=Ht Nw.Az ⟨func201,κ,κ,κ,κ⟩ κ κ N
def aby:Kn prog:=⟨164,Q8 N,TT N⟩
def X15:Fx:=⟨21,tab,[],N,f15,[],[.v aA,.v aK],[],none⟩
theorem aBp:tF prog (X15 N).E:=Fx.OZ (X15 N) aD trivial κ
theorem aBq: ∀x,Of (X15 N).E (X15 N).fn (X15 N).args (X15 N).res x=JP (X15 N).args (F15 N) x:=Fx.acI κ
def k15:Kn prog:=⟨15,(X15 N).S false (F15 N),Fx.u0 (X15 N) aD func15⟩
def X80:Fx:=⟨15,tab,[],N,f80,[.v I,.v I,.v I],[.v B],[],none⟩
def k80:Kn prog:=⟨80,(X80 N).S true (XY N),Fx.u0 (X80 N) aD func80⟩
def X29:Fx:=⟨68,tab,Kn.l [k80 N],N,f29,[.v aA],[.v B],[⟨9,[(1,.obj aA),(11,.v fy),(12,.v I),(13,.v I)],[1,1,0,1,0,0],[]⟩],none⟩
theorem ard(K ρ):(X29 N).bd K ρ 9=CA.dM N ((X29 N).kc ρ 9):=κ
theorem are(ρ):(X29 N).kc ((X29 N).cC ρ) 9=CA.l4 N N:=Fx.uL [] (ard N) ρ (CA.l4 N) λn ρ' e d=>by rw[e];rfl
theorem h29(K):(X29 N).top K=CA.b N ((X29 N).kc K 9):=κ
def k29:Kn prog:=⟨29,(X29 N).S true (CA N),Fx.u1 (X29 N) aD func29 [9] (h29 N) (by rw[are];rfl)⟩
def X1:Fx:=⟨39,tab,Kn.l [k29 N],N,f16,[.v aA],[.v aK,.v I],[⟨15,[(2,.obj aK),(4,.gk aK [.gM 4] I),(24,.v fy),(25,.v I),(26,.v I)],[1,1,1,1,0,1,0,0],[]⟩,⟨12,[(1,.obj aA),(2,.obj aK),(4,.gk aK [.gM 4] I)],[1,1,1,1],[]⟩],some (aK,[.gM 4],I,[4])⟩
theorem alR(K ρ):(X1 N).bd K ρ 15=w5.nR N ((X1 N).kc ρ 15):=κ
theorem alS(ρ):(X1 N).kc ((X1 N).cC ρ) 15=w5.l7 N N:=Fx.uL [] (alR N) ρ (w5.l7 N) λn ρ' e d=>by rw[e];rfl
theorem alT(K ρ):(X1 N).bd K ρ 12=w5.O6 N ((X1 N).kc K 15):=κ
theorem alU(ρ):(X1 N).kc ((X1 N).cC ρ) 12=w5.j6 N:=Fx.uJ [15] (alT N) ρ (by rw[alS];rfl)
theorem h16(K):(X1 N).top K=w5.b N ((X1 N).kc K 12):=κ
def k16:Kn prog:=⟨16,(X1 N).S false (w5 N),Fx.u1 (X1 N) aD func16 [12,15] (h16 N) (by rw[alU];rfl)⟩
def X81:Fx:=⟨46,tab,[],N,f81,[.v dJ],[.v B],[⟨5,[(0,.v dJ),(5,.v dJ),(6,.v I),(7,.v I)],[1,0,1,0,0],[]⟩],none⟩
theorem arf(K ρ):(X81 N).bd K ρ 5=Eh.fN N ((X81 N).kc ρ 5):=κ
theorem arh(ρ):(X81 N).kc ((X81 N).cC ρ) 5=Eh.l2 N N:=Fx.uL [] (arf N) ρ (Eh.l2 N) λn ρ' e d=>by rw[e];rfl
theorem h81(K):(X81 N).top K=Eh.b N ((X81 N).kc K 5):=κ
def k81:Kn prog:=⟨81,(X81 N).S true (Eh N),Fx.u1 (X81 N) aD func81 [5] (h81 N) (by rw[arh];rfl)⟩
def X82:Fx:=⟨77,tab,[],N,f82,[.v fy],[.v B],[⟨7,[(0,.v fy),(3,.obj (.arr 13 B)),(6,.v fy),(7,.v I),(8,.v I)],[1,1,0,1,0,0],[]⟩],none⟩
theorem ari(K ρ):(X82 N).bd K ρ 7=Aj.nY N ((X82 N).kc ρ 7):=κ
theorem arj(ρ):(X82 N).kc ((X82 N).cC ρ) 7=Aj.l3 N N:=Fx.uL [] (ari N) ρ (Aj.l3 N) λn ρ' e d=>by rw[e];rfl
theorem h82(K):(X82 N).top K=Aj.b N ((X82 N).kc K 7):=κ
def k82:Kn prog:=⟨82,(X82 N).S true (Aj N),Fx.u1 (X82 N) aD func82 [7] (h82 N) (by rw[arj];rfl)⟩
def X37:Fx:=⟨23,tab,Kn.l [k81 N],N,f37,[.v dJ,.v I],[.v I],[⟨9,[(1,.v I),(10,.v dJ),(11,.v I),(12,.v I)],[1,1,0,1,0,0],[]⟩],none⟩
theorem ark(K ρ):(X37 N).bd K ρ 9=BU.dM N ((X37 N).kc ρ 9):=κ
theorem arl(ρ):(X37 N).kc ((X37 N).cC ρ) 9=BU.l4 N N:=Fx.uL [] (ark N) ρ (BU.l4 N) λn ρ' e d=>by rw[e];rfl
theorem h37(K):(X37 N).top K=BU.b N ((X37 N).kc K 9):=κ
def k37:Kn prog:=⟨37,(X37 N).S true (BU N),Fx.u1 (X37 N) aD func37 [9] (h37 N) (by rw[arl];rfl)⟩
def X30:Fx:=⟨27,tab,Kn.l [k81 N,k82 N,k37 N],N,f30,[.v dJ,.v fy],[.v B],[⟨9,[(0,.v dJ),(15,.v fy),(16,.v I),(17,.v I)],[1,1,0,1,0,0],[]⟩],none⟩
theorem arn(K ρ):(X30 N).bd K ρ 9=E9.dM N ((X30 N).kc ρ 9):=κ
theorem aro(ρ):(X30 N).kc ((X30 N).cC ρ) 9=E9.l4 N N:=Fx.uL [] (arn N) ρ (E9.l4 N) λn ρ' e d=>by rw[e];rfl
theorem h30(K):(X30 N).top K=E9.b N ((X30 N).kc K 9):=κ
def k30:Kn prog:=⟨30,(X30 N).S true (E9 N),Fx.u1 (X30 N) aD func30 [9] (h30 N) (by rw[aro];rfl)⟩
def X83:Fx:=⟨30,tab,[],N,f83,[.v I,.v I],[.v B],[],none⟩
def k83:Kn prog:=⟨83,(X83 N).S true (F83 N),Fx.u0 (X83 N) aD func83⟩
def X84:Fx:=⟨19,tab,[],N,f84,[.v I,.v I,.v kd],[.v I],[],none⟩
def k84:Kn prog:=⟨84,(X84 N).S true (F84 N),Fx.u0 (X84 N) aD func84⟩
def X31:Fx:=⟨41,tab,Kn.l [k83 N,k84 N],N,f31,[.v cV],[.v B],[⟨5,[(0,.v cV),(5,.v cV),(6,.v I),(7,.v I)],[1,0,1,0,0],[]⟩],none⟩
theorem arp(K ρ):(X31 N).bd K ρ 5=C2.fN N ((X31 N).kc ρ 5):=κ
theorem arq(ρ):(X31 N).kc ((X31 N).cC ρ) 5=C2.l2 N N:=Fx.uL [] (arp N) ρ (C2.l2 N) λn ρ' e d=>by rw[e];rfl
theorem h31(K):(X31 N).top K=C2.b N ((X31 N).kc K 5):=κ
def k31:Kn prog:=⟨31,(X31 N).S true (C2 N),Fx.u1 (X31 N) aD func31 [5] (h31 N) (by rw[arq];rfl)⟩
def X86:Fx:=⟨8,tab,[],N,f86,[.v I],[.v eI],[],none⟩
def k86:Kn prog:=⟨86,(X86 N).S true (Pf N),Fx.u0 (X86 N) aD func86⟩
def X87:Fx:=⟨51,tab,Kn.l [TJ N],N,f87,[.v TI],[.v eI,.v B],[⟨7,[(2,.obj eI),(4,.v I),(5,.v U),(6,.v U),(10,.v TI),(11,.v I),(12,.v I)],[1,1,0,1,0,0],[]⟩],none⟩
theorem ars(K ρ):(X87 N).bd K ρ 7=AB.nY N ((X87 N).kc ρ 7):=κ
theorem art(ρ):(X87 N).kc ((X87 N).cC ρ) 7=AB.l3 N N:=Fx.uL [] (ars N) ρ (AB.l3 N) λn ρ' e d=>by rw[e];rfl
theorem h87(K):(X87 N).top K=AB.b N ((X87 N).kc K 7):=κ
def k87:Kn prog:=⟨87,(X87 N).S true (AB N),Fx.u1 (X87 N) aD func87 [7] (h87 N) (by rw[art];rfl)⟩
def X33:Fx:=⟨31,tab,Kn.l [k31 N,k86 N,k87 N],N,f33,[.v cV],[.v eI],[⟨11,[(2,.obj eI),(3,.own eI),(12,.v cV),(13,.v I),(14,.v I)],[1,1,1,0,1,0,0],[]⟩],none⟩
theorem alV(K ρ):(X33 N).bd K ρ 11=Ek.dV N ((X33 N).kc ρ 11):=κ
theorem alW(ρ):(X33 N).kc ((X33 N).cC ρ) 11=Ek.l5 N N:=Fx.uL [] (alV N) ρ (Ek.l5 N) λn ρ' e d=>by rw[e];rfl
theorem h33(K):(X33 N).top K=Ek.b N ((X33 N).kc K 11):=κ
def k33:Kn prog:=⟨33,(X33 N).S true (Ek N),Fx.u1 (X33 N) aD func33 [11] (h33 N) (by rw[alW];rfl)⟩
def X85:Fx:=⟨27,tab,[],N,f85,[.v eI,.v eI],[.v I],[],none⟩
def k85:Kn prog:=⟨85,(X85 N).S true (F85 N),Fx.u0 (X85 N) aD func85⟩
def X32:Fx:=⟨6,tab,Kn.l [k85 N],N,f32,[.v eI],[.v I],[],none⟩
def k32:Kn prog:=⟨32,(X32 N).S true (F32 N),Fx.u0 (X32 N) aD func32⟩
def aru:Fx:=⟨19,tab,[],N,f139,[.v I,.v I],[.v B],[],none⟩
def arv:Kn prog:=⟨139,(aru N).S true (Zq N),Fx.u0 (aru N) aD func139⟩
def arw:Fx:=⟨5,tab,[],N,f140,[.v I],[.v B],[],none⟩
def alX:Kn prog:=⟨140,(arw N).S true (SE N),Fx.u0 (arw N) aD func140⟩
def arx:Fx:=⟨19,tab,[],N,f141,[.v I,.v I,.v kd],[.v I],[],none⟩
def ary:Kn prog:=⟨141,(arx N).S true (Wm N),Fx.u0 (arx N) aD func141⟩
def X89:Fx:=⟨47,tab,Kn.l [arv N,alX N,ary N],N,f89,[.v cV],[.v B],[⟨5,[(0,.v cV),(5,.v cV),(6,.v I),(7,.v I)],[1,0,1,0,0],[]⟩],none⟩
theorem arz(K ρ):(X89 N).bd K ρ 5=BR.fN N ((X89 N).kc ρ 5):=κ
theorem arA(ρ):(X89 N).kc ((X89 N).cC ρ) 5=BR.l2 N N:=Fx.uL [] (arz N) ρ (BR.l2 N) λn ρ' e d=>by rw[e];rfl
theorem h89(K):(X89 N).top K=BR.b N ((X89 N).kc K 5):=κ
def k89:Kn prog:=⟨89,(X89 N).S true (BR N),Fx.u1 (X89 N) aD func89 [5] (h89 N) (by rw[arA];rfl)⟩
def X88:Fx:=⟨37,tab,Kn.l [k89 N,k86 N,k87 N],N,f88,[.v cV,.v I],[.v eI],[⟨11,[(1,.v I),(4,.obj eI),(5,.own eI),(14,.v cV),(15,.v I),(16,.v I)],[1,1,1,0,1,0,0],[]⟩],none⟩
theorem alY(K ρ):(X88 N).bd K ρ 11=Em.dV N ((X88 N).kc ρ 11):=κ
theorem alZ(ρ):(X88 N).kc ((X88 N).cC ρ) 11=Em.l5 N N:=Fx.uL [] (alY N) ρ (Em.l5 N) λn ρ' e d=>by rw[e];rfl
theorem h88(K):(X88 N).top K=Em.b N ((X88 N).kc K 11):=κ
def k88:Kn prog:=⟨88,(X88 N).S true (Em N),Fx.u1 (X88 N) aD func88 [11] (h88 N) (by rw[alZ];rfl)⟩
def X34:Fx:=⟨15,tab,Kn.l [k88 N,k32 N,k89 N],N,f34,[.v cV],[.v B],[⟨5,[(0,.v cV),(4,.v I)],[1,0,1,0,0],[]⟩],none⟩
theorem arC(K ρ):(X34 N).bd K ρ 5=Fa.fN N ((X34 N).kc ρ 5):=κ
theorem arD(ρ):(X34 N).kc ((X34 N).cC ρ) 5=Fa.l2 N N:=Fx.uL [] (arC N) ρ (Fa.l2 N) λn ρ' e d=>by rw[e];rfl
theorem h34(K):(X34 N).top K=Fa.b N ((X34 N).kc K 5):=κ
def k34:Kn prog:=⟨34,(X34 N).S true (Fa N),Fx.u1 (X34 N) aD func34 [5] (h34 N) (by rw[arD];rfl)⟩
def X90:Fx:=⟨61,tab,[],N,f90,[.v nw],[.v B],[],none⟩
def k90:Kn prog:=⟨90,(X90 N).S true (F90 N),Fx.u0 (X90 N) aD func90⟩
def X35:Fx:=⟨34,tab,Kn.l [k90 N],N,f35,[.v lE],[.v B],[⟨5,[(0,.v lE),(5,.v lE),(6,.v I),(7,.v I)],[1,0,1,0,0],[]⟩],none⟩
theorem arE(K ρ):(X35 N).bd K ρ 5=C9.fN N ((X35 N).kc ρ 5):=κ
theorem arF(ρ):(X35 N).kc ((X35 N).cC ρ) 5=C9.l2 N N:=Fx.uL [] (arE N) ρ (C9.l2 N) λn ρ' e d=>by rw[e];rfl
theorem h35(K):(X35 N).top K=C9.b N ((X35 N).kc K 5):=κ
def k35:Kn prog:=⟨35,(X35 N).S true (C9 N),Fx.u1 (X35 N) aD func35 [5] (h35 N) (by rw[arF];rfl)⟩
def X91:Fx:=⟨25,tab,Kn.l [k82 N],N,f91,[.v fy,.v I],[.v ff,.v B],[⟨9,[(1,.v I),(4,.obj ff),(12,.v fy),(13,.v I),(14,.v I)],[1,1,0,1,0,0],[]⟩],none⟩
theorem arG(K ρ):(X91 N).bd K ρ 9=Ei.dM N ((X91 N).kc ρ 9):=κ
theorem arH(ρ):(X91 N).kc ((X91 N).cC ρ) 9=Ei.l4 N N:=Fx.uL [] (arG N) ρ (Ei.l4 N) λn ρ' e d=>by rw[e];rfl
theorem h91(K):(X91 N).top K=Ei.b N ((X91 N).kc K 9):=κ
def k91:Kn prog:=⟨91,(X91 N).S true (Ei N),Fx.u1 (X91 N) aD func91 [9] (h91 N) (by rw[arH];rfl)⟩
def X36:Fx:=⟨15,tab,Kn.l [k91 N],N,f36,[.v aK,.v I],[.v B],[],none⟩
def k36:Kn prog:=⟨36,(X36 N).S true (F36 N),Fx.u0 (X36 N) aD func36⟩
def X40:Fx:=⟨9,tab,[],N,f40,[.v I],[.v B],[],none⟩
def k40:Kn prog:=⟨40,(X40 N).S true (F40 N),Fx.u0 (X40 N) aD func40⟩
def X39:Fx:=⟨6,tab,Kn.l [k40 N],N,f39,[.v I],[.v B],[],none⟩
def k39:Kn prog:=⟨39,(X39 N).S true (F39 N),Fx.u0 (X39 N) aD func39⟩
def X92:Fx:=⟨19,tab,Kn.l [k39 N],N,f92,[.v LI,.fn 39 .unit],[.v I],[⟨5,[(0,.v LI),(1,.fn 39 .unit),(7,.v I),(8,.v I)],[1,0,1,0,0],[]⟩],none⟩
theorem arJ(K ρ):(X92 N).bd K ρ 5=Jq.fN N ((X92 N).kc ρ 5):=κ
theorem arK(ρ):(X92 N).kc ((X92 N).cC ρ) 5=Jq.l2 N N:=Fx.uL [] (arJ N) ρ (Jq.l2 N) λn ρ' e d=>by rw[e];rfl
theorem h92(K):(X92 N).top K=Jq.b N ((X92 N).kc K 5):=κ
def k92:Kn prog:=⟨92,(X92 N).S true (Jq N),Fx.u1 (X92 N) aD func92 [5] (h92 N) (by rw[arK];rfl)⟩
def X38:Fx:=⟨9,tab,Kn.l [k92 N],N,f38,[.v LI,.fn 39 .unit],[.v B],[],none⟩
def k38:Kn prog:=⟨38,(X38 N).S true (F38 N),Fx.u0 (X38 N) aD func38⟩
def X9:Fx:=⟨133,tab,Kn.l [k29 N,k30 N,k31 N,k33 N,k32 N,k34 N,k35 N,k36 N,k37 N,k38 N],N,f9,[.v aA,.v aK],[.v B],[⟨45,[(2,.obj aA),(3,.obj aK),(109,.v lE),(110,.v I),(111,.v I)],[1,1,1,1,0,1,0,0],[]⟩,⟨33,[(2,.obj aA),(3,.obj aK),(83,.v cV),(84,.v I),(85,.v I)],[1,1,1,0,1,0,0],[]⟩,⟨9,[(2,.obj aA),(3,.obj aK),(57,.v cV),(58,.v I),(59,.v I)],[1,1,0,1,0,0],[]⟩],none⟩
theorem arL(K ρ):(X9 N).bd K ρ 45=F9.wY N ((X9 N).kc ρ 45):=κ
theorem arM(ρ):(X9 N).kc ((X9 N).cC ρ) 45=F9.yd N N:=Fx.uL [] (arL N) ρ (F9.yd N) λn ρ' e d=>by rw[e];rfl
theorem arN(K ρ):(X9 N).bd K ρ 33=F9.wX N ((X9 N).kc K 45) ((X9 N).kc ρ 33):=κ
theorem arO(ρ):(X9 N).kc ((X9 N).cC ρ) 33=F9.yc N N:=Fx.uL [45] (arN N) ρ (F9.yc N) λn ρ' e d=>by rw[arM,e];rfl
theorem awZ(K ρ):(X9 N).bd K ρ 9=F9.dM N ((X9 N).kc K 33) ((X9 N).kc ρ 9):=κ
theorem aw0(ρ):(X9 N).kc ((X9 N).cC ρ) 9=F9.l4 N N:=Fx.uL [33,45] (awZ N) ρ (F9.l4 N) λn ρ' e d=>by rw[arO,e];rfl
theorem h9(K):(X9 N).top K=F9.b N ((X9 N).kc K 9):=κ
def k9:Kn prog:=⟨9,(X9 N).S true (F9 N),Fx.u1 (X9 N) aD func9 [9,33,45] (h9 N) (by rw[aw0];rfl)⟩
def X59:Fx:=⟨50,tab,Kn.l [k40 N],N,f59,[.v sT],[.v B],[⟨5,[(1,.obj sT),(9,.v (.arr 2 I)),(10,.v I)],[1,0,1,0,0],[]⟩],none⟩
theorem arP(K ρ):(X59 N).bd K ρ 5=Dn.fN N ((X59 N).kc ρ 5):=κ
theorem arQ(ρ):(X59 N).kc ((X59 N).cC ρ) 5=Dn.l2 N N:=Fx.uL [] (arP N) ρ (Dn.l2 N) λn ρ' e d=>by rw[e];rfl
theorem h59(K):(X59 N).top K=Dn.b N ((X59 N).kc K 5):=κ
def k59:Kn prog:=⟨59,(X59 N).S true (Dn N),Fx.u1 (X59 N) aD func59 [5] (h59 N) (by rw[arQ];rfl)⟩
def X58:Fx:=⟨6,tab,Kn.l [k59 N],N,f58,[.v sT],[.v B],[],none⟩
def k58:Kn prog:=⟨58,(X58 N).S true (F58 N),Fx.u0 (X58 N) aD func58⟩
def Q9:Fx:=⟨19,tab,Kn.l [k58 N],N,f112,[.v yG,.fn 58 .unit],[.v I],[⟨5,[(0,.v yG),(1,.fn 58 .unit),(7,.v I),(8,.v I)],[1,0,1,0,0],[]⟩],none⟩
theorem al0(K ρ):(Q9 N).bd K ρ 5=th.fN N ((Q9 N).kc ρ 5):=κ
theorem al1(ρ):(Q9 N).kc ((Q9 N).cC ρ) 5=th.l2 N N:=Fx.uL [] (al0 N) ρ (th.l2 N) λn ρ' e d=>by rw[e];rfl
theorem aw1(K):(Q9 N).top K=th.b N ((Q9 N).kc K 5):=κ
def aw2:Kn prog:=⟨112,(Q9 N).S true (th N),Fx.u1 (Q9 N) aD func112 [5] (aw1 N) (by rw[al1];rfl)⟩
def X57:Fx:=⟨9,tab,Kn.l [aw2 N],N,f57,[.v yG,.fn 58 .unit],[.v B],[],none⟩
def k57:Kn prog:=⟨57,(X57 N).S true (F57 N),Fx.u0 (X57 N) aD func57⟩
def arR:Fx:=⟨10,tab,[],N,f158,[.v I],[.v U],[],none⟩
def arS:Kn prog:=⟨158,(arR N).S true (Wh N),Fx.u0 (arR N) aD func158⟩
def arT:Fx:=⟨51,tab,[],N,f157,[.v U,.v U],[.v U,.v U],[],none⟩
def arU:Kn prog:=⟨157,(arT N).S true (Wg N),Fx.u0 (arT N) aD func157⟩
def TU:Fx:=⟨47,tab,Kn.l [TK N],N,f159,[.v B,.v U,.v U],[.v eI,.v B],[⟨14,[(1,.v U),(2,.v U),(6,.obj eI)],[1,1,1],[]⟩],none⟩
theorem aem(K ρ):(TU N).bd K ρ 14=rf.XX N:=κ
theorem aen(ρ):(TU N).kc ((TU N).cC ρ) 14=rf.j7 N:=Fx.uJ [] (aem N) ρ
theorem aw3(K):(TU N).top K=rf.b N ((TU N).kc K 14):=κ
def arV:Kn prog:=⟨159,(TU N).S true (rf N),Fx.u1 (TU N) aD func159 [14] (aw3 N) (by rw[aen];rfl)⟩
def arW:Fx:=⟨29,tab,Kn.l [arS N,arU N,arV N],N,f114,[.v I,.v I],[.v eI],[],none⟩
def arX:Kn prog:=⟨114,(arW N).S true (Wl N),Fx.u0 (arW N) aD func114⟩
def arY:Fx:=⟨12,tab,[],N,f113,[.v I,.v eI],[.v s4],[],none⟩
def arZ:Kn prog:=⟨113,(arY N).S true (WQ N),Fx.u0 (arY N) aD func113⟩
def X60:Fx:=⟨41,tab,Kn.l [k59 N,k40 N,arX N,arZ N],N,f60,[.v sT,.v I],[.own s4,.v I],[],none⟩
def k60:Kn prog:=⟨60,(X60 N).S false (F60 N),Fx.u0 (X60 N) aD func60⟩
def X70:Fx:=⟨22,tab,Kn.l [QZ N,Q1 N,Ja N,Jb N,Q5 N,Jc N],N,f70,[.v aK],[.v aK],[],none⟩
def k70:Kn prog:=⟨70,(X70 N).S false (F70 N),Fx.u0 (X70 N) aD func70⟩
def zu:Fx:=⟨42,tab,Kn.l [k86 N,k87 N,k32 N],N,f160,[.v cV],[.v B],[⟨13,[(0,.v cV),(3,.v I),(4,.own eI),(9,.v I),(12,.v cV),(13,.v I),(14,.v I)],[1,0,1,0,0,1,1,0,0,1,1,0,1,0,0],[5]⟩,⟨5,[(0,.v cV),(9,.v I)],[1,0,1,0,0],[]⟩],none⟩
theorem aeo(K ρ):(zu N).bd K ρ 13=g9.uU N ((zu N).kc ρ 5) ((zu N).kc ρ 13):=κ
theorem aep(ρ):(zu N).kc ((zu N).cC ρ) 13=g9.l6 N ((zu N).kc ρ 5) N:=Fx.uL [] (aeo N) ρ (g9.l6 N ((zu N).kc ρ 5)) λn ρ' e d=>by rw[e,d 5 rfl];rfl
theorem al2(K ρ):(zu N).bd K ρ 5=g9.fN N ((zu N).kc K 13) ((zu N).kc ρ 5):=κ
theorem al3(ρ):(zu N).kc ((zu N).cC ρ) 5=g9.l2 N N:=Fx.uL [13] (al2 N) ρ (g9.l2 N) λn ρ' e d=>by rw[aep,e];rfl
theorem aw4(K):(zu N).top K=g9.b N ((zu N).kc K 5):=κ
def aw5:Kn prog:=⟨160,(zu N).S true (g9 N),Fx.u1 (zu N) aD func160 [5] (aw4 N) (by rw[al3];rfl)⟩
def ar0:Fx:=⟨14,tab,[],N,f162,[.v eI],[.v I,.v B],[],none⟩
def ar1:Kn prog:=⟨162,(ar0 N).S true (Sz N),Fx.u0 (ar0 N) aD func162⟩
def ar2:Fx:=⟨9,tab,[],N,f163,[.v cV],[.v cV],[],none⟩
def aw6:Kn prog:=⟨163,(ar2 N).S false (ac5 N),Fx.u0 (ar2 N) aD func163⟩
def jK:Fx:=⟨173,tab,Kn.l [k89 N,arv N,alX N,aw5 N,Jb N,ary N,abx N,k86 N,k87 N,ar1 N,aw6 N],N,f115,[.v cV,.v cV],[.v cV,.v I],[⟨36,[(1,.v cV),(8,.own kd),(10,.obj kd),(11,.v I),(54,.v cV),(55,.v I),(56,.v I)],[1,1,1,1,1,0,1,0,0,1,1,0,0,1,1,1],[27]⟩,⟨33,[(1,.v cV),(8,.own kd),(10,.obj kd),(11,.v I),(54,.v cV),(55,.v I),(56,.v I)],[1,1,1,1,1,0,1,0,0,1,1,0,0,1,1,0,0,0],[27]⟩,⟨55,[(1,.v cV),(12,.own kd),(14,.obj kd),(15,.own eI),(107,.own kd),(108,.v I),(109,.v I),(117,.v cV),(118,.v I),(119,.v I)],[1,1,1,1,1,1,1,0,1,0,0,1,1,0,0,1,1,0,1,0,0],[47]⟩,⟨47,[(1,.v cV),(12,.own kd),(107,.own kd),(108,.v I),(109,.v I)],[1,1,1,1,1,1,1,0,1,0,0],[]⟩,⟨27,[(1,.v cV),(8,.own kd),(54,.v cV),(55,.v I),(56,.v I)],[1,1,1,1,1,0,1,0,0],[]⟩,⟨9,[(0,.v cV),(1,.v cV),(30,.v cV),(31,.v I),(32,.v I)],[1,1,0,1,0,0],[]⟩],none⟩
theorem aeq(K ρ):(jK N).bd K ρ 36=cP.ald N ((jK N).kc ρ 27):=κ
theorem aer(ρ):(jK N).kc ((jK N).cC ρ) 36=cP.j18 N ((jK N).kc ρ 27):=Fx.uJ [47] (aeq N) ρ
theorem aes(K ρ):(jK N).bd K ρ 33=cP.wX N ((jK N).kc K 36) ((jK N).kc ρ 27) ((jK N).kc ρ 33):=κ
theorem aet(ρ):(jK N).kc ((jK N).cC ρ) 33=cP.yc N ((jK N).kc ρ 27) N:=Fx.uL [47,36] (aes N) ρ (cP.yc N ((jK N).kc ρ 27)) λn ρ' e d=>by rw[aer,e,d 27 rfl];rfl
theorem aeu(K ρ):(jK N).bd K ρ 55=cP.ac6 N ((jK N).kc ρ 47) ((jK N).kc ρ 55):=κ
theorem aev(ρ):(jK N).kc ((jK N).cC ρ) 55=cP.l27 N ((jK N).kc ρ 47) N:=Fx.uL [] (aeu N) ρ (cP.l27 N ((jK N).kc ρ 47)) λn ρ' e d=>by rw[e,d 47 rfl];rfl
theorem aew(K ρ):(jK N).bd K ρ 47=cP.ac8 N ((jK N).kc K 55) ((jK N).kc ρ 47):=κ
theorem aex(ρ):(jK N).kc ((jK N).cC ρ) 47=cP.l23 N N:=Fx.uL [55] (aew N) ρ (cP.l23 N) λn ρ' e d=>by rw[aev,e];rfl
theorem aey(K ρ):(jK N).bd K ρ 27=cP.lq N ((jK N).kc K 33) ((jK N).kc K 47) ((jK N).kc ρ 27):=κ
theorem aez(ρ):(jK N).kc ((jK N).cC ρ) 27=cP.mw N N:=Fx.uL [47,33,36] (aey N) ρ (cP.mw N) λn ρ' e d=>by rw[aet,aex,e];rfl
theorem al4(K ρ):(jK N).bd K ρ 9=cP.dM N ((jK N).kc K 27) ((jK N).kc ρ 9):=κ
theorem al5(ρ):(jK N).kc ((jK N).cC ρ) 9=cP.l4 N N:=Fx.uL [27,47] (al4 N) ρ (cP.l4 N) λn ρ' e d=>by rw[aez,e];rfl
theorem aw7(K):(jK N).top K=cP.b N ((jK N).kc K 9):=κ
def ar3:Kn prog:=⟨115,(jK N).S false (cP N),Fx.u1 (jK N) aD func115 [9,27,47] (aw7 N) (by rw[al5];rfl)⟩
def ar4:Fx:=⟨9,tab,[],N,f165,[.v cV],[.v cV],[],none⟩
def aw8:Kn prog:=⟨165,(ar4 N).S false (alf N),Fx.u0 (ar4 N) aD func165⟩
def jL:Fx:=⟨185,tab,Kn.l [k31 N,k83 N,k87 N,k32 N,Ja N,k84 N,aby N,k86 N,ar1 N,aw8 N],N,f116,[.v cV,.v iB],[.v cV,.v I],[⟨42,[(1,.v iB),(11,.own kd),(13,.obj s4),(14,.v I),(68,.v iB),(69,.v I),(70,.v I)],[1,1,1,1,1,1,0,1,0,0,1,1,0,0,1,1,1],[33]⟩,⟨39,[(1,.v iB),(11,.own kd),(13,.obj s4),(14,.v I),(68,.v iB),(69,.v I),(70,.v I)],[1,1,1,1,1,1,0,1,0,0,1,1,0,0,1,1,0,0,0],[33]⟩,⟨61,[(1,.v iB),(15,.own kd),(17,.obj kd),(18,.own eI),(121,.own kd),(122,.v I),(123,.v I),(131,.v iB),(132,.v I),(133,.v I)],[1,1,1,1,1,1,1,1,0,1,0,0,1,1,0,0,1,1,0,1,0,0],[53]⟩,⟨53,[(1,.v iB),(15,.own kd),(121,.own kd),(122,.v I),(123,.v I)],[1,1,1,1,1,1,1,1,0,1,0,0],[]⟩,⟨33,[(1,.v iB),(11,.own kd),(68,.v iB),(69,.v I),(70,.v I)],[1,1,1,1,1,1,0,1,0,0],[]⟩,⟨11,[(0,.v cV),(1,.v iB),(6,.own eI),(36,.v iB),(37,.v I),(38,.v I)],[1,1,1,0,1,0,0],[]⟩],none⟩
theorem aeA(K ρ):(jL N).bd K ρ 42=cQ.alg N ((jL N).kc ρ 33):=κ
theorem aeB(ρ):(jL N).kc ((jL N).cC ρ) 42=cQ.j21 N ((jL N).kc ρ 33):=Fx.uJ [53] (aeA N) ρ
theorem aeC(K ρ):(jL N).bd K ρ 39=cQ.SP N ((jL N).kc K 42) ((jL N).kc ρ 33) ((jL N).kc ρ 39):=κ
theorem aeD(ρ):(jL N).kc ((jL N).cC ρ) 39=cQ.WH N ((jL N).kc ρ 33) N:=Fx.uL [53,42] (aeC N) ρ (cQ.WH N ((jL N).kc ρ 33)) λn ρ' e d=>by rw[aeB,e,d 33 rfl];rfl
theorem aeE(K ρ):(jL N).bd K ρ 61=cQ.MA N ((jL N).kc ρ 53) ((jL N).kc ρ 61):=κ
theorem aeF(ρ):(jL N).kc ((jL N).cC ρ) 61=cQ.Pv N ((jL N).kc ρ 53) N:=Fx.uL [] (aeE N) ρ (cQ.Pv N ((jL N).kc ρ 53)) λn ρ' e d=>by rw[e,d 53 rfl];rfl
theorem aeG(K ρ):(jL N).bd K ρ 53=cQ.ade N ((jL N).kc K 61) ((jL N).kc ρ 53):=κ
theorem aeH(ρ):(jL N).kc ((jL N).cC ρ) 53=cQ.l26 N N:=Fx.uL [61] (aeG N) ρ (cQ.l26 N) λn ρ' e d=>by rw[aeF,e];rfl
theorem aeI(K ρ):(jL N).bd K ρ 33=cQ.wX N ((jL N).kc K 39) ((jL N).kc K 53) ((jL N).kc ρ 33):=κ
theorem aeJ(ρ):(jL N).kc ((jL N).cC ρ) 33=cQ.yc N N:=Fx.uL [53,39,42] (aeI N) ρ (cQ.yc N) λn ρ' e d=>by rw[aeD,aeH,e];rfl
theorem aeK(K ρ):(jL N).bd K ρ 11=cQ.dV N ((jL N).kc K 33) ((jL N).kc ρ 11):=κ
theorem aeL(ρ):(jL N).kc ((jL N).cC ρ) 11=cQ.l5 N N:=Fx.uL [33,53] (aeK N) ρ (cQ.l5 N) λn ρ' e d=>by rw[aeJ,e];rfl
theorem aw9(K):(jL N).top K=cQ.b N ((jL N).kc K 11):=κ
def ar5:Kn prog:=⟨116,(jL N).S false (cQ N),Fx.u1 (jL N) aD func116 [11,33,53] (aw9 N) (by rw[aeL];rfl)⟩
def X61:Fx:=⟨37,tab,Kn.l [k70 N,ar3 N,ar5 N],N,f61,[.v aK,.v cV,.v iB],[.v aK,.v I],[],none⟩
def k61:Kn prog:=⟨61,(X61 N).S false (F61 N),Fx.u0 (X61 N) aD func61⟩
def XM:Fx:=⟨113,tab,Kn.l [k9 N,k57 N,k36 N,k60 N,k61 N],N,f13,[.v aA,.v aK,.v yG],[.v aK,.v I],[⟨25,[(4,.obj aK),(6,.obj aK),(10,.own kd),(11,.own s4),(68,.v yG),(69,.v I),(70,.v I)],[1,1,1,1,1,0,1,0,0],[]⟩,⟨9,[(2,.v yG),(3,.obj aA),(4,.obj aK),(6,.obj aK),(30,.v yG),(31,.v I),(32,.v I)],[1,1,0,1,0,0],[]⟩],none⟩
theorem al6(K ρ):(XM N).bd K ρ 25=ur.mN N ((XM N).kc ρ 25):=κ
theorem al7(ρ):(XM N).kc ((XM N).cC ρ) 25=ur.nJ N N:=Fx.uL [] (al6 N) ρ (ur.nJ N) λn ρ' e d=>by rw[e];rfl
theorem ar6(K ρ):(XM N).bd K ρ 9=ur.dM N ((XM N).kc K 25) ((XM N).kc ρ 9):=κ
theorem ar7(ρ):(XM N).kc ((XM N).cC ρ) 9=ur.l4 N N:=Fx.uL [25] (ar6 N) ρ (ur.l4 N) λn ρ' e d=>by rw[al7,e];rfl
theorem h13(K):(XM N).top K=ur.b N ((XM N).kc K 9):=κ
def k13:Kn prog:=⟨13,(XM N).S false (ur N),Fx.u1 (XM N) aD func13 [9,25] (h13 N) (by rw[ar7];rfl)⟩
def X66:Fx:=⟨55,tab,Kn.l [k89 N,k40 N,arX N,arZ N],N,f66,[.v cV,.v I,.v I,.v I],[.own s4,.v I],[⟨11,[(1,.v I),(2,.v I),(3,.v I),(10,.own s4),(26,.v cV),(27,.v I),(28,.v I)],[1,1,1,0,1,0,0],[]⟩],none⟩
theorem al8(K ρ):(X66 N).bd K ρ 11=EL.dV N ((X66 N).kc ρ 11):=κ
theorem al9(ρ):(X66 N).kc ((X66 N).cC ρ) 11=EL.l5 N N:=Fx.uL [] (al8 N) ρ (EL.l5 N) λn ρ' e d=>by rw[e];rfl
theorem h66(K):(X66 N).top K=EL.b N ((X66 N).kc K 11):=κ
def k66:Kn prog:=⟨66,(X66 N).S false (EL N),Fx.u1 (X66 N) aD func66 [11] (h66 N) (by rw[al9];rfl)⟩
def ar8:Fx:=⟨22,tab,Kn.l [QZ N,Q1 N,Ja N,Jb N,Q5 N,Jc N],N,f70,[.v aK],[.sp aK 4 I],[],some (aK,[.gM 4],I,[1,2,1000000])⟩
def axa:Kn prog:=⟨70,(ar8 N).S false (aqW N),Fx.u0 (ar8 N) aD func70⟩
def ar9:Fx:=⟨37,tab,Kn.l [axa N,ar3 N,ar5 N],N,f61,[.v aK,.v cV,.v iB],[.sp aK 4 I,.v I],[],some (aK,[.gM 4],I,[3,6,8,1000000])⟩
def axb:Kn prog:=⟨61,(ar9 N).S false (alG N),Fx.u0 (ar9 N) aD func61⟩
def X17:Fx:=⟨67,tab,Kn.l [k9 N,k40 N,k66 N,axb N],N,f17,[.v aA,.v aK,.v I,.v I],[.v aK,.v iB,.v I],[],some (aK,[.gM 4],I,[5,13])⟩
def k17:Kn prog:=⟨17,(X17 N).S false (F17 N),Fx.u0 (X17 N) aD func17⟩
def X68:Fx:=⟨31,tab,Kn.l [k89 N],N,f68,[.v cV,.v I],[.own kM],[⟨11,[(1,.v I),(5,.own kM),(11,.v cV),(12,.v I),(13,.v I)],[1,1,1,0,1,0,0],[]⟩],none⟩
theorem ama(K ρ):(X68 N).bd K ρ 11=Es.dV N ((X68 N).kc ρ 11):=κ
theorem amb(ρ):(X68 N).kc ((X68 N).cC ρ) 11=Es.l5 N N:=Fx.uL [] (ama N) ρ (Es.l5 N) λn ρ' e d=>by rw[e];rfl
theorem h68(K):(X68 N).top K=Es.b N ((X68 N).kc K 11):=κ
def k68:Kn prog:=⟨68,(X68 N).S false (Es N),Fx.u1 (X68 N) aD func68 [11] (h68 N) (by rw[amb];rfl)⟩
def Sb:Fx:=⟨64,tab,Kn.l [k35 N],N,f69,[.v lE,.v I],[.own kd],[⟨19,[(0,.v lE),(1,.v I),(5,.own kd),(6,.v I),(7,.obj kd),(13,.v I),(18,.v lE),(19,.v I),(20,.v I)],[1,1,1,0,1,0,0,1,1,0,0,1,1,0,1,0,0],[11]⟩,⟨11,[(0,.v lE),(1,.v I),(5,.own kd),(13,.v I)],[1,1,1,0,1,0,0],[]⟩],none⟩
theorem amc(K ρ):(Sb N).bd K ρ 19=rK.uX N ((Sb N).kc ρ 11) ((Sb N).kc ρ 19):=κ
theorem amd(ρ):(Sb N).kc ((Sb N).cC ρ) 19=rK.l9 N ((Sb N).kc ρ 11) N:=Fx.uL [] (amc N) ρ (rK.l9 N ((Sb N).kc ρ 11)) λn ρ' e d=>by rw[e,d 11 rfl];rfl
theorem ame(K ρ):(Sb N).bd K ρ 11=rK.dV N ((Sb N).kc K 19) ((Sb N).kc ρ 11):=κ
theorem amf(ρ):(Sb N).kc ((Sb N).cC ρ) 11=rK.l5 N N:=Fx.uL [19] (ame N) ρ (rK.l5 N) λn ρ' e d=>by rw[amd,e];rfl
theorem h69(K):(Sb N).top K=rK.b N ((Sb N).kc K 11):=κ
def k69:Kn prog:=⟨69,(Sb N).S false (rK N),Fx.u1 (Sb N) aD func69 [11] (h69 N) (by rw[amf];rfl)⟩
def Ra:Fx:=⟨54,tab,Kn.l [alX N,k29 N],N,f117,[.v aA,.v dJ],[.v B],[⟨5,[(1,.v dJ),(2,.obj aA),(7,.v dJ),(8,.v I),(9,.v I)],[1,0,1,0,0],[]⟩],none⟩
theorem amg(K ρ):(Ra N).bd K ρ 5=qb.fN N ((Ra N).kc ρ 5):=κ
theorem amh(ρ):(Ra N).kc ((Ra N).cC ρ) 5=qb.l2 N N:=Fx.uL [] (amg N) ρ (qb.l2 N) λn ρ' e d=>by rw[e];rfl
theorem axc(K):(Ra N).top K=qb.b N ((Ra N).kc K 5):=κ
def asa:Kn prog:=⟨117,(Ra N).S true (qb N),Fx.u1 (Ra N) aD func117 [5] (axc N) (by rw[amh];rfl)⟩
def Rb:Fx:=⟨73,tab,Kn.l [k29 N],N,f118,[.v aA,.v cV],[.v B],[⟨5,[(1,.v cV),(2,.obj aA),(7,.v cV),(8,.v I),(9,.v I)],[1,0,1,0,0],[]⟩],none⟩
theorem ami(K ρ):(Rb N).bd K ρ 5=ql.fN N ((Rb N).kc ρ 5):=κ
theorem amj(ρ):(Rb N).kc ((Rb N).cC ρ) 5=ql.l2 N N:=Fx.uL [] (ami N) ρ (ql.l2 N) λn ρ' e d=>by rw[e];rfl
theorem axd(K):(Rb N).top K=ql.b N ((Rb N).kc K 5):=κ
def asb:Kn prog:=⟨118,(Rb N).S true (ql N),Fx.u1 (Rb N) aD func118 [5] (axd N) (by rw[amj];rfl)⟩
def asc:Fx:=⟨52,tab,Kn.l [TJ N],N,f166,[.v eI,.v eI],[.v eI,.v B],[],none⟩
def axe:Kn prog:=⟨166,(asc N).S true (ZV N),Fx.u0 (asc N) aD func166⟩
def asd:Fx:=⟨52,tab,Kn.l [TK N],N,f167,[.v eI,.v eI],[.v eI,.v B],[],none⟩
def ase:Kn prog:=⟨167,(asd N).S true (Ta N),Fx.u0 (asd N) aD func167⟩
def asf:Fx:=⟨9,tab,Kn.l [ase N],N,f203,[.v eI],[.v eI,.v B],[],none⟩
def axf:Kn prog:=⟨203,(asf N).S true (ado N),Fx.u0 (asf N) aD func203⟩
def asg:Fx:=⟨12,tab,Kn.l [axf N],N,f168,[.v eI],[.v eI,.v B],[],none⟩
def axg:Kn prog:=⟨168,(asg N).S true (Tb N),Fx.u0 (asg N) aD func168⟩
def DH:Fx:=⟨104,tab,Kn.l [asa N,asb N,k86 N,axe N,ase N,axg N,k85 N],N,f119,[.v aA,.v dJ,.v cV,.v I],[.v eI,.v I],[⟨27,[(3,.v I),(8,.obj eI),(10,.v I),(11,.v I),(12,.v I),(57,.v cV),(58,.v I),(59,.v I)],[1,1,1,1,0,1,0,0],[]⟩,⟨15,[(2,.v cV),(3,.v I),(8,.obj eI),(10,.v I),(11,.v I),(12,.v I),(44,.v dJ),(45,.v I),(46,.v I)],[1,1,1,0,1,0,0],[]⟩],none⟩
theorem aeM(K ρ):(DH N).bd K ρ 27=iY.lq N ((DH N).kc ρ 27):=κ
theorem aeN(ρ):(DH N).kc ((DH N).cC ρ) 27=iY.mw N N:=Fx.uL [] (aeM N) ρ (iY.mw N) λn ρ' e d=>by rw[e];rfl
theorem aeO(K ρ):(DH N).bd K ρ 15=iY.nR N ((DH N).kc K 27) ((DH N).kc ρ 15):=κ
theorem aeP(ρ):(DH N).kc ((DH N).cC ρ) 15=iY.l7 N N:=Fx.uL [27] (aeO N) ρ (iY.l7 N) λn ρ' e d=>by rw[aeN,e];rfl
theorem axh(K):(DH N).top K=iY.b N ((DH N).kc K 15):=κ
def axi:Kn prog:=⟨119,(DH N).S true (iY N),Fx.u1 (DH N) aD func119 [15,27] (axh N) (by rw[aeP];rfl)⟩
def ash:Fx:=⟨32,tab,Kn.l [TK N],N,f169,[.v eI],[.v U,.v U],[],none⟩
def axj:Kn prog:=⟨169,(ash N).S true (acS N),Fx.u0 (ash N) aD func169⟩
def asi:Fx:=⟨55,tab,Kn.l [axj N,arS N,arU N,TJ N,arV N],N,f120,[.v eI,.v I],[.v eI,.v B],[],none⟩
def axk:Kn prog:=⟨120,(asi N).S true (adq N),Fx.u0 (asi N) aD func120⟩
def X67:Fx:=⟨62,tab,Kn.l [asa N,asb N,axi N,axk N,k87 N],N,f67,[.v aA,.v dJ,.v cV],[.v eI,.v I],[⟨11,[(1,.v dJ),(2,.v cV),(3,.obj aA),(6,.obj eI),(8,.own eI),(29,.v fy),(30,.v I),(31,.v I)],[1,1,1,0,1,0,0],[]⟩],none⟩
theorem amk(K ρ):(X67 N).bd K ρ 11=It.dV N ((X67 N).kc ρ 11):=κ
theorem aml(ρ):(X67 N).kc ((X67 N).cC ρ) 11=It.l5 N N:=Fx.uL [] (amk N) ρ (It.l5 N) λn ρ' e d=>by rw[e];rfl
theorem h67(K):(X67 N).top K=It.b N ((X67 N).kc K 11):=κ
def k67:Kn prog:=⟨67,(X67 N).S true (It N),Fx.u1 (X67 N) aD func67 [11] (h67 N) (by rw[aml];rfl)⟩
def X18:Fx:=⟨32,tab,Kn.l [k9 N,k36 N,k68 N,k69 N,k67 N],N,f18,[.v aA,.v aK,.v I],[.v eI,.v I],[],none⟩
def k18:Kn prog:=⟨18,(X18 N).S true (F18 N),Fx.u0 (X18 N) aD func18⟩
def X72:Fx:=⟨28,tab,Kn.l [k82 N],N,f72,[.v fy,.v I],[.own I],[⟨11,[(1,.v I),(5,.own I),(11,.v fy),(12,.v I),(13,.v I)],[1,1,1,0,1,0,0],[]⟩],none⟩
theorem amm(K ρ):(X72 N).bd K ρ 11=EN.dV N ((X72 N).kc ρ 11):=κ
theorem amn(ρ):(X72 N).kc ((X72 N).cC ρ) 11=EN.l5 N N:=Fx.uL [] (amm N) ρ (EN.l5 N) λn ρ' e d=>by rw[e];rfl
theorem h72(K):(X72 N).top K=EN.b N ((X72 N).kc K 11):=κ
def k72:Kn prog:=⟨72,(X72 N).S false (EN N),Fx.u1 (X72 N) aD func72 [11] (h72 N) (by rw[amn];rfl)⟩
def Rc:Fx:=⟨19,tab,[],N,f171,[.v LI,.v I],[.v I],[⟨5,[(0,.v LI),(1,.v I),(7,.v I),(8,.v I)],[1,0,1,0,0],[]⟩],none⟩
theorem amo(K ρ):(Rc N).bd K ρ 5=sY.fN N ((Rc N).kc ρ 5):=κ
theorem amp(ρ):(Rc N).kc ((Rc N).cC ρ) 5=sY.l2 N N:=Fx.uL [] (amo N) ρ (sY.l2 N) λn ρ' e d=>by rw[e];rfl
theorem axl(K):(Rc N).top K=sY.b N ((Rc N).kc K 5):=κ
def axm:Kn prog:=⟨171,(Rc N).S true (sY N),Fx.u1 (Rc N) aD func171 [5] (axl N) (by rw[amp];rfl)⟩
def asj:Fx:=⟨9,tab,Kn.l [axm N],N,f129,[.v LI,.v I],[.v B],[],none⟩
def axn:Kn prog:=⟨129,(asj N).S true (ad3 N),Fx.u0 (asj N) aD func129⟩
def asl:Fx:=⟨8,tab,Kn.l [axn N],N,f128,[.v nw,.jf LI],[.v B],[],none⟩
def asm:Kn prog:=⟨128,(asl N).S true (aaT N),Fx.u0 (asl N) aD func128⟩
def Re:Fx:=⟨19,tab,Kn.l [asm N],N,f170,[.v lE,.fn 128 (.pair (.pair LI .unit) .unit)],[.v I],[⟨5,[(0,.v lE),(1,.fn 128 (.pair (.pair LI .unit) .unit)),(7,.v I),(8,.v I)],[1,0,1,0,0],[]⟩],none⟩
theorem amq(K ρ):(Re N).bd K ρ 5=qO.fN N ((Re N).kc ρ 5):=κ
theorem amr(ρ):(Re N).kc ((Re N).cC ρ) 5=qO.l2 N N:=Fx.uL [] (amq N) ρ (qO.l2 N) λn ρ' e d=>by rw[e];rfl
theorem axo(K):(Re N).top K=qO.b N ((Re N).kc K 5):=κ
def axp:Kn prog:=⟨170,(Re N).S true (qO N),Fx.u1 (Re N) aD func170 [5] (axo N) (by rw[amr];rfl)⟩
def Rf:Fx:=⟨42,tab,Kn.l [axp N,asm N],N,f127,[.own nw,.fn 128 (.pair (.pair LI .unit) .unit)],[.v lE],[⟨11,[(0,.own nw),(1,.fn 128 (.pair (.pair LI .unit) .unit)),(5,.v I),(6,.v I)],[1,1,1,0,1,0,0],[]⟩],some (.unit,[],.unit,[1000001])⟩
theorem aeQ(K ρ):(Rf N).bd K ρ 11=s0.dV N ((Rf N).kc ρ 11):=κ
theorem aeR(ρ):(Rf N).kc ((Rf N).cC ρ) 11=s0.l5 N N:=Fx.uL [] (aeQ N) ρ (s0.l5 N) λn ρ' e d=>by rw[e];rfl
theorem axq(K):(Rf N).top K=s0.b N ((Rf N).kc K 11):=κ
def axr:Kn prog:=⟨127,(Rf N).S false (s0 N),Fx.u1 (Rf N) aD func127 [11] (axq N) (by rw[aeR];rfl)⟩
def X71:Fx:=⟨12,tab,Kn.l [k35 N,Jc N,axr N],N,f71,[.v lE,.v LI],[.v lE],[],none⟩
def k71:Kn prog:=⟨71,(X71 N).S false (F71 N),Fx.u0 (X71 N) aD func71⟩
def X19:Fx:=⟨33,tab,Kn.l [k9 N,k37 N,k70 N,k72 N,k71 N],N,f19,[.v aA,.v aK,.v I],[.v aK,.v I],[],none⟩
def k19:Kn prog:=⟨19,(X19 N).S false (F19 N),Fx.u0 (X19 N) aD func19⟩
def X20:Fx:=⟨26,tab,[],N,f20,[.v cV,.v cV],[.v B],[⟨9,[(0,.v cV),(1,.v cV),(5,.v I)],[1,1,0,1,0,0],[]⟩],none⟩
theorem asn(K ρ):(X20 N).bd K ρ 9=Di.dM N ((X20 N).kc ρ 9):=κ
theorem aso(ρ):(X20 N).kc ((X20 N).cC ρ) 9=Di.l4 N N:=Fx.uL [] (asn N) ρ (Di.l4 N) λn ρ' e d=>by rw[e];rfl
theorem h20(K):(X20 N).top K=Di.b N ((X20 N).kc K 9):=κ
def k20:Kn prog:=⟨20,(X20 N).S true (Di N),Fx.u1 (X20 N) aD func20 [9] (h20 N) (by rw[aso];rfl)⟩
def X21:Fx:=⟨26,tab,[],N,f21,[.v LI,.v LI],[.v B],[⟨9,[(0,.v LI),(1,.v LI),(5,.v I)],[1,1,0,1,0,0],[]⟩],none⟩
theorem asq(K ρ):(X21 N).bd K ρ 9=Dj.dM N ((X21 N).kc ρ 9):=κ
theorem asr(ρ):(X21 N).kc ((X21 N).cC ρ) 9=Dj.l4 N N:=Fx.uL [] (asq N) ρ (Dj.l4 N) λn ρ' e d=>by rw[e];rfl
theorem h21(K):(X21 N).top K=Dj.b N ((X21 N).kc K 9):=κ
def k21:Kn prog:=⟨21,(X21 N).S true (Dj N),Fx.u1 (X21 N) aD func21 [9] (h21 N) (by rw[asr];rfl)⟩
def X73:Fx:=⟨78,tab,[],N,f73,[.v cV],[.v B],[⟨5,[(0,.v cV),(3,.v I)],[1,0,1,0,0],[]⟩],none⟩
theorem ass(K ρ):(X73 N).bd K ρ 5=AD.fN N ((X73 N).kc ρ 5):=κ
theorem ast(ρ):(X73 N).kc ((X73 N).cC ρ) 5=AD.l2 N N:=Fx.uL [] (ass N) ρ (AD.l2 N) λn ρ' e d=>by rw[e];rfl
theorem h73(K):(X73 N).top K=AD.b N ((X73 N).kc K 5):=κ
def k73:Kn prog:=⟨73,(X73 N).S true (AD N),Fx.u1 (X73 N) aD func73 [5] (h73 N) (by rw[ast];rfl)⟩
def X22:Fx:=⟨38,tab,Kn.l [k73 N],N,f22,[.v cV,.v I,.v I],[.v I],[⟨9,[(0,.v cV),(1,.v I),(2,.v I),(7,.v I)],[1,1,0,1,0,0],[]⟩],none⟩
theorem asu(K ρ):(X22 N).bd K ρ 9=CC.dM N ((X22 N).kc ρ 9):=κ
theorem asv(ρ):(X22 N).kc ((X22 N).cC ρ) 9=CC.l4 N N:=Fx.uL [] (asu N) ρ (CC.l4 N) λn ρ' e d=>by rw[e];rfl
theorem h22(K):(X22 N).top K=CC.b N ((X22 N).kc K 9):=κ
def k22:Kn prog:=⟨22,(X22 N).S true (CC N),Fx.u1 (X22 N) aD func22 [9] (h22 N) (by rw[asv];rfl)⟩
def X97:Fx:=⟨30,tab,[],N,f97,[.v I,.v I],[.v B],[],none⟩
def k97:Kn prog:=⟨97,(X97 N).S true (F97 N),Fx.u0 (X97 N) aD func97⟩
def X43:Fx:=⟨74,tab,Kn.l [k97 N],N,f43,[.v cV],[.v B],[⟨5,[(0,.v cV),(3,.v I)],[1,0,1,0,0],[]⟩],none⟩
theorem asw(K ρ):(X43 N).bd K ρ 5=C3.fN N ((X43 N).kc ρ 5):=κ
theorem asx(ρ):(X43 N).kc ((X43 N).cC ρ) 5=C3.l2 N N:=Fx.uL [] (asw N) ρ (C3.l2 N) λn ρ' e d=>by rw[e];rfl
theorem h43(K):(X43 N).top K=C3.b N ((X43 N).kc K 5):=κ
def k43:Kn prog:=⟨43,(X43 N).S true (C3 N),Fx.u1 (X43 N) aD func43 [5] (h43 N) (by rw[asx];rfl)⟩
def X23:Fx:=⟨38,tab,Kn.l [k43 N],N,f23,[.v cV,.v I,.v I],[.v I],[⟨9,[(0,.v cV),(1,.v I),(2,.v I),(7,.v I)],[1,1,0,1,0,0],[]⟩],none⟩
theorem asy(K ρ):(X23 N).bd K ρ 9=vn.dM N ((X23 N).kc ρ 9):=κ
theorem asz(ρ):(X23 N).kc ((X23 N).cC ρ) 9=vn.l4 N N:=Fx.uL [] (asy N) ρ (vn.l4 N) λn ρ' e d=>by rw[e];rfl
theorem h23(K):(X23 N).top K=vn.b N ((X23 N).kc K 9):=κ
def k23:Kn prog:=⟨23,(X23 N).S true (vn N),Fx.u1 (X23 N) aD func23 [9] (h23 N) (by rw[asz];rfl)⟩
def X5:Fx:=⟨145,tab,Kn.l [k15 N,k16 N,k13 N,k17 N,k18 N,k19 N,k20 N,k21 N,k22 N,k23 N,k9 N],N,f5,[],[.v B],[],none⟩
theorem aFi:tF prog (X5 N).E:=Fx.OZ (X5 N) aD (Kn.all _) κ
theorem aFj: ∀x,Of (X5 N).E (X5 N).fn (X5 N).args (X5 N).res x=JP (X5 N).args (F5 N) x:=Fx.acI κ
def k5:Kn prog:=⟨5,(X5 N).S true (F5 N),Fx.u0 (X5 N) aD func5⟩
def X6:Fx:=⟨6,tab,[],N,f6,[.v LU],[.ptr eB],[],none⟩
def k6:Kn prog:=⟨6,(X6 N).S false (F6 N),Fx.u0 (X6 N) aD func6⟩
def X74:Fx:=⟨32,tab,[],N,f74,[.io eB],[.v U,.io eB],[],none⟩
def k74:Kn prog:=⟨74,(X74 N).S false (F74 N),Fx.u0 (X74 N) aD func74⟩
def X24:Fx:=⟨11,tab,Kn.l [k74 N],N,f24,[.io eB,.v I],[.v I,.io eB],[],none⟩
def k24:Kn prog:=⟨24,(X24 N).S false (qV N),Fx.u0 (X24 N) aD func24⟩
def X25:Fx:=⟨11,tab,Kn.l [k24 N],N,f25,[.io eB,.v I],[.v B,.io eB],[],none⟩
def k25:Kn prog:=⟨25,(X25 N).S false (Te N),Fx.u0 (X25 N) aD func25⟩
def X26:Fx:=⟨29,tab,Kn.l [k74 N],N,f26,[.io eB],[.v I,.io eB],[],none⟩
def k26:Kn prog:=⟨26,(X26 N).S false (NH N),Fx.u0 (X26 N) aD func26⟩
def X7:Fx:=⟨71,tab,Kn.l [k24 N,k25 N,k26 N],N,f7,[.io eB],[.v aA,.io eB],[⟨16,[(0,.io eB),(2,.obj aA),(3,.gk aA [.gM 0] ff),(4,.v I),(5,.obj ff)],[1,1,0,1,0,0,1,0,0,1,1],[7]⟩,⟨7,[(0,.io eB),(2,.obj aA),(3,.gk aA [.gM 0] ff),(4,.v I)],[1,1,0,1,0,0],[]⟩],some (aA,[.gM 0],ff,[3])⟩
theorem asA(K ρ):(X7 N).bd K ρ 16=F7.ZL N ((X7 N).kc ρ 7):=κ
theorem asB(ρ):(X7 N).kc ((X7 N).cC ρ) 16=F7.j8 N ((X7 N).kc ρ 7):=Fx.uJ [] (asA N) ρ
theorem axv(K ρ):(X7 N).bd K ρ 7=F7.nY N ((X7 N).kc K 16) ((X7 N).kc ρ 7):=κ
theorem axw(ρ):(X7 N).kc ((X7 N).cC ρ) 7=F7.l3 N N:=Fx.uL [16] (axv N) ρ (F7.l3 N) λn ρ' e d=>by rw[asB,e];rfl
theorem h7(K):(X7 N).top K=F7.b N ((X7 N).kc K 7):=κ
def k7:Kn prog:=⟨7,(X7 N).S false (F7 N),Fx.u1 (X7 N) aD func7 [7] (h7 N) (by rw[axw];rfl)⟩
def asC:Fx:=⟨30,tab,Kn.l [k24 N,k25 N,k26 N],N,f133,[.io eB,.v aA,.v I],[.v mc,.io eB],[],none⟩
def amt:Kn prog:=⟨133,(asC N).S false (W4 N),Fx.u0 (asC N) aD func133⟩
def asD:Fx:=⟨48,tab,Kn.l [k24 N,k25 N,k26 N],N,f134,[.io eB,.v aA],[.v mc,.io eB],[],none⟩
def asE:Kn prog:=⟨134,(asD N).S false (aaj N),Fx.u0 (asD N) aD func134⟩
def X77:Fx:=⟨133,tab,Kn.l [k24 N,k26 N,amt N,asE N],N,f77,[.io eB,.v aA],[.v mc,.io eB],[],none⟩
def k77:Kn prog:=⟨77,(X77 N).S false (F77 N),Fx.u0 (X77 N) aD func77⟩
def w6:Fx:=⟨62,tab,Kn.l [k25 N,k24 N],N,f135,[.io eB,.v aA],[.own mc,.io eB],[⟨27,[(0,.io eB),(5,.own mc),(8,.v I)],[1,1,1,1,0,1,0,0],[]⟩,⟨19,[(0,.io eB),(5,.own mc),(7,.v I)],[1,1,1,0,1,0,0],[]⟩,⟨7,[(0,.io eB),(5,.own mc),(6,.v I)],[1,1,0,1,0,0],[]⟩],none⟩
theorem aeS(K ρ):(w6 N).bd K ρ 27=gF.lq N ((w6 N).kc ρ 27):=κ
theorem aeT(ρ):(w6 N).kc ((w6 N).cC ρ) 27=gF.mw N N:=Fx.uL [] (aeS N) ρ (gF.mw N) λn ρ' e d=>by rw[e];rfl
theorem aeU(K ρ):(w6 N).bd K ρ 19=gF.uX N ((w6 N).kc K 27) ((w6 N).kc ρ 19):=κ
theorem aeV(ρ):(w6 N).kc ((w6 N).cC ρ) 19=gF.l9 N N:=Fx.uL [27] (aeU N) ρ (gF.l9 N) λn ρ' e d=>by rw[aeT,e];rfl
theorem amu(K ρ):(w6 N).bd K ρ 7=gF.nY N ((w6 N).kc K 19) ((w6 N).kc ρ 7):=κ
theorem amv(ρ):(w6 N).kc ((w6 N).cC ρ) 7=gF.l3 N N:=Fx.uL [19,27] (amu N) ρ (gF.l3 N) λn ρ' e d=>by rw[aeV,e];rfl
theorem axy(K):(w6 N).top K=gF.b N ((w6 N).kc K 7):=κ
def axz:Kn prog:=⟨135,(w6 N).S false (gF N),Fx.u1 (w6 N) aD func135 [7,19,27] (axy N) (by rw[amv];rfl)⟩
def X78:Fx:=⟨50,tab,Kn.l [axz N,k24 N,k77 N,amt N,asE N],N,f78,[.io eB,.v aA,.v I],[.own mc,.io eB],[⟨7,[(0,.io eB),(4,.obj aA),(7,.own mc),(8,.v I)],[1,1,0,1,0,0],[]⟩],none⟩
theorem asF(K ρ):(X78 N).bd K ρ 7=Fl.nY N ((X78 N).kc ρ 7):=κ
theorem asG(ρ):(X78 N).kc ((X78 N).cC ρ) 7=Fl.l3 N N:=Fx.uL [] (asF N) ρ (Fl.l3 N) λn ρ' e d=>by rw[e];rfl
theorem h78(K):(X78 N).top K=Fl.b N ((X78 N).kc K 7):=κ
def k78:Kn prog:=⟨78,(X78 N).S false (Fl N),Fx.u1 (X78 N) aD func78 [7] (h78 N) (by rw[asG];rfl)⟩
def X93:Fx:=⟨15,tab,[],N,f93,[.v I,.v I,.v I],[.v B],[],none⟩
def k93:Kn prog:=⟨93,(X93 N).S true (F93 N),Fx.u0 (X93 N) aD func93⟩
def X41:Fx:=⟨77,tab,Kn.l [k93 N],N,f41,[.v aA],[.v B],[⟨9,[(1,.obj aA),(3,.v I)],[1,1,0,1,0,0],[]⟩],none⟩
theorem asH(K ρ):(X41 N).bd K ρ 9=Ah.dM N ((X41 N).kc ρ 9):=κ
theorem asI(ρ):(X41 N).kc ((X41 N).cC ρ) 9=Ah.l4 N N:=Fx.uL [] (asH N) ρ (Ah.l4 N) λn ρ' e d=>by rw[e];rfl
theorem h41(K):(X41 N).top K=Ah.b N ((X41 N).kc K 9):=κ
def k41:Kn prog:=⟨41,(X41 N).S true (Ah N),Fx.u1 (X41 N) aD func41 [9] (h41 N) (by rw[asI];rfl)⟩
def Fv:Fx:=⟨41,tab,Kn.l [k41 N],N,f130,[.v aA],[.v aK,.v I],[⟨15,[(1,.obj aA),(2,.obj aK),(4,.gk aK [.gM 4] I),(5,.v I)],[1,1,1,1,0,1,0,0],[]⟩,⟨12,[(1,.obj aA),(2,.obj aK),(4,.gk aK [.gM 4] I)],[1,1,1,1],[]⟩],some (aK,[.gM 4],I,[4])⟩
theorem aeW(K ρ):(Fv N).bd K ρ 15=ja.nR N ((Fv N).kc ρ 15):=κ
theorem aeX(ρ):(Fv N).kc ((Fv N).cC ρ) 15=ja.l7 N N:=Fx.uL [] (aeW N) ρ (ja.l7 N) λn ρ' e d=>by rw[e];rfl
theorem aeY(K ρ):(Fv N).bd K ρ 12=ja.O6 N ((Fv N).kc K 15):=κ
theorem aeZ(ρ):(Fv N).kc ((Fv N).cC ρ) 12=ja.j6 N:=Fx.uJ [15] (aeY N) ρ (by rw[aeX];rfl)
theorem axA(K):(Fv N).top K=ja.b N ((Fv N).kc K 12):=κ
def axB:Kn prog:=⟨130,(Fv N).S false (ja N),Fx.u1 (Fv N) aD func130 [12,15] (axA N) (by rw[aeZ];rfl)⟩
def X75:Fx:=⟨17,tab,Kn.l [axB N],N,f75,[.v aA],[.v dP,.v I],[],none⟩
def k75:Kn prog:=⟨75,(X75 N).S false (F75 N),Fx.u0 (X75 N) aD func75⟩
def Rg:Fx:=⟨33,tab,Kn.l [k24 N,k25 N,amt N,k77 N],N,f136,[.io eB,.v aA],[.own mc,.io eB],[⟨7,[(0,.io eB),(3,.obj aA),(5,.own mc),(6,.v I)],[1,1,0,1,0,0],[]⟩],none⟩
theorem amx(K ρ):(Rg N).bd K ρ 7=oJ.nY N ((Rg N).kc ρ 7):=κ
theorem amy(ρ):(Rg N).kc ((Rg N).cC ρ) 7=oJ.l3 N N:=Fx.uL [] (amx N) ρ (oJ.l3 N) λn ρ' e d=>by rw[e];rfl
theorem axC(K):(Rg N).top K=oJ.b N ((Rg N).kc K 7):=κ
def asJ:Kn prog:=⟨136,(Rg N).S false (oJ N),Fx.u1 (Rg N) aD func136 [7] (axC N) (by rw[amy];rfl)⟩
def asK:Fx:=⟨9,tab,[],N,f172,[.v I],[.v B],[],none⟩
def axD:Kn prog:=⟨172,(asK N).S true (alv N),Fx.u0 (asK N) aD func172⟩
def asL:Fx:=⟨32,tab,[],N,f173,[.v I],[.v Z],[],none⟩
def axE:Kn prog:=⟨173,(asL N).S true (adD N),Fx.u0 (asL N) aD func173⟩
def asM:Fx:=⟨12,tab,[],N,f204,[.v I],[.v I,.v I],[],none⟩
def axF:Kn prog:=⟨204,(asM N).S true (als N),Fx.u0 (asM N) aD func204⟩
def asN:Fx:=⟨6,tab,[],N,f205,[.v I],[.v I,.v I],[],none⟩
def axG:Kn prog:=⟨205,(asN N).S true (alu N),Fx.u0 (asN N) aD func205⟩
def asO:Fx:=⟨27,tab,Kn.l [axF N,axG N],N,f174,[.v I,.v (.int .u8)],[.v I,.v I],[],none⟩
def axH:Kn prog:=⟨174,(asO N).S true (adE N),Fx.u0 (asO N) aD func174⟩
def asP:Fx:=⟨32,tab,[],N,f175,[.v mc,.v (.int .u8)],[.v I],[],none⟩
def axI:Kn prog:=⟨175,(asP N).S true (adF N),Fx.u0 (asP N) aD func175⟩
def asQ:Fx:=⟨35,tab,[],N,f176,[.v mc,.v (.int .u8),.v I],[.v mc],[],none⟩
def axJ:Kn prog:=⟨176,(asQ N).S true (adG N),Fx.u0 (asQ N) aD func176⟩
def Rh:Fx:=⟨56,tab,Kn.l [axD N,axE N,axH N,axI N,axJ N],N,f131,[.v mc],[.v B],[⟨13,[(1,.obj mc),(3,.v Z),(4,.obj mc),(5,.v I)],[1,1,1,1,0,1,0,0],[]⟩],none⟩
theorem ae0(K ρ):(Rh N).bd K ρ 13=sN.uU N ((Rh N).kc ρ 13):=κ
theorem ae1(ρ):(Rh N).kc ((Rh N).cC ρ) 13=sN.l6 N N:=Fx.uL [] (ae0 N) ρ (sN.l6 N) λn ρ' e d=>by rw[e];rfl
theorem axK(K):(Rh N).top K=sN.b N ((Rh N).kc K 13):=κ
def axL:Kn prog:=⟨131,(Rh N).S true (sN N),Fx.u1 (Rh N) aD func131 [13] (axK N) (by rw[ae1];rfl)⟩
def X94:Fx:=⟨58,tab,[],N,f94,[.v dJ],[.v B],[⟨5,[(0,.v dJ),(3,.v I)],[1,0,1,0,0],[]⟩],none⟩
theorem asR(K ρ):(X94 N).bd K ρ 5=CB.fN N ((X94 N).kc ρ 5):=κ
theorem asS(ρ):(X94 N).kc ((X94 N).cC ρ) 5=CB.l2 N N:=Fx.uL [] (asR N) ρ (CB.l2 N) λn ρ' e d=>by rw[e];rfl
theorem h94(K):(X94 N).top K=CB.b N ((X94 N).kc K 5):=κ
def k94:Kn prog:=⟨94,(X94 N).S true (CB N),Fx.u1 (X94 N) aD func94 [5] (h94 N) (by rw[asS];rfl)⟩
def X96:Fx:=⟨24,tab,[],N,f96,[.v dJ,.v I],[.v I],[⟨5,[(0,.v dJ),(1,.v I),(5,.v I)],[1,0,1,0,0],[]⟩],none⟩
theorem asT(K ρ):(X96 N).bd K ρ 5=AF.fN N ((X96 N).kc ρ 5):=κ
theorem asU(ρ):(X96 N).kc ((X96 N).cC ρ) 5=AF.l2 N N:=Fx.uL [] (asT N) ρ (AF.l2 N) λn ρ' e d=>by rw[e];rfl
theorem h96(K):(X96 N).top K=AF.b N ((X96 N).kc K 5):=κ
def k96:Kn prog:=⟨96,(X96 N).S true (AF N),Fx.u1 (X96 N) aD func96 [5] (h96 N) (by rw[asU];rfl)⟩
def Fw:Fx:=⟨53,tab,Kn.l [k94 N,k96 N],N,f177,[.v dJ,.v I],[.own kM,.v I],[⟨18,[(0,.v dJ),(1,.v I),(6,.own kM),(7,.v I)],[1,1,1,1,1,1],[]⟩,⟨15,[(0,.v dJ),(1,.v I),(6,.own kM),(7,.v I)],[1,1,1,1,1,0,0,0],[]⟩],none⟩
theorem ae2(K ρ):(Fw N).bd K ρ 18=iZ.Pe N:=κ
theorem ae3(ρ):(Fw N).kc ((Fw N).cC ρ) 18=iZ.j9 N:=Fx.uJ [] (ae2 N) ρ
theorem ae4(K ρ):(Fw N).bd K ρ 15=iZ.nR N ((Fw N).kc K 18) ((Fw N).kc ρ 15):=κ
theorem ae5(ρ):(Fw N).kc ((Fw N).cC ρ) 15=iZ.l7 N N:=Fx.uL [18] (ae4 N) ρ (iZ.l7 N) λn ρ' e d=>by rw[ae3,e];rfl
theorem axM(K):(Fw N).top K=iZ.b N ((Fw N).kc K 15):=κ
def axN:Kn prog:=⟨177,(Fw N).S false (iZ N),Fx.u1 (Fw N) aD func177 [15,18] (axM N) (by rw[ae5];rfl)⟩
def asV:Fx:=⟨5,tab,[],N,f178,[.v I],[.v kd],[],none⟩
def ae6:Kn prog:=⟨178,(asV N).S true (gj N),Fx.u0 (asV N) aD func178⟩
def Jw:Fx:=⟨95,tab,[],N,f95,[.v fy],[.v B],[⟨17,[(0,.v fy),(3,.v I),(4,.obj ff),(5,.v I)],[1,0,1,0,0,1,0,0,1,1,1,0,0],[5]⟩,⟨14,[(0,.v fy),(3,.v I),(4,.obj ff)],[1,0,1,0,0,1,0,0,1,1],[5]⟩,⟨5,[(0,.v fy),(3,.v I)],[1,0,1,0,0],[]⟩],none⟩
theorem amz(K ρ):(Jw N).bd K ρ 17=m4.Ej N ((Jw N).kc ρ 5) ((Jw N).kc ρ 17):=κ
theorem amA(ρ):(Jw N).kc ((Jw N).cC ρ) 17=m4.l8 N ((Jw N).kc ρ 5) N:=Fx.uL [] (amz N) ρ (m4.l8 N ((Jw N).kc ρ 5)) λn ρ' e d=>by rw[e,d 5 rfl];rfl
theorem amB(K ρ):(Jw N).bd K ρ 14=m4.XX N ((Jw N).kc K 17) ((Jw N).kc ρ 5):=κ
theorem amC(ρ):(Jw N).kc ((Jw N).cC ρ) 14=m4.j7 N ((Jw N).kc ρ 5):=Fx.uJ [17] (amB N) ρ (by rw[amA];rfl)
theorem asW(K ρ):(Jw N).bd K ρ 5=m4.fN N ((Jw N).kc K 14) ((Jw N).kc ρ 5):=κ
theorem asX(ρ):(Jw N).kc ((Jw N).cC ρ) 5=m4.l2 N N:=Fx.uL [14,17] (asW N) ρ (m4.l2 N) λn ρ' e d=>by rw[amC,e];rfl
theorem h95(K):(Jw N).top K=m4.b N ((Jw N).kc K 5):=κ
def k95:Kn prog:=⟨95,(Jw N).S true (m4 N),Fx.u1 (Jw N) aD func95 [5] (h95 N) (by rw[asX];rfl)⟩
def X42:Fx:=⟨28,tab,Kn.l [k94 N,k95 N,k96 N],N,f42,[.v dJ,.v fy],[.v B],[⟨9,[(0,.v dJ),(1,.v fy),(5,.v I)],[1,1,0,1,0,0],[]⟩],none⟩
theorem asY(K ρ):(X42 N).bd K ρ 9=Dd.dM N ((X42 N).kc ρ 9):=κ
theorem asZ(ρ):(X42 N).kc ((X42 N).cC ρ) 9=Dd.l4 N N:=Fx.uL [] (asY N) ρ (Dd.l4 N) λn ρ' e d=>by rw[e];rfl
theorem h42(K):(X42 N).top K=Dd.b N ((X42 N).kc K 9):=κ
def k42:Kn prog:=⟨42,(X42 N).S true (Dd N),Fx.u1 (X42 N) aD func42 [9] (h42 N) (by rw[asZ];rfl)⟩
def Ri:Fx:=⟨25,tab,[],N,f147,[.v fy,.v I],[.v ff,.v B],[⟨5,[(0,.v fy),(1,.v I),(4,.obj ff),(6,.v I)],[1,0,1,0,0],[]⟩],none⟩
theorem amD(K ρ):(Ri N).bd K ρ 5=oU.fN N ((Ri N).kc ρ 5):=κ
theorem amE(ρ):(Ri N).kc ((Ri N).cC ρ) 5=oU.l2 N N:=Fx.uL [] (amD N) ρ (oU.l2 N) λn ρ' e d=>by rw[e];rfl
theorem axP(K):(Ri N).top K=oU.b N ((Ri N).kc K 5):=κ
def ae7:Kn prog:=⟨147,(Ri N).S true (oU N),Fx.u1 (Ri N) aD func147 [5] (axP N) (by rw[amE];rfl)⟩
def Rj:Fx:=⟨35,tab,Kn.l [k95 N],N,f206,[.v fy,.v I],[.v I],[⟨9,[(0,.v fy),(1,.v I),(5,.v I)],[1,1,0,1,0,0],[]⟩],none⟩
theorem amF(K ρ):(Rj N).bd K ρ 9=nq.dM N ((Rj N).kc ρ 9):=κ
theorem amG(ρ):(Rj N).kc ((Rj N).cC ρ) 9=nq.l4 N N:=Fx.uL [] (amF N) ρ (nq.l4 N) λn ρ' e d=>by rw[e];rfl
theorem axQ(K):(Rj N).top K=nq.b N ((Rj N).kc K 9):=κ
def abB:Kn prog:=⟨206,(Rj N).S true (nq N),Fx.u1 (Rj N) aD func206 [9] (axQ N) (by rw[amG];rfl)⟩
def zv:Fx:=⟨81,tab,Kn.l [k42 N,k95 N,k96 N,ae7 N,abB N],N,f179,[.v dJ,.v fy,.v ff],[.own ff,.v I],[⟨30,[(1,.v fy),(5,.obj ff),(11,.own ff),(12,.v I)],[1,1,1,1,1,1,1,1,1],[]⟩,⟨27,[(1,.v fy),(5,.obj ff),(11,.own ff),(12,.v I)],[1,1,1,1,1,1,1,1,0,0,0],[]⟩,⟨22,[(1,.v fy),(5,.obj ff)],[1,1,1,1,1,1],[]⟩],none⟩
theorem ae8(K ρ):(zv N).bd K ρ 30=fU.w3 N:=κ
theorem ae9(ρ):(zv N).kc ((zv N).cC ρ) 30=fU.Dt N:=Fx.uJ [] (ae8 N) ρ
theorem afa(K ρ):(zv N).bd K ρ 27=fU.lq N ((zv N).kc K 30) ((zv N).kc ρ 27):=κ
theorem afb(ρ):(zv N).kc ((zv N).cC ρ) 27=fU.mw N N:=Fx.uL [30] (afa N) ρ (fU.mw N) λn ρ' e d=>by rw[ae9,e];rfl
theorem afc(K ρ):(zv N).bd K ρ 22=fU.Du N ((zv N).kc K 27):=κ
theorem afd(ρ):(zv N).kc ((zv N).cC ρ) 22=fU.Lg N:=Fx.uJ [27,30] (afc N) ρ (by rw[afb];rfl)
theorem axR(K):(zv N).top K=fU.b N ((zv N).kc K 22):=κ
def axS:Kn prog:=⟨179,(zv N).S false (fU N),Fx.u1 (zv N) aD func179 [22,27,30] (axR N) (by rw[afd];rfl)⟩
def as0:Fx:=⟨15,tab,Kn.l [k95 N,ae7 N],N,f102,[.v fy,.v I],[.v ff,.v B],[],none⟩
def Rk:Kn prog:=⟨102,(as0 N).S true (Dc N),Fx.u0 (as0 N) aD func102⟩
def as2:Fx:=⟨16,tab,Kn.l [Rk N],N,f180,[.v dP,.v I],[.v B],[],none⟩
def axT:Kn prog:=⟨180,(as2 N).S true (Tm N),Fx.u0 (as2 N) aD func180⟩
def Rl:Fx:=⟨22,tab,[],N,f191,[.v LU],[.v LU],[⟨5,[(0,.v LU),(3,.v I)],[1,1,0,0,0],[]⟩],none⟩
theorem amH(K ρ):(Rl N).bd K ρ 5=pd.fN N ((Rl N).kc ρ 5):=κ
theorem amI(ρ):(Rl N).kc ((Rl N).cC ρ) 5=pd.l2 N N:=Fx.uL [] (amH N) ρ (pd.l2 N) λn ρ' e d=>by rw[e];rfl
theorem axU(K):(Rl N).top K=pd.b N ((Rl N).kc K 5):=κ
def amJ:Kn prog:=⟨191,(Rl N).S false (pd N),Fx.u1 (Rl N) aD func191 [5] (axU N) (by rw[amI];rfl)⟩
def as3:Fx:=⟨9,tab,Kn.l [amJ N],N,f146,[.v U],[.v LU],[],none⟩
def as4:Kn prog:=⟨146,(as3 N).S false (Wi N),Fx.u0 (as3 N) aD func146⟩
def as5:Fx:=⟨15,tab,Kn.l [amJ N],N,f142,[.v B,.v LU],[.v dm],[],none⟩
def XN:Kn prog:=⟨142,(as5 N).S false (CY N),Fx.u0 (as5 N) aD func142⟩
def as6:Fx:=⟨15,tab,Kn.l [as4 N,XN N],N,f101,[.v I],[.v dm],[],none⟩
def nC:Kn prog:=⟨101,(as6 N).S false (eC N),Fx.u0 (as6 N) aD func101⟩
def as7:Fx:=⟨9,tab,Kn.l [XN N],N,f150,[.v dm],[.v dm],[],none⟩
def TV:Kn prog:=⟨150,(as7 N).S false (E8 N),Fx.u0 (as7 N) aD func150⟩
def as8:Fx:=⟨21,tab,Kn.l [TV N],N,f207,[.v I,.v I,.v I,.v I,.v dm],[.own s6],[],none⟩
def abC:Kn prog:=⟨207,(as8 N).S false (Dw N),Fx.u0 (as8 N) aD func207⟩
def as9:Fx:=⟨13,tab,[],N,f192,[.v LU,.v I],[.v U],[],none⟩
def afe:Kn prog:=⟨192,(as9 N).S true (Mm N),Fx.u0 (as9 N) aD func192⟩
def Cw:Fx:=⟨41,tab,Kn.l [afe N],N,f143,[.v LU,.v LU],[.own U],[⟨12,[(0,.v LU),(1,.v LU),(5,.own U),(6,.v U),(7,.v I)],[1,1,1,0,1,0,0,1],[9]⟩,⟨9,[(0,.v LU),(1,.v LU),(5,.own U),(6,.v U),(7,.v I)],[1,1,1,0,1,0,0],[]⟩],none⟩
theorem aff(K ρ):(Cw N).bd K ρ 12=kg.O6 N ((Cw N).kc ρ 9):=κ
theorem afg(ρ):(Cw N).kc ((Cw N).cC ρ) 12=kg.j6 N ((Cw N).kc ρ 9):=Fx.uJ [] (aff N) ρ
theorem amK(K ρ):(Cw N).bd K ρ 9=kg.dM N ((Cw N).kc K 12) ((Cw N).kc ρ 9):=κ
theorem amL(ρ):(Cw N).kc ((Cw N).cC ρ) 9=kg.l4 N N:=Fx.uL [12] (amK N) ρ (kg.l4 N) λn ρ' e d=>by rw[afg,e];rfl
theorem axV(K):(Cw N).top K=kg.b N ((Cw N).kc K 9):=κ
def axW:Kn prog:=⟨143,(Cw N).S false (kg N),Fx.u1 (Cw N) aD func143 [9] (axV N) (by rw[amL];rfl)⟩
def Rm:Fx:=⟨41,tab,[],N,f144,[.v LU,.v LU],[.v I],[⟨13,[(0,.v LU),(1,.v LU),(5,.v I)],[1,1,0,1,0,0],[]⟩],none⟩
theorem afh(K ρ):(Rm N).bd K ρ 13=qA.uU N ((Rm N).kc ρ 13):=κ
theorem afi(ρ):(Rm N).kc ((Rm N).cC ρ) 13=qA.l6 N N:=Fx.uL [] (afh N) ρ (qA.l6 N) λn ρ' e d=>by rw[e];rfl
theorem axX(K):(Rm N).top K=qA.b N ((Rm N).kc K 13):=κ
def axY:Kn prog:=⟨144,(Rm N).S true (qA N),Fx.u1 (Rm N) aD func144 [13] (axX N) (by rw[afi];rfl)⟩
def Rn:Fx:=⟨37,tab,Kn.l [afe N],N,f145,[.v LU,.v LU],[.own U],[⟨9,[(0,.v LU),(1,.v LU),(5,.own U),(6,.v U),(7,.v I)],[1,1,1,0,1,0,0],[]⟩],none⟩
theorem amM(K ρ):(Rn N).bd K ρ 9=q7.dM N ((Rn N).kc ρ 9):=κ
theorem amN(ρ):(Rn N).kc ((Rn N).cC ρ) 9=q7.l4 N N:=Fx.uL [] (amM N) ρ (q7.l4 N) λn ρ' e d=>by rw[e];rfl
theorem axZ(K):(Rn N).top K=q7.b N ((Rn N).kc K 9):=κ
def ax0:Kn prog:=⟨145,(Rn N).S false (q7 N),Fx.u1 (Rn N) aD func145 [9] (axZ N) (by rw[amN];rfl)⟩
def ata:Fx:=⟨40,tab,Kn.l [axW N,XN N,axY N,ax0 N],N,f100,[.v dm,.v dm],[.v dm],[],none⟩
def zw:Kn prog:=⟨100,(ata N).S false (nk N),Fx.u0 (ata N) aD func100⟩
def atb:Fx:=⟨28,tab,Kn.l [afe N],N,f211,[.v dm],[.v I,.v B],[],none⟩
def Jd:Kn prog:=⟨211,(atb N).S true (xW N),Fx.u0 (atb N) aD func211⟩
def atc:Fx:=⟨18,tab,Kn.l [Jd N],N,f193,[.v dm],[.v I,.v B],[],none⟩
def atd:Kn prog:=⟨193,(atc N).S true (SO N),Fx.u0 (atc N) aD func193⟩
def lF:Fx:=⟨106,tab,Kn.l [nC N,zw N,atd N],N,f151,[.v cV,.v cV],[.own kd,.v B],[⟨31,[(0,.v cV),(1,.v cV),(6,.own kd),(7,.v I),(8,.v I),(9,.v I),(10,.v I),(11,.v B),(12,.obj dm),(13,.v I)],[1,1,1,0,1,0,0,1,0,0,1,0,0,1,0,0,1,1,1,0,1,0,0],[9,15]⟩,⟨26,[(0,.v cV),(1,.v cV),(6,.own kd),(7,.v I),(8,.v I),(9,.v I),(10,.v I),(11,.v B)],[1,1,1,0,1,0,0,1,0,0,1,0,0,1,0,0,1,1],[9,15]⟩,⟨15,[(0,.v cV),(1,.v cV),(6,.own kd),(7,.v I),(8,.v I),(9,.v I)],[1,1,1,0,1,0,0,1,0,0,1,0,0],[9]⟩,⟨9,[(0,.v cV),(1,.v cV),(6,.own kd),(7,.v I),(8,.v I)],[1,1,1,0,1,0,0],[]⟩],none⟩
theorem afj(K ρ):(lF N).bd K ρ 31=cS.JY N ((lF N).kc ρ 9) ((lF N).kc ρ 15) ((lF N).kc ρ 31):=κ
theorem afk(ρ):(lF N).kc ((lF N).cC ρ) 31=cS.KK N ((lF N).kc ρ 9) ((lF N).kc ρ 15) N:=Fx.uL [] (afj N) ρ (cS.KK N ((lF N).kc ρ 9) ((lF N).kc ρ 15)) λn ρ' e d=>by rw[e,d 9 rfl,d 15 rfl];rfl
theorem afl(K ρ):(lF N).bd K ρ 26=cS.Mz N ((lF N).kc K 31) ((lF N).kc ρ 9) ((lF N).kc ρ 15):=κ
theorem afm(ρ):(lF N).kc ((lF N).cC ρ) 26=cS.UP N ((lF N).kc ρ 9) ((lF N).kc ρ 15):=Fx.uJ [31] (afl N) ρ (by rw[afk];rfl)
theorem afn(K ρ):(lF N).bd K ρ 15=cS.nR N ((lF N).kc K 26) ((lF N).kc ρ 9) ((lF N).kc ρ 15):=κ
theorem afo(ρ):(lF N).kc ((lF N).cC ρ) 15=cS.l7 N ((lF N).kc ρ 9) N:=Fx.uL [26,31] (afn N) ρ (cS.l7 N ((lF N).kc ρ 9)) λn ρ' e d=>by rw[afm,e,d 9 rfl];rfl
theorem amO(K ρ):(lF N).bd K ρ 9=cS.dM N ((lF N).kc K 15) ((lF N).kc ρ 9):=κ
theorem amP(ρ):(lF N).kc ((lF N).cC ρ) 9=cS.l4 N N:=Fx.uL [15] (amO N) ρ (cS.l4 N) λn ρ' e d=>by rw[afo,e];rfl
theorem ax1(K):(lF N).top K=cS.b N ((lF N).kc K 9):=κ
def ax2:Kn prog:=⟨151,(lF N).S false (cS N),Fx.u1 (lF N) aD func151 [9] (ax1 N) (by rw[amP];rfl)⟩
def Ro:Fx:=⟨53,tab,Kn.l [zw N,nC N,Jd N],N,f194,[.v I,.v I,.v I,.v nB],[.v I,.v B],[⟨7,[(0,.v I),(1,.v I),(2,.v I),(3,.v nB),(10,.obj dm),(11,.v B),(12,.v I)],[1,1,0,1,0,0],[]⟩],none⟩
theorem amQ(K ρ):(Ro N).bd K ρ 7=oE.nY N ((Ro N).kc ρ 7):=κ
theorem amR(ρ):(Ro N).kc ((Ro N).cC ρ) 7=oE.l3 N N:=Fx.uL [] (amQ N) ρ (oE.l3 N) λn ρ' e d=>by rw[e];rfl
theorem ax3(K):(Ro N).top K=oE.b N ((Ro N).kc K 7):=κ
def ax4:Kn prog:=⟨194,(Ro N).S true (oE N),Fx.u1 (Ro N) aD func194 [7] (ax3 N) (by rw[amR];rfl)⟩
def ry:Fx:=⟨69,tab,Kn.l [ax4 N],N,f152,[.v cV,.v nB],[.own kd,.v B],[⟨26,[(0,.v cV),(1,.v nB),(6,.own kd),(7,.v I),(8,.v I),(9,.v I),(10,.v I)],[1,1,1,0,1,0,0,1,0,0,1,0,0,1,0,0,1,1],[9,15]⟩,⟨15,[(0,.v cV),(1,.v nB),(6,.own kd),(7,.v I),(8,.v I),(9,.v I)],[1,1,1,0,1,0,0,1,0,0,1,0,0],[9]⟩,⟨9,[(0,.v cV),(1,.v nB),(6,.own kd),(7,.v I),(8,.v I)],[1,1,1,0,1,0,0],[]⟩],none⟩
theorem afp(K ρ):(ry N).bd K ρ 26=dR.Mz N ((ry N).kc ρ 9) ((ry N).kc ρ 15):=κ
theorem afq(ρ):(ry N).kc ((ry N).cC ρ) 26=dR.UP N ((ry N).kc ρ 9) ((ry N).kc ρ 15):=Fx.uJ [] (afp N) ρ
theorem afr(K ρ):(ry N).bd K ρ 15=dR.nR N ((ry N).kc K 26) ((ry N).kc ρ 9) ((ry N).kc ρ 15):=κ
theorem afs(ρ):(ry N).kc ((ry N).cC ρ) 15=dR.l7 N ((ry N).kc ρ 9) N:=Fx.uL [26] (afr N) ρ (dR.l7 N ((ry N).kc ρ 9)) λn ρ' e d=>by rw[afq,e,d 9 rfl];rfl
theorem amS(K ρ):(ry N).bd K ρ 9=dR.dM N ((ry N).kc K 15) ((ry N).kc ρ 9):=κ
theorem amT(ρ):(ry N).kc ((ry N).cC ρ) 9=dR.l4 N N:=Fx.uL [15] (amS N) ρ (dR.l4 N) λn ρ' e d=>by rw[afs,e];rfl
theorem ax5(K):(ry N).top K=dR.b N ((ry N).kc K 9):=κ
def ax6:Kn prog:=⟨152,(ry N).S false (dR N),Fx.u1 (ry N) aD func152 [9] (ax5 N) (by rw[amT];rfl)⟩
def ate:Fx:=⟨36,tab,Kn.l [ax2 N,ax6 N],N,f105,[.v aK,.v cV,.v nB],[.v aK,.v I],[],none⟩
def Rp:Kn prog:=⟨105,(ate N).S false (zt N),Fx.u0 (ate N) aD func105⟩
def atf:Fx:=⟨34,tab,Kn.l [nC N,abC N,Rp N],N,f181,[.v dP,.v I,.v I,.v I,.v I,.v I],[.v dP,.v kd],[],none⟩
def ax7:Kn prog:=⟨181,(atf N).S false (Qm N),Fx.u0 (atf N) aD func181⟩
def X98:Fx:=⟨33,tab,Kn.l [k73 N,nC N,zw N],N,f98,[.v cV,.v I],[.v dm],[⟨11,[(0,.v cV),(1,.v I),(4,.obj dm),(5,.obj dm),(6,.v I)],[1,1,1,0,1,0,0],[]⟩],none⟩
theorem amU(K ρ):(X98 N).bd K ρ 11=En.dV N ((X98 N).kc ρ 11):=κ
theorem amV(ρ):(X98 N).kc ((X98 N).cC ρ) 11=En.l5 N N:=Fx.uL [] (amU N) ρ (En.l5 N) λn ρ' e d=>by rw[e];rfl
theorem h98(K):(X98 N).top K=En.b N ((X98 N).kc K 11):=κ
def k98:Kn prog:=⟨98,(X98 N).S false (En N),Fx.u1 (X98 N) aD func98 [11] (h98 N) (by rw[amV];rfl)⟩
def X46:Fx:=⟨9,tab,[],N,f46,[.v dm],[.v I],[],none⟩
def k46:Kn prog:=⟨46,(X46 N).S true (Uw N),Fx.u0 (X46 N) aD func46⟩
def X44:Fx:=⟨15,tab,Kn.l [k98 N,k46 N,k73 N],N,f44,[.v cV],[.v B],[⟨5,[(0,.v cV),(3,.v I)],[1,0,1,0,0],[]⟩],none⟩
theorem atg(K ρ):(X44 N).bd K ρ 5=Fb.fN N ((X44 N).kc ρ 5):=κ
theorem ath(ρ):(X44 N).kc ((X44 N).cC ρ) 5=Fb.l2 N N:=Fx.uL [] (atg N) ρ (Fb.l2 N) λn ρ' e d=>by rw[e];rfl
theorem h44(K):(X44 N).top K=Fb.b N ((X44 N).kc K 5):=κ
def k44:Kn prog:=⟨44,(X44 N).S true (Fb N),Fx.u1 (X44 N) aD func44 [5] (h44 N) (by rw[ath];rfl)⟩
def X50:Fx:=⟨9,tab,[],N,f50,[.v I],[.v B],[],none⟩
def k50:Kn prog:=⟨50,(X50 N).S true (XZ N),Fx.u0 (X50 N) aD func50⟩
def X99:Fx:=⟨56,tab,Kn.l [k50 N],N,f99,[.v nw],[.v B],[],none⟩
def k99:Kn prog:=⟨99,(X99 N).S true (F99 N),Fx.u0 (X99 N) aD func99⟩
def X45:Fx:=⟨37,tab,Kn.l [k99 N],N,f45,[.v lE],[.v B],[⟨9,[(0,.v lE),(3,.v I)],[1,1,0,1,0,0],[]⟩],none⟩
theorem ati(K ρ):(X45 N).bd K ρ 9=AE.dM N ((X45 N).kc ρ 9):=κ
theorem atj(ρ):(X45 N).kc ((X45 N).cC ρ) 9=AE.l4 N N:=Fx.uL [] (ati N) ρ (AE.l4 N) λn ρ' e d=>by rw[e];rfl
theorem h45(K):(X45 N).top K=AE.b N ((X45 N).kc K 9):=κ
def k45:Kn prog:=⟨45,(X45 N).S true (AE N),Fx.u1 (X45 N) aD func45 [9] (h45 N) (by rw[atj];rfl)⟩
def X47:Fx:=⟨24,tab,Kn.l [k43 N,nC N,zw N],N,f47,[.v cV],[.v dm],[⟨11,[(0,.v cV),(2,.obj dm),(3,.obj dm),(4,.v I)],[1,1,1,0,1,0,0],[]⟩],none⟩
theorem amX(K ρ):(X47 N).bd K ρ 11=El.dV N ((X47 N).kc ρ 11):=κ
theorem amY(ρ):(X47 N).kc ((X47 N).cC ρ) 11=El.l5 N N:=Fx.uL [] (amX N) ρ (El.l5 N) λn ρ' e d=>by rw[e];rfl
theorem h47(K):(X47 N).top K=El.b N ((X47 N).kc K 11):=κ
def k47:Kn prog:=⟨47,(X47 N).S false (El N),Fx.u1 (X47 N) aD func47 [11] (h47 N) (by rw[amY];rfl)⟩
def X48:Fx:=⟨19,tab,Kn.l [Rk N],N,f48,[.v aK,.v I],[.v B],[],none⟩
def k48:Kn prog:=⟨48,(X48 N).S true (F48 N),Fx.u0 (X48 N) aD func48⟩
def X49:Fx:=⟨11,tab,Kn.l [k94 N,k96 N],N,f49,[.v dJ,.v I],[.v I],[],none⟩
def k49:Kn prog:=⟨49,(X49 N).S true (UC N),Fx.u0 (X49 N) aD func49⟩
def Je:Fx:=⟨163,tab,Kn.l [k41 N,k42 N,k43 N,k44 N,k45 N,k47 N,k46 N,k48 N,k49 N,k50 N],N,f10,[.v aA,.v aK],[.v B],[⟨45,[(2,.obj aA),(3,.obj aK),(9,.v I)],[1,1,1,1,1,1,0,1,0,0],[]⟩,⟨35,[(2,.obj aA),(3,.obj aK),(8,.v I)],[1,1,1,1,1,0,1,0,0],[]⟩,⟨25,[(2,.obj aA),(3,.obj aK),(7,.v I)],[1,1,1,1,0,1,0,0],[]⟩,⟨13,[(2,.obj aA),(3,.obj aK),(5,.v I)],[1,1,1,0,1,0,0],[]⟩],none⟩
theorem am0(K ρ):(Je N).bd K ρ 45=gH.wY N ((Je N).kc ρ 45):=κ
theorem am1(ρ):(Je N).kc ((Je N).cC ρ) 45=gH.yd N N:=Fx.uL [] (am0 N) ρ (gH.yd N) λn ρ' e d=>by rw[e];rfl
theorem am2(K ρ):(Je N).bd K ρ 35=gH.Fe N ((Je N).kc K 45) ((Je N).kc ρ 35):=κ
theorem am3(ρ):(Je N).kc ((Je N).cC ρ) 35=gH.FR N N:=Fx.uL [45] (am2 N) ρ (gH.FR N) λn ρ' e d=>by rw[am1,e];rfl
theorem am4(K ρ):(Je N).bd K ρ 25=gH.mN N ((Je N).kc K 35) ((Je N).kc ρ 25):=κ
theorem am5(ρ):(Je N).kc ((Je N).cC ρ) 25=gH.nJ N N:=Fx.uL [35,45] (am4 N) ρ (gH.nJ N) λn ρ' e d=>by rw[am3,e];rfl
theorem am6(K ρ):(Je N).bd K ρ 13=gH.uU N ((Je N).kc K 25) ((Je N).kc ρ 13):=κ
theorem am7(ρ):(Je N).kc ((Je N).cC ρ) 13=gH.l6 N N:=Fx.uL [25,35,45] (am6 N) ρ (gH.l6 N) λn ρ' e d=>by rw[am5,e];rfl
theorem h10(K):(Je N).top K=gH.b N ((Je N).kc K 13):=κ
def w4:Kn prog:=⟨10,(Je N).S true (gH N),Fx.u1 (Je N) aD func10 [13,25,35,45] (h10 N) (by rw[am7];rfl)⟩
def atk:Fx:=⟨9,tab,Kn.l [TV N,zw N],N,f153,[.v dm,.v dm],[.v dm],[],none⟩
def TW:Kn prog:=⟨153,(atk N).S false (Ac N),Fx.u0 (atk N) aD func153⟩
def Rq:Fx:=⟨39,tab,Kn.l [k73 N],N,f155,[.v cV,.v I],[.own kM],[⟨11,[(0,.v cV),(1,.v I),(5,.own kM),(6,.v I)],[1,1,1,0,1,0,0],[]⟩],none⟩
theorem afu(K ρ):(Rq N).bd K ρ 11=mO.dV N ((Rq N).kc ρ 11):=κ
theorem afv(ρ):(Rq N).kc ((Rq N).cC ρ) 11=mO.l5 N N:=Fx.uL [] (afu N) ρ (mO.l5 N) λn ρ' e d=>by rw[e];rfl
theorem ax8(K):(Rq N).top K=mO.b N ((Rq N).kc K 11):=κ
def XO:Kn prog:=⟨155,(Rq N).S false (mO N),Fx.u1 (Rq N) aD func155 [11] (ax8 N) (by rw[afv];rfl)⟩
def zx:Fx:=⟨74,tab,[],N,f156,[.v lE,.v I],[.own kd],[⟨15,[(0,.v lE),(1,.v I),(5,.own kd),(6,.v I),(7,.obj kd),(8,.v I)],[1,1,0,1,0,0,1,0,0,1,0,1,0,0],[7]⟩,⟨7,[(0,.v lE),(1,.v I),(5,.own kd),(6,.v I)],[1,1,0,1,0,0],[]⟩],none⟩
theorem afw(K ρ):(zx N).bd K ρ 15=fx.nR N ((zx N).kc ρ 7) ((zx N).kc ρ 15):=κ
theorem afx(ρ):(zx N).kc ((zx N).cC ρ) 15=fx.l7 N ((zx N).kc ρ 7) N:=Fx.uL [] (afw N) ρ (fx.l7 N ((zx N).kc ρ 7)) λn ρ' e d=>by rw[e,d 7 rfl];rfl
theorem am8(K ρ):(zx N).bd K ρ 7=fx.nY N ((zx N).kc K 15) ((zx N).kc ρ 7):=κ
theorem am9(ρ):(zx N).kc ((zx N).cC ρ) 7=fx.l3 N N:=Fx.uL [15] (am8 N) ρ (fx.l3 N) λn ρ' e d=>by rw[afx,e];rfl
theorem ax9(K):(zx N).top K=fx.b N ((zx N).kc K 7):=κ
def ana:Kn prog:=⟨156,(zx N).S false (fx N),Fx.u1 (zx N) aD func156 [7] (ax9 N) (by rw[am9];rfl)⟩
def Rr:Fx:=⟨66,tab,Kn.l [k41 N],N,f195,[.v aA,.v dJ],[.v B],[⟨9,[(1,.v dJ),(2,.obj aA),(5,.v I)],[1,1,0,1,0,0],[]⟩],none⟩
theorem anb(K ρ):(Rr N).bd K ρ 9=oC.dM N ((Rr N).kc ρ 9):=κ
theorem anc(ρ):(Rr N).kc ((Rr N).cC ρ) 9=oC.l4 N N:=Fx.uL [] (anb N) ρ (oC.l4 N) λn ρ' e d=>by rw[e];rfl
theorem aya(K):(Rr N).top K=oC.b N ((Rr N).kc K 9):=κ
def afy:Kn prog:=⟨195,(Rr N).S true (oC N),Fx.u1 (Rr N) aD func195 [9] (aya N) (by rw[anc];rfl)⟩
def Rs:Fx:=⟨79,tab,Kn.l [k41 N],N,f196,[.v aA,.v cV],[.v B],[⟨11,[(1,.v cV),(2,.obj aA),(5,.v I),(6,.v I)],[1,1,1,0,1,0,0],[]⟩],none⟩
theorem afz(K ρ):(Rs N).bd K ρ 11=mP.dV N ((Rs N).kc ρ 11):=κ
theorem afA(ρ):(Rs N).kc ((Rs N).cC ρ) 11=mP.l5 N N:=Fx.uL [] (afz N) ρ (mP.l5 N) λn ρ' e d=>by rw[e];rfl
theorem ayb(K):(Rs N).top K=mP.b N ((Rs N).kc K 11):=κ
def atl:Kn prog:=⟨196,(Rs N).S true (mP N),Fx.u1 (Rs N) aD func196 [11] (ayb N) (by rw[afA];rfl)⟩
def atm:Fx:=⟨6,tab,Kn.l [XN N],N,f216,[.v dm],[.v dm],[],none⟩
def afB:Kn prog:=⟨216,(atm N).S false (CZ N),Fx.u0 (atm N) aD func216⟩
def atn:Fx:=⟨9,tab,Kn.l [TW N,k46 N],N,f110,[.v dm,.v dm],[.v I],[],none⟩
def Kc:Kn prog:=⟨110,(atn N).S true (wW N),Fx.u0 (atn N) aD func110⟩
def DI:Fx:=⟨96,tab,Kn.l [afy N,atl N,nC N,zw N,afB N,TW N,Kc N],N,f197,[.v aA,.v dJ,.v cV,.v I],[.v dm,.v I],[⟨25,[(2,.v cV),(3,.v I),(8,.obj dm),(10,.obj dm),(11,.obj dm),(12,.obj dm),(14,.v I)],[1,1,1,1,1,0,1,0,0],[]⟩,⟨15,[(1,.v dJ),(2,.v cV),(3,.v I),(8,.obj dm),(10,.obj dm),(11,.obj dm),(12,.obj dm),(13,.v I)],[1,1,1,1,0,1,0,0],[]⟩],none⟩
theorem afC(K ρ):(DI N).bd K ρ 25=gE.mN N ((DI N).kc ρ 25):=κ
theorem afD(ρ):(DI N).kc ((DI N).cC ρ) 25=gE.nJ N N:=Fx.uL [] (afC N) ρ (gE.nJ N) λn ρ' e d=>by rw[e];rfl
theorem afE(K ρ):(DI N).bd K ρ 15=gE.nR N ((DI N).kc K 25) ((DI N).kc ρ 15):=κ
theorem afF(ρ):(DI N).kc ((DI N).cC ρ) 15=gE.l7 N N:=Fx.uL [25] (afE N) ρ (gE.l7 N) λn ρ' e d=>by rw[afD,e];rfl
theorem ayc(K):(DI N).top K=gE.b N ((DI N).kc K 15):=κ
def ato:Kn prog:=⟨197,(DI N).S false (gE N),Fx.u1 (DI N) aD func197 [15,25] (ayc N) (by rw[afF];rfl)⟩
def rz:Fx:=⟨71,tab,Kn.l [afe N,XN N],N,f148,[.v dm,.v dm],[.v dm],[⟨18,[(2,.obj dm),(3,.obj dm),(4,.obj dm),(5,.own U),(6,.v I),(7,.v U),(8,.v I)],[1,1,0,1,0,0,1,0,0,1,1,0,0,1],[7,15]⟩,⟨15,[(2,.obj dm),(3,.obj dm),(4,.obj dm),(5,.own U),(6,.v I),(7,.v U),(8,.v I)],[1,1,0,1,0,0,1,0,0,1,1,0,0],[7]⟩,⟨7,[(2,.obj dm),(3,.obj dm),(4,.obj dm),(5,.own U),(6,.v I)],[1,1,0,1,0,0],[]⟩],none⟩
theorem afG(K ρ):(rz N).bd K ρ 18=ei.Pe N ((rz N).kc ρ 7) ((rz N).kc ρ 15):=κ
theorem afH(ρ):(rz N).kc ((rz N).cC ρ) 18=ei.j9 N ((rz N).kc ρ 7) ((rz N).kc ρ 15):=Fx.uJ [] (afG N) ρ
theorem afI(K ρ):(rz N).bd K ρ 15=ei.nR N ((rz N).kc K 18) ((rz N).kc ρ 7) ((rz N).kc ρ 15):=κ
theorem afJ(ρ):(rz N).kc ((rz N).cC ρ) 15=ei.l7 N ((rz N).kc ρ 7) N:=Fx.uL [18] (afI N) ρ (ei.l7 N ((rz N).kc ρ 7)) λn ρ' e d=>by rw[afH,e,d 7 rfl];rfl
theorem ane(K ρ):(rz N).bd K ρ 7=ei.nY N ((rz N).kc K 15) ((rz N).kc ρ 7):=κ
theorem anf(ρ):(rz N).kc ((rz N).cC ρ) 7=ei.l3 N N:=Fx.uL [15] (ane N) ρ (ei.l3 N) λn ρ' e d=>by rw[afJ,e];rfl
theorem ayd(K):(rz N).top K=ei.b N ((rz N).kc K 7):=κ
def Jf:Kn prog:=⟨148,(rz N).S false (ei N),Fx.u1 (rz N) aD func148 [7] (ayd N) (by rw[anf];rfl)⟩
def Rt:Fx:=⟨50,tab,Kn.l [afy N,atl N,ato N,nC N,Jf N,zw N],N,f154,[.v aA,.v dJ,.v cV],[.v dm,.v I],[⟨11,[(1,.v dJ),(2,.v cV),(3,.obj aA),(6,.obj dm),(8,.obj dm),(9,.v I)],[1,1,1,0,1,0,0],[]⟩],none⟩
theorem afK(K ρ):(Rt N).bd K ρ 11=nT.dV N ((Rt N).kc ρ 11):=κ
theorem afL(ρ):(Rt N).kc ((Rt N).cC ρ) 11=nT.l5 N N:=Fx.uL [] (afK N) ρ (nT.l5 N) λn ρ' e d=>by rw[e];rfl
theorem aye(K):(Rt N).top K=nT.b N ((Rt N).kc K 11):=κ
def atp:Kn prog:=⟨154,(Rt N).S false (nT N),Fx.u1 (Rt N) aD func154 [11] (aye N) (by rw[afL];rfl)⟩
def atq:Fx:=⟨31,tab,Kn.l [XO N,ana N,atp N],N,f107,[.v aA,.v aK,.v I,.v lE],[.v dm],[],none⟩
def ang:Kn prog:=⟨107,(atq N).S false (P7 N),Fx.u0 (atq N) aD func107⟩
def atr:Fx:=⟨63,tab,Kn.l [w4 N,Rk N,k49 N,k23 N,nC N,TW N,ang N,Kc N,abC N,Rp N],N,f182,[.v aA,.v aK,.v I,.v I],[.v aK,.v I],[],none⟩
def ayf:Kn prog:=⟨182,(atr N).S false (Xa N),Fx.u0 (atr N) aD func182⟩
def ats:Fx:=⟨10,tab,Kn.l [k49 N],N,f183,[.v dP,.v I],[.v I],[],none⟩
def att:Kn prog:=⟨183,(ats N).S true (IA N),Fx.u0 (ats N) aD func183⟩
def Ru:Fx:=⟨53,tab,Kn.l [k95 N,ae7 N],N,f184,[.v fy,.v I,.v I],[.own ff,.v I],[⟨17,[(1,.v I),(2,.v I),(10,.own ff),(11,.v I)],[1,1,1,1,0,1,0,0],[]⟩],none⟩
theorem afM(K ρ):(Ru N).bd K ρ 17=oK.Ej N ((Ru N).kc ρ 17):=κ
theorem afN(ρ):(Ru N).kc ((Ru N).cC ρ) 17=oK.l8 N N:=Fx.uL [] (afM N) ρ (oK.l8 N) λn ρ' e d=>by rw[e];rfl
theorem ayg(K):(Ru N).top K=oK.b N ((Ru N).kc K 17):=κ
def ayh:Kn prog:=⟨184,(Ru N).S false (oK N),Fx.u1 (Ru N) aD func184 [17] (ayg N) (by rw[afN];rfl)⟩
def atu:Fx:=⟨36,tab,Kn.l [k99 N,k50 N,nC N,Jf N],N,f219,[.v nw,.v I],[.v dm,.v I],[],none⟩
def ayi:Kn prog:=⟨219,(atu N).S false (adB N),Fx.u0 (atu N) aD func219⟩
def atv:Fx:=⟨104,tab,Kn.l [w4 N,k99 N,Rk N,k49 N,XO N,ana N,ato N,nC N,Kc N,ayi N,k23 N,TW N,ang N],N,f208,[.v aA,.v aK,.v nw],[.v I],[],none⟩
def atw:Kn prog:=⟨208,(atv N).S true (aah N),Fx.u0 (atv N) aD func208⟩
def atx:Fx:=⟨24,tab,[],N,f236,[.v nw,.v nw],[.v B],[],none⟩
def ayj:Kn prog:=⟨236,(atx N).S true (W9 N),Fx.u0 (atx N) aD func236⟩
def tp:Fx:=⟨72,tab,Kn.l [k45 N,ayj N],N,f220,[.v lE,.v I,.v I],[.own nw],[⟨22,[(0,.v lE),(1,.v I),(2,.v I),(7,.own nw),(8,.v I),(9,.v I)],[1,1,1,0,1,0,0,1,0,0,1,1,1],[11]⟩,⟨19,[(0,.v lE),(1,.v I),(2,.v I),(7,.own nw),(8,.v I),(9,.v I)],[1,1,1,0,1,0,0,1,0,0,1,1,0,0,0],[11]⟩,⟨11,[(0,.v lE),(1,.v I),(2,.v I),(7,.own nw),(8,.v I)],[1,1,1,0,1,0,0],[]⟩],none⟩
theorem afO(K ρ):(tp N).bd K ρ 22=eu.Du N ((tp N).kc ρ 11):=κ
theorem afP(ρ):(tp N).kc ((tp N).cC ρ) 22=eu.Lg N ((tp N).kc ρ 11):=Fx.uJ [] (afO N) ρ
theorem afQ(K ρ):(tp N).bd K ρ 19=eu.uX N ((tp N).kc K 22) ((tp N).kc ρ 11) ((tp N).kc ρ 19):=κ
theorem afR(ρ):(tp N).kc ((tp N).cC ρ) 19=eu.l9 N ((tp N).kc ρ 11) N:=Fx.uL [22] (afQ N) ρ (eu.l9 N ((tp N).kc ρ 11)) λn ρ' e d=>by rw[afP,e,d 11 rfl];rfl
theorem afS(K ρ):(tp N).bd K ρ 11=eu.dV N ((tp N).kc K 19) ((tp N).kc ρ 11):=κ
theorem afT(ρ):(tp N).kc ((tp N).cC ρ) 11=eu.l5 N N:=Fx.uL [19,22] (afS N) ρ (eu.l5 N) λn ρ' e d=>by rw[afR,e];rfl
theorem ayk(K):(tp N).top K=eu.b N ((tp N).kc K 11):=κ
def ayl:Kn prog:=⟨220,(tp N).S false (eu N),Fx.u1 (tp N) aD func220 [11] (ayk N) (by rw[afT];rfl)⟩
def kA:Fx:=⟨174,tab,Kn.l [k45 N,k99 N,ayl N],N,f209,[.v lE,.v nw],[.own nw,.own sT,.v I,.v I],[⟨49,[(8,.own nw),(9,.v I),(10,.own sT),(16,.own nw),(17,.v I)],[1,1,1,1,1,1,1,0,1,0,0],[]⟩,⟨44,[(8,.own nw),(9,.v I),(10,.own sT)],[1,1,1,1,1,1],[]⟩,⟨37,[(3,.obj nw),(8,.own nw),(9,.v I),(10,.own sT),(11,.own nw),(12,.v I),(13,.v I),(15,.v I)],[1,1,1,1,1,0,1,0,0,1,0,0,1,1,1,1,1,1,1,1,0,0],[15]⟩,⟨30,[(3,.obj nw),(8,.own nw),(9,.v I),(10,.own sT),(11,.own nw),(12,.v I),(13,.v I),(14,.obj sT)],[1,1,1,1,1,0,1,0,0,1,0,0,1,1,1,1,1],[15]⟩,⟨20,[(3,.obj nw),(8,.own nw),(9,.v I),(10,.own sT),(11,.own nw),(12,.v I)],[1,1,1,1,1,0,1,0,0,1,0,0,1],[15]⟩,⟨15,[(3,.obj nw),(8,.own nw),(9,.v I),(10,.own sT),(11,.own nw),(12,.v I)],[1,1,1,1,1,0,1,0,0],[]⟩],none⟩
theorem afU(K ρ):(kA N).bd K ρ 49=cE.Qb N ((kA N).kc ρ 49):=κ
theorem afV(ρ):(kA N).kc ((kA N).cC ρ) 49=cE.NI N N:=Fx.uL [] (afU N) ρ (cE.NI N) λn ρ' e d=>by rw[e];rfl
theorem afW(K ρ):(kA N).bd K ρ 44=cE.adJ N ((kA N).kc K 49):=κ
theorem afX(ρ):(kA N).kc ((kA N).cC ρ) 44=cE.j22 N:=Fx.uJ [49] (afW N) ρ (by rw[afV];rfl)
theorem afY(K ρ):(kA N).bd K ρ 37=cE.Fm N ((kA N).kc ρ 15) ((kA N).kc ρ 37):=κ
theorem afZ(ρ):(kA N).kc ((kA N).cC ρ) 37=cE.Jr N ((kA N).kc ρ 15) N:=Fx.uL [44,49] (afY N) ρ (cE.Jr N ((kA N).kc ρ 15)) λn ρ' e d=>by rw[e,d 15 rfl];rfl
theorem af0(K ρ):(kA N).bd K ρ 30=cE.w3 N ((kA N).kc K 37) ((kA N).kc ρ 15):=κ
theorem af1(ρ):(kA N).kc ((kA N).cC ρ) 30=cE.Dt N ((kA N).kc ρ 15):=Fx.uJ [44,49,37] (af0 N) ρ (by rw[afZ];rfl)
theorem af2(K ρ):(kA N).bd K ρ 20=cE.Df N ((kA N).kc K 30) ((kA N).kc ρ 15):=κ
theorem af3(ρ):(kA N).kc ((kA N).cC ρ) 20=cE.JW N ((kA N).kc ρ 15):=Fx.uJ [44,49,30,37] (af2 N) ρ (by rw[af1];rfl)
theorem af4(K ρ):(kA N).bd K ρ 15=cE.nR N ((kA N).kc K 44) ((kA N).kc K 20) ((kA N).kc ρ 15):=κ
theorem af5(ρ):(kA N).kc ((kA N).cC ρ) 15=cE.l7 N N:=Fx.uL [44,49,20,30,37] (af4 N) ρ (cE.l7 N) λn ρ' e d=>by rw[afX,af3,e];rfl
theorem aym(K):(kA N).top K=cE.b N ((kA N).kc K 15):=κ
def ayn:Kn prog:=⟨209,(kA N).S false (cE N),Fx.u1 (kA N) aD func209 [15,44,49] (aym N) (by rw[af5];rfl)⟩
def aty:Fx:=⟨53,tab,Kn.l [k50 N],N,f103,[.v sT],[.v B],[],none⟩
def atz:Kn prog:=⟨103,(aty N).S true (ZT N),Fx.u0 (aty N) aD func103⟩
def atA:Fx:=⟨7,tab,[],N,f149,[.v I],[.v I,.v I],[],none⟩
def atB:Kn prog:=⟨149,(atA N).S true (MD N),Fx.u0 (atA N) aD func149⟩
def atC:Fx:=⟨53,tab,Kn.l [atz N,k50 N,nC N,Jf N,k46 N,atB N,TV N],N,f104,[.v sT,.v I],[.own s6,.v I],[],none⟩
def ayo:Kn prog:=⟨104,(atC N).S false (PH N),Fx.u0 (atC N) aD func104⟩
def XP:Fx:=⟨107,tab,Kn.l [w4 N,atz N,k48 N,ayo N,Rp N],N,f51,[.v aA,.v aK,.v yG],[.v aK,.v I],[⟨23,[(2,.v yG),(3,.obj aA),(4,.obj aK),(6,.obj aK),(9,.own kd),(10,.own s6),(11,.v I)],[1,1,1,1,1,0,1,0,0],[]⟩,⟨9,[(2,.v yG),(3,.obj aA),(4,.obj aK),(6,.obj aK),(8,.v I)],[1,1,0,1,0,0],[]⟩],none⟩
theorem anh(K ρ):(XP N).bd K ρ 23=nS.yg N ((XP N).kc ρ 23):=κ
theorem ani(ρ):(XP N).kc ((XP N).cC ρ) 23=nS.An N N:=Fx.uL [] (anh N) ρ (nS.An N) λn ρ' e d=>by rw[e];rfl
theorem atD(K ρ):(XP N).bd K ρ 9=nS.dM N ((XP N).kc K 23) ((XP N).kc ρ 9):=κ
theorem atE(ρ):(XP N).kc ((XP N).cC ρ) 9=nS.l4 N N:=Fx.uL [23] (atD N) ρ (nS.l4 N) λn ρ' e d=>by rw[ani,e];rfl
theorem h51(K):(XP N).top K=nS.b N ((XP N).kc K 9):=κ
def k51:Kn prog:=⟨51,(XP N).S false (nS N),Fx.u1 (XP N) aD func51 [9,23] (h51 N) (by rw[atE];rfl)⟩
def Jg:Fx:=⟨85,tab,Kn.l [atw N,ayn N,k51 N],N,f185,[.v aA,.v aK,.v nw],[.v aK,.v yG,.v I,.v I],[⟨20,[(3,.obj aA),(4,.obj aK),(5,.obj nw),(6,.obj aK),(12,.own nw),(13,.own sT),(14,.v I)],[1,1,1,1,1],[]⟩,⟨14,[(3,.obj aA),(4,.obj aK),(5,.obj nw),(6,.obj aK)],[1,1,1],[]⟩],none⟩
theorem af6(K ρ):(Jg N).bd K ρ 20=jZ.Df N:=κ
theorem af7(ρ):(Jg N).kc ((Jg N).cC ρ) 20=jZ.JW N:=Fx.uJ [] (af6 N) ρ
theorem af8(K ρ):(Jg N).bd K ρ 14=jZ.XX N ((Jg N).kc K 20):=κ
theorem af9(ρ):(Jg N).kc ((Jg N).cC ρ) 14=jZ.j7 N:=Fx.uJ [20] (af8 N) ρ (by rw[af7];rfl)
theorem ayq(K):(Jg N).top K=jZ.b N ((Jg N).kc K 14):=κ
def ayr:Kn prog:=⟨185,(Jg N).S false (jZ N),Fx.u1 (Jg N) aD func185 [14,20] (ayq N) (by rw[af9];rfl)⟩
def Rv:Fx:=⟨48,tab,Kn.l [k45 N],N,f186,[.v lE,.v I,.v I],[.own nw,.v I],[⟨11,[(0,.v lE),(1,.v I),(2,.v I),(8,.own nw),(9,.v I)],[1,1,1,0,1,0,0],[]⟩],none⟩
theorem aga(K ρ):(Rv N).bd K ρ 11=oM.dV N ((Rv N).kc ρ 11):=κ
theorem agb(ρ):(Rv N).kc ((Rv N).cC ρ) 11=oM.l5 N N:=Fx.uL [] (aga N) ρ (oM.l5 N) λn ρ' e d=>by rw[e];rfl
theorem ays(K):(Rv N).top K=oM.b N ((Rv N).kc K 11):=κ
def ayt:Kn prog:=⟨186,(Rv N).S false (oM N),Fx.u1 (Rv N) aD func186 [11] (ays N) (by rw[agb];rfl)⟩
def Rw:Fx:=⟨76,tab,Kn.l [k73 N,k50 N,nC N,TW N,k46 N,atB N,Jf N],N,f106,[.v cV,.v I,.v I,.v I],[.own s6,.v I],[⟨13,[(0,.v cV),(1,.v I),(10,.own s6),(11,.obj dm),(12,.v I)],[1,1,1,1,0,1,0,0],[]⟩],none⟩
theorem agc(K ρ):(Rw N).bd K ρ 13=kj.uU N ((Rw N).kc ρ 13):=κ
theorem agd(ρ):(Rw N).kc ((Rw N).cC ρ) 13=kj.l6 N N:=Fx.uL [] (agc N) ρ (kj.l6 N) λn ρ' e d=>by rw[e];rfl
theorem ayu(K):(Rw N).top K=kj.b N ((Rw N).kc K 13):=κ
def ayv:Kn prog:=⟨106,(Rw N).S false (kj N),Fx.u1 (Rw N) aD func106 [13] (ayu N) (by rw[agd];rfl)⟩
def X52:Fx:=⟨70,tab,Kn.l [w4 N,k50 N,ayv N,Rp N],N,f52,[.v aA,.v aK,.v I,.v I],[.v aK,.v nB,.v I],[],some (aK,[.gM 4],I,[5,13])⟩
def k52:Kn prog:=⟨52,(X52 N).S false (F52 N),Fx.u0 (X52 N) aD func52⟩
def Rx:Fx:=⟨50,tab,[],N,f210,[.v dJ],[.v B],[⟨5,[(0,.v dJ),(3,.v I)],[1,0,1,0,0],[]⟩],none⟩
theorem anj(K ρ):(Rx N).bd K ρ 5=rq.fN N ((Rx N).kc ρ 5):=κ
theorem ank(ρ):(Rx N).kc ((Rx N).cC ρ) 5=rq.l2 N N:=Fx.uL [] (anj N) ρ (rq.l2 N) λn ρ' e d=>by rw[e];rfl
theorem ayw(K):(Rx N).top K=rq.b N ((Rx N).kc K 5):=κ
def atG:Kn prog:=⟨210,(Rx N).S true (rq N),Fx.u1 (Rx N) aD func210 [5] (ayw N) (by rw[ank];rfl)⟩
def rA:Fx:=⟨84,tab,Kn.l [atG N,nC N,zw N,Jd N],N,f187,[.v dJ,.v nB],[.own kM,.v I],[⟨29,[(0,.v dJ),(1,.v nB),(6,.own kM),(7,.v I),(8,.obj dm),(10,.v I)],[1,1,1,0,1,0,0,1,0,0,1,1,0,1,0,0],[11]⟩,⟨19,[(0,.v dJ),(1,.v nB),(6,.own kM),(7,.v I),(8,.obj dm),(9,.v I)],[1,1,1,0,1,0,0,1,0,0,1,0,1,0,0],[11]⟩,⟨11,[(0,.v dJ),(1,.v nB),(6,.own kM),(7,.v I)],[1,1,1,0,1,0,0],[]⟩],none⟩
theorem age(K ρ):(rA N).bd K ρ 29=fB.Ib N ((rA N).kc ρ 11) ((rA N).kc ρ 29):=κ
theorem agf(ρ):(rA N).kc ((rA N).cC ρ) 29=fB.KZ N ((rA N).kc ρ 11) N:=Fx.uL [] (age N) ρ (fB.KZ N ((rA N).kc ρ 11)) λn ρ' e d=>by rw[e,d 11 rfl];rfl
theorem agh(K ρ):(rA N).bd K ρ 19=fB.uX N ((rA N).kc K 29) ((rA N).kc ρ 11) ((rA N).kc ρ 19):=κ
theorem agi(ρ):(rA N).kc ((rA N).cC ρ) 19=fB.l9 N ((rA N).kc ρ 11) N:=Fx.uL [29] (agh N) ρ (fB.l9 N ((rA N).kc ρ 11)) λn ρ' e d=>by rw[agf,e,d 11 rfl];rfl
theorem agj(K ρ):(rA N).bd K ρ 11=fB.dV N ((rA N).kc K 19) ((rA N).kc ρ 11):=κ
theorem agk(ρ):(rA N).kc ((rA N).cC ρ) 11=fB.l5 N N:=Fx.uL [19,29] (agj N) ρ (fB.l5 N) λn ρ' e d=>by rw[agi,e];rfl
theorem ayx(K):(rA N).top K=fB.b N ((rA N).kc K 11):=κ
def ayy:Kn prog:=⟨187,(rA N).S false (fB N),Fx.u1 (rA N) aD func187 [11] (ayx N) (by rw[agk];rfl)⟩
def atH:Fx:=⟨15,tab,Kn.l [nC N,zw N,Jd N],N,f188,[.v dP,.v I],[.v I,.v B],[],none⟩
def anl:Kn prog:=⟨188,(atH N).S true (Xm N),Fx.u0 (atH N) aD func188⟩
def atI:Fx:=⟨41,tab,[],N,f221,[.v I,.v I],[.v I,.v B],[],none⟩
def ayz:Kn prog:=⟨221,(atI N).S true (W7 N),Fx.u0 (atI N) aD func221⟩
def Ry:Fx:=⟨51,tab,Kn.l [k94 N,k96 N,ayz N],N,f212,[.v dJ,.v I,.v I],[.own kM,.v I],[⟨23,[(1,.v I),(9,.v I),(11,.own kM),(12,.v I)],[1,1,1,1,1,1,1,0,1,0,0],[]⟩],none⟩
theorem agl(K ρ):(Ry N).bd K ρ 23=mR.yg N ((Ry N).kc ρ 23):=κ
theorem agm(ρ):(Ry N).kc ((Ry N).cC ρ) 23=mR.An N N:=Fx.uL [] (agl N) ρ (mR.An N) λn ρ' e d=>by rw[e];rfl
theorem ayA(K):(Ry N).top K=mR.b N ((Ry N).kc K 23):=κ
def atJ:Kn prog:=⟨212,(Ry N).S false (mR N),Fx.u1 (Ry N) aD func212 [23] (ayA N) (by rw[agm];rfl)⟩
def Rz:Fx:=⟨33,tab,Kn.l [k95 N],N,f109,[.v fy,.v I],[.own I],[⟨11,[(0,.v fy),(1,.v I),(5,.own I),(6,.v I)],[1,1,1,0,1,0,0],[]⟩],none⟩
theorem agn(K ρ):(Rz N).bd K ρ 11=mS.dV N ((Rz N).kc ρ 11):=κ
theorem ago(ρ):(Rz N).kc ((Rz N).cC ρ) 11=mS.l5 N N:=Fx.uL [] (agn N) ρ (mS.l5 N) λn ρ' e d=>by rw[e];rfl
theorem ayB(K):(Rz N).top K=mS.b N ((Rz N).kc K 11):=κ
def ayC:Kn prog:=⟨109,(Rz N).S false (mS N),Fx.u1 (Rz N) aD func109 [11] (ayB N) (by rw[ago];rfl)⟩
def zy:Fx:=⟨48,tab,Kn.l [k45 N],N,f108,[.v lE,.v LI],[.own nw],[⟨19,[(0,.v lE),(1,.v LI),(5,.own nw),(6,.v I),(7,.v B),(8,.v I)],[1,1,1,0,1,0,0,1,0,0,1,0,1,0,0],[11]⟩,⟨11,[(0,.v lE),(1,.v LI),(5,.own nw),(6,.v I)],[1,1,1,0,1,0,0],[]⟩],none⟩
theorem agp(K ρ):(zy N).bd K ρ 19=eV.uX N ((zy N).kc ρ 11) ((zy N).kc ρ 19):=κ
theorem agq(ρ):(zy N).kc ((zy N).cC ρ) 19=eV.l9 N ((zy N).kc ρ 11) N:=Fx.uL [] (agp N) ρ (eV.l9 N ((zy N).kc ρ 11)) λn ρ' e d=>by rw[e,d 11 rfl];rfl
theorem agr(K ρ):(zy N).bd K ρ 11=eV.dV N ((zy N).kc K 19) ((zy N).kc ρ 11):=κ
theorem ags(ρ):(zy N).kc ((zy N).cC ρ) 11=eV.l5 N N:=Fx.uL [19] (agr N) ρ (eV.l5 N) λn ρ' e d=>by rw[agq,e];rfl
theorem ayD(K):(zy N).top K=eV.b N ((zy N).kc K 11):=κ
def ayE:Kn prog:=⟨108,(zy N).S false (eV N),Fx.u1 (zy N) aD func108 [11] (ayD N) (by rw[ags];rfl)⟩
def X54:Fx:=⟨28,tab,Kn.l [w4 N,k49 N,ayC N,ayE N],N,f54,[.v aA,.v aK,.v I],[.v aK,.v I],[],none⟩
def k54:Kn prog:=⟨54,(X54 N).S false (X0 N),Fx.u0 (X54 N) aD func54⟩
def atK:Fx:=⟨41,tab,[],N,f237,[.v ff],[.v B],[],none⟩
def atL:Kn prog:=⟨237,(atK N).S true (ZB N),Fx.u0 (atK N) aD func237⟩
def tq:Fx:=⟨67,tab,Kn.l [atL N],N,f222,[.v fy],[.v B],[⟨19,[(0,.v fy),(3,.v I),(4,.v I)],[1,1,0,1,0,0,1,0,0,1,1,0,0],[9]⟩,⟨16,[(0,.v fy),(3,.v I)],[1,1,0,1,0,0,1,0,0,1],[9]⟩,⟨9,[(0,.v fy),(3,.v I)],[1,1,0,1,0,0],[]⟩],none⟩
theorem agt(K ρ):(tq N).bd K ρ 19=fi.uX N ((tq N).kc ρ 9) ((tq N).kc ρ 19):=κ
theorem agu(ρ):(tq N).kc ((tq N).cC ρ) 19=fi.l9 N ((tq N).kc ρ 9) N:=Fx.uL [] (agt N) ρ (fi.l9 N ((tq N).kc ρ 9)) λn ρ' e d=>by rw[e,d 9 rfl];rfl
theorem agv(K ρ):(tq N).bd K ρ 16=fi.ZL N ((tq N).kc K 19) ((tq N).kc ρ 9):=κ
theorem agw(ρ):(tq N).kc ((tq N).cC ρ) 16=fi.j8 N ((tq N).kc ρ 9):=Fx.uJ [19] (agv N) ρ (by rw[agu];rfl)
theorem anm(K ρ):(tq N).bd K ρ 9=fi.dM N ((tq N).kc K 16) ((tq N).kc ρ 9):=κ
theorem ann(ρ):(tq N).kc ((tq N).cC ρ) 9=fi.l4 N N:=Fx.uL [16,19] (anm N) ρ (fi.l4 N) λn ρ' e d=>by rw[agw,e];rfl
theorem ayF(K):(tq N).top K=fi.b N ((tq N).kc K 9):=κ
def abD:Kn prog:=⟨222,(tq N).S true (fi N),Fx.u1 (tq N) aD func222 [9] (ayF N) (by rw[ann];rfl)⟩
def RA:Fx:=⟨32,tab,Kn.l [abD N],N,f213,[.v fy,.v I],[.own ff],[⟨11,[(0,.v fy),(1,.v I),(5,.own ff),(6,.v I)],[1,1,1,0,1,0,0],[]⟩],none⟩
theorem agx(K ρ):(RA N).bd K ρ 11=qn.dV N ((RA N).kc ρ 11):=κ
theorem agy(ρ):(RA N).kc ((RA N).cC ρ) 11=qn.l5 N N:=Fx.uL [] (agx N) ρ (qn.l5 N) λn ρ' e d=>by rw[e];rfl
theorem ayG(K):(RA N).top K=qn.b N ((RA N).kc K 11):=κ
def ayH:Kn prog:=⟨213,(RA N).S false (qn N),Fx.u1 (RA N) aD func213 [11] (ayG N) (by rw[agy];rfl)⟩
def atM:Fx:=⟨66,tab,[],N,f214,[.v dP,.v I],[.v B],[],none⟩
def ayI:Kn prog:=⟨214,(atM N).S true (adY N),Fx.u0 (atM N) aD func214⟩
def atN:Fx:=⟨9,tab,Kn.l [k49 N],N,f240,[.v aK,.v I],[.v I],[],none⟩
def agz:Kn prog:=⟨240,(atN N).S true (MV N),Fx.u0 (atN N) aD func240⟩
def RC:Fx:=⟨56,tab,Kn.l [afy N,nC N,afB N,Jf N,zw N],N,f266,[.v aA,.v dJ,.v B],[.v dm,.v I],[⟨11,[(1,.v dJ),(2,.v B),(3,.obj aA),(6,.obj dm),(8,.obj dm),(9,.v I)],[1,1,1,0,1,0,0],[]⟩],none⟩
theorem agA(K ρ):(RC N).bd K ρ 11=qM.dV N ((RC N).kc ρ 11):=κ
theorem agB(ρ):(RC N).kc ((RC N).cC ρ) 11=qM.l5 N N:=Fx.uL [] (agA N) ρ (qM.l5 N) λn ρ' e d=>by rw[e];rfl
theorem ayJ(K):(RC N).top K=qM.b N ((RC N).kc K 11):=κ
def atO:Kn prog:=⟨266,(RC N).S false (qM N),Fx.u1 (RC N) aD func266 [11] (ayJ N) (by rw[agB];rfl)⟩
def atP:Fx:=⟨11,tab,Kn.l [atO N],N,f262,[.v aA,.v dJ],[.v dm,.v I],[],none⟩
def ayK:Kn prog:=⟨262,(atP N).S false (aly N),Fx.u0 (atP N) aD func262⟩
def atS:Fx:=⟨9,tab,Kn.l [k23 N],N,f242,[.v aK,.v I],[.v I],[],none⟩
def agC:Kn prog:=⟨242,(atS N).S true (Tj N),Fx.u0 (atS N) aD func242⟩
def atT:Fx:=⟨69,tab,Kn.l [w4 N,Rk N,agz N,XO N,ayK N,agC N,nC N,Kc N],N,f238,[.v aA,.v aK,.v I,.v I,.v I],[.v I],[],none⟩
def ayL:Kn prog:=⟨238,(atT N).S true (adL N),Fx.u0 (atT N) aD func238⟩
def RD:Fx:=⟨61,tab,Kn.l [k42 N,ae7 N,k96 N],N,f239,[.v dJ,.v fy,.v I,.v I],[.own ff,.v I],[⟨27,[(2,.v I),(3,.v I),(13,.own ff),(14,.v I)],[1,1,1,1,1,1,1,1,0,1,0,0],[]⟩],none⟩
theorem agD(K ρ):(RD N).bd K ρ 27=oL.lq N ((RD N).kc ρ 27):=κ
theorem agE(ρ):(RD N).kc ((RD N).cC ρ) 27=oL.mw N N:=Fx.uL [] (agD N) ρ (oL.mw N) λn ρ' e d=>by rw[e];rfl
theorem ayM(K):(RD N).top K=oL.b N ((RD N).kc K 27):=κ
def ayN:Kn prog:=⟨239,(RD N).S false (oL N),Fx.u1 (RD N) aD func239 [27] (ayM N) (by rw[agE];rfl)⟩
def atU:Fx:=⟨42,tab,Kn.l [ayL N,ayN N],N,f223,[.v aA,.v aK,.v I,.v I,.v I],[.v aK,.v I],[],none⟩
def ayO:Kn prog:=⟨223,(atU N).S false (Xb N),Fx.u0 (atU N) aD func223⟩
def atV:Fx:=⟨11,tab,Kn.l [atO N],N,f250,[.v aA,.v dJ],[.v dm,.v I],[],none⟩
def atW:Kn prog:=⟨250,(atV N).S false (aax N),Fx.u0 (atV N) aD func250⟩
def atX:Fx:=⟨55,tab,Kn.l [w4 N,Rk N,XO N,atW N,agC N,Jd N],N,f241,[.v aA,.v aK,.v I],[.v I,.v I],[],none⟩
def ayP:Kn prog:=⟨241,(atX N).S true (adV N),Fx.u0 (atX N) aD func241⟩
def RE:Fx:=⟨76,tab,Kn.l [k73 N],N,f243,[.v cV,.v I,.v I],[.own kd],[⟨11,[(0,.v cV),(1,.v I),(2,.v I),(7,.own kd),(8,.v I)],[1,1,1,0,1,0,0],[]⟩],none⟩
theorem agF(K ρ):(RE N).bd K ρ 11=nU.dV N ((RE N).kc ρ 11):=κ
theorem agG(ρ):(RE N).kc ((RE N).cC ρ) 11=nU.l5 N N:=Fx.uL [] (agF N) ρ (nU.l5 N) λn ρ' e d=>by rw[e];rfl
theorem ayQ(K):(RE N).top K=nU.b N ((RE N).kc K 11):=κ
def ayR:Kn prog:=⟨243,(RE N).S false (nU N),Fx.u1 (RE N) aD func243 [11] (ayQ N) (by rw[agG];rfl)⟩
def Cx:Fx:=⟨86,tab,Kn.l [w4 N,agz N,ayP N,nC N,abC N,agC N,TV N,ayR N,Rp N],N,f224,[.v aA,.v aK,.v I],[.v aK,.v I],[⟨30,[(2,.v I),(3,.obj aA),(4,.obj aK),(6,.obj aK),(8,.own kd),(9,.own s6),(10,.v I),(11,.obj ff)],[1,1,1,1,1,0,1,0,0,1,0,0,1,1,1],[17]⟩,⟨17,[(2,.v I),(3,.obj aA),(4,.obj aK),(6,.obj aK),(8,.own kd),(9,.own s6),(10,.v I)],[1,1,1,1,1,0,1,0,0],[]⟩],none⟩
theorem agH(K ρ):(Cx N).bd K ρ 30=hZ.w3 N ((Cx N).kc ρ 17):=κ
theorem agI(ρ):(Cx N).kc ((Cx N).cC ρ) 30=hZ.Dt N ((Cx N).kc ρ 17):=Fx.uJ [] (agH N) ρ
theorem agJ(K ρ):(Cx N).bd K ρ 17=hZ.Ej N ((Cx N).kc K 30) ((Cx N).kc ρ 17):=κ
theorem agK(ρ):(Cx N).kc ((Cx N).cC ρ) 17=hZ.l8 N N:=Fx.uL [30] (agJ N) ρ (hZ.l8 N) λn ρ' e d=>by rw[agI,e];rfl
theorem ayS(K):(Cx N).top K=hZ.b N ((Cx N).kc K 17):=κ
def ayT:Kn prog:=⟨224,(Cx N).S false (hZ N),Fx.u1 (Cx N) aD func224 [17] (ayS N) (by rw[agK];rfl)⟩
def RF:Fx:=⟨48,tab,Kn.l [w4 N,k22 N,nC N,Jf N,zw N],N,f244,[.v aA,.v aK],[.own dm,.v I],[⟨11,[(2,.obj aA),(3,.obj aK),(6,.own dm),(7,.v I)],[1,1,1,0,1,0,0],[]⟩],none⟩
theorem agL(K ρ):(RF N).bd K ρ 11=sM.dV N ((RF N).kc ρ 11):=κ
theorem agM(ρ):(RF N).kc ((RF N).cC ρ) 11=sM.l5 N N:=Fx.uL [] (agL N) ρ (sM.l5 N) λn ρ' e d=>by rw[e];rfl
theorem ayU(K):(RF N).top K=sM.b N ((RF N).kc K 11):=κ
def ayV:Kn prog:=⟨244,(RF N).S false (sM N),Fx.u1 (RF N) aD func244 [11] (ayU N) (by rw[agM];rfl)⟩
def RG:Fx:=⟨31,tab,Kn.l [k41 N],N,f245,[.v aA,.v I],[.own I],[⟨11,[(1,.v I),(2,.obj aA),(5,.own I),(6,.v I)],[1,1,1,0,1,0,0],[]⟩],none⟩
theorem agN(K ρ):(RG N).bd K ρ 11=qh.dV N ((RG N).kc ρ 11):=κ
theorem agO(ρ):(RG N).kc ((RG N).cC ρ) 11=qh.l5 N N:=Fx.uL [] (agN N) ρ (qh.l5 N) λn ρ' e d=>by rw[e];rfl
theorem ayW(K):(RG N).top K=qh.b N ((RG N).kc K 11):=κ
def ayX:Kn prog:=⟨245,(RG N).S false (qh N),Fx.u1 (RG N) aD func245 [11] (ayW N) (by rw[agO];rfl)⟩
def RH:Fx:=⟨35,tab,Kn.l [amJ N],N,f263,[.v LU],[.v LU,.v U],[⟨9,[(0,.v LU),(4,.own U),(5,.v U),(6,.v I)],[1,1,1,0,1,0,0],[]⟩],none⟩
theorem ano(K ρ):(RH N).bd K ρ 9=qC.dM N ((RH N).kc ρ 9):=κ
theorem anp(ρ):(RH N).kc ((RH N).cC ρ) 9=qC.l4 N N:=Fx.uL [] (ano N) ρ (qC.l4 N) λn ρ' e d=>by rw[e];rfl
theorem ayY(K):(RH N).top K=qC.b N ((RH N).kc K 9):=κ
def ayZ:Kn prog:=⟨263,(RH N).S false (qC N),Fx.u1 (RH N) aD func263 [9] (ayY N) (by rw[anp];rfl)⟩
def DJ:Fx:=⟨77,tab,Kn.l [ayZ N,zw N,nC N,Kc N,TW N,k46 N,TV N],N,f246,[.v dm,.v dm],[.v dm,.v dm],[⟨19,[(2,.obj dm),(3,.obj dm),(4,.obj dm),(5,.obj dm),(6,.own U),(10,.obj dm),(11,.obj dm),(12,.v I)],[1,1,1,1,0,1,0,0],[]⟩,⟨7,[(2,.obj dm),(3,.obj dm),(4,.obj dm),(5,.obj dm),(6,.own U),(7,.v LU)],[1,1,0,1,0,0],[]⟩],none⟩
theorem agP(K ρ):(DJ N).bd K ρ 19=jg.uX N ((DJ N).kc ρ 19):=κ
theorem agQ(ρ):(DJ N).kc ((DJ N).cC ρ) 19=jg.l9 N N:=Fx.uL [] (agP N) ρ (jg.l9 N) λn ρ' e d=>by rw[e];rfl
theorem anq(K ρ):(DJ N).bd K ρ 7=jg.nY N ((DJ N).kc K 19) ((DJ N).kc ρ 7):=κ
theorem anr(ρ):(DJ N).kc ((DJ N).cC ρ) 7=jg.l3 N N:=Fx.uL [19] (anq N) ρ (jg.l3 N) λn ρ' e d=>by rw[agQ,e];rfl
theorem ay0(K):(DJ N).top K=jg.b N ((DJ N).kc K 7):=κ
def atY:Kn prog:=⟨246,(DJ N).S false (jg N),Fx.u1 (DJ N) aD func246 [7,19] (ay0 N) (by rw[anr];rfl)⟩
def Cy:Fx:=⟨104,tab,Kn.l [ayV N,ayX N,afB N,nC N,Kc N,atY N,Jd N,k46 N],N,f225,[.v aA,.v aK,.v I],[.own ff,.v I],[⟨30,[(2,.v I),(3,.obj aA),(4,.obj aK),(8,.own dm),(10,.own ff),(11,.v I),(12,.own I),(16,.v I)],[1,1,1,1,0,1,0,0,1,0,0,1,1,1,1,1,1],[13]⟩,⟨13,[(2,.v I),(3,.obj aA),(4,.obj aK),(8,.own dm),(10,.own ff),(11,.v I)],[1,1,1,1,0,1,0,0],[]⟩],none⟩
theorem agR(K ρ):(Cy N).bd K ρ 30=jJ.w3 N ((Cy N).kc ρ 13):=κ
theorem agS(ρ):(Cy N).kc ((Cy N).cC ρ) 30=jJ.Dt N ((Cy N).kc ρ 13):=Fx.uJ [] (agR N) ρ
theorem agT(K ρ):(Cy N).bd K ρ 13=jJ.uU N ((Cy N).kc K 30) ((Cy N).kc ρ 13):=κ
theorem agU(ρ):(Cy N).kc ((Cy N).cC ρ) 13=jJ.l6 N N:=Fx.uL [30] (agT N) ρ (jJ.l6 N) λn ρ' e d=>by rw[agS,e];rfl
theorem ay1(K):(Cy N).top K=jJ.b N ((Cy N).kc K 13):=κ
def ay2:Kn prog:=⟨225,(Cy N).S false (jJ N),Fx.u1 (Cy N) aD func225 [13] (ay1 N) (by rw[agU];rfl)⟩
def atZ:Fx:=⟨41,tab,[],N,f264,[.v ff],[.v B],[],none⟩
def ay3:Kn prog:=⟨264,(atZ N).S true (adu N),Fx.u0 (atZ N) aD func264⟩
def TX:Fx:=⟨113,tab,Kn.l [w4 N,ay3 N,atw N,k51 N],N,f247,[.v aA,.v aK,.v ff,.v I,.v I,.v I],[.v aK,.v ff,.v I],[⟨28,[(4,.v I),(6,.obj aA),(7,.obj aK),(8,.obj ff),(12,.obj aK),(13,.obj ff),(17,.obj sT)],[1,1,1,1,1,1,1,1],[]⟩],none⟩
theorem agV(K ρ):(TX N).bd K ρ 28=qL.adC N:=κ
theorem agW(ρ):(TX N).kc ((TX N).cC ρ) 28=qL.j14 N:=Fx.uJ [] (agV N) ρ
theorem ay4(K):(TX N).top K=qL.b N ((TX N).kc K 28):=κ
def ay5:Kn prog:=⟨247,(TX N).S false (qL N),Fx.u1 (TX N) aD func247 [28] (ay4 N) (by rw[agW];rfl)⟩
def RI:Fx:=⟨77,tab,Kn.l [ay5 N,ae6 N],N,f226,[.v aA,.v dP,.v mc],[.v dP,.v kd],[⟨11,[(3,.obj aA),(4,.obj dP),(5,.obj mc),(6,.obj dP),(7,.obj kd),(8,.own ff),(9,.v B),(10,.v I),(11,.v I)],[1,1,1,1,0,1,0,0],[]⟩],none⟩
theorem agX(K ρ):(RI N).bd K ρ 11=oO.dV N ((RI N).kc ρ 11):=κ
theorem agY(ρ):(RI N).kc ((RI N).cC ρ) 11=oO.l5 N N:=Fx.uL [] (agX N) ρ (oO.l5 N) λn ρ' e d=>by rw[e];rfl
theorem ay6(K):(RI N).top K=oO.b N ((RI N).kc K 11):=κ
def ay7:Kn prog:=⟨226,(RI N).S false (oO N),Fx.u1 (RI N) aD func226 [11] (ay6 N) (by rw[agY];rfl)⟩
def RJ:Fx:=⟨28,tab,Kn.l [k46 N,nC N,Jf N,Kc N],N,f248,[.v dm,.v I],[.v I],[⟨9,[(1,.v I),(2,.obj dm),(5,.v I)],[1,1,1,0,0,0],[]⟩],none⟩
theorem ans(K ρ):(RJ N).bd K ρ 9=sO.dM N ((RJ N).kc ρ 9):=κ
theorem ant(ρ):(RJ N).kc ((RJ N).cC ρ) 9=sO.l4 N N:=Fx.uL [] (ans N) ρ (sO.l4 N) λn ρ' e d=>by rw[e];rfl
theorem ay8(K):(RJ N).top K=sO.b N ((RJ N).kc K 9):=κ
def ay9:Kn prog:=⟨248,(RJ N).S true (sO N),Fx.u1 (RJ N) aD func248 [9] (ay8 N) (by rw[ant];rfl)⟩
def RK:Fx:=⟨24,tab,[],N,f276,[.v I,.v LI],[.v B],[⟨9,[(1,.v LI),(5,.v I)],[1,1,0,1,0,0],[]⟩],none⟩
theorem anu(K ρ):(RK N).bd K ρ 9=qJ.dM N ((RK N).kc ρ 9):=κ
theorem anv(ρ):(RK N).kc ((RK N).cC ρ) 9=qJ.l4 N N:=Fx.uL [] (anu N) ρ (qJ.l4 N) λn ρ' e d=>by rw[e];rfl
theorem aza(K):(RK N).top K=qJ.b N ((RK N).kc K 9):=κ
def at1:Kn prog:=⟨276,(RK N).S true (qJ N),Fx.u1 (RK N) aD func276 [9] (aza N) (by rw[anv];rfl)⟩
def RL:Fx:=⟨19,tab,Kn.l [nC N,zw N],N,f274,[.v LI],[.v dm],[⟨7,[(0,.v LI),(2,.obj dm),(3,.obj dm),(4,.v I)],[1,1,0,1,0,0],[]⟩],none⟩
theorem anw(K ρ):(RL N).bd K ρ 7=qB.nY N ((RL N).kc ρ 7):=κ
theorem anx(ρ):(RL N).kc ((RL N).cC ρ) 7=qB.l3 N N:=Fx.uL [] (anw N) ρ (qB.l3 N) λn ρ' e d=>by rw[e];rfl
theorem azb(K):(RL N).top K=qB.b N ((RL N).kc K 7):=κ
def anz:Kn prog:=⟨274,(RL N).S false (qB N),Fx.u1 (RL N) aD func274 [7] (azb N) (by rw[anx];rfl)⟩
def tt:Fx:=⟨48,tab,[],N,f277,[.v LI],[.own I],[⟨16,[(0,.v LI),(3,.own I),(4,.v I),(5,.v I)],[1,1,0,1,0,0,1,0,0,1,1],[7]⟩,⟨13,[(0,.v LI),(3,.own I),(4,.v I),(5,.v I)],[1,1,0,1,0,0,1,0,0,1,0,0,0],[7]⟩,⟨7,[(0,.v LI),(3,.own I),(4,.v I)],[1,1,0,1,0,0],[]⟩],none⟩
theorem agZ(K ρ):(tt N).bd K ρ 16=gq.ZL N ((tt N).kc ρ 7):=κ
theorem ag0(ρ):(tt N).kc ((tt N).cC ρ) 16=gq.j8 N ((tt N).kc ρ 7):=Fx.uJ [] (agZ N) ρ
theorem ag1(K ρ):(tt N).bd K ρ 13=gq.uU N ((tt N).kc K 16) ((tt N).kc ρ 7) ((tt N).kc ρ 13):=κ
theorem ag2(ρ):(tt N).kc ((tt N).cC ρ) 13=gq.l6 N ((tt N).kc ρ 7) N:=Fx.uL [16] (ag1 N) ρ (gq.l6 N ((tt N).kc ρ 7)) λn ρ' e d=>by rw[ag0,e,d 7 rfl];rfl
theorem anA(K ρ):(tt N).bd K ρ 7=gq.nY N ((tt N).kc K 13) ((tt N).kc ρ 7):=κ
theorem anB(ρ):(tt N).kc ((tt N).cC ρ) 7=gq.l3 N N:=Fx.uL [13,16] (anA N) ρ (gq.l3 N) λn ρ' e d=>by rw[ag2,e];rfl
theorem azc(K):(tt N).top K=gq.b N ((tt N).kc K 7):=κ
def azd:Kn prog:=⟨277,(tt N).S false (gq N),Fx.u1 (tt N) aD func277 [7] (azc N) (by rw[anB];rfl)⟩
def yH:Fx:=⟨112,tab,Kn.l [at1 N,anz N,k46 N,Jd N,nC N,Jf N,atY N,azd N],N,f265,[.v I,.v LI],[.own I,.v I],[⟨45,[(9,.own I),(11,.v I),(15,.own I),(16,.v I)],[1,1,1,1,1,1,1,1,1,1,0,1,0,0],[]⟩,⟨29,[(0,.v I),(1,.v LI),(6,.obj dm),(9,.own I),(10,.own I),(11,.v I),(12,.v I)],[1,1,1,1,1,1,1,1,0,1,0,0],[]⟩,⟨12,[(0,.v I),(1,.v LI),(6,.obj dm)],[1,1,1,1],[]⟩],none⟩
theorem ag3(K ρ):(yH N).bd K ρ 45=gC.wY N ((yH N).kc ρ 45):=κ
theorem ag4(ρ):(yH N).kc ((yH N).cC ρ) 45=gC.yd N N:=Fx.uL [] (ag3 N) ρ (gC.yd N) λn ρ' e d=>by rw[e];rfl
theorem ag5(K ρ):(yH N).bd K ρ 29=gC.Ib N ((yH N).kc K 45) ((yH N).kc ρ 29):=κ
theorem ag6(ρ):(yH N).kc ((yH N).cC ρ) 29=gC.KZ N N:=Fx.uL [45] (ag5 N) ρ (gC.KZ N) λn ρ' e d=>by rw[ag4,e];rfl
theorem ag7(K ρ):(yH N).bd K ρ 12=gC.O6 N ((yH N).kc K 29):=κ
theorem ag8(ρ):(yH N).kc ((yH N).cC ρ) 12=gC.j6 N:=Fx.uJ [29,45] (ag7 N) ρ (by rw[ag6];rfl)
theorem aze(K):(yH N).top K=gC.b N ((yH N).kc K 12):=κ
def anC:Kn prog:=⟨265,(yH N).S false (gC N),Fx.u1 (yH N) aD func265 [12,29,45] (aze N) (by rw[ag8];rfl)⟩
def RM:Fx:=⟨33,tab,Kn.l [anC N],N,f249,[.v I,.v I],[.own I,.v I],[⟨11,[(0,.v I),(1,.v I),(6,.own I),(7,.v I)],[1,1,1,0,1,0,0],[]⟩],none⟩
theorem ag9(K ρ):(RM N).bd K ρ 11=sJ.dV N ((RM N).kc ρ 11):=κ
theorem aha(ρ):(RM N).kc ((RM N).cC ρ) 11=sJ.l5 N N:=Fx.uL [] (ag9 N) ρ (sJ.l5 N) λn ρ' e d=>by rw[e];rfl
theorem azf(K):(RM N).top K=sJ.b N ((RM N).kc K 11):=κ
def azg:Kn prog:=⟨249,(RM N).S false (sJ N),Fx.u1 (RM N) aD func249 [11] (azf N) (by rw[aha];rfl)⟩
def gu:Fx:=⟨175,tab,Kn.l [w4 N,XO N,nC N,afB N,zw N,ay9 N,azg N,atW N,TV N,Jd N],N,f227,[.v aA,.v aK,.v I],[.own jT,.v I],[⟨64,[(2,.v I),(3,.obj aA),(8,.own kM),(9,.own jT),(10,.v I),(11,.own kM),(14,.v I),(15,.v I),(16,.gk jT [.gM 1] kM),(17,.v I),(19,.own I)],[1,1,1,1,1,0,1,0,0,1,0,0,1,1,1,1,1,0,0,1,0,0,1,0,1,0,0,1,0,0,1,1,1,1],[17,41,49]⟩,⟨58,[(2,.v I),(3,.obj aA),(8,.own kM),(9,.own jT),(10,.v I),(11,.own kM),(14,.v I),(15,.v I),(16,.gk jT [.gM 1] kM),(17,.v I),(18,.v I)],[1,1,1,1,1,0,1,0,0,1,0,0,1,1,1,1,1,0,0,1,0,0,1,0,1,0,0,1,0,0,1,1],[17,41,49]⟩,⟨49,[(2,.v I),(3,.obj aA),(8,.own kM),(9,.own jT),(10,.v I),(11,.own kM),(14,.v I),(15,.v I),(16,.gk jT [.gM 1] kM),(17,.v I)],[1,1,1,1,1,0,1,0,0,1,0,0,1,1,1,1,1,0,0,1,0,0,1,0,1,0,0],[17,41]⟩,⟨41,[(2,.v I),(3,.obj aA),(8,.own kM),(9,.own jT),(10,.v I),(11,.own kM),(14,.v I),(15,.v I)],[1,1,1,1,1,0,1,0,0,1,0,0,1,1,1,1,1,0,0],[17]⟩,⟨27,[(2,.v I),(3,.obj aA),(8,.own kM),(9,.own jT),(10,.v I),(11,.own kM),(12,.obj dm),(13,.v I)],[1,1,1,1,1,0,1,0,0,1,0,0,1,1,0,1,0,0],[17]⟩,⟨17,[(2,.v I),(3,.obj aA),(8,.own kM),(9,.own jT),(10,.v I)],[1,1,1,1,1,0,1,0,0],[]⟩],some (jT,[.gM 1],kM,[16])⟩
theorem ahb(K ρ):(gu N).bd K ρ 64=cw.alA N ((gu N).kc ρ 17) ((gu N).kc ρ 41) ((gu N).kc ρ 49):=κ
theorem ahc(ρ):(gu N).kc ((gu N).cC ρ) 64=cw.j32 N ((gu N).kc ρ 17) ((gu N).kc ρ 41) ((gu N).kc ρ 49):=Fx.uJ [] (ahb N) ρ
theorem ahd(K ρ):(gu N).bd K ρ 58=cw.Qg N ((gu N).kc K 64) ((gu N).kc ρ 17) ((gu N).kc ρ 41) ((gu N).kc ρ 49):=κ
theorem ahe(ρ):(gu N).kc ((gu N).cC ρ) 58=cw.Xf N ((gu N).kc ρ 17) ((gu N).kc ρ 41) ((gu N).kc ρ 49):=Fx.uJ [64] (ahd N) ρ (by rw[ahc];rfl)
theorem ahf(K ρ):(gu N).bd K ρ 49=cw.Qb N ((gu N).kc K 58) ((gu N).kc ρ 17) ((gu N).kc ρ 41) ((gu N).kc ρ 49):=κ
theorem ahg(ρ):(gu N).kc ((gu N).cC ρ) 49=cw.NI N ((gu N).kc ρ 17) ((gu N).kc ρ 41) N:=Fx.uL [58,64] (ahf N) ρ (cw.NI N ((gu N).kc ρ 17) ((gu N).kc ρ 41)) λn ρ' e d=>by rw[ahe,e,d 17 rfl,d 41 rfl];rfl
theorem ahh(K ρ):(gu N).bd K ρ 41=cw.Qf N ((gu N).kc K 49) ((gu N).kc ρ 17) ((gu N).kc ρ 41):=κ
theorem ahi(ρ):(gu N).kc ((gu N).cC ρ) 41=cw.J4 N ((gu N).kc ρ 17) N:=Fx.uL [49] (ahh N) ρ (cw.J4 N ((gu N).kc ρ 17)) λn ρ' e d=>by rw[ahg,e,d 17 rfl];rfl
theorem ahj(K ρ):(gu N).bd K ρ 27=cw.lq N ((gu N).kc K 41) ((gu N).kc ρ 17) ((gu N).kc ρ 27):=κ
theorem ahk(ρ):(gu N).kc ((gu N).cC ρ) 27=cw.mw N ((gu N).kc ρ 17) N:=Fx.uL [41] (ahj N) ρ (cw.mw N ((gu N).kc ρ 17)) λn ρ' e d=>by rw[ahi,e,d 17 rfl];rfl
theorem ahl(K ρ):(gu N).bd K ρ 17=cw.Ej N ((gu N).kc K 27) ((gu N).kc ρ 17):=κ
theorem ahm(ρ):(gu N).kc ((gu N).cC ρ) 17=cw.l8 N N:=Fx.uL [27,41] (ahl N) ρ (cw.l8 N) λn ρ' e d=>by rw[ahk,e];rfl
theorem azh(K):(gu N).top K=cw.b N ((gu N).kc K 17):=κ
def azi:Kn prog:=⟨227,(gu N).S false (cw N),Fx.u1 (gu N) aD func227 [17] (azh N) (by rw[ahm];rfl)⟩
def RN:Fx:=⟨48,tab,Kn.l [w4 N,k23 N],N,f228,[.v aA,.v aK],[.own I,.v I],[⟨11,[(3,.obj aK),(6,.own I),(7,.v I)],[1,1,1,0,1,0,0],[]⟩],none⟩
theorem ahn(K ρ):(RN N).bd K ρ 11=sP.dV N ((RN N).kc ρ 11):=κ
theorem aho(ρ):(RN N).kc ((RN N).cC ρ) 11=sP.l5 N N:=Fx.uL [] (ahn N) ρ (sP.l5 N) λn ρ' e d=>by rw[e];rfl
theorem azj(K):(RN N).top K=sP.b N ((RN N).kc K 11):=κ
def azk:Kn prog:=⟨228,(RN N).S false (sP N),Fx.u1 (RN N) aD func228 [11] (azj N) (by rw[aho];rfl)⟩
def Cz:Fx:=⟨99,tab,Kn.l [k41 N,afy N],N,f252,[.v aA,.v mT],[.v B],[⟨18,[(1,.v mT),(2,.obj aA),(5,.v I),(6,.obj jT)],[1,1,0,1,0,0,1,0,0,1,1],[9]⟩,⟨9,[(1,.v mT),(2,.obj aA),(5,.v I)],[1,1,0,1,0,0],[]⟩],none⟩
theorem ahp(K ρ):(Cz N).bd K ρ 18=jI.Pe N ((Cz N).kc ρ 9):=κ
theorem ahq(ρ):(Cz N).kc ((Cz N).cC ρ) 18=jI.j9 N ((Cz N).kc ρ 9):=Fx.uJ [] (ahp N) ρ
theorem anD(K ρ):(Cz N).bd K ρ 9=jI.dM N ((Cz N).kc K 18) ((Cz N).kc ρ 9):=κ
theorem anE(ρ):(Cz N).kc ((Cz N).cC ρ) 9=jI.l4 N N:=Fx.uL [18] (anD N) ρ (jI.l4 N) λn ρ' e d=>by rw[ahq,e];rfl
theorem azl(K):(Cz N).top K=jI.b N ((Cz N).kc K 9):=κ
def anF:Kn prog:=⟨252,(Cz N).S true (jI N),Fx.u1 (Cz N) aD func252 [9] (azl N) (by rw[anE];rfl)⟩
def RO:Fx:=⟨25,tab,[],N,f267,[.v mT,.v I],[.v jT,.v B],[⟨5,[(0,.v mT),(1,.v I),(4,.obj jT),(6,.v I)],[1,0,1,0,0],[]⟩],none⟩
theorem anG(K ρ):(RO N).bd K ρ 5=rr.fN N ((RO N).kc ρ 5):=κ
theorem anH(ρ):(RO N).kc ((RO N).cC ρ) 5=rr.l2 N N:=Fx.uL [] (anG N) ρ (rr.l2 N) λn ρ' e d=>by rw[e];rfl
theorem azm(K):(RO N).top K=rr.b N ((RO N).kc K 5):=κ
def at2:Kn prog:=⟨267,(RO N).S false (rr N),Fx.u1 (RO N) aD func267 [5] (azm N) (by rw[anH];rfl)⟩
def rB:Fx:=⟨75,tab,Kn.l [nC N,zw N,atd N],N,f268,[.v dJ,.v dJ],[.own kM,.v B],[⟨25,[(0,.v dJ),(1,.v dJ),(6,.own kM),(7,.v I),(8,.obj dm),(10,.v I)],[1,1,0,1,0,0,1,0,0,1,1,0,1,0,0],[7]⟩,⟨15,[(0,.v dJ),(1,.v dJ),(6,.own kM),(7,.v I),(8,.obj dm),(9,.v I)],[1,1,0,1,0,0,1,0,0,1,0,1,0,0],[7]⟩,⟨7,[(0,.v dJ),(1,.v dJ),(6,.own kM),(7,.v I)],[1,1,0,1,0,0],[]⟩],none⟩
theorem ahr(K ρ):(rB N).bd K ρ 25=fC.mN N ((rB N).kc ρ 7) ((rB N).kc ρ 25):=κ
theorem ahs(ρ):(rB N).kc ((rB N).cC ρ) 25=fC.nJ N ((rB N).kc ρ 7) N:=Fx.uL [] (ahr N) ρ (fC.nJ N ((rB N).kc ρ 7)) λn ρ' e d=>by rw[e,d 7 rfl];rfl
theorem aht(K ρ):(rB N).bd K ρ 15=fC.nR N ((rB N).kc K 25) ((rB N).kc ρ 7) ((rB N).kc ρ 15):=κ
theorem ahu(ρ):(rB N).kc ((rB N).cC ρ) 15=fC.l7 N ((rB N).kc ρ 7) N:=Fx.uL [25] (aht N) ρ (fC.l7 N ((rB N).kc ρ 7)) λn ρ' e d=>by rw[ahs,e,d 7 rfl];rfl
theorem anI(K ρ):(rB N).bd K ρ 7=fC.nY N ((rB N).kc K 15) ((rB N).kc ρ 7):=κ
theorem anJ(ρ):(rB N).kc ((rB N).cC ρ) 7=fC.l3 N N:=Fx.uL [15,25] (anI N) ρ (fC.l3 N) λn ρ' e d=>by rw[ahu,e];rfl
theorem azn(K):(rB N).top K=fC.b N ((rB N).kc K 7):=κ
def azo:Kn prog:=⟨268,(rB N).S false (fC N),Fx.u1 (rB N) aD func268 [7] (azn N) (by rw[anJ];rfl)⟩
def at3:Fx:=⟨11,tab,Kn.l [k45 N,ana N],N,f269,[.v lE,.v I],[.own kd],[],none⟩
def azp:Kn prog:=⟨269,(at3 N).S false (alz N),Fx.u0 (at3 N) aD func269⟩
def Fy:Fx:=⟨157,tab,Kn.l [w4 N,anF N,abD N,atL N,agz N,at2 N,abB N,nC N,Jf N,Kc N,XO N,azo N,azp N,atp N,agC N,TW N],N,f251,[.v aA,.v aK,.v mT,.v fy,.v ff],[.v I],[⟨27,[(3,.v fy),(5,.obj aA),(6,.obj aK),(9,.obj ff),(12,.obj jT),(14,.v I),(15,.v I)],[1,1,1,1,1,1,1,1,0,1,0,0],[]⟩,⟨6,[(2,.v mT),(3,.v fy),(5,.obj aA),(6,.obj aK),(9,.obj ff)],[1,1],[]⟩],none⟩
theorem ahv(K ρ):(Fy N).bd K ρ 27=lX.lq N ((Fy N).kc ρ 27):=κ
theorem ahw(ρ):(Fy N).kc ((Fy N).cC ρ) 27=lX.mw N N:=Fx.uL [] (ahv N) ρ (lX.mw N) λn ρ' e d=>by rw[e];rfl
theorem anK(K ρ):(Fy N).bd K ρ 6=lX.j3b N ((Fy N).kc K 27):=κ
theorem anL(ρ):(Fy N).kc ((Fy N).cC ρ) 6=lX.j3 N:=Fx.uJ [27] (anK N) ρ (by rw[ahw];rfl)
theorem azq(K):(Fy N).top K=lX.b N ((Fy N).kc K 6):=κ
def azr:Kn prog:=⟨251,(Fy N).S true (lX N),Fx.u1 (Fy N) aD func251 [6,27] (azq N) (by rw[anL];rfl)⟩
def at4:Fx:=⟨28,tab,Kn.l [azr N],N,f229,[.v aA,.v aK,.v mT,.v fy,.v ff],[.own ff,.v I],[],none⟩
def azs:Kn prog:=⟨229,(at4 N).S false (adN N),Fx.u0 (at4 N) aD func229⟩
def RP:Fx:=⟨46,tab,Kn.l [abD N],N,f253,[.v fy,.v I],[.v ff,.v B],[⟨13,[(0,.v fy),(1,.v I),(4,.obj ff),(6,.obj ff),(7,.v B),(8,.v I)],[1,1,1,1,0,1,0,0],[]⟩],none⟩
theorem ahx(K ρ):(RP N).bd K ρ 13=sV.uU N ((RP N).kc ρ 13):=κ
theorem ahy(ρ):(RP N).kc ((RP N).cC ρ) 13=sV.l6 N N:=Fx.uL [] (ahx N) ρ (sV.l6 N) λn ρ' e d=>by rw[e];rfl
theorem azt(K):(RP N).top K=sV.b N ((RP N).kc K 13):=κ
def azu:Kn prog:=⟨253,(RP N).S true (sV N),Fx.u1 (RP N) aD func253 [13] (azt N) (by rw[ahy];rfl)⟩
def zz:Fx:=⟨158,tab,Kn.l [w4 N,anF N,abD N,azu N,abB N,agz N,nC N,abC N,Rp N],N,f230,[.v aA,.v aK,.v mT,.v fy],[.v aK,.own jT,.v I],[⟨45,[(2,.v mT),(3,.v fy),(5,.obj aK),(8,.obj aK),(11,.own kd),(12,.own s6),(13,.own jT),(14,.v I),(15,.obj jT),(16,.obj ff),(18,.v I),(19,.v I)],[1,1,1,1,1,0,1,0,0,1,0,0,1,1,1,1,1,1,1,1,0,1,0,0],[15]⟩,⟨15,[(2,.v mT),(3,.v fy),(5,.obj aK),(8,.obj aK),(11,.own kd),(12,.own s6),(13,.own jT),(14,.v I)],[1,1,1,1,1,0,1,0,0],[]⟩],none⟩
theorem ahz(K ρ):(zz N).bd K ρ 45=gA.wY N ((zz N).kc ρ 15) ((zz N).kc ρ 45):=κ
theorem ahA(ρ):(zz N).kc ((zz N).cC ρ) 45=gA.yd N ((zz N).kc ρ 15) N:=Fx.uL [] (ahz N) ρ (gA.yd N ((zz N).kc ρ 15)) λn ρ' e d=>by rw[e,d 15 rfl];rfl
theorem ahB(K ρ):(zz N).bd K ρ 15=gA.nR N ((zz N).kc K 45) ((zz N).kc ρ 15):=κ
theorem ahC(ρ):(zz N).kc ((zz N).cC ρ) 15=gA.l7 N N:=Fx.uL [45] (ahB N) ρ (gA.l7 N) λn ρ' e d=>by rw[ahA,e];rfl
theorem azv(K):(zz N).top K=gA.b N ((zz N).kc K 15):=κ
def azw:Kn prog:=⟨230,(zz N).S false (gA N),Fx.u1 (zz N) aD func230 [15] (azv N) (by rw[ahC];rfl)⟩
def RQ:Fx:=⟨58,tab,[],N,f254,[.v dJ],[.v B],[⟨5,[(0,.v dJ),(3,.v I)],[1,0,1,0,0],[]⟩],none⟩
theorem anM(K ρ):(RQ N).bd K ρ 5=qo.fN N ((RQ N).kc ρ 5):=κ
theorem anN(ρ):(RQ N).kc ((RQ N).cC ρ) 5=qo.l2 N N:=Fx.uL [] (anM N) ρ (qo.l2 N) λn ρ' e d=>by rw[e];rfl
theorem azx(K):(RQ N).top K=qo.b N ((RQ N).kc K 5):=κ
def ahD:Kn prog:=⟨254,(RQ N).S true (qo N),Fx.u1 (RQ N) aD func254 [5] (azx N) (by rw[anN];rfl)⟩
def RS:Fx:=⟨38,tab,[],N,f255,[.v LI],[.v B],[⟨5,[(0,.v LI),(3,.v I)],[1,0,1,0,0],[]⟩],none⟩
theorem anO(K ρ):(RS N).bd K ρ 5=sQ.fN N ((RS N).kc ρ 5):=κ
theorem anP(ρ):(RS N).kc ((RS N).cC ρ) 5=sQ.l2 N N:=Fx.uL [] (anO N) ρ (sQ.l2 N) λn ρ' e d=>by rw[e];rfl
theorem azy(K):(RS N).top K=sQ.b N ((RS N).kc K 5):=κ
def azz:Kn prog:=⟨255,(RS N).S true (sQ N),Fx.u1 (RS N) aD func255 [5] (azy N) (by rw[anP];rfl)⟩
def DK:Fx:=⟨72,tab,Kn.l [at2 N],N,f256,[.v I,.v mT,.v fy],[.v I],[⟨25,[(0,.v I),(1,.v mT),(7,.v I),(12,.v I)],[1,1,1,0,1,0,0],[]⟩,⟨7,[(0,.v I),(1,.v mT),(2,.v fy),(7,.v I),(8,.v I)],[1,1,0,1,0,0],[]⟩],none⟩
theorem ahE(K ρ):(DK N).bd K ρ 25=kk.mN N ((DK N).kc ρ 25):=κ
theorem ahF(ρ):(DK N).kc ((DK N).cC ρ) 25=kk.nJ N N:=Fx.uL [] (ahE N) ρ (kk.nJ N) λn ρ' e d=>by rw[e];rfl
theorem anQ(K ρ):(DK N).bd K ρ 7=kk.nY N ((DK N).kc K 25) ((DK N).kc ρ 7):=κ
theorem anR(ρ):(DK N).kc ((DK N).cC ρ) 7=kk.l3 N N:=Fx.uL [25] (anQ N) ρ (kk.l3 N) λn ρ' e d=>by rw[ahF,e];rfl
theorem azA(K):(DK N).top K=kk.b N ((DK N).kc K 7):=κ
def azB:Kn prog:=⟨256,(DK N).S true (kk N),Fx.u1 (DK N) aD func256 [7,25] (azA N) (by rw[anR];rfl)⟩
def mU:Fx:=⟨104,tab,Kn.l [ahD N,azz N,anF N,abD N,azB N],N,f231,[.v aA,.v dJ,.v LI,.v mT,.v fy],[.own kM,.v I],[⟨37,[(1,.v dJ),(2,.v LI),(3,.v mT),(4,.v fy),(12,.own kM),(13,.v I),(14,.v I),(15,.v B),(18,.v I)],[1,1,1,0,1,0,0,1,0,0,1,1,1,0,1,0,0],[11]⟩,⟨29,[(1,.v dJ),(2,.v LI),(3,.v mT),(4,.v fy),(12,.own kM),(13,.v I),(14,.v I),(15,.v B),(17,.v I)],[1,1,1,0,1,0,0,1,0,0,1,1,0,1,0,0],[11]⟩,⟨19,[(1,.v dJ),(2,.v LI),(3,.v mT),(4,.v fy),(12,.own kM),(13,.v I),(14,.v I),(15,.v B),(16,.v I)],[1,1,1,0,1,0,0,1,0,0,1,0,1,0,0],[11]⟩,⟨11,[(1,.v dJ),(2,.v LI),(3,.v mT),(4,.v fy),(12,.own kM),(13,.v I)],[1,1,1,0,1,0,0],[]⟩],none⟩
theorem ahG(K ρ):(mU N).bd K ρ 37=dS.Fm N ((mU N).kc ρ 11) ((mU N).kc ρ 37):=κ
theorem ahH(ρ):(mU N).kc ((mU N).cC ρ) 37=dS.Jr N ((mU N).kc ρ 11) N:=Fx.uL [] (ahG N) ρ (dS.Jr N ((mU N).kc ρ 11)) λn ρ' e d=>by rw[e,d 11 rfl];rfl
theorem ahI(K ρ):(mU N).bd K ρ 29=dS.Ib N ((mU N).kc K 37) ((mU N).kc ρ 11) ((mU N).kc ρ 29):=κ
theorem ahJ(ρ):(mU N).kc ((mU N).cC ρ) 29=dS.KZ N ((mU N).kc ρ 11) N:=Fx.uL [37] (ahI N) ρ (dS.KZ N ((mU N).kc ρ 11)) λn ρ' e d=>by rw[ahH,e,d 11 rfl];rfl
theorem ahK(K ρ):(mU N).bd K ρ 19=dS.uX N ((mU N).kc K 29) ((mU N).kc ρ 11) ((mU N).kc ρ 19):=κ
theorem ahL(ρ):(mU N).kc ((mU N).cC ρ) 19=dS.l9 N ((mU N).kc ρ 11) N:=Fx.uL [29,37] (ahK N) ρ (dS.l9 N ((mU N).kc ρ 11)) λn ρ' e d=>by rw[ahJ,e,d 11 rfl];rfl
theorem ahM(K ρ):(mU N).bd K ρ 11=dS.dV N ((mU N).kc K 19) ((mU N).kc ρ 11):=κ
theorem ahN(ρ):(mU N).kc ((mU N).cC ρ) 11=dS.l5 N N:=Fx.uL [19,29,37] (ahM N) ρ (dS.l5 N) λn ρ' e d=>by rw[ahL,e];rfl
theorem azC(K):(mU N).top K=dS.b N ((mU N).kc K 11):=κ
def azD:Kn prog:=⟨231,(mU N).S false (dS N),Fx.u1 (mU N) aD func231 [11] (azC N) (by rw[ahN];rfl)⟩
def at5:Fx:=⟨28,tab,Kn.l [k23 N],N,f270,[.own sT,.v aK,.v I,.v I,.v I],[.own sT],[],none⟩
def azE:Kn prog:=⟨270,(at5 N).S false (MY N),Fx.u0 (at5 N) aD func270⟩
def at6:Fx:=⟨9,tab,[],N,f272,[.v I],[.v B],[],none⟩
def at7:Kn prog:=⟨272,(at6 N).S true (aaA N),Fx.u0 (at6 N) aD func272⟩
def RT:Fx:=⟨27,tab,Kn.l [ahD N],N,f278,[.v dJ,.v I],[.v I],[⟨9,[(0,.v dJ),(1,.v I),(5,.v I)],[1,1,0,1,0,0],[]⟩],none⟩
theorem anS(K ρ):(RT N).bd K ρ 9=sR.dM N ((RT N).kc ρ 9):=κ
theorem anT(ρ):(RT N).kc ((RT N).cC ρ) 9=sR.l4 N N:=Fx.uL [] (anS N) ρ (sR.l4 N) λn ρ' e d=>by rw[e];rfl
theorem azF(K):(RT N).top K=sR.b N ((RT N).kc K 9):=κ
def azG:Kn prog:=⟨278,(RT N).S true (sR N),Fx.u1 (RT N) aD func278 [9] (azF N) (by rw[anT];rfl)⟩
def RU:Fx:=⟨67,tab,Kn.l [w4 N,ahD N,at7 N,k23 N,azG N],N,f271,[.v aA,.v aK,.v dJ,.v I,.v I],[.own I,.v I],[⟨11,[(2,.v dJ),(3,.v I),(4,.v I),(6,.obj aK),(12,.own I),(13,.v I)],[1,1,1,0,1,0,0],[]⟩],none⟩
theorem ahO(K ρ):(RU N).bd K ρ 11=sS.dV N ((RU N).kc ρ 11):=κ
theorem ahP(ρ):(RU N).kc ((RU N).cC ρ) 11=sS.l5 N N:=Fx.uL [] (ahO N) ρ (sS.l5 N) λn ρ' e d=>by rw[e];rfl
theorem azH(K):(RU N).top K=sS.b N ((RU N).kc K 11):=κ
def azI:Kn prog:=⟨271,(RU N).S false (sS N),Fx.u1 (RU N) aD func271 [11] (azH N) (by rw[ahP];rfl)⟩
def nW:Fx:=⟨188,tab,Kn.l [w4 N,ahD N,atG N,k49 N,abB N,azE N,azI N,at7 N,nC N,k23 N,Jf N,Jd N,Rk N],N,f257,[.v aA,.v aK,.v I,.v dJ,.v dJ],[.own sT,.v I],[⟨33,[(2,.v I),(3,.v dJ),(4,.v dJ),(5,.obj aA),(6,.obj aK),(12,.own sT),(14,.v I),(15,.own I),(17,.v I)],[1,1,1,1,1,1,1,0,1,0,0,1,0,0,1,1,0,0],[25]⟩,⟨61,[(2,.v I),(4,.v dJ),(6,.obj aK),(12,.own sT),(22,.v I)],[1,1,1,1,1,1,1,1,1,0,1,0,0],[]⟩,⟨41,[(2,.v I),(4,.v dJ),(5,.obj aA),(6,.obj aK),(12,.own sT),(18,.v I)],[1,1,1,1,1,1,1,1,0,1,0,0],[]⟩,⟨25,[(2,.v I),(3,.v dJ),(4,.v dJ),(5,.obj aA),(6,.obj aK),(12,.own sT),(14,.v I)],[1,1,1,1,1,1,1,0,1,0,0],[]⟩,⟨18,[(2,.v I),(3,.v dJ),(4,.v dJ),(5,.obj aA),(6,.obj aK),(12,.own sT)],[1,1,1,1,1],[]⟩],none⟩
theorem ahQ(K ρ):(nW N).bd K ρ 33=c8.wX N ((nW N).kc ρ 25) ((nW N).kc ρ 33):=κ
theorem ahR(ρ):(nW N).kc ((nW N).cC ρ) 33=c8.yc N ((nW N).kc ρ 25) N:=Fx.uL [41,61] (ahQ N) ρ (c8.yc N ((nW N).kc ρ 25)) λn ρ' e d=>by rw[e,d 25 rfl];rfl
theorem ahS(K ρ):(nW N).bd K ρ 61=c8.MA N ((nW N).kc ρ 61):=κ
theorem ahT(ρ):(nW N).kc ((nW N).cC ρ) 61=c8.Pv N N:=Fx.uL [] (ahS N) ρ (c8.Pv N) λn ρ' e d=>by rw[e];rfl
theorem ahU(K ρ):(nW N).bd K ρ 41=c8.Qf N ((nW N).kc K 61) ((nW N).kc ρ 41):=κ
theorem ahV(ρ):(nW N).kc ((nW N).cC ρ) 41=c8.J4 N N:=Fx.uL [61] (ahU N) ρ (c8.J4 N) λn ρ' e d=>by rw[ahT,e];rfl
theorem ahW(K ρ):(nW N).bd K ρ 25=c8.mN N ((nW N).kc K 33) ((nW N).kc K 41) ((nW N).kc ρ 25):=κ
theorem ahX(ρ):(nW N).kc ((nW N).cC ρ) 25=c8.nJ N N:=Fx.uL [41,61,33] (ahW N) ρ (c8.nJ N) λn ρ' e d=>by rw[ahR,ahV,e];rfl
theorem ahY(K ρ):(nW N).bd K ρ 18=c8.Pe N ((nW N).kc K 25):=κ
theorem ahZ(ρ):(nW N).kc ((nW N).cC ρ) 18=c8.j9 N:=Fx.uJ [25,41,61] (ahY N) ρ (by rw[ahX];rfl)
theorem azJ(K):(nW N).top K=c8.b N ((nW N).kc K 18):=κ
def azK:Kn prog:=⟨257,(nW N).S false (c8 N),Fx.u1 (nW N) aD func257 [18,25,41,61] (azJ N) (by rw[ahZ];rfl)⟩
def aua:Fx:=⟨19,tab,Kn.l [w4 N,k23 N],N,f258,[.v aA,.v aK],[.v I,.v I],[],none⟩
def azL:Kn prog:=⟨258,(aua N).S true (adP N),Fx.u0 (aua N) aD func258⟩
def RV:Fx:=⟨97,tab,Kn.l [k97 N],N,f273,[.v yG],[.v B],[⟨9,[(0,.v yG),(3,.v I)],[1,1,0,1,0,0],[]⟩],none⟩
theorem anU(K ρ):(RV N).bd K ρ 9=sU.dM N ((RV N).kc ρ 9):=κ
theorem anV(ρ):(RV N).kc ((RV N).cC ρ) 9=sU.l4 N N:=Fx.uL [] (anU N) ρ (sU.l4 N) λn ρ' e d=>by rw[e];rfl
theorem azM(K):(RV N).top K=sU.b N ((RV N).kc K 9):=κ
def azN:Kn prog:=⟨273,(RV N).S true (sU N),Fx.u1 (RV N) aD func273 [9] (azM N) (by rw[anV];rfl)⟩
def nX:Fx:=⟨106,tab,Kn.l [azN N,anz N,Jd N,anC N],N,f259,[.v yG,.v I],[.own sT,.v I,.v I],[⟨37,[(7,.own sT),(8,.v I),(9,.v I),(10,.v I),(14,.own I),(16,.v I)],[1,1,1,0,1,0,0,1,0,1,1,1,1,1,1,1,0,1,0,0],[11]⟩,⟨22,[(7,.own sT),(8,.v I),(9,.v I),(10,.v I),(11,.own I)],[1,1,1,0,1,0,0,1,0,1,1,1],[11]⟩,⟨17,[(7,.own sT),(8,.v I),(9,.v I),(10,.v I),(11,.own I)],[1,1,1,0,1,0,0,1,0,1,1,0,0,0],[11]⟩,⟨11,[(7,.own sT),(8,.v I),(9,.v I)],[1,1,1,0,1,0,0],[]⟩],none⟩
theorem ah0(K ρ):(nX N).bd K ρ 37=dZ.Fm N ((nX N).kc ρ 11) ((nX N).kc ρ 37):=κ
theorem ah1(ρ):(nX N).kc ((nX N).cC ρ) 37=dZ.Jr N ((nX N).kc ρ 11) N:=Fx.uL [] (ah0 N) ρ (dZ.Jr N ((nX N).kc ρ 11)) λn ρ' e d=>by rw[e,d 11 rfl];rfl
theorem ah2(K ρ):(nX N).bd K ρ 22=dZ.Du N ((nX N).kc K 37) ((nX N).kc ρ 11):=κ
theorem ah3(ρ):(nX N).kc ((nX N).cC ρ) 22=dZ.Lg N ((nX N).kc ρ 11):=Fx.uJ [37] (ah2 N) ρ (by rw[ah1];rfl)
theorem ah4(K ρ):(nX N).bd K ρ 17=dZ.Ej N ((nX N).kc K 22) ((nX N).kc ρ 11) ((nX N).kc ρ 17):=κ
theorem ah5(ρ):(nX N).kc ((nX N).cC ρ) 17=dZ.l8 N ((nX N).kc ρ 11) N:=Fx.uL [22,37] (ah4 N) ρ (dZ.l8 N ((nX N).kc ρ 11)) λn ρ' e d=>by rw[ah3,e,d 11 rfl];rfl
theorem ah6(K ρ):(nX N).bd K ρ 11=dZ.dV N ((nX N).kc K 17) ((nX N).kc ρ 11):=κ
theorem ah7(ρ):(nX N).kc ((nX N).cC ρ) 11=dZ.l5 N N:=Fx.uL [17,22,37] (ah6 N) ρ (dZ.l5 N) λn ρ' e d=>by rw[ah5,e];rfl
theorem azO(K):(nX N).top K=dZ.b N ((nX N).kc K 11):=κ
def azP:Kn prog:=⟨259,(nX N).S false (dZ N),Fx.u1 (nX N) aD func259 [11] (azO N) (by rw[ah7];rfl)⟩
def aub:Fx:=⟨14,tab,Kn.l [w4 N,k23 N],N,f260,[.v aA,.v aK],[.v I,.v I],[],none⟩
def azQ:Kn prog:=⟨260,(aub N).S true (adQ N),Fx.u0 (aub N) aD func260⟩
def FA:Fx:=⟨156,tab,Kn.l [azK N,azL N,azP N,nC N,abC N,azQ N,abB N,Rp N],N,f232,[.v aA,.v aK,.v I,.v dJ,.v dJ],[.v aK,.v iz,.v I],[⟨52,[(6,.obj aK),(10,.obj aK),(11,.obj iz),(18,.own s6),(19,.gk iz [.gM 2] sT),(21,.v I),(23,.v I),(24,.v I)],[1,1,1,1,1,1,1,1,1,1,1,1,1,1,1],[]⟩,⟨31,[(2,.v I),(5,.obj aA),(6,.obj aK),(10,.obj aK),(11,.obj iz),(13,.own sT),(17,.v I),(18,.own s6),(19,.gk iz [.gM 2] sT),(20,.v I)],[1,1,1,1,1,1,1,1,1,1,0,1,0,0],[]⟩],some (iz,[.gM 2],sT,[19])⟩
theorem ah8(K ρ):(FA N).bd K ρ 52=jb.adS N:=κ
theorem ah9(ρ):(FA N).kc ((FA N).cC ρ) 52=jb.j26 N:=Fx.uJ [] (ah8 N) ρ
theorem aia(K ρ):(FA N).bd K ρ 31=jb.JY N ((FA N).kc K 52) ((FA N).kc ρ 31):=κ
theorem aib(ρ):(FA N).kc ((FA N).cC ρ) 31=jb.KK N N:=Fx.uL [52] (aia N) ρ (jb.KK N) λn ρ' e d=>by rw[ah9,e];rfl
theorem azR(K):(FA N).top K=jb.b N ((FA N).kc K 31):=κ
def azS:Kn prog:=⟨232,(FA N).S false (jb N),Fx.u1 (FA N) aD func232 [31,52] (azR N) (by rw[aib];rfl)⟩
def rC:Fx:=⟨129,tab,Kn.l [at1 N,anz N,Jd N,anC N],N,f275,[.v I,.v LI,.v LI],[.own I,.v I,.v I],[⟨39,[(1,.v LI),(2,.v LI),(11,.own I),(12,.v I),(13,.v I),(17,.own I),(19,.v I)],[1,1,1,1,0,1,0,0,1,0,0,1,1,1,1,1,0,0],[17]⟩,⟨25,[(1,.v LI),(2,.v LI),(11,.own I),(12,.v I),(13,.v I),(14,.own I),(15,.v B),(16,.v I)],[1,1,1,1,0,1,0,0,1,0,0,1,0,1,0,0],[17]⟩,⟨17,[(1,.v LI),(2,.v LI),(11,.own I),(12,.v I),(13,.v I)],[1,1,1,1,0,1,0,0],[]⟩],none⟩
theorem aic(K ρ):(rC N).bd K ρ 39=fu.SP N ((rC N).kc ρ 17) ((rC N).kc ρ 39):=κ
theorem aid(ρ):(rC N).kc ((rC N).cC ρ) 39=fu.WH N ((rC N).kc ρ 17) N:=Fx.uL [] (aic N) ρ (fu.WH N ((rC N).kc ρ 17)) λn ρ' e d=>by rw[e,d 17 rfl];rfl
theorem aie(K ρ):(rC N).bd K ρ 25=fu.mN N ((rC N).kc K 39) ((rC N).kc ρ 17) ((rC N).kc ρ 25):=κ
theorem aif(ρ):(rC N).kc ((rC N).cC ρ) 25=fu.nJ N ((rC N).kc ρ 17) N:=Fx.uL [39] (aie N) ρ (fu.nJ N ((rC N).kc ρ 17)) λn ρ' e d=>by rw[aid,e,d 17 rfl];rfl
theorem aih(K ρ):(rC N).bd K ρ 17=fu.Ej N ((rC N).kc K 25) ((rC N).kc ρ 17):=κ
theorem aii(ρ):(rC N).kc ((rC N).cC ρ) 17=fu.l8 N N:=Fx.uL [25,39] (aih N) ρ (fu.l8 N) λn ρ' e d=>by rw[aif,e];rfl
theorem azT(K):(rC N).top K=fu.b N ((rC N).kc K 17):=κ
def azU:Kn prog:=⟨275,(rC N).S false (fu N),Fx.u1 (rC N) aD func275 [17] (azT N) (by rw[aii];rfl)⟩
def DL:Fx:=⟨127,tab,Kn.l [w4 N,k22 N,azU N],N,f261,[.v aA,.v aK,.v I],[.own kd,.v I],[⟨43,[(2,.v I),(8,.v I),(9,.own I),(13,.own I),(16,.own kd),(17,.v I)],[1,1,1,1,1,1,1,1,1,1,1,0,1,0,0],[]⟩,⟨23,[(2,.v I),(4,.obj aK),(8,.v I),(9,.own I),(10,.own I),(11,.v I)],[1,1,1,1,1,1,1,0,1,0,0],[]⟩],none⟩
theorem aij(K ρ):(DL N).bd K ρ 43=gr.aaB N ((DL N).kc ρ 43):=κ
theorem aik(ρ):(DL N).kc ((DL N).cC ρ) 43=gr.Xk N N:=Fx.uL [] (aij N) ρ (gr.Xk N) λn ρ' e d=>by rw[e];rfl
theorem ail(K ρ):(DL N).bd K ρ 23=gr.yg N ((DL N).kc K 43) ((DL N).kc ρ 23):=κ
theorem aim(ρ):(DL N).kc ((DL N).cC ρ) 23=gr.An N N:=Fx.uL [43] (ail N) ρ (gr.An N) λn ρ' e d=>by rw[aik,e];rfl
theorem azV(K):(DL N).top K=gr.b N ((DL N).kc K 23):=κ
def azW:Kn prog:=⟨261,(DL N).S false (gr N),Fx.u1 (DL N) aD func261 [23,43] (azV N) (by rw[aim];rfl)⟩
def RW:Fx:=⟨41,tab,Kn.l [w4 N,azW N,Rp N],N,f233,[.v aA,.v aK],[.v aK,.v I],[⟨11,[(2,.obj aA),(3,.obj aK),(4,.obj aK),(6,.own kd),(7,.v I)],[1,1,1,0,1,0,0],[]⟩],none⟩
theorem ain(K ρ):(RW N).bd K ρ 11=oN.dV N ((RW N).kc ρ 11):=κ
theorem aio(ρ):(RW N).kc ((RW N).cC ρ) 11=oN.l5 N N:=Fx.uL [] (ain N) ρ (oN.l5 N) λn ρ' e d=>by rw[e];rfl
theorem azX(K):(RW N).top K=oN.b N ((RW N).kc K 11):=κ
def azY:Kn prog:=⟨233,(RW N).S false (oN N),Fx.u1 (RW N) aD func233 [11] (azX N) (by rw[aio];rfl)⟩
def RX:Fx:=⟨325,tab,Kn.l [ayO N,ae6 N,ayT N,ay2 N,ay7 N,azi N,anl N,azk N,azs N,azw N,azD N,azS N,azY N,atJ N],N,f215,[.v aA,.v dP,.v mc],[.v dP,.v kd],[⟨83,[(4,.obj dP),(6,.obj dP),(7,.obj kd),(14,.v mT),(16,.v I),(17,.v I)],[1,1,0,1,0,1,1,1,1,1,1,1,1,1,1,1,1,1,0,1,1,1,1,1,1,0,1,0,0],[]⟩],none⟩
theorem aip(K ρ):(RX N).bd K ρ 83=oP.adX N ((RX N).kc ρ 83):=κ
theorem aiq(ρ):(RX N).kc ((RX N).cC ρ) 83=oP.l41 N N:=Fx.uL [] (aip N) ρ (oP.l41 N) λn ρ' e d=>by rw[e];rfl
theorem azZ(K):(RX N).top K=oP.b N ((RX N).kc K 83):=κ
def az0:Kn prog:=⟨215,(RX N).S false (oP N),Fx.u1 (RX N) aD func215 [83] (azZ N) (by rw[aiq];rfl)⟩
def TY:Fx:=⟨141,tab,Kn.l [atJ N,k54 N,ayH N,ae6 N,att N,anl N,ayI N,az0 N],N,f189,[.v aA,.v dP,.v mc],[.v dP,.v kd],[⟨58,[(3,.obj aA),(4,.obj dP),(5,.obj mc),(6,.obj dP),(7,.obj kd)],[1,1,1],[]⟩],none⟩
theorem air(K ρ):(TY N).bd K ρ 58=qN.Qg N:=κ
theorem ais(ρ):(TY N).kc ((TY N).cC ρ) 58=qN.Xf N:=Fx.uJ [] (air N) ρ
theorem az1(K):(TY N).top K=qN.b N ((TY N).kc K 58):=κ
def az2:Kn prog:=⟨189,(TY N).S false (qN N),Fx.u1 (TY N) aD func189 [58] (az1 N) (by rw[ais];rfl)⟩
def auc:Fx:=⟨295,tab,Kn.l [axN N,ae6 N,axS N,axT N,ax7 N,ayf N,att N,k23 N,nC N,TV N,Kc N,ayh N,ayr N,ayt N,k52 N,ayy N,anl N,az2 N],N,f132,[.v aA,.v dP,.v mc],[.v dP,.v kd],[],none⟩
def az3:Kn prog:=⟨132,(auc N).S false (Xo N),Fx.u0 (auc N) aD func132⟩
def X76:Fx:=⟨36,tab,Kn.l [k41 N,axL N,az3 N],N,f76,[.v aA,.v dP,.v mc],[.v dP,.v kd],[],none⟩
def k76:Kn prog:=⟨76,(X76 N).S false (F76 N),Fx.u0 (X76 N) aD func76⟩
def RY:Fx:=⟨48,tab,Kn.l [k76 N],N,f190,[.io nA,.lo mc],[.v dP,.io nA,.lo mc],[⟨3,[(0,.io nA),(1,.own mc),(4,.obj dP)],[1,0,0,0],[]⟩],none⟩
theorem anW(K ρ):(RY N).bd K ρ 3=rn.l1b N ((RY N).kc ρ 3):=κ
theorem anX(ρ):(RY N).kc ((RY N).cC ρ) 3=rn.l1 N N:=Fx.uL [] (anW N) ρ (rn.l1 N) λn ρ' e d=>by rw[e];rfl
theorem az4(K):(RY N).top K=rn.b N ((RY N).kc K 3):=κ
def az5:Kn prog:=⟨190,(RY N).S false (rn N),Fx.u1 (RY N) aD func190 [3] (az4 N) (by rw[anX];rfl)⟩
def qu:Fx:=⟨119,tab,Kn.l [k25 N,az5 N,k24 N,k74 N,asJ N],N,f137,[.io eB,.io nA,.own mc],[.own mc,.io eB,.io nA],[⟨35,[(0,.io eB),(1,.io nA),(2,.own mc),(10,.obj dP),(11,.v I),(12,.obj jT),(13,.v I)],[1,1,1,1,0,1,0,0,1,0,0,1,1,0,0],[27]⟩,⟨27,[(0,.io eB),(1,.io nA),(2,.own mc),(10,.obj dP),(11,.v I)],[1,1,1,1,0,1,0,0],[]⟩,⟨20,[(0,.io eB),(1,.io nA),(2,.own mc)],[1,1],[]⟩,⟨11,[(0,.io eB),(1,.io nA),(2,.own mc),(7,.obj dP),(8,.v I)],[1,0,1,0,1,1,1,0,0],[]⟩],none⟩
theorem ait(K ρ):(qu N).bd K ρ 35=eP.Fe N ((qu N).kc ρ 27) ((qu N).kc ρ 35):=κ
theorem aiu(ρ):(qu N).kc ((qu N).cC ρ) 35=eP.FR N ((qu N).kc ρ 27) N:=Fx.uL [] (ait N) ρ (eP.FR N ((qu N).kc ρ 27)) λn ρ' e d=>by rw[e,d 27 rfl];rfl
theorem aiv(K ρ):(qu N).bd K ρ 27=eP.lq N ((qu N).kc K 35) ((qu N).kc ρ 27):=κ
theorem aiw(ρ):(qu N).kc ((qu N).cC ρ) 27=eP.mw N N:=Fx.uL [35] (aiv N) ρ (eP.mw N) λn ρ' e d=>by rw[aiu,e];rfl
theorem aix(K ρ):(qu N).bd K ρ 20=eP.Df N ((qu N).kc K 27):=κ
theorem Vq(ρ):(qu N).kc ((qu N).cC ρ) 20=eP.JW N:=Fx.uJ [27] (aix N) ρ (by rw[aiw];rfl)
theorem aiy(K ρ):(qu N).bd K ρ 11=eP.dV N ((qu N).kc K 20) ((qu N).kc ρ 11):=κ
theorem aiz(ρ):(qu N).kc ((qu N).cC ρ) 11=eP.l5 N N:=Fx.uL [20,27] (aiy N) ρ (eP.l5 N) λn ρ' e d=>by rw[Vq,e];rfl
theorem az6(K):(qu N).top K=eP.b N ((qu N).kc K 11) ((qu N).kc K 20):=κ
def az7:Kn prog:=⟨137,(qu N).S false (eP N),Fx.u1 (qu N) aD func137 [11,20,27] (az6 N) (by rw[aiz,Vq];rfl)⟩
def XQ:Fx:=⟨99,tab,Kn.l [k75 N,k78 N,k24 N,asJ N,k25 N,az7 N],N,f79,[.io eB,.v aA,.v I],[.own mc,.io eB],[⟨35,[(0,.io eB),(4,.obj aA),(9,.obj nA),(10,.own mc),(13,.v I)],[1,1,1,1,1,1,1,1,1,1,1,1,0,1,0,0],[]⟩,⟨19,[(0,.io eB),(4,.obj aA),(9,.obj nA),(10,.own mc),(12,.v I)],[1,1,1,1,1,1,1,1,0,1,0,0],[]⟩],none⟩
theorem anY(K ρ):(XQ N).bd K ρ 35=vY.Fe N ((XQ N).kc ρ 35):=κ
theorem anZ(ρ):(XQ N).kc ((XQ N).cC ρ) 35=vY.FR N N:=Fx.uL [] (anY N) ρ (vY.FR N) λn ρ' e d=>by rw[e];rfl
theorem an0(K ρ):(XQ N).bd K ρ 19=vY.uX N ((XQ N).kc K 35) ((XQ N).kc ρ 19):=κ
theorem an1(ρ):(XQ N).kc ((XQ N).cC ρ) 19=vY.l9 N N:=Fx.uL [35] (an0 N) ρ (vY.l9 N) λn ρ' e d=>by rw[anZ,e];rfl
theorem h79(K):(XQ N).top K=vY.b N ((XQ N).kc K 19):=κ
def k79:Kn prog:=⟨79,(XQ N).S false (vY N),Fx.u1 (XQ N) aD func79 [19,35] (h79 N) (by rw[an1];rfl)⟩
def X28:Fx:=⟨38,tab,Kn.l [k24 N,k77 N,k78 N,k79 N],N,f28,[.io eB,.v aA,.v I],[.own mc,.io eB],[⟨11,[(0,.io eB),(4,.obj aA),(7,.own mc),(8,.v I)],[1,0,1,0,1,0,1,0,1,0,0],[]⟩],none⟩
theorem an2(K ρ):(X28 N).bd K ρ 11=HL.dV N ((X28 N).kc ρ 11):=κ
theorem an3(ρ):(X28 N).kc ((X28 N).cC ρ) 11=HL.l5 N N:=Fx.uL [] (an2 N) ρ (HL.l5 N) λn ρ' e d=>by rw[e];rfl
theorem h28(K):(X28 N).top K=HL.b N ((X28 N).kc K 11):=κ
def k28:Kn prog:=⟨28,(X28 N).S false (HL N),Fx.u1 (X28 N) aD func28 [11] (h28 N) (by rw[an3];rfl)⟩
def X27:Fx:=⟨43,tab,Kn.l [k75 N,k76 N],N,f27,[.v aA,.v alQ],[.v dP,.own kd],[⟨13,[(1,.v alQ),(2,.obj aA),(4,.obj dP),(6,.obj dP),(8,.own kd),(9,.v I)],[1,1,1,1,0,1,0,0],[]⟩],none⟩
theorem an4(K ρ):(X27 N).bd K ρ 13=IX.uU N ((X27 N).kc ρ 13):=κ
theorem an5(ρ):(X27 N).kc ((X27 N).cC ρ) 13=IX.l6 N N:=Fx.uL [] (an4 N) ρ (IX.l6 N) λn ρ' e d=>by rw[e];rfl
theorem h27(K):(X27 N).top K=IX.b N ((X27 N).kc K 13):=κ
def k27:Kn prog:=⟨27,(X27 N).S false (IX N),Fx.u1 (X27 N) aD func27 [13] (h27 N) (by rw[an5];rfl)⟩
def X8:Fx:=⟨19,tab,Kn.l [k28 N,k27 N],N,f8,[.io eB,.v aA,.v I],[.v dP,.io eB],[],none⟩
def k8:Kn prog:=⟨8,(X8 N).S false (F8 N),Fx.u0 (X8 N) aD func8⟩
def X53:Fx:=⟨29,tab,Kn.l [w4 N,Rk N,ang N],N,f53,[.v aA,.v aK,.v I],[.v dm,.v I],[],none⟩
def k53:Kn prog:=⟨53,(X53 N).S false (F53 N),Fx.u0 (X53 N) aD func53⟩
def X62:Fx:=⟨26,tab,[],N,f62,[.v dJ,.v dJ],[.v B],[⟨9,[(0,.v dJ),(1,.v dJ),(5,.v I)],[1,1,0,1,0,0],[]⟩],none⟩
theorem aud(K ρ):(X62 N).bd K ρ 9=Fh.dM N ((X62 N).kc ρ 9):=κ
theorem aue(ρ):(X62 N).kc ((X62 N).cC ρ) 9=Fh.l4 N N:=Fx.uL [] (aud N) ρ (Fh.l4 N) λn ρ' e d=>by rw[e];rfl
theorem h62(K):(X62 N).top K=Fh.b N ((X62 N).kc K 9):=κ
def k62:Kn prog:=⟨62,(X62 N).S true (Fh N),Fx.u1 (X62 N) aD func62 [9] (h62 N) (by rw[aue];rfl)⟩
def X63:Fx:=⟨26,tab,[],N,f63,[.v fy,.v fy],[.v B],[⟨9,[(0,.v fy),(1,.v fy),(5,.v I)],[1,1,0,1,0,0],[]⟩],none⟩
theorem auf(K ρ):(X63 N).bd K ρ 9=Fi.dM N ((X63 N).kc ρ 9):=κ
theorem aug(ρ):(X63 N).kc ((X63 N).cC ρ) 9=Fi.l4 N N:=Fx.uL [] (auf N) ρ (Fi.l4 N) λn ρ' e d=>by rw[e];rfl
theorem h63(K):(X63 N).top K=Fi.b N ((X63 N).kc K 9):=κ
def k63:Kn prog:=⟨63,(X63 N).S true (Fi N),Fx.u1 (X63 N) aD func63 [9] (h63 N) (by rw[aug];rfl)⟩
def X64:Fx:=⟨26,tab,[],N,f64,[.v cV,.v cV],[.v B],[⟨9,[(0,.v cV),(1,.v cV),(5,.v I)],[1,1,0,1,0,0],[]⟩],none⟩
theorem auh(K ρ):(X64 N).bd K ρ 9=Fj.dM N ((X64 N).kc ρ 9):=κ
theorem aui(ρ):(X64 N).kc ((X64 N).cC ρ) 9=Fj.l4 N N:=Fx.uL [] (auh N) ρ (Fj.l4 N) λn ρ' e d=>by rw[e];rfl
theorem kP(K):(X64 N).top K=Fj.b N ((X64 N).kc K 9):=κ
def k64:Kn prog:=⟨64,(X64 N).S true (Fj N),Fx.u1 (X64 N) aD func64 [9] (kP N) (by rw[aui];rfl)⟩
def X65:Fx:=⟨26,tab,[],N,f65,[.v lE,.v lE],[.v B],[⟨9,[(0,.v lE),(1,.v lE),(5,.v I)],[1,1,0,1,0,0],[]⟩],none⟩
theorem auj(K ρ):(X65 N).bd K ρ 9=Fk.dM N ((X65 N).kc ρ 9):=κ
theorem auk(ρ):(X65 N).kc ((X65 N).cC ρ) 9=Fk.l4 N N:=Fx.uL [] (auj N) ρ (Fk.l4 N) λn ρ' e d=>by rw[e];rfl
theorem h65(K):(X65 N).top K=Fk.b N ((X65 N).kc K 9):=κ
def k65:Kn prog:=⟨65,(X65 N).S true (Fk N),Fx.u1 (X65 N) aD func65 [9] (h65 N) (by rw[auk];rfl)⟩
def X14:Fx:=⟨45,tab,Kn.l [k62 N,k63 N,k20 N,k64 N,k21 N,k65 N],N,f14,[.v aK,.v aK],[.v B],[],none⟩
def k14:Kn prog:=⟨14,(X14 N).S true (F14 N),Fx.u0 (X14 N) aD func14⟩
def aul:Fx:=⟨16,tab,Kn.l [nC N,XN N,Jf N,as4 N,zw N],N,f111,[.v eI],[.v dm],[],none⟩
def az8:Kn prog:=⟨111,(aul N).S false (adv N),Fx.u0 (aul N) aD func111⟩
def X56:Fx:=⟨10,tab,Kn.l [az8 N,Kc N],N,f56,[.v eI,.v dm],[.v B],[],none⟩
def k56:Kn prog:=⟨56,(X56 N).S true (F56 N),Fx.u0 (X56 N) aD func56⟩
def X55:Fx:=⟨55,tab,Kn.l [k56 N],N,f55,[.v iB,.v nB],[.v B],[⟨9,[(0,.v iB),(1,.v nB),(5,.v I)],[1,1,0,1,0,0],[]⟩],none⟩
theorem aum(K ρ):(X55 N).bd K ρ 9=Fo.dM N ((X55 N).kc ρ 9):=κ
theorem aun(ρ):(X55 N).kc ((X55 N).cC ρ) 9=Fo.l4 N N:=Fx.uL [] (aum N) ρ (Fo.l4 N) λn ρ' e d=>by rw[e];rfl
theorem h55(K):(X55 N).top K=Fo.b N ((X55 N).kc K 9):=κ
def k55:Kn prog:=⟨55,(X55 N).S true (Fo N),Fx.u1 (X55 N) aD func55 [9] (h55 N) (by rw[aun];rfl)⟩
def X11:Fx:=⟨145,tab,Kn.l [k13 N,k51 N,k17 N,k52 N,k18 N,k53 N,k19 N,k54 N,k14 N,k55 N,k56 N,k9 N,w4 N],N,f11,[.v aA,.v aK,.v yG,.v I,.v I,.v I,.v I],[.v B],[],none⟩
theorem aCo:tF prog (X11 N).E:=Fx.OZ (X11 N) aD (Kn.all _) κ
theorem aCp: ∀x,Of (X11 N).E (X11 N).fn (X11 N).args (X11 N).res x=JP (X11 N).args (F11 N) x:=Fx.acI κ
def Xn:Kn prog:=⟨11,(X11 N).S true (F11 N),Fx.u0 (X11 N) aD func11⟩
def X3:Fx:=⟨185,tab,Kn.l [k5 N,k6 N,k7 N,k8 N,k9 N,w4 N,Xn N],N,f3,[.v LU,.v (.int .u8),.v I],[.v B],[⟨76,[(2,.v I),(8,.obj aA),(9,.obj aK),(10,.v I)],[1,1,1,1,1,1,1,1],[]⟩],some (aK,[.gM 4],I,[9,2000001,2000002,2000003])⟩
theorem az9:tF prog (X3 N).E:=Fx.OZ (X3 N) aD (Kn.all _) κ
theorem auo(K ρ):(X3 N).bd K ρ 76=F3.alc N:=κ
theorem aj3(ρ):(X3 N).kc ((X3 N).cC ρ) 76=F3.j38 N:=Fx.uJ [] (auo N) ρ
theorem h3(K):(X3 N).top K=F3.b N ((X3 N).kc K 76):=κ
theorem aAa: ∀x,Of (X3 N).E (X3 N).fn (X3 N).args (X3 N).res x=JP (X3 N).args (F3 N) x:=Fx.apS κ [76] (λK=>κ) (h3 N) (by rw[aj3];rfl)
def k3:Kn prog:=⟨3,(X3 N).S true (F3 N),Fx.u1 (X3 N) aD func3 [76] (h3 N) (by rw[aj3];rfl)⟩
end
end VM.F
