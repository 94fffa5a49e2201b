/- A part of the proof of BookTwo of layer 18: each function of the program does what its equation says; printed by a program. -/
import Derived.Test.YtecmobijochjkaaGreatText
import Derived.Test.YtecmobijochjkaaGreatVm8
import Derived.Test.YtecmobijochjkaaGreatProg
import Derived.KernelRfl
set_option linter.all false
noncomputable section
namespace VM.F
open Go VM Go.Proofs
open Tryz
set_option maxRecDepth 100000
abbrev I:Ty:= .int .i64
abbrev U:Ty:= .int .u64
abbrev B:Ty:= .bool
abbrev Z:Ty:= .str
abbrev QD:Ty:= .slice mj
abbrev dH:Ty:= .slice kM
abbrev TC:Ty:= .slice eO
abbrev arc:Ty:= .slice dk
abbrev awT:Ty:= .slice dI
abbrev cR:Ty:= .slice jZ
abbrev abV:Ty:= .slice wB
abbrev fk:Ty:= .slice e7
abbrev jk:Ty:= .slice s6
abbrev zu:Ty:= .slice qo
abbrev py:Ty:= .slice s7
abbrev lD:Ty:= .slice nn
abbrev alG:Ty:= .slice lZ
abbrev mO:Ty:= .slice jU
abbrev ard:Ty:= .slice im
abbrev are:Ty:= .slice aA
abbrev awU:Ty:= .slice aJ
abbrev aoP:Ty:= .slice sX
abbrev au7:Ty:= .slice dQ
abbrev au8:Ty:= .slice nq
abbrev LI:Ty:= .slice I
abbrev LU:Ty:= .slice U
def tab:List (Nat×Ty):=[(2,I),(3,I),(4,B),(5,(.int .u8)),(9,Z),(22,LU),(26,fk),(28,aA),(30,dH),(31,fk),(32,cR),(33,cR),(34,LI),(35,lD),(37,aJ),(38,fk),(39,mO),(40,fk),(41,LI),(42,dH),(43,dH),(45,sX),(46,zu),(48,im),(50,dQ),(55,I),(63,dk),(67,e7),(76,e7),(78,zu),(85,jZ),(87,jZ),(89,nn),(91,(.int .u32)),(92,jk),(109,qo),(115,dI),(117,cR),(120,alG),(122,U),(124,cR),(126,eO),(132,s6),(149,dH),(162,jZ),(165,py),(185,cR),(196,kM),(200,jZ),(204,lZ),(214,kM),(220,TC),(230,(.arr 2 I)),(238,s7),(254,jZ),(266,nq),(277,(.arr 13 B)),(310,e7),(312,jU),(322,kM),(330,e7),(353,arc),(371,kM),(379,qo)]
theorem aC:G6 prog tab:=⟨κ,κ⟩
section
variable(N:Nat)
abbrev abr:m2:=tD.S N
abbrev abt:m2:=uO.S N
theorem abu:ju prog 191 (abt N):=V5 N func191 κ κ κ κ
def TD:Kn prog:=⟨191,abt N,abu N⟩
theorem abv:ju prog 217 (abr N):=V6 N func217 κ κ κ κ
def TE:Kn prog:=⟨217,abr N,abv N⟩
abbrev QE:m2:=xA (.pair (.int .i64) (.pair (.int .i64) (.pair (.int .i64) (.pair (.int .i64) (.pair (.int .i64) (.pair (.int .i64) .unit)))))) N
def M4.TF:Go.Shelf.Ren:={f:=λi=>0,t:=λi=>cond (Nat.beq i 3) 89 (cond (Nat.beq i 4) 4 35),g:=λ_=>0}
theorem M4.As:LV prog (.pair (.int .i64) (.pair (.int .i64) (.pair (.int .i64) (.pair (.int .i64) (.pair (.int .i64) (.pair (.int .i64) .unit)))))) M4.TF 186 f186:=⟨Tryz.func186.trans κ,underlying4,underlying35,iF (x:= .inl 89) κ,δ,κ⟩
theorem TG:ju prog 186 (QE N):=rH M4.As κ κ N
def IQ:Kn prog:=⟨186,QE N,TG N⟩
abbrev QF:m2:=xA (.pair (.int .i64) (.pair (.int .i64) .unit)) N
def M5.TF:Go.Shelf.Ren:={f:=λi=>0,t:=λi=>cond (Nat.beq i 3) 196 (cond (Nat.beq i 4) 4 30),g:=λ_=>0}
theorem M5.As:LV prog (.pair (.int .i64) (.pair (.int .i64) .unit)) M5.TF 192 f192:=⟨Tryz.func192.trans κ,underlying4,underlying30,iF (x:= .inl 196) κ,δ,κ⟩
theorem TH:ju prog 192 (QF N):=rH M5.As κ κ N
def QG:Kn prog:=⟨192,QF N,TH N⟩
abbrev QH:m2:=xA (.pair (.int .i64) (.pair (.int .i64) (.pair (.int .i64) (.pair (.int .i64) .unit)))) N
def M6.TF:Go.Shelf.Ren:={f:=λi=>0,t:=λi=>cond (Nat.beq i 3) 67 (cond (Nat.beq i 4) 4 31),g:=λ_=>0}
theorem M6.As:LV prog (.pair (.int .i64) (.pair (.int .i64) (.pair (.int .i64) (.pair (.int .i64) .unit)))) M6.TF 193 f193:=⟨Tryz.func193.trans κ,underlying4,underlying31,iF (x:= .inl 67) κ,δ,κ⟩
theorem TI:ju prog 193 (QH N):=rH M6.As κ κ N
def QI:Kn prog:=⟨193,QH N,TI N⟩
abbrev QJ:m2:=xA (.pair (.int .i64) (.pair (.int .i64) (.pair (.int .i64) .unit))) N
def M7.TF:Go.Shelf.Ren:={f:=λi=>0,t:=λi=>cond (Nat.beq i 3) 85 (cond (Nat.beq i 4) 4 32),g:=λ_=>0}
theorem M7.As:LV prog (.pair (.int .i64) (.pair (.int .i64) (.pair (.int .i64) .unit))) M7.TF 194 f194:=⟨Tryz.func194.trans κ,underlying4,underlying32,iF (x:= .inl 85) κ,δ,κ⟩
theorem TJ:ju prog 194 (QJ N):=rH M7.As κ κ N
def IS:Kn prog:=⟨194,QJ N,TJ N⟩
abbrev QK:m2:=xA (.pair (.int .i64) (.pair (.int .i64) (.pair (.int .i64) .unit))) N
def M8.TF:Go.Shelf.Ren:={f:=λi=>0,t:=λi=>cond (Nat.beq i 3) 87 (cond (Nat.beq i 4) 4 33),g:=λ_=>0}
theorem M8.As:LV prog (.pair (.int .i64) (.pair (.int .i64) (.pair (.int .i64) .unit))) M8.TF 195 f195:=⟨Tryz.func195.trans κ,underlying4,underlying33,iF (x:= .inl 87) κ,δ,κ⟩
theorem TK:ju prog 195 (QK N):=rH M8.As κ κ N
def IT:Kn prog:=⟨195,QK N,TK N⟩
abbrev QL:m2:=xA (.int .i64) N
def M9.TF:Go.Shelf.Ren:={f:=λi=>0,t:=λi=>cond (Nat.beq i 3) 2 (cond (Nat.beq i 4) 4 34),g:=λ_=>0}
theorem M9.As:LV prog (.int .i64) M9.TF 196 f196:=⟨Tryz.func196.trans κ,underlying4,underlying34,iF (x:= .inl 2) κ,δ,κ⟩
theorem TL:ju prog 196 (QL N):=rH M9.As κ κ N
def QM:Kn prog:=⟨196,QL N,TL N⟩
abbrev QN:m2:=mX (.pair (.int .i64) (.pair (.int .i64) (.pair (.int .i64) .unit))) N
def Na.TF:Go.Shelf.Ren:={f:=λi=>cond (Nat.beq i 29) 260 (cond (Nat.beq i 30) 261 0),t:=λi=>cond (Nat.beq i 24) 33 (cond (Nat.beq i 9) 87 (cond (Nat.beq i 3) 3 (cond (Nat.beq i 4) 4 0))),g:=λ_=>0}
theorem Na.As:V7 prog (.pair (.int .i64) (.pair (.int .i64) (.pair (.int .i64) .unit))) Na.TF 221 f221 f260:=⟨Tryz.func221.trans κ,underlying3,underlying4,underlying33,iF (x:= .inl 87) κ,δ,κ⟩
theorem TM:ju prog 221 (QN N):=Ha Na.As ⟨func260,κ,κ,κ,κ⟩ κ κ N
def abw:Kn prog:=⟨221,QN N,TM N⟩
abbrev QO:m2:=mX (.pair (.int .i64) (.pair (.int .i64) (.pair (.int .i64) .unit))) N
def Nb.TF:Go.Shelf.Ren:={f:=λi=>cond (Nat.beq i 29) 262 (cond (Nat.beq i 30) 263 0),t:=λi=>cond (Nat.beq i 24) 32 (cond (Nat.beq i 9) 85 (cond (Nat.beq i 3) 3 (cond (Nat.beq i 4) 4 0))),g:=λ_=>0}
theorem Nb.As:V7 prog (.pair (.int .i64) (.pair (.int .i64) (.pair (.int .i64) .unit))) Nb.TF 223 f223 f262:=⟨Tryz.func223.trans κ,underlying3,underlying4,underlying32,iF (x:= .inl 85) κ,δ,κ⟩
theorem TN:ju prog 223 (QO N):=Ha Nb.As ⟨func262,κ,κ,κ,κ⟩ κ κ N
def abx:Kn prog:=⟨223,QO N,TN N⟩
def X97:Fx:=⟨21,tab,[],N,f97,[],[.v aA,.v aJ],[],none⟩
theorem aBD:tI prog (X97 N).E:=Fx.OG (X97 N) aC trivial κ
theorem aBE: ∀x,NU (X97 N).E (X97 N).fn (X97 N).args (X97 N).res x=Jr (X97 N).args (F97 N) x:=Fx.acG κ
def k97:Kn prog:=⟨97,(X97 N).S false (F97 N),Fx.u0 (X97 N) aC func97⟩
def arf:Fx:=⟨15,tab,[],N,f161,[.v I,.v I,.v I],[.v B],[],none⟩
def awV:Kn prog:=⟨161,(arf N).S true (EY N),Fx.u0 (arf N) aC func161⟩
def X71:Fx:=⟨68,tab,Kn.l [awV N],N,f71,[.v aA],[.v B],[⟨9,[(1,.obj aA),(11,.v fk),(12,.v I),(13,.v I)],[1,1,0,1,0,0],[]⟩],none⟩
theorem arh(K ρ):(X71 N).bd K ρ 9=Ct.dU N ((X71 N).kc ρ 9):=κ
theorem ari(ρ):(X71 N).kc ((X71 N).ct ρ) 9=Ct.l4 N N:=Fx.uL [] (arh N) ρ (Ct.l4 N) λn ρ' e d=>by rw[e];rfl
theorem h71(K):(X71 N).top K=Ct.b N ((X71 N).kc K 9):=κ
def k71:Kn prog:=⟨71,(X71 N).S true (Ct N),Fx.u1 (X71 N) aC func71 [9] (h71 N) (by rw[ari];rfl)⟩
def XZ:Fx:=⟨39,tab,Kn.l [k71 N],N,f98,[.v aA],[.v aJ,.v I],[⟨15,[(2,.obj aJ),(4,.gk aJ [.iD 4] I),(24,.v fk),(25,.v I),(26,.v I)],[1,1,1,1,0,1,0,0],[]⟩,⟨12,[(1,.obj aA),(2,.obj aJ),(4,.gk aJ [.iD 4] I)],[1,1,1,1],[]⟩],some (aJ,[.iD 4],I,[4])⟩
theorem alH(K ρ):(XZ N).bd K ρ 15=w1.oP N ((XZ N).kc ρ 15):=κ
theorem alI(ρ):(XZ N).kc ((XZ N).ct ρ) 15=w1.l7 N N:=Fx.uL [] (alH N) ρ (w1.l7 N) λn ρ' e d=>by rw[e];rfl
theorem alJ(K ρ):(XZ N).bd K ρ 12=w1.ON N ((XZ N).kc K 15):=κ
theorem alK(ρ):(XZ N).kc ((XZ N).ct ρ) 12=w1.j6 N:=Fx.uJ [15] (alJ N) ρ (by rw[alI];rfl)
theorem h98(K):(XZ N).top K=w1.b N ((XZ N).kc K 12):=κ
def k98:Kn prog:=⟨98,(XZ N).S false (w1 N),Fx.u1 (XZ N) aC func98 [12,15] (h98 N) (by rw[alK];rfl)⟩
def QP:Fx:=⟨46,tab,[],N,f155,[.v dH],[.v B],[⟨5,[(0,.v dH),(5,.v dH),(6,.v I),(7,.v I)],[1,0,1,0,0],[]⟩],none⟩
theorem alL(K ρ):(QP N).bd K ρ 5=p4.fG N ((QP N).kc ρ 5):=κ
theorem alM(ρ):(QP N).kc ((QP N).ct ρ) 5=p4.l2 N N:=Fx.uL [] (alL N) ρ (p4.l2 N) λn ρ' e d=>by rw[e];rfl
theorem awW(K):(QP N).top K=p4.b N ((QP N).kc K 5):=κ
def arj:Kn prog:=⟨155,(QP N).S true (p4 N),Fx.u1 (QP N) aC func155 [5] (awW N) (by rw[alM];rfl)⟩
def QQ:Fx:=⟨77,tab,[],N,f162,[.v fk],[.v B],[⟨7,[(0,.v fk),(3,.obj (.arr 13 B)),(6,.v fk),(7,.v I),(8,.v I)],[1,1,0,1,0,0],[]⟩],none⟩
theorem alN(K ρ):(QQ N).bd K ρ 7=ng.nw N ((QQ N).kc ρ 7):=κ
theorem alO(ρ):(QQ N).kc ((QQ N).ct ρ) 7=ng.l3 N N:=Fx.uL [] (alN N) ρ (ng.l3 N) λn ρ' e d=>by rw[e];rfl
theorem awX(K):(QQ N).top K=ng.b N ((QQ N).kc K 7):=κ
def alP:Kn prog:=⟨162,(QQ N).S true (ng N),Fx.u1 (QQ N) aC func162 [7] (awX N) (by rw[alO];rfl)⟩
def X63:Fx:=⟨23,tab,Kn.l [arj N],N,f63,[.v dH,.v I],[.v I],[⟨9,[(1,.v I),(10,.v dH),(11,.v I),(12,.v I)],[1,1,0,1,0,0],[]⟩],none⟩
theorem ark(K ρ):(X63 N).bd K ρ 9=BL.dU N ((X63 N).kc ρ 9):=κ
theorem arl(ρ):(X63 N).kc ((X63 N).ct ρ) 9=BL.l4 N N:=Fx.uL [] (ark N) ρ (BL.l4 N) λn ρ' e d=>by rw[e];rfl
theorem h63(K):(X63 N).top K=BL.b N ((X63 N).kc K 9):=κ
def k63:Kn prog:=⟨63,(X63 N).S true (BL N),Fx.u1 (X63 N) aC func63 [9] (h63 N) (by rw[arl];rfl)⟩
def X72:Fx:=⟨27,tab,Kn.l [arj N,alP N,k63 N],N,f72,[.v dH,.v fk],[.v B],[⟨9,[(0,.v dH),(15,.v fk),(16,.v I),(17,.v I)],[1,1,0,1,0,0],[]⟩],none⟩
theorem arn(K ρ):(X72 N).bd K ρ 9=E0.dU N ((X72 N).kc ρ 9):=κ
theorem aro(ρ):(X72 N).kc ((X72 N).ct ρ) 9=E0.l4 N N:=Fx.uL [] (arn N) ρ (E0.l4 N) λn ρ' e d=>by rw[e];rfl
theorem h72(K):(X72 N).top K=E0.b N ((X72 N).kc K 9):=κ
def k72:Kn prog:=⟨72,(X72 N).S true (E0 N),Fx.u1 (X72 N) aC func72 [9] (h72 N) (by rw[aro];rfl)⟩
def arp:Fx:=⟨30,tab,[],N,f163,[.v I,.v I],[.v B],[],none⟩
def arq:Kn prog:=⟨163,(arp N).S true (Sw N),Fx.u0 (arp N) aC func163⟩
def ars:Fx:=⟨19,tab,[],N,f164,[.v I,.v I,.v jZ],[.v I],[],none⟩
def art:Kn prog:=⟨164,(ars N).S true (Sy N),Fx.u0 (ars N) aC func164⟩
def X73:Fx:=⟨41,tab,Kn.l [arq N,art N],N,f73,[.v cR],[.v B],[⟨5,[(0,.v cR),(5,.v cR),(6,.v I),(7,.v I)],[1,0,1,0,0],[]⟩],none⟩
theorem aru(K ρ):(X73 N).bd K ρ 5=CQ.fG N ((X73 N).kc ρ 5):=κ
theorem arv(ρ):(X73 N).kc ((X73 N).ct ρ) 5=CQ.l2 N N:=Fx.uL [] (aru N) ρ (CQ.l2 N) λn ρ' e d=>by rw[e];rfl
theorem h73(K):(X73 N).top K=CQ.b N ((X73 N).kc K 5):=κ
def k73:Kn prog:=⟨73,(X73 N).S true (CQ N),Fx.u1 (X73 N) aC func73 [5] (h73 N) (by rw[arv];rfl)⟩
def X65:Fx:=⟨8,tab,[],N,f65,[.v I],[.v eO],[],none⟩
def k65:Kn prog:=⟨65,(X65 N).S true (OU N),Fx.u0 (X65 N) aC func65⟩
def QR:Fx:=⟨51,tab,Kn.l [TD N],N,f165,[.v TC],[.v eO,.v B],[⟨7,[(2,.obj eO),(4,.v I),(5,.v U),(6,.v U),(10,.v TC),(11,.v I),(12,.v I)],[1,1,0,1,0,0],[]⟩],none⟩
theorem alQ(K ρ):(QR N).bd K ρ 7=nI.nw N ((QR N).kc ρ 7):=κ
theorem alR(ρ):(QR N).kc ((QR N).ct ρ) 7=nI.l3 N N:=Fx.uL [] (alQ N) ρ (nI.l3 N) λn ρ' e d=>by rw[e];rfl
theorem aw0(K):(QR N).top K=nI.b N ((QR N).kc K 7):=κ
def XH:Kn prog:=⟨165,(QR N).S true (nI N),Fx.u1 (QR N) aC func165 [7] (aw0 N) (by rw[alR];rfl)⟩
def X75:Fx:=⟨31,tab,Kn.l [k73 N,k65 N,XH N],N,f75,[.v cR],[.v eO],[⟨11,[(2,.obj eO),(3,.own eO),(12,.v cR),(13,.v I),(14,.v I)],[1,1,1,0,1,0,0],[]⟩],none⟩
theorem alS(K ρ):(X75 N).bd K ρ 11=Ed.eA N ((X75 N).kc ρ 11):=κ
theorem alT(ρ):(X75 N).kc ((X75 N).ct ρ) 11=Ed.l5 N N:=Fx.uL [] (alS N) ρ (Ed.l5 N) λn ρ' e d=>by rw[e];rfl
theorem h75(K):(X75 N).top K=Ed.b N ((X75 N).kc K 11):=κ
def k75:Kn prog:=⟨75,(X75 N).S true (Ed N),Fx.u1 (X75 N) aC func75 [11] (h75 N) (by rw[alT];rfl)⟩
def arw:Fx:=⟨27,tab,[],N,f132,[.v eO,.v eO],[.v I],[],none⟩
def arx:Kn prog:=⟨132,(arw N).S true (Wm N),Fx.u0 (arw N) aC func132⟩
def X74:Fx:=⟨6,tab,Kn.l [arx N],N,f74,[.v eO],[.v I],[],none⟩
def k74:Kn prog:=⟨74,(X74 N).S true (F74 N),Fx.u0 (X74 N) aC func74⟩
def ary:Fx:=⟨19,tab,[],N,f158,[.v I,.v I],[.v B],[],none⟩
def arz:Kn prog:=⟨158,(ary N).S true (Zh N),Fx.u0 (ary N) aC func158⟩
def arA:Fx:=⟨5,tab,[],N,f218,[.v I],[.v B],[],none⟩
def alU:Kn prog:=⟨218,(arA N).S true (SA N),Fx.u0 (arA N) aC func218⟩
def arB:Fx:=⟨19,tab,[],N,f219,[.v I,.v I,.v jZ],[.v I],[],none⟩
def arC:Kn prog:=⟨219,(arB N).S true (Wj N),Fx.u0 (arB N) aC func219⟩
def QS:Fx:=⟨47,tab,Kn.l [arz N,alU N,arC N],N,f157,[.v cR],[.v B],[⟨5,[(0,.v cR),(5,.v cR),(6,.v I),(7,.v I)],[1,0,1,0,0],[]⟩],none⟩
theorem alV(K ρ):(QS N).bd K ρ 5=og.fG N ((QS N).kc ρ 5):=κ
theorem alW(ρ):(QS N).kc ((QS N).ct ρ) 5=og.l2 N N:=Fx.uL [] (alV N) ρ (og.l2 N) λn ρ' e d=>by rw[e];rfl
theorem aw1(K):(QS N).top K=og.b N ((QS N).kc K 5):=κ
def aby:Kn prog:=⟨157,(QS N).S true (og N),Fx.u1 (QS N) aC func157 [5] (aw1 N) (by rw[alW];rfl)⟩
def QT:Fx:=⟨37,tab,Kn.l [aby N,k65 N,XH N],N,f166,[.v cR,.v I],[.v eO],[⟨11,[(1,.v I),(4,.obj eO),(5,.own eO),(14,.v cR),(15,.v I),(16,.v I)],[1,1,1,0,1,0,0],[]⟩],none⟩
theorem aei(K ρ):(QT N).bd K ρ 11=p6.eA N ((QT N).kc ρ 11):=κ
theorem aej(ρ):(QT N).kc ((QT N).ct ρ) 11=p6.l5 N N:=Fx.uL [] (aei N) ρ (p6.l5 N) λn ρ' e d=>by rw[e];rfl
theorem aw2(K):(QT N).top K=p6.b N ((QT N).kc K 11):=κ
def aw3:Kn prog:=⟨166,(QT N).S true (p6 N),Fx.u1 (QT N) aC func166 [11] (aw2 N) (by rw[aej];rfl)⟩
def X76:Fx:=⟨15,tab,Kn.l [aw3 N,k74 N,aby N],N,f76,[.v cR],[.v B],[⟨5,[(0,.v cR),(4,.v I)],[1,0,1,0,0],[]⟩],none⟩
theorem arD(K ρ):(X76 N).bd K ρ 5=E1.fG N ((X76 N).kc ρ 5):=κ
theorem arE(ρ):(X76 N).kc ((X76 N).ct ρ) 5=E1.l2 N N:=Fx.uL [] (arD N) ρ (E1.l2 N) λn ρ' e d=>by rw[e];rfl
theorem h76(K):(X76 N).top K=E1.b N ((X76 N).kc K 5):=κ
def k76:Kn prog:=⟨76,(X76 N).S true (E1 N),Fx.u1 (X76 N) aC func76 [5] (h76 N) (by rw[arE];rfl)⟩
def arF:Fx:=⟨61,tab,[],N,f128,[.v nn],[.v B],[],none⟩
def aw4:Kn prog:=⟨128,(arF N).S true (acV N),Fx.u0 (arF N) aC func128⟩
def X77:Fx:=⟨34,tab,Kn.l [aw4 N],N,f77,[.v lD],[.v B],[⟨5,[(0,.v lD),(5,.v lD),(6,.v I),(7,.v I)],[1,0,1,0,0],[]⟩],none⟩
theorem arG(K ρ):(X77 N).bd K ρ 5=CV.fG N ((X77 N).kc ρ 5):=κ
theorem arH(ρ):(X77 N).kc ((X77 N).ct ρ) 5=CV.l2 N N:=Fx.uL [] (arG N) ρ (CV.l2 N) λn ρ' e d=>by rw[e];rfl
theorem h77(K):(X77 N).top K=CV.b N ((X77 N).kc K 5):=κ
def k77:Kn prog:=⟨77,(X77 N).S true (CV N),Fx.u1 (X77 N) aC func77 [5] (h77 N) (by rw[arH];rfl)⟩
def QU:Fx:=⟨25,tab,Kn.l [alP N],N,f124,[.v fk,.v I],[.v e7,.v B],[⟨9,[(1,.v I),(4,.obj e7),(12,.v fk),(13,.v I),(14,.v I)],[1,1,0,1,0,0],[]⟩],none⟩
theorem alX(K ρ):(QU N).bd K ρ 9=p5.dU N ((QU N).kc ρ 9):=κ
theorem alY(ρ):(QU N).kc ((QU N).ct ρ) 9=p5.l4 N N:=Fx.uL [] (alX N) ρ (p5.l4 N) λn ρ' e d=>by rw[e];rfl
theorem aw6(K):(QU N).top K=p5.b N ((QU N).kc K 9):=κ
def aw7:Kn prog:=⟨124,(QU N).S true (p5 N),Fx.u1 (QU N) aC func124 [9] (aw6 N) (by rw[alY];rfl)⟩
def X78:Fx:=⟨15,tab,Kn.l [aw7 N],N,f78,[.v aJ,.v I],[.v B],[],none⟩
def k78:Kn prog:=⟨78,(X78 N).S true (F78 N),Fx.u0 (X78 N) aC func78⟩
def X81:Fx:=⟨9,tab,[],N,f81,[.v I],[.v B],[],none⟩
def k81:Kn prog:=⟨81,(X81 N).S true (F81 N),Fx.u0 (X81 N) aC func81⟩
def X80:Fx:=⟨6,tab,Kn.l [k81 N],N,f80,[.v I],[.v B],[],none⟩
def k80:Kn prog:=⟨80,(X80 N).S true (F80 N),Fx.u0 (X80 N) aC func80⟩
def QV:Fx:=⟨19,tab,Kn.l [k80 N],N,f167,[.v LI,.fn 80 .unit],[.v I],[⟨5,[(0,.v LI),(1,.fn 80 .unit),(7,.v I),(8,.v I)],[1,0,1,0,0],[]⟩],none⟩
theorem alZ(K ρ):(QV N).bd K ρ 5=tg.fG N ((QV N).kc ρ 5):=κ
theorem al0(ρ):(QV N).kc ((QV N).ct ρ) 5=tg.l2 N N:=Fx.uL [] (alZ N) ρ (tg.l2 N) λn ρ' e d=>by rw[e];rfl
theorem aw9(K):(QV N).top K=tg.b N ((QV N).kc K 5):=κ
def axa:Kn prog:=⟨167,(QV N).S true (tg N),Fx.u1 (QV N) aC func167 [5] (aw9 N) (by rw[al0];rfl)⟩
def X79:Fx:=⟨9,tab,Kn.l [axa N],N,f79,[.v LI,.fn 80 .unit],[.v B],[],none⟩
def k79:Kn prog:=⟨79,(X79 N).S true (F79 N),Fx.u0 (X79 N) aC func79⟩
def Np:Fx:=⟨133,tab,Kn.l [k71 N,k72 N,k73 N,k75 N,k74 N,k76 N,k77 N,k78 N,k63 N,k79 N],N,f23,[.v aA,.v aJ],[.v B],[⟨45,[(2,.obj aA),(3,.obj aJ),(109,.v lD),(110,.v I),(111,.v I)],[1,1,1,1,0,1,0,0],[]⟩,⟨33,[(2,.obj aA),(3,.obj aJ),(83,.v cR),(84,.v I),(85,.v I)],[1,1,1,0,1,0,0],[]⟩,⟨9,[(2,.obj aA),(3,.obj aJ),(57,.v cR),(58,.v I),(59,.v I)],[1,1,0,1,0,0],[]⟩],none⟩
theorem al1(K ρ):(Np N).bd K ρ 45=kQ.wW N ((Np N).kc ρ 45):=κ
theorem al2(ρ):(Np N).kc ((Np N).ct ρ) 45=kQ.yc N N:=Fx.uL [] (al1 N) ρ (kQ.yc N) λn ρ' e d=>by rw[e];rfl
theorem al3(K ρ):(Np N).bd K ρ 33=kQ.wV N ((Np N).kc K 45) ((Np N).kc ρ 33):=κ
theorem al4(ρ):(Np N).kc ((Np N).ct ρ) 33=kQ.yb N N:=Fx.uL [45] (al3 N) ρ (kQ.yb N) λn ρ' e d=>by rw[al2,e];rfl
theorem arJ(K ρ):(Np N).bd K ρ 9=kQ.dU N ((Np N).kc K 33) ((Np N).kc ρ 9):=κ
theorem arK(ρ):(Np N).kc ((Np N).ct ρ) 9=kQ.l4 N N:=Fx.uL [33,45] (arJ N) ρ (kQ.l4 N) λn ρ' e d=>by rw[al4,e];rfl
theorem h23(K):(Np N).top K=kQ.b N ((Np N).kc K 9):=κ
def k23:Kn prog:=⟨23,(Np N).S true (kQ N),Fx.u1 (Np N) aC func23 [9,33,45] (h23 N) (by rw[arK];rfl)⟩
def QW:Fx:=⟨50,tab,Kn.l [k81 N],N,f103,[.v qo],[.v B],[⟨5,[(1,.obj qo),(9,.v (.arr 2 I)),(10,.v I)],[1,0,1,0,0],[]⟩],none⟩
theorem al5(K ρ):(QW N).bd K ρ 5=ph.fG N ((QW N).kc ρ 5):=κ
theorem al6(ρ):(QW N).kc ((QW N).ct ρ) 5=ph.l2 N N:=Fx.uL [] (al5 N) ρ (ph.l2 N) λn ρ' e d=>by rw[e];rfl
theorem axb(K):(QW N).top K=ph.b N ((QW N).kc K 5):=κ
def arL:Kn prog:=⟨103,(QW N).S true (ph N),Fx.u1 (QW N) aC func103 [5] (axb N) (by rw[al6];rfl)⟩
def arM:Fx:=⟨6,tab,Kn.l [arL N],N,f102,[.v qo],[.v B],[],none⟩
def axc:Kn prog:=⟨102,(arM N).S true (ak7 N),Fx.u0 (arM N) aC func102⟩
def QX:Fx:=⟨19,tab,Kn.l [axc N],N,f174,[.v zu,.fn 102 .unit],[.v I],[⟨5,[(0,.v zu),(1,.fn 102 .unit),(7,.v I),(8,.v I)],[1,0,1,0,0],[]⟩],none⟩
theorem al7(K ρ):(QX N).bd K ρ 5=th.fG N ((QX N).kc ρ 5):=κ
theorem al8(ρ):(QX N).kc ((QX N).ct ρ) 5=th.l2 N N:=Fx.uL [] (al7 N) ρ (th.l2 N) λn ρ' e d=>by rw[e];rfl
theorem axd(K):(QX N).top K=th.b N ((QX N).kc K 5):=κ
def axe:Kn prog:=⟨174,(QX N).S true (th N),Fx.u1 (QX N) aC func174 [5] (axd N) (by rw[al8];rfl)⟩
def arN:Fx:=⟨9,tab,Kn.l [axe N],N,f101,[.v zu,.fn 102 .unit],[.v B],[],none⟩
def axf:Kn prog:=⟨101,(arN N).S true (adg N),Fx.u0 (arN N) aC func101⟩
def arO:Fx:=⟨10,tab,[],N,f225,[.v I],[.v U],[],none⟩
def arP:Kn prog:=⟨225,(arO N).S true (Wf N),Fx.u0 (arO N) aC func225⟩
def arQ:Fx:=⟨51,tab,[],N,f228,[.v U,.v U],[.v U,.v U],[],none⟩
def arR:Kn prog:=⟨228,(arQ N).S true (We N),Fx.u0 (arQ N) aC func228⟩
def TO:Fx:=⟨47,tab,Kn.l [TE N],N,f229,[.v B,.v U,.v U],[.v eO,.v B],[⟨14,[(1,.v U),(2,.v U),(6,.obj eO)],[1,1,1],[]⟩],none⟩
theorem aek(K ρ):(TO N).bd K ρ 14=q6.XV N:=κ
theorem ael(ρ):(TO N).kc ((TO N).ct ρ) 14=q6.j7 N:=Fx.uJ [] (aek N) ρ
theorem axg(K):(TO N).top K=q6.b N ((TO N).kc K 14):=κ
def arS:Kn prog:=⟨229,(TO N).S true (q6 N),Fx.u1 (TO N) aC func229 [14] (axg N) (by rw[ael];rfl)⟩
def arT:Fx:=⟨29,tab,Kn.l [arP N,arR N,arS N],N,f176,[.v I,.v I],[.v eO],[],none⟩
def arU:Kn prog:=⟨176,(arT N).S true (Wi N),Fx.u0 (arT N) aC func176⟩
def arV:Fx:=⟨12,tab,[],N,f175,[.v I,.v eO],[.v s6],[],none⟩
def arW:Kn prog:=⟨175,(arV N).S true (WJ N),Fx.u0 (arV N) aC func175⟩
def arX:Fx:=⟨41,tab,Kn.l [arL N,k81 N,arU N,arW N],N,f104,[.v qo,.v I],[.own s6,.v I],[],none⟩
def axh:Kn prog:=⟨104,(arX N).S false (ZM N),Fx.u0 (arX N) aC func104⟩
def arY:Fx:=⟨22,tab,Kn.l [QG N,QI N,IS N,IT N,QM N,IQ N],N,f126,[.v aJ],[.v aJ],[],none⟩
def arZ:Kn prog:=⟨126,(arY N).S false (Zy N),Fx.u0 (arY N) aC func126⟩
def zv:Fx:=⟨42,tab,Kn.l [k65 N,XH N,k74 N],N,f220,[.v cR],[.v B],[⟨13,[(0,.v cR),(3,.v I),(4,.own eO),(9,.v I),(12,.v cR),(13,.v I),(14,.v I)],[1,0,1,0,0,1,1,0,0,1,1,0,1,0,0],[5]⟩,⟨5,[(0,.v cR),(9,.v I)],[1,0,1,0,0],[]⟩],none⟩
theorem aem(K ρ):(zv N).bd K ρ 13=gY.uU N ((zv N).kc ρ 5) ((zv N).kc ρ 13):=κ
theorem aen(ρ):(zv N).kc ((zv N).ct ρ) 13=gY.l6 N ((zv N).kc ρ 5) N:=Fx.uL [] (aem N) ρ (gY.l6 N ((zv N).kc ρ 5)) λn ρ' e d=>by rw[e,d 5 rfl];rfl
theorem al9(K ρ):(zv N).bd K ρ 5=gY.fG N ((zv N).kc K 13) ((zv N).kc ρ 5):=κ
theorem ama(ρ):(zv N).kc ((zv N).ct ρ) 5=gY.l2 N N:=Fx.uL [13] (al9 N) ρ (gY.l2 N) λn ρ' e d=>by rw[aen,e];rfl
theorem axi(K):(zv N).top K=gY.b N ((zv N).kc K 5):=κ
def axj:Kn prog:=⟨220,(zv N).S true (gY N),Fx.u1 (zv N) aC func220 [5] (axi N) (by rw[ama];rfl)⟩
def X92:Fx:=⟨14,tab,[],N,f92,[.v eO],[.v I,.v B],[],none⟩
def k92:Kn prog:=⟨92,(X92 N).S true (F92 N),Fx.u0 (X92 N) aC func92⟩
def ar0:Fx:=⟨9,tab,[],N,f222,[.v cR],[.v cR],[],none⟩
def axk:Kn prog:=⟨222,(ar0 N).S false (ac2 N),Fx.u0 (ar0 N) aC func222⟩
def jI:Fx:=⟨173,tab,Kn.l [aby N,arz N,alU N,axj N,IT N,arC N,abw N,k65 N,XH N,k92 N,axk N],N,f159,[.v cR,.v cR],[.v cR,.v I],[⟨36,[(1,.v cR),(8,.own jZ),(10,.obj jZ),(11,.v I),(54,.v cR),(55,.v I),(56,.v I)],[1,1,1,1,1,0,1,0,0,1,1,0,0,1,1,1],[27]⟩,⟨33,[(1,.v cR),(8,.own jZ),(10,.obj jZ),(11,.v I),(54,.v cR),(55,.v I),(56,.v I)],[1,1,1,1,1,0,1,0,0,1,1,0,0,1,1,0,0,0],[27]⟩,⟨55,[(1,.v cR),(12,.own jZ),(14,.obj jZ),(15,.own eO),(107,.own jZ),(108,.v I),(109,.v I),(117,.v cR),(118,.v I),(119,.v I)],[1,1,1,1,1,1,1,0,1,0,0,1,1,0,0,1,1,0,1,0,0],[47]⟩,⟨47,[(1,.v cR),(12,.own jZ),(107,.own jZ),(108,.v I),(109,.v I)],[1,1,1,1,1,1,1,0,1,0,0],[]⟩,⟨27,[(1,.v cR),(8,.own jZ),(54,.v cR),(55,.v I),(56,.v I)],[1,1,1,1,1,0,1,0,0],[]⟩,⟨9,[(0,.v cR),(1,.v cR),(30,.v cR),(31,.v I),(32,.v I)],[1,1,0,1,0,0],[]⟩],none⟩
theorem aeo(K ρ):(jI N).bd K ρ 36=cJ.akZ N ((jI N).kc ρ 27):=κ
theorem aep(ρ):(jI N).kc ((jI N).ct ρ) 36=cJ.j18 N ((jI N).kc ρ 27):=Fx.uJ [47] (aeo N) ρ
theorem aeq(K ρ):(jI N).bd K ρ 33=cJ.wV N ((jI N).kc K 36) ((jI N).kc ρ 27) ((jI N).kc ρ 33):=κ
theorem aer(ρ):(jI N).kc ((jI N).ct ρ) 33=cJ.yb N ((jI N).kc ρ 27) N:=Fx.uL [47,36] (aeq N) ρ (cJ.yb N ((jI N).kc ρ 27)) λn ρ' e d=>by rw[aep,e,d 27 rfl];rfl
theorem aes(K ρ):(jI N).bd K ρ 55=cJ.ac3 N ((jI N).kc ρ 47) ((jI N).kc ρ 55):=κ
theorem aet(ρ):(jI N).kc ((jI N).ct ρ) 55=cJ.l27 N ((jI N).kc ρ 47) N:=Fx.uL [] (aes N) ρ (cJ.l27 N ((jI N).kc ρ 47)) λn ρ' e d=>by rw[e,d 47 rfl];rfl
theorem aeu(K ρ):(jI N).bd K ρ 47=cJ.ac5 N ((jI N).kc K 55) ((jI N).kc ρ 47):=κ
theorem aev(ρ):(jI N).kc ((jI N).ct ρ) 47=cJ.l23 N N:=Fx.uL [55] (aeu N) ρ (cJ.l23 N) λn ρ' e d=>by rw[aet,e];rfl
theorem aew(K ρ):(jI N).bd K ρ 27=cJ.lq N ((jI N).kc K 33) ((jI N).kc K 47) ((jI N).kc ρ 27):=κ
theorem aex(ρ):(jI N).kc ((jI N).ct ρ) 27=cJ.mq N N:=Fx.uL [47,33,36] (aew N) ρ (cJ.mq N) λn ρ' e d=>by rw[aer,aev,e];rfl
theorem amb(K ρ):(jI N).bd K ρ 9=cJ.dU N ((jI N).kc K 27) ((jI N).kc ρ 9):=κ
theorem amc(ρ):(jI N).kc ((jI N).ct ρ) 9=cJ.l4 N N:=Fx.uL [27,47] (amb N) ρ (cJ.l4 N) λn ρ' e d=>by rw[aex,e];rfl
theorem axl(K):(jI N).top K=cJ.b N ((jI N).kc K 9):=κ
def ar1:Kn prog:=⟨159,(jI N).S false (cJ N),Fx.u1 (jI N) aC func159 [9,27,47] (axl N) (by rw[amc];rfl)⟩
def ar2:Fx:=⟨9,tab,[],N,f224,[.v cR],[.v cR],[],none⟩
def axm:Kn prog:=⟨224,(ar2 N).S false (ak1 N),Fx.u0 (ar2 N) aC func224⟩
def jJ:Fx:=⟨185,tab,Kn.l [k73 N,arq N,XH N,k74 N,IS N,art N,abx N,k65 N,k92 N,axm N],N,f160,[.v cR,.v jk],[.v cR,.v I],[⟨42,[(1,.v jk),(11,.own jZ),(13,.obj s6),(14,.v I),(68,.v jk),(69,.v I),(70,.v I)],[1,1,1,1,1,1,0,1,0,0,1,1,0,0,1,1,1],[33]⟩,⟨39,[(1,.v jk),(11,.own jZ),(13,.obj s6),(14,.v I),(68,.v jk),(69,.v I),(70,.v I)],[1,1,1,1,1,1,0,1,0,0,1,1,0,0,1,1,0,0,0],[33]⟩,⟨61,[(1,.v jk),(15,.own jZ),(17,.obj jZ),(18,.own eO),(121,.own jZ),(122,.v I),(123,.v I),(131,.v jk),(132,.v I),(133,.v I)],[1,1,1,1,1,1,1,1,0,1,0,0,1,1,0,0,1,1,0,1,0,0],[53]⟩,⟨53,[(1,.v jk),(15,.own jZ),(121,.own jZ),(122,.v I),(123,.v I)],[1,1,1,1,1,1,1,1,0,1,0,0],[]⟩,⟨33,[(1,.v jk),(11,.own jZ),(68,.v jk),(69,.v I),(70,.v I)],[1,1,1,1,1,1,0,1,0,0],[]⟩,⟨11,[(0,.v cR),(1,.v jk),(6,.own eO),(36,.v jk),(37,.v I),(38,.v I)],[1,1,1,0,1,0,0],[]⟩],none⟩
theorem aey(K ρ):(jJ N).bd K ρ 42=cK.ak2 N ((jJ N).kc ρ 33):=κ
theorem aez(ρ):(jJ N).kc ((jJ N).ct ρ) 42=cK.j21 N ((jJ N).kc ρ 33):=Fx.uJ [53] (aey N) ρ
theorem aeA(K ρ):(jJ N).bd K ρ 39=cK.SO N ((jJ N).kc K 42) ((jJ N).kc ρ 33) ((jJ N).kc ρ 39):=κ
theorem aeB(ρ):(jJ N).kc ((jJ N).ct ρ) 39=cK.WB N ((jJ N).kc ρ 33) N:=Fx.uL [53,42] (aeA N) ρ (cK.WB N ((jJ N).kc ρ 33)) λn ρ' e d=>by rw[aez,e,d 33 rfl];rfl
theorem aeC(K ρ):(jJ N).bd K ρ 61=cK.Mi N ((jJ N).kc ρ 53) ((jJ N).kc ρ 61):=κ
theorem aeD(ρ):(jJ N).kc ((jJ N).ct ρ) 61=cK.O8 N ((jJ N).kc ρ 53) N:=Fx.uL [] (aeC N) ρ (cK.O8 N ((jJ N).kc ρ 53)) λn ρ' e d=>by rw[e,d 53 rfl];rfl
theorem aeE(K ρ):(jJ N).bd K ρ 53=cK.ac9 N ((jJ N).kc K 61) ((jJ N).kc ρ 53):=κ
theorem aeF(ρ):(jJ N).kc ((jJ N).ct ρ) 53=cK.l26 N N:=Fx.uL [61] (aeE N) ρ (cK.l26 N) λn ρ' e d=>by rw[aeD,e];rfl
theorem aeG(K ρ):(jJ N).bd K ρ 33=cK.wV N ((jJ N).kc K 39) ((jJ N).kc K 53) ((jJ N).kc ρ 33):=κ
theorem aeH(ρ):(jJ N).kc ((jJ N).ct ρ) 33=cK.yb N N:=Fx.uL [53,39,42] (aeG N) ρ (cK.yb N) λn ρ' e d=>by rw[aeB,aeF,e];rfl
theorem aeI(K ρ):(jJ N).bd K ρ 11=cK.eA N ((jJ N).kc K 33) ((jJ N).kc ρ 11):=κ
theorem aeJ(ρ):(jJ N).kc ((jJ N).ct ρ) 11=cK.l5 N N:=Fx.uL [33,53] (aeI N) ρ (cK.l5 N) λn ρ' e d=>by rw[aeH,e];rfl
theorem axn(K):(jJ N).top K=cK.b N ((jJ N).kc K 11):=κ
def ar3:Kn prog:=⟨160,(jJ N).S false (cK N),Fx.u1 (jJ N) aC func160 [11,33,53] (axn N) (by rw[aeJ];rfl)⟩
def X68:Fx:=⟨37,tab,Kn.l [arZ N,ar1 N,ar3 N],N,f68,[.v aJ,.v cR,.v jk],[.v aJ,.v I],[],none⟩
def k68:Kn prog:=⟨68,(X68 N).S false (F68 N),Fx.u0 (X68 N) aC func68⟩
def XI:Fx:=⟨113,tab,Kn.l [k23 N,axf N,k78 N,axh N,k68 N],N,f38,[.v aA,.v aJ,.v zu],[.v aJ,.v I],[⟨25,[(4,.obj aJ),(6,.obj aJ),(10,.own jZ),(11,.own s6),(68,.v zu),(69,.v I),(70,.v I)],[1,1,1,1,1,0,1,0,0],[]⟩,⟨9,[(2,.v zu),(3,.obj aA),(4,.obj aJ),(6,.obj aJ),(30,.v zu),(31,.v I),(32,.v I)],[1,1,0,1,0,0],[]⟩],none⟩
theorem amd(K ρ):(XI N).bd K ρ 25=uu.nK N ((XI N).kc ρ 25):=κ
theorem ame(ρ):(XI N).kc ((XI N).ct ρ) 25=uu.oM N N:=Fx.uL [] (amd N) ρ (uu.oM N) λn ρ' e d=>by rw[e];rfl
theorem ar4(K ρ):(XI N).bd K ρ 9=uu.dU N ((XI N).kc K 25) ((XI N).kc ρ 9):=κ
theorem ar5(ρ):(XI N).kc ((XI N).ct ρ) 9=uu.l4 N N:=Fx.uL [25] (ar4 N) ρ (uu.l4 N) λn ρ' e d=>by rw[ame,e];rfl
theorem h38(K):(XI N).top K=uu.b N ((XI N).kc K 9):=κ
def k38:Kn prog:=⟨38,(XI N).S false (uu N),Fx.u1 (XI N) aC func38 [9,25] (h38 N) (by rw[ar5];rfl)⟩
def QY:Fx:=⟨55,tab,Kn.l [aby N,k81 N,arU N,arW N],N,f116,[.v cR,.v I,.v I,.v I],[.own s6,.v I],[⟨11,[(1,.v I),(2,.v I),(3,.v I),(10,.own s6),(26,.v cR),(27,.v I),(28,.v I)],[1,1,1,0,1,0,0],[]⟩],none⟩
theorem aeK(K ρ):(QY N).bd K ρ 11=qt.eA N ((QY N).kc ρ 11):=κ
theorem aeL(ρ):(QY N).kc ((QY N).ct ρ) 11=qt.l5 N N:=Fx.uL [] (aeK N) ρ (qt.l5 N) λn ρ' e d=>by rw[e];rfl
theorem axo(K):(QY N).top K=qt.b N ((QY N).kc K 11):=κ
def axp:Kn prog:=⟨116,(QY N).S false (qt N),Fx.u1 (QY N) aC func116 [11] (axo N) (by rw[aeL];rfl)⟩
def ajA:Fx:=⟨22,tab,Kn.l [QG N,QI N,IS N,IT N,QM N,IQ N],N,f126,[.v aJ],[.sp aJ 4 I],[],some (aJ,[.iD 4],I,[1,2,1000000])⟩
def ar6:Kn prog:=⟨126,(ajA N).S false (ajm N),Fx.u0 (ajA N) aC func126⟩
def ar7:Fx:=⟨37,tab,Kn.l [ar6 N,ar1 N,ar3 N],N,f68,[.v aJ,.v cR,.v jk],[.sp aJ 4 I,.v I],[],some (aJ,[.iD 4],I,[3,6,8,1000000])⟩
def axq:Kn prog:=⟨68,(ar7 N).S false (als N),Fx.u0 (ar7 N) aC func68⟩
def X42:Fx:=⟨67,tab,Kn.l [k23 N,k81 N,axp N,axq N],N,f42,[.v aA,.v aJ,.v I,.v I],[.v aJ,.v jk,.v I],[],some (aJ,[.iD 4],I,[5,13])⟩
def k42:Kn prog:=⟨42,(X42 N).S false (F42 N),Fx.u0 (X42 N) aC func42⟩
def X90:Fx:=⟨31,tab,Kn.l [aby N],N,f90,[.v cR,.v I],[.own kM],[⟨11,[(1,.v I),(5,.own kM),(11,.v cR),(12,.v I),(13,.v I)],[1,1,1,0,1,0,0],[]⟩],none⟩
theorem amf(K ρ):(X90 N).bd K ρ 11=Ej.eA N ((X90 N).kc ρ 11):=κ
theorem amg(ρ):(X90 N).kc ((X90 N).ct ρ) 11=Ej.l5 N N:=Fx.uL [] (amf N) ρ (Ej.l5 N) λn ρ' e d=>by rw[e];rfl
theorem h90(K):(X90 N).top K=Ej.b N ((X90 N).kc K 11):=κ
def k90:Kn prog:=⟨90,(X90 N).S false (Ej N),Fx.u1 (X90 N) aC func90 [11] (h90 N) (by rw[amg];rfl)⟩
def zw:Fx:=⟨64,tab,Kn.l [k77 N],N,f130,[.v lD,.v I],[.own jZ],[⟨19,[(0,.v lD),(1,.v I),(5,.own jZ),(6,.v I),(7,.obj jZ),(13,.v I),(18,.v lD),(19,.v I),(20,.v I)],[1,1,1,0,1,0,0,1,1,0,0,1,1,0,1,0,0],[11]⟩,⟨11,[(0,.v lD),(1,.v I),(5,.own jZ),(13,.v I)],[1,1,1,0,1,0,0],[]⟩],none⟩
theorem aeM(K ρ):(zw N).bd K ρ 19=gZ.vN N ((zw N).kc ρ 11) ((zw N).kc ρ 19):=κ
theorem aeN(ρ):(zw N).kc ((zw N).ct ρ) 19=gZ.l9 N ((zw N).kc ρ 11) N:=Fx.uL [] (aeM N) ρ (gZ.l9 N ((zw N).kc ρ 11)) λn ρ' e d=>by rw[e,d 11 rfl];rfl
theorem aeO(K ρ):(zw N).bd K ρ 11=gZ.eA N ((zw N).kc K 19) ((zw N).kc ρ 11):=κ
theorem aeP(ρ):(zw N).kc ((zw N).ct ρ) 11=gZ.l5 N N:=Fx.uL [19] (aeO N) ρ (gZ.l5 N) λn ρ' e d=>by rw[aeN,e];rfl
theorem axr(K):(zw N).top K=gZ.b N ((zw N).kc K 11):=κ
def axs:Kn prog:=⟨130,(zw N).S false (gZ N),Fx.u1 (zw N) aC func130 [11] (axr N) (by rw[aeP];rfl)⟩
def QZ:Fx:=⟨54,tab,Kn.l [alU N,k71 N],N,f198,[.v aA,.v dH],[.v B],[⟨5,[(1,.v dH),(2,.obj aA),(7,.v dH),(8,.v I),(9,.v I)],[1,0,1,0,0],[]⟩],none⟩
theorem amh(K ρ):(QZ N).bd K ρ 5=qa.fG N ((QZ N).kc ρ 5):=κ
theorem ami(ρ):(QZ N).kc ((QZ N).ct ρ) 5=qa.l2 N N:=Fx.uL [] (amh N) ρ (qa.l2 N) λn ρ' e d=>by rw[e];rfl
theorem axt(K):(QZ N).top K=qa.b N ((QZ N).kc K 5):=κ
def ar8:Kn prog:=⟨198,(QZ N).S true (qa N),Fx.u1 (QZ N) aC func198 [5] (axt N) (by rw[ami];rfl)⟩
def Q0:Fx:=⟨73,tab,Kn.l [k71 N],N,f199,[.v aA,.v cR],[.v B],[⟨5,[(1,.v cR),(2,.obj aA),(7,.v cR),(8,.v I),(9,.v I)],[1,0,1,0,0],[]⟩],none⟩
theorem amj(K ρ):(Q0 N).bd K ρ 5=qk.fG N ((Q0 N).kc ρ 5):=κ
theorem amk(ρ):(Q0 N).kc ((Q0 N).ct ρ) 5=qk.l2 N N:=Fx.uL [] (amj N) ρ (qk.l2 N) λn ρ' e d=>by rw[e];rfl
theorem axu(K):(Q0 N).top K=qk.b N ((Q0 N).kc K 5):=κ
def ar9:Kn prog:=⟨199,(Q0 N).S true (qk N),Fx.u1 (Q0 N) aC func199 [5] (axu N) (by rw[amk];rfl)⟩
def asa:Fx:=⟨52,tab,Kn.l [TD N],N,f125,[.v eO,.v eO],[.v eO,.v B],[],none⟩
def axv:Kn prog:=⟨125,(asa N).S true (ZN N),Fx.u0 (asa N) aC func125⟩
def asb:Fx:=⟨52,tab,Kn.l [TE N],N,f156,[.v eO,.v eO],[.v eO,.v B],[],none⟩
def asc:Kn prog:=⟨156,(asb N).S true (S7 N),Fx.u0 (asb N) aC func156⟩
def X66:Fx:=⟨9,tab,Kn.l [asc N],N,f66,[.v eO],[.v eO,.v B],[],none⟩
def k66:Kn prog:=⟨66,(X66 N).S true (F66 N),Fx.u0 (X66 N) aC func66⟩
def asd:Fx:=⟨12,tab,Kn.l [k66 N],N,f200,[.v eO],[.v eO,.v B],[],none⟩
def axw:Kn prog:=⟨200,(asd N).S true (S8 N),Fx.u0 (asd N) aC func200⟩
def Dy:Fx:=⟨104,tab,Kn.l [ar8 N,ar9 N,k65 N,axv N,asc N,axw N,arx N],N,f131,[.v aA,.v dH,.v cR,.v I],[.v eO,.v I],[⟨27,[(3,.v I),(8,.obj eO),(10,.v I),(11,.v I),(12,.v I),(57,.v cR),(58,.v I),(59,.v I)],[1,1,1,1,0,1,0,0],[]⟩,⟨15,[(2,.v cR),(3,.v I),(8,.obj eO),(10,.v I),(11,.v I),(12,.v I),(44,.v dH),(45,.v I),(46,.v I)],[1,1,1,0,1,0,0],[]⟩],none⟩
theorem aeQ(K ρ):(Dy N).bd K ρ 27=iY.lq N ((Dy N).kc ρ 27):=κ
theorem aeR(ρ):(Dy N).kc ((Dy N).ct ρ) 27=iY.mq N N:=Fx.uL [] (aeQ N) ρ (iY.mq N) λn ρ' e d=>by rw[e];rfl
theorem aeS(K ρ):(Dy N).bd K ρ 15=iY.oP N ((Dy N).kc K 27) ((Dy N).kc ρ 15):=κ
theorem aeT(ρ):(Dy N).kc ((Dy N).ct ρ) 15=iY.l7 N N:=Fx.uL [27] (aeS N) ρ (iY.l7 N) λn ρ' e d=>by rw[aeR,e];rfl
theorem axx(K):(Dy N).top K=iY.b N ((Dy N).kc K 15):=κ
def axy:Kn prog:=⟨131,(Dy N).S true (iY N),Fx.u1 (Dy N) aC func131 [15,27] (axx N) (by rw[aeT];rfl)⟩
def ase:Fx:=⟨32,tab,Kn.l [TE N],N,f237,[.v eO],[.v U,.v U],[],none⟩
def axz:Kn prog:=⟨237,(ase N).S true (acR N),Fx.u0 (ase N) aC func237⟩
def asf:Fx:=⟨55,tab,Kn.l [axz N,arP N,arR N,TD N,arS N],N,f201,[.v eO,.v I],[.v eO,.v B],[],none⟩
def axA:Kn prog:=⟨201,(asf N).S true (ado N),Fx.u0 (asf N) aC func201⟩
def Q1:Fx:=⟨62,tab,Kn.l [ar8 N,ar9 N,axy N,axA N,XH N],N,f133,[.v aA,.v dH,.v cR],[.v eO,.v I],[⟨11,[(1,.v dH),(2,.v cR),(3,.obj aA),(6,.obj eO),(8,.own eO),(29,.v fk),(30,.v I),(31,.v I)],[1,1,1,0,1,0,0],[]⟩],none⟩
theorem aeU(K ρ):(Q1 N).bd K ρ 11=sM.eA N ((Q1 N).kc ρ 11):=κ
theorem aeV(ρ):(Q1 N).kc ((Q1 N).ct ρ) 11=sM.l5 N N:=Fx.uL [] (aeU N) ρ (sM.l5 N) λn ρ' e d=>by rw[e];rfl
theorem axB(K):(Q1 N).top K=sM.b N ((Q1 N).kc K 11):=κ
def axC:Kn prog:=⟨133,(Q1 N).S true (sM N),Fx.u1 (Q1 N) aC func133 [11] (axB N) (by rw[aeV];rfl)⟩
def X99:Fx:=⟨32,tab,Kn.l [k23 N,k78 N,k90 N,axs N,axC N],N,f99,[.v aA,.v aJ,.v I],[.v eO,.v I],[],none⟩
def k99:Kn prog:=⟨99,(X99 N).S true (F99 N),Fx.u0 (X99 N) aC func99⟩
def Q2:Fx:=⟨28,tab,Kn.l [alP N],N,f173,[.v fk,.v I],[.own I],[⟨11,[(1,.v I),(5,.own I),(11,.v fk),(12,.v I),(13,.v I)],[1,1,1,0,1,0,0],[]⟩],none⟩
theorem aeW(K ρ):(Q2 N).bd K ρ 11=qu.eA N ((Q2 N).kc ρ 11):=κ
theorem aeX(ρ):(Q2 N).kc ((Q2 N).ct ρ) 11=qu.l5 N N:=Fx.uL [] (aeW N) ρ (qu.l5 N) λn ρ' e d=>by rw[e];rfl
theorem axD(K):(Q2 N).top K=qu.b N ((Q2 N).kc K 11):=κ
def axE:Kn prog:=⟨173,(Q2 N).S false (qu N),Fx.u1 (Q2 N) aC func173 [11] (axD N) (by rw[aeX];rfl)⟩
def Q3:Fx:=⟨19,tab,[],N,f264,[.v LI,.v I],[.v I],[⟨5,[(0,.v LI),(1,.v I),(7,.v I),(8,.v I)],[1,0,1,0,0],[]⟩],none⟩
theorem aml(K ρ):(Q3 N).bd K ρ 5=s0.fG N ((Q3 N).kc ρ 5):=κ
theorem amm(ρ):(Q3 N).kc ((Q3 N).ct ρ) 5=s0.l2 N N:=Fx.uL [] (aml N) ρ (s0.l2 N) λn ρ' e d=>by rw[e];rfl
theorem axF(K):(Q3 N).top K=s0.b N ((Q3 N).kc K 5):=κ
def axG:Kn prog:=⟨264,(Q3 N).S true (s0 N),Fx.u1 (Q3 N) aC func264 [5] (axF N) (by rw[amm];rfl)⟩
def asg:Fx:=⟨9,tab,Kn.l [axG N],N,f227,[.v LI,.v I],[.v B],[],none⟩
def axH:Kn prog:=⟨227,(asg N).S true (adZ N),Fx.u0 (asg N) aC func227⟩
def ash:Fx:=⟨8,tab,Kn.l [axH N],N,f226,[.v nn,.jE LI],[.v B],[],none⟩
def asi:Kn prog:=⟨226,(ash N).S true (aaN N),Fx.u0 (ash N) aC func226⟩
def Q4:Fx:=⟨19,tab,Kn.l [asi N],N,f205,[.v lD,.fn 226 (.pair (.pair LI .unit) .unit)],[.v I],[⟨5,[(0,.v lD),(1,.fn 226 (.pair (.pair LI .unit) .unit)),(7,.v I),(8,.v I)],[1,0,1,0,0],[]⟩],none⟩
theorem amn(K ρ):(Q4 N).bd K ρ 5=qN.fG N ((Q4 N).kc ρ 5):=κ
theorem amo(ρ):(Q4 N).kc ((Q4 N).ct ρ) 5=qN.l2 N N:=Fx.uL [] (amn N) ρ (qN.l2 N) λn ρ' e d=>by rw[e];rfl
theorem axI(K):(Q4 N).top K=qN.b N ((Q4 N).kc K 5):=κ
def axJ:Kn prog:=⟨205,(Q4 N).S true (qN N),Fx.u1 (Q4 N) aC func205 [5] (axI N) (by rw[amo];rfl)⟩
def Q5:Fx:=⟨42,tab,Kn.l [axJ N,asi N],N,f189,[.own nn,.fn 226 (.pair (.pair LI .unit) .unit)],[.v lD],[⟨11,[(0,.own nn),(1,.fn 226 (.pair (.pair LI .unit) .unit)),(5,.v I),(6,.v I)],[1,1,1,0,1,0,0],[]⟩],some (.unit,[],.unit,[1000001])⟩
theorem aeY(K ρ):(Q5 N).bd K ρ 11=s4.eA N ((Q5 N).kc ρ 11):=κ
theorem aeZ(ρ):(Q5 N).kc ((Q5 N).ct ρ) 11=s4.l5 N N:=Fx.uL [] (aeY N) ρ (s4.l5 N) λn ρ' e d=>by rw[e];rfl
theorem axK(K):(Q5 N).top K=s4.b N ((Q5 N).kc K 11):=κ
def axL:Kn prog:=⟨189,(Q5 N).S false (s4 N),Fx.u1 (Q5 N) aC func189 [11] (axK N) (by rw[aeZ];rfl)⟩
def asj:Fx:=⟨12,tab,Kn.l [k77 N,IQ N,axL N],N,f172,[.v lD,.v LI],[.v lD],[],none⟩
def axM:Kn prog:=⟨172,(asj N).S false (ad1 N),Fx.u0 (asj N) aC func172⟩
def asl:Fx:=⟨33,tab,Kn.l [k23 N,k63 N,arZ N,axE N,axM N],N,f100,[.v aA,.v aJ,.v I],[.v aJ,.v I],[],none⟩
def axN:Kn prog:=⟨100,(asl N).S false (aaR N),Fx.u0 (asl N) aC func100⟩
def X95:Fx:=⟨26,tab,[],N,f95,[.v cR,.v cR],[.v B],[⟨9,[(0,.v cR),(1,.v cR),(5,.v I)],[1,1,0,1,0,0],[]⟩],none⟩
theorem asm(K ρ):(X95 N).bd K ρ 9=C6.dU N ((X95 N).kc ρ 9):=κ
theorem asn(ρ):(X95 N).kc ((X95 N).ct ρ) 9=C6.l4 N N:=Fx.uL [] (asm N) ρ (C6.l4 N) λn ρ' e d=>by rw[e];rfl
theorem h95(K):(X95 N).top K=C6.b N ((X95 N).kc K 9):=κ
def k95:Kn prog:=⟨95,(X95 N).S true (C6 N),Fx.u1 (X95 N) aC func95 [9] (h95 N) (by rw[asn];rfl)⟩
def X55:Fx:=⟨26,tab,[],N,f55,[.v LI,.v LI],[.v B],[⟨9,[(0,.v LI),(1,.v LI),(5,.v I)],[1,1,0,1,0,0],[]⟩],none⟩
theorem aso(K ρ):(X55 N).bd K ρ 9=C8.dU N ((X55 N).kc ρ 9):=κ
theorem asq(ρ):(X55 N).kc ((X55 N).ct ρ) 9=C8.l4 N N:=Fx.uL [] (aso N) ρ (C8.l4 N) λn ρ' e d=>by rw[e];rfl
theorem h55(K):(X55 N).top K=C8.b N ((X55 N).kc K 9):=κ
def k55:Kn prog:=⟨55,(X55 N).S true (C8 N),Fx.u1 (X55 N) aC func55 [9] (h55 N) (by rw[asq];rfl)⟩
def X84:Fx:=⟨78,tab,[],N,f84,[.v cR],[.v B],[⟨5,[(0,.v cR),(3,.v I)],[1,0,1,0,0],[]⟩],none⟩
theorem asr(K ρ):(X84 N).bd K ρ 5=Av.fG N ((X84 N).kc ρ 5):=κ
theorem ass(ρ):(X84 N).kc ((X84 N).ct ρ) 5=Av.l2 N N:=Fx.uL [] (asr N) ρ (Av.l2 N) λn ρ' e d=>by rw[e];rfl
theorem h84(K):(X84 N).top K=Av.b N ((X84 N).kc K 5):=κ
def k84:Kn prog:=⟨84,(X84 N).S true (Av N),Fx.u1 (X84 N) aC func84 [5] (h84 N) (by rw[ass];rfl)⟩
def X27:Fx:=⟨38,tab,Kn.l [k84 N],N,f27,[.v cR,.v I,.v I],[.v I],[⟨9,[(0,.v cR),(1,.v I),(2,.v I),(7,.v I)],[1,1,0,1,0,0],[]⟩],none⟩
theorem ast(K ρ):(X27 N).bd K ρ 9=Cv.dU N ((X27 N).kc ρ 9):=κ
theorem asu(ρ):(X27 N).kc ((X27 N).ct ρ) 9=Cv.l4 N N:=Fx.uL [] (ast N) ρ (Cv.l4 N) λn ρ' e d=>by rw[e];rfl
theorem h27(K):(X27 N).top K=Cv.b N ((X27 N).kc K 9):=κ
def k27:Kn prog:=⟨27,(X27 N).S true (Cv N),Fx.u1 (X27 N) aC func27 [9] (h27 N) (by rw[asu];rfl)⟩
def asv:Fx:=⟨30,tab,[],N,f169,[.v I,.v I],[.v B],[],none⟩
def asw:Kn prog:=⟨169,(asv N).S true (Sx N),Fx.u0 (asv N) aC func169⟩
def X88:Fx:=⟨74,tab,Kn.l [asw N],N,f88,[.v cR],[.v B],[⟨5,[(0,.v cR),(3,.v I)],[1,0,1,0,0],[]⟩],none⟩
theorem asx(K ρ):(X88 N).bd K ρ 5=CR.fG N ((X88 N).kc ρ 5):=κ
theorem asy(ρ):(X88 N).kc ((X88 N).ct ρ) 5=CR.l2 N N:=Fx.uL [] (asx N) ρ (CR.l2 N) λn ρ' e d=>by rw[e];rfl
theorem h88(K):(X88 N).top K=CR.b N ((X88 N).kc K 5):=κ
def k88:Kn prog:=⟨88,(X88 N).S true (CR N),Fx.u1 (X88 N) aC func88 [5] (h88 N) (by rw[asy];rfl)⟩
def X29:Fx:=⟨38,tab,Kn.l [k88 N],N,f29,[.v cR,.v I,.v I],[.v I],[⟨9,[(0,.v cR),(1,.v I),(2,.v I),(7,.v I)],[1,1,0,1,0,0],[]⟩],none⟩
theorem asz(K ρ):(X29 N).bd K ρ 9=vm.dU N ((X29 N).kc ρ 9):=κ
theorem asA(ρ):(X29 N).kc ((X29 N).ct ρ) 9=vm.l4 N N:=Fx.uL [] (asz N) ρ (vm.l4 N) λn ρ' e d=>by rw[e];rfl
theorem h29(K):(X29 N).top K=vm.b N ((X29 N).kc K 9):=κ
def k29:Kn prog:=⟨29,(X29 N).S true (vm N),Fx.u1 (X29 N) aC func29 [9] (h29 N) (by rw[asA];rfl)⟩
def X36:Fx:=⟨145,tab,Kn.l [k97 N,k98 N,k38 N,k42 N,k99 N,axN N,k95 N,k55 N,k27 N,k29 N,k23 N],N,f36,[],[.v B],[],none⟩
theorem aBV:tI prog (X36 N).E:=Fx.OG (X36 N) aC (Kn.all _) κ
theorem aBW: ∀x,NU (X36 N).E (X36 N).fn (X36 N).args (X36 N).res x=Jr (X36 N).args (F36 N) x:=Fx.acG κ
def k36:Kn prog:=⟨36,(X36 N).S true (F36 N),Fx.u0 (X36 N) aC func36⟩
def X16:Fx:=⟨6,tab,[],N,f16,[.v LU],[.ptr dI],[],none⟩
def k16:Kn prog:=⟨16,(X16 N).S false (F16 N),Fx.u0 (X16 N) aC func16⟩
def X62:Fx:=⟨32,tab,[],N,f62,[.io dI],[.v U,.io dI],[],none⟩
def k62:Kn prog:=⟨62,(X62 N).S false (F62 N),Fx.u0 (X62 N) aC func62⟩
def X20:Fx:=⟨11,tab,Kn.l [k62 N],N,f20,[.io dI,.v I],[.v I,.io dI],[],none⟩
def XJ:Kn prog:=⟨20,(X20 N).S false (oS N),Fx.u0 (X20 N) aC func20⟩
def X57:Fx:=⟨11,tab,Kn.l [XJ N],N,f57,[.io dI,.v I],[.v B,.io dI],[],none⟩
def k57:Kn prog:=⟨57,(X57 N).S false (PN N),Fx.u0 (X57 N) aC func57⟩
def X40:Fx:=⟨29,tab,Kn.l [k62 N],N,f40,[.io dI],[.v I,.io dI],[],none⟩
def k40:Kn prog:=⟨40,(X40 N).S false (KX N),Fx.u0 (X40 N) aC func40⟩
def Vk:Fx:=⟨71,tab,Kn.l [XJ N,k57 N,k40 N],N,f17,[.io dI],[.v aA,.io dI],[⟨16,[(0,.io dI),(2,.obj aA),(3,.gk aA [.iD 0] e7),(4,.v I),(5,.obj e7)],[1,1,0,1,0,0,1,0,0,1,1],[7]⟩,⟨7,[(0,.io dI),(2,.obj aA),(3,.gk aA [.iD 0] e7),(4,.v I)],[1,1,0,1,0,0],[]⟩],some (aA,[.iD 0],e7,[3])⟩
theorem amp(K ρ):(Vk N).bd K ρ 16=wA.Zz N ((Vk N).kc ρ 7):=κ
theorem amq(ρ):(Vk N).kc ((Vk N).ct ρ) 16=wA.j8 N ((Vk N).kc ρ 7):=Fx.uJ [] (amp N) ρ
theorem asC(K ρ):(Vk N).bd K ρ 7=wA.nw N ((Vk N).kc K 16) ((Vk N).kc ρ 7):=κ
theorem asD(ρ):(Vk N).kc ((Vk N).ct ρ) 7=wA.l3 N N:=Fx.uL [16] (asC N) ρ (wA.l3 N) λn ρ' e d=>by rw[amq,e];rfl
theorem h17(K):(Vk N).top K=wA.b N ((Vk N).kc K 7):=κ
def k17:Kn prog:=⟨17,(Vk N).S false (wA N),Fx.u1 (Vk N) aC func17 [7] (h17 N) (by rw[asD];rfl)⟩
def asE:Fx:=⟨30,tab,Kn.l [XJ N,k57 N,k40 N],N,f209,[.io dI,.v aA,.v I],[.v lZ,.io dI],[],none⟩
def amr:Kn prog:=⟨209,(asE N).S false (WX N),Fx.u0 (asE N) aC func209⟩
def asF:Fx:=⟨48,tab,Kn.l [XJ N,k57 N,k40 N],N,f210,[.io dI,.v aA],[.v lZ,.io dI],[],none⟩
def asG:Kn prog:=⟨210,(asF N).S false (aac N),Fx.u0 (asF N) aC func210⟩
def asH:Fx:=⟨133,tab,Kn.l [XJ N,k40 N,amr N,asG N],N,f144,[.io dI,.v aA],[.v lZ,.io dI],[],none⟩
def ams:Kn prog:=⟨144,(asH N).S false (WY N),Fx.u0 (asH N) aC func144⟩
def w4:Fx:=⟨62,tab,Kn.l [k57 N,XJ N],N,f211,[.io dI,.v aA],[.own lZ,.io dI],[⟨27,[(0,.io dI),(5,.own lZ),(8,.v I)],[1,1,1,1,0,1,0,0],[]⟩,⟨19,[(0,.io dI),(5,.own lZ),(7,.v I)],[1,1,1,0,1,0,0],[]⟩,⟨7,[(0,.io dI),(5,.own lZ),(6,.v I)],[1,1,0,1,0,0],[]⟩],none⟩
theorem ae1(K ρ):(w4 N).bd K ρ 27=gw.lq N ((w4 N).kc ρ 27):=κ
theorem ae2(ρ):(w4 N).kc ((w4 N).ct ρ) 27=gw.mq N N:=Fx.uL [] (ae1 N) ρ (gw.mq N) λn ρ' e d=>by rw[e];rfl
theorem ae3(K ρ):(w4 N).bd K ρ 19=gw.vN N ((w4 N).kc K 27) ((w4 N).kc ρ 19):=κ
theorem ae4(ρ):(w4 N).kc ((w4 N).ct ρ) 19=gw.l9 N N:=Fx.uL [27] (ae3 N) ρ (gw.l9 N) λn ρ' e d=>by rw[ae2,e];rfl
theorem amt(K ρ):(w4 N).bd K ρ 7=gw.nw N ((w4 N).kc K 19) ((w4 N).kc ρ 7):=κ
theorem amu(ρ):(w4 N).kc ((w4 N).ct ρ) 7=gw.l3 N N:=Fx.uL [19,27] (amt N) ρ (gw.l3 N) λn ρ' e d=>by rw[ae4,e];rfl
theorem axR(K):(w4 N).top K=gw.b N ((w4 N).kc K 7):=κ
def axS:Kn prog:=⟨211,(w4 N).S false (gw N),Fx.u1 (w4 N) aC func211 [7,19,27] (axR N) (by rw[amu];rfl)⟩
def Q6:Fx:=⟨50,tab,Kn.l [axS N,XJ N,ams N,amr N,asG N],N,f145,[.io dI,.v aA,.v I],[.own lZ,.io dI],[⟨7,[(0,.io dI),(4,.obj aA),(7,.own lZ),(8,.v I)],[1,1,0,1,0,0],[]⟩],none⟩
theorem amv(K ρ):(Q6 N).bd K ρ 7=qJ.nw N ((Q6 N).kc ρ 7):=κ
theorem amw(ρ):(Q6 N).kc ((Q6 N).ct ρ) 7=qJ.l3 N N:=Fx.uL [] (amv N) ρ (qJ.l3 N) λn ρ' e d=>by rw[e];rfl
theorem axT(K):(Q6 N).top K=qJ.b N ((Q6 N).kc K 7):=κ
def asI:Kn prog:=⟨145,(Q6 N).S false (qJ N),Fx.u1 (Q6 N) aC func145 [7] (axT N) (by rw[amw];rfl)⟩
def asJ:Fx:=⟨15,tab,[],N,f184,[.v I,.v I,.v I],[.v B],[],none⟩
def axU:Kn prog:=⟨184,(asJ N).S true (Jv N),Fx.u0 (asJ N) aC func184⟩
def Q7:Fx:=⟨77,tab,Kn.l [axU N],N,f111,[.v aA],[.v B],[⟨9,[(1,.obj aA),(3,.v I)],[1,1,0,1,0,0],[]⟩],none⟩
theorem amx(K ρ):(Q7 N).bd K ρ 9=m7.dU N ((Q7 N).kc ρ 9):=κ
theorem amy(ρ):(Q7 N).kc ((Q7 N).ct ρ) 9=m7.l4 N N:=Fx.uL [] (amx N) ρ (m7.l4 N) λn ρ' e d=>by rw[e];rfl
theorem axV(K):(Q7 N).top K=m7.b N ((Q7 N).kc K 9):=κ
def TP:Kn prog:=⟨111,(Q7 N).S true (m7 N),Fx.u1 (Q7 N) aC func111 [9] (axV N) (by rw[amy];rfl)⟩
def Fh:Fx:=⟨41,tab,Kn.l [TP N],N,f206,[.v aA],[.v aJ,.v I],[⟨15,[(1,.obj aA),(2,.obj aJ),(4,.gk aJ [.iD 4] I),(5,.v I)],[1,1,1,1,0,1,0,0],[]⟩,⟨12,[(1,.obj aA),(2,.obj aJ),(4,.gk aJ [.iD 4] I)],[1,1,1,1],[]⟩],some (aJ,[.iD 4],I,[4])⟩
theorem ae5(K ρ):(Fh N).bd K ρ 15=ja.oP N ((Fh N).kc ρ 15):=κ
theorem ae6(ρ):(Fh N).kc ((Fh N).ct ρ) 15=ja.l7 N N:=Fx.uL [] (ae5 N) ρ (ja.l7 N) λn ρ' e d=>by rw[e];rfl
theorem ae7(K ρ):(Fh N).bd K ρ 12=ja.ON N ((Fh N).kc K 15):=κ
theorem ae8(ρ):(Fh N).kc ((Fh N).ct ρ) 12=ja.j6 N:=Fx.uJ [15] (ae7 N) ρ (by rw[ae6];rfl)
theorem axW(K):(Fh N).top K=ja.b N ((Fh N).kc K 12):=κ
def axX:Kn prog:=⟨206,(Fh N).S false (ja N),Fx.u1 (Fh N) aC func206 [12,15] (axW N) (by rw[ae8];rfl)⟩
def asK:Fx:=⟨17,tab,Kn.l [axX N],N,f142,[.v aA],[.v dQ,.v I],[],none⟩
def asL:Kn prog:=⟨142,(asK N).S false (aa8 N),Fx.u0 (asK N) aC func142⟩
def Q8:Fx:=⟨33,tab,Kn.l [XJ N,k57 N,amr N,ams N],N,f212,[.io dI,.v aA],[.own lZ,.io dI],[⟨7,[(0,.io dI),(3,.obj aA),(5,.own lZ),(6,.v I)],[1,1,0,1,0,0],[]⟩],none⟩
theorem amz(K ρ):(Q8 N).bd K ρ 7=oD.nw N ((Q8 N).kc ρ 7):=κ
theorem amA(ρ):(Q8 N).kc ((Q8 N).ct ρ) 7=oD.l3 N N:=Fx.uL [] (amz N) ρ (oD.l3 N) λn ρ' e d=>by rw[e];rfl
theorem axY(K):(Q8 N).top K=oD.b N ((Q8 N).kc K 7):=κ
def asM:Kn prog:=⟨212,(Q8 N).S false (oD N),Fx.u1 (Q8 N) aC func212 [7] (axY N) (by rw[amA];rfl)⟩
def asN:Fx:=⟨9,tab,[],N,f241,[.v I],[.v B],[],none⟩
def axZ:Kn prog:=⟨241,(asN N).S true (alh N),Fx.u0 (asN N) aC func241⟩
def asO:Fx:=⟨32,tab,[],N,f242,[.v I],[.v Z],[],none⟩
def ax0:Kn prog:=⟨242,(asO N).S true (adA N),Fx.u0 (asO N) aC func242⟩
def asP:Fx:=⟨12,tab,[],N,f269,[.v I],[.v I,.v I],[],none⟩
def ax1:Kn prog:=⟨269,(asP N).S true (alf N),Fx.u0 (asP N) aC func269⟩
def asQ:Fx:=⟨6,tab,[],N,f270,[.v I],[.v I,.v I],[],none⟩
def ax2:Kn prog:=⟨270,(asQ N).S true (alg N),Fx.u0 (asQ N) aC func270⟩
def asR:Fx:=⟨27,tab,Kn.l [ax1 N,ax2 N],N,f243,[.v I,.v (.int .u8)],[.v I,.v I],[],none⟩
def ax3:Kn prog:=⟨243,(asR N).S true (adB N),Fx.u0 (asR N) aC func243⟩
def asS:Fx:=⟨32,tab,[],N,f244,[.v lZ,.v (.int .u8)],[.v I],[],none⟩
def ax4:Kn prog:=⟨244,(asS N).S true (adC N),Fx.u0 (asS N) aC func244⟩
def asT:Fx:=⟨35,tab,[],N,f245,[.v lZ,.v (.int .u8),.v I],[.v lZ],[],none⟩
def ax5:Kn prog:=⟨245,(asT N).S true (adD N),Fx.u0 (asT N) aC func245⟩
def Q9:Fx:=⟨56,tab,Kn.l [axZ N,ax0 N,ax3 N,ax4 N,ax5 N],N,f207,[.v lZ],[.v B],[⟨13,[(1,.obj lZ),(3,.v Z),(4,.obj lZ),(5,.v I)],[1,1,1,1,0,1,0,0],[]⟩],none⟩
theorem ae9(K ρ):(Q9 N).bd K ρ 13=sO.uU N ((Q9 N).kc ρ 13):=κ
theorem afa(ρ):(Q9 N).kc ((Q9 N).ct ρ) 13=sO.l6 N N:=Fx.uL [] (ae9 N) ρ (sO.l6 N) λn ρ' e d=>by rw[e];rfl
theorem ax6(K):(Q9 N).top K=sO.b N ((Q9 N).kc K 13):=κ
def ax7:Kn prog:=⟨207,(Q9 N).S true (sO N),Fx.u1 (Q9 N) aC func207 [13] (ax6 N) (by rw[afa];rfl)⟩
def X69:Fx:=⟨58,tab,[],N,f69,[.v dH],[.v B],[⟨5,[(0,.v dH),(3,.v I)],[1,0,1,0,0],[]⟩],none⟩
theorem asU(K ρ):(X69 N).bd K ρ 5=Cu.fG N ((X69 N).kc ρ 5):=κ
theorem asV(ρ):(X69 N).kc ((X69 N).ct ρ) 5=Cu.l2 N N:=Fx.uL [] (asU N) ρ (Cu.l2 N) λn ρ' e d=>by rw[e];rfl
theorem h69(K):(X69 N).top K=Cu.b N ((X69 N).kc K 5):=κ
def k69:Kn prog:=⟨69,(X69 N).S true (Cu N),Fx.u1 (X69 N) aC func69 [5] (h69 N) (by rw[asV];rfl)⟩
def X70:Fx:=⟨24,tab,[],N,f70,[.v dH,.v I],[.v I],[⟨5,[(0,.v dH),(1,.v I),(5,.v I)],[1,0,1,0,0],[]⟩],none⟩
theorem asW(K ρ):(X70 N).bd K ρ 5=Aw.fG N ((X70 N).kc ρ 5):=κ
theorem asX(ρ):(X70 N).kc ((X70 N).ct ρ) 5=Aw.l2 N N:=Fx.uL [] (asW N) ρ (Aw.l2 N) λn ρ' e d=>by rw[e];rfl
theorem h70(K):(X70 N).top K=Aw.b N ((X70 N).kc K 5):=κ
def k70:Kn prog:=⟨70,(X70 N).S true (Aw N),Fx.u1 (X70 N) aC func70 [5] (h70 N) (by rw[asX];rfl)⟩
def Fi:Fx:=⟨53,tab,Kn.l [k69 N,k70 N],N,f246,[.v dH,.v I],[.own kM,.v I],[⟨18,[(0,.v dH),(1,.v I),(6,.own kM),(7,.v I)],[1,1,1,1,1,1],[]⟩,⟨15,[(0,.v dH),(1,.v I),(6,.own kM),(7,.v I)],[1,1,1,1,1,0,0,0],[]⟩],none⟩
theorem afb(K ρ):(Fi N).bd K ρ 18=iZ.Js N:=κ
theorem afc(ρ):(Fi N).kc ((Fi N).ct ρ) 18=iZ.j9 N:=Fx.uJ [] (afb N) ρ
theorem afd(K ρ):(Fi N).bd K ρ 15=iZ.oP N ((Fi N).kc K 18) ((Fi N).kc ρ 15):=κ
theorem afe(ρ):(Fi N).kc ((Fi N).ct ρ) 15=iZ.l7 N N:=Fx.uL [18] (afd N) ρ (iZ.l7 N) λn ρ' e d=>by rw[afc,e];rfl
theorem ax8(K):(Fi N).top K=iZ.b N ((Fi N).kc K 15):=κ
def ax9:Kn prog:=⟨246,(Fi N).S false (iZ N),Fx.u1 (Fi N) aC func246 [15,18] (ax8 N) (by rw[afe];rfl)⟩
def asY:Fx:=⟨5,tab,[],N,f247,[.v I],[.v jZ],[],none⟩
def aff:Kn prog:=⟨247,(asY N).S true (fZ N),Fx.u0 (asY N) aC func247⟩
def tt:Fx:=⟨95,tab,[],N,f120,[.v fk],[.v B],[⟨17,[(0,.v fk),(3,.v I),(4,.obj e7),(5,.v I)],[1,0,1,0,0,1,0,0,1,1,1,0,0],[5]⟩,⟨14,[(0,.v fk),(3,.v I),(4,.obj e7)],[1,0,1,0,0,1,0,0,1,1],[5]⟩,⟨5,[(0,.v fk),(3,.v I)],[1,0,1,0,0],[]⟩],none⟩
theorem afg(K ρ):(tt N).bd K ρ 17=eY.Ec N ((tt N).kc ρ 5) ((tt N).kc ρ 17):=κ
theorem afh(ρ):(tt N).kc ((tt N).ct ρ) 17=eY.l8 N ((tt N).kc ρ 5) N:=Fx.uL [] (afg N) ρ (eY.l8 N ((tt N).kc ρ 5)) λn ρ' e d=>by rw[e,d 5 rfl];rfl
theorem afi(K ρ):(tt N).bd K ρ 14=eY.XV N ((tt N).kc K 17) ((tt N).kc ρ 5):=κ
theorem afj(ρ):(tt N).kc ((tt N).ct ρ) 14=eY.j7 N ((tt N).kc ρ 5):=Fx.uJ [17] (afi N) ρ (by rw[afh];rfl)
theorem amB(K ρ):(tt N).bd K ρ 5=eY.fG N ((tt N).kc K 14) ((tt N).kc ρ 5):=κ
theorem amC(ρ):(tt N).kc ((tt N).ct ρ) 5=eY.l2 N N:=Fx.uL [14,17] (amB N) ρ (eY.l2 N) λn ρ' e d=>by rw[afj,e];rfl
theorem aya(K):(tt N).top K=eY.b N ((tt N).kc K 5):=κ
def XK:Kn prog:=⟨120,(tt N).S true (eY N),Fx.u1 (tt N) aC func120 [5] (aya N) (by rw[amC];rfl)⟩
def Ra:Fx:=⟨28,tab,Kn.l [k69 N,XK N,k70 N],N,f112,[.v dH,.v fk],[.v B],[⟨9,[(0,.v dH),(1,.v fk),(5,.v I)],[1,1,0,1,0,0],[]⟩],none⟩
theorem amD(K ρ):(Ra N).bd K ρ 9=pb.dU N ((Ra N).kc ρ 9):=κ
theorem amE(ρ):(Ra N).kc ((Ra N).ct ρ) 9=pb.l4 N N:=Fx.uL [] (amD N) ρ (pb.l4 N) λn ρ' e d=>by rw[e];rfl
theorem ayb(K):(Ra N).top K=pb.b N ((Ra N).kc K 9):=κ
def amF:Kn prog:=⟨112,(Ra N).S true (pb N),Fx.u1 (Ra N) aC func112 [9] (ayb N) (by rw[amE];rfl)⟩
def Rb:Fx:=⟨25,tab,[],N,f121,[.v fk,.v I],[.v e7,.v B],[⟨5,[(0,.v fk),(1,.v I),(4,.obj e7),(6,.v I)],[1,0,1,0,0],[]⟩],none⟩
theorem amG(K ρ):(Rb N).bd K ρ 5=oQ.fG N ((Rb N).kc ρ 5):=κ
theorem amH(ρ):(Rb N).kc ((Rb N).ct ρ) 5=oQ.l2 N N:=Fx.uL [] (amG N) ρ (oQ.l2 N) λn ρ' e d=>by rw[e];rfl
theorem ayc(K):(Rb N).top K=oQ.b N ((Rb N).kc K 5):=κ
def afk:Kn prog:=⟨121,(Rb N).S true (oQ N),Fx.u1 (Rb N) aC func121 [5] (ayc N) (by rw[amH];rfl)⟩
def Rc:Fx:=⟨35,tab,Kn.l [XK N],N,f271,[.v fk,.v I],[.v I],[⟨9,[(0,.v fk),(1,.v I),(5,.v I)],[1,1,0,1,0,0],[]⟩],none⟩
theorem amI(K ρ):(Rc N).bd K ρ 9=nc.dU N ((Rc N).kc ρ 9):=κ
theorem amJ(ρ):(Rc N).kc ((Rc N).ct ρ) 9=nc.l4 N N:=Fx.uL [] (amI N) ρ (nc.l4 N) λn ρ' e d=>by rw[e];rfl
theorem ayd(K):(Rc N).top K=nc.b N ((Rc N).kc K 9):=κ
def abA:Kn prog:=⟨271,(Rc N).S true (nc N),Fx.u1 (Rc N) aC func271 [9] (ayd N) (by rw[amJ];rfl)⟩
def zx:Fx:=⟨81,tab,Kn.l [amF N,XK N,k70 N,afk N,abA N],N,f248,[.v dH,.v fk,.v e7],[.own e7,.v I],[⟨30,[(1,.v fk),(5,.obj e7),(11,.own e7),(12,.v I)],[1,1,1,1,1,1,1,1,1],[]⟩,⟨27,[(1,.v fk),(5,.obj e7),(11,.own e7),(12,.v I)],[1,1,1,1,1,1,1,1,0,0,0],[]⟩,⟨22,[(1,.v fk),(5,.obj e7)],[1,1,1,1,1,1],[]⟩],none⟩
theorem afl(K ρ):(zx N).bd K ρ 30=fO.wZ N:=κ
theorem afm(ρ):(zx N).kc ((zx N).ct ρ) 30=fO.Dg N:=Fx.uJ [] (afl N) ρ
theorem afn(K ρ):(zx N).bd K ρ 27=fO.lq N ((zx N).kc K 30) ((zx N).kc ρ 27):=κ
theorem afo(ρ):(zx N).kc ((zx N).ct ρ) 27=fO.mq N N:=Fx.uL [30] (afn N) ρ (fO.mq N) λn ρ' e d=>by rw[afm,e];rfl
theorem afp(K ρ):(zx N).bd K ρ 22=fO.yr N ((zx N).kc K 27):=κ
theorem afq(ρ):(zx N).kc ((zx N).ct ρ) 22=fO.E9 N:=Fx.uJ [27,30] (afp N) ρ (by rw[afo];rfl)
theorem aye(K):(zx N).top K=fO.b N ((zx N).kc K 22):=κ
def ayf:Kn prog:=⟨248,(zx N).S false (fO N),Fx.u1 (zx N) aC func248 [22,27,30] (aye N) (by rw[afq];rfl)⟩
def X48:Fx:=⟨15,tab,Kn.l [XK N,afk N],N,f48,[.v fk,.v I],[.v e7,.v B],[],none⟩
def k48:Kn prog:=⟨48,(X48 N).S true (XW N),Fx.u0 (X48 N) aC func48⟩
def asZ:Fx:=⟨16,tab,Kn.l [k48 N],N,f249,[.v dQ,.v I],[.v B],[],none⟩
def ayg:Kn prog:=⟨249,(asZ N).S true (Ti N),Fx.u0 (asZ N) aC func249⟩
def Re:Fx:=⟨22,tab,[],N,f168,[.v LU],[.v LU],[⟨5,[(0,.v LU),(3,.v I)],[1,1,0,0,0],[]⟩],none⟩
theorem amL(K ρ):(Re N).bd K ρ 5=o8.fG N ((Re N).kc ρ 5):=κ
theorem amM(ρ):(Re N).kc ((Re N).ct ρ) 5=o8.l2 N N:=Fx.uL [] (amL N) ρ (o8.l2 N) λn ρ' e d=>by rw[e];rfl
theorem ayh(K):(Re N).top K=o8.b N ((Re N).kc K 5):=κ
def amN:Kn prog:=⟨168,(Re N).S false (o8 N),Fx.u1 (Re N) aC func168 [5] (ayh N) (by rw[amM];rfl)⟩
def X83:Fx:=⟨9,tab,Kn.l [amN N],N,f83,[.v U],[.v LU],[],none⟩
def k83:Kn prog:=⟨83,(X83 N).S false (F83 N),Fx.u0 (X83 N) aC func83⟩
def X82:Fx:=⟨15,tab,Kn.l [amN N],N,f82,[.v B,.v LU],[.v dk],[],none⟩
def k82:Kn prog:=⟨82,(X82 N).S false (Za N),Fx.u0 (X82 N) aC func82⟩
def X26:Fx:=⟨15,tab,Kn.l [k83 N,k82 N],N,f26,[.v I],[.v dk],[],none⟩
def Az:Kn prog:=⟨26,(X26 N).S false (lh N),Fx.u0 (X26 N) aC func26⟩
def X52:Fx:=⟨9,tab,Kn.l [k82 N],N,f52,[.v dk],[.v dk],[],none⟩
def k52:Kn prog:=⟨52,(X52 N).S false (XU N),Fx.u0 (X52 N) aC func52⟩
def as2:Fx:=⟨21,tab,Kn.l [k52 N],N,f152,[.v I,.v I,.v I,.v I,.v dk],[.own s7],[],none⟩
def abB:Kn prog:=⟨152,(as2 N).S false (Dj N),Fx.u0 (as2 N) aC func152⟩
def X93:Fx:=⟨13,tab,[],N,f93,[.v LU,.v I],[.v U],[],none⟩
def k93:Kn prog:=⟨93,(X93 N).S true (F93 N),Fx.u0 (X93 N) aC func93⟩
def Vl:Fx:=⟨41,tab,Kn.l [k93 N],N,f85,[.v LU,.v LU],[.own U],[⟨12,[(0,.v LU),(1,.v LU),(5,.own U),(6,.v U),(7,.v I)],[1,1,1,0,1,0,0,1],[9]⟩,⟨9,[(0,.v LU),(1,.v LU),(5,.own U),(6,.v U),(7,.v I)],[1,1,1,0,1,0,0],[]⟩],none⟩
theorem amP(K ρ):(Vl N).bd K ρ 12=wJ.ON N ((Vl N).kc ρ 9):=κ
theorem amQ(ρ):(Vl N).kc ((Vl N).ct ρ) 12=wJ.j6 N ((Vl N).kc ρ 9):=Fx.uJ [] (amP N) ρ
theorem as3(K ρ):(Vl N).bd K ρ 9=wJ.dU N ((Vl N).kc K 12) ((Vl N).kc ρ 9):=κ
theorem as4(ρ):(Vl N).kc ((Vl N).ct ρ) 9=wJ.l4 N N:=Fx.uL [12] (as3 N) ρ (wJ.l4 N) λn ρ' e d=>by rw[amQ,e];rfl
theorem h85(K):(Vl N).top K=wJ.b N ((Vl N).kc K 9):=κ
def k85:Kn prog:=⟨85,(Vl N).S false (wJ N),Fx.u1 (Vl N) aC func85 [9] (h85 N) (by rw[as4];rfl)⟩
def X86:Fx:=⟨41,tab,[],N,f86,[.v LU,.v LU],[.v I],[⟨13,[(0,.v LU),(1,.v LU),(5,.v I)],[1,1,0,1,0,0],[]⟩],none⟩
theorem amR(K ρ):(X86 N).bd K ρ 13=EX.uU N ((X86 N).kc ρ 13):=κ
theorem amS(ρ):(X86 N).kc ((X86 N).ct ρ) 13=EX.l6 N N:=Fx.uL [] (amR N) ρ (EX.l6 N) λn ρ' e d=>by rw[e];rfl
theorem h86(K):(X86 N).top K=EX.b N ((X86 N).kc K 13):=κ
def k86:Kn prog:=⟨86,(X86 N).S true (EX N),Fx.u1 (X86 N) aC func86 [13] (h86 N) (by rw[amS];rfl)⟩
def X87:Fx:=⟨37,tab,Kn.l [k93 N],N,f87,[.v LU,.v LU],[.own U],[⟨9,[(0,.v LU),(1,.v LU),(5,.own U),(6,.v U),(7,.v I)],[1,1,1,0,1,0,0],[]⟩],none⟩
theorem as5(K ρ):(X87 N).bd K ρ 9=FC.dU N ((X87 N).kc ρ 9):=κ
theorem as6(ρ):(X87 N).kc ((X87 N).ct ρ) 9=FC.l4 N N:=Fx.uL [] (as5 N) ρ (FC.l4 N) λn ρ' e d=>by rw[e];rfl
theorem h87(K):(X87 N).top K=FC.b N ((X87 N).kc K 9):=κ
def k87:Kn prog:=⟨87,(X87 N).S false (FC N),Fx.u1 (X87 N) aC func87 [9] (h87 N) (by rw[as6];rfl)⟩
def X28:Fx:=⟨40,tab,Kn.l [k85 N,k82 N,k86 N,k87 N],N,f28,[.v dk,.v dk],[.v dk],[],none⟩
def TQ:Kn prog:=⟨28,(X28 N).S false (BE N),Fx.u0 (X28 N) aC func28⟩
def as7:Fx:=⟨28,tab,Kn.l [k93 N],N,f150,[.v dk],[.v I,.v B],[],none⟩
def IU:Kn prog:=⟨150,(as7 N).S true (xV N),Fx.u0 (as7 N) aC func150⟩
def as8:Fx:=⟨18,tab,Kn.l [IU N],N,f258,[.v dk],[.v I,.v B],[],none⟩
def as9:Kn prog:=⟨258,(as8 N).S true (SN N),Fx.u0 (as8 N) aC func258⟩
def lE:Fx:=⟨106,tab,Kn.l [Az N,TQ N,as9 N],N,f215,[.v cR,.v cR],[.own jZ,.v B],[⟨31,[(0,.v cR),(1,.v cR),(6,.own jZ),(7,.v I),(8,.v I),(9,.v I),(10,.v I),(11,.v B),(12,.obj dk),(13,.v I)],[1,1,1,0,1,0,0,1,0,0,1,0,0,1,0,0,1,1,1,0,1,0,0],[9,15]⟩,⟨26,[(0,.v cR),(1,.v cR),(6,.own jZ),(7,.v I),(8,.v I),(9,.v I),(10,.v I),(11,.v B)],[1,1,1,0,1,0,0,1,0,0,1,0,0,1,0,0,1,1],[9,15]⟩,⟨15,[(0,.v cR),(1,.v cR),(6,.own jZ),(7,.v I),(8,.v I),(9,.v I)],[1,1,1,0,1,0,0,1,0,0,1,0,0],[9]⟩,⟨9,[(0,.v cR),(1,.v cR),(6,.own jZ),(7,.v I),(8,.v I)],[1,1,1,0,1,0,0],[]⟩],none⟩
theorem afr(K ρ):(lE N).bd K ρ 31=cP.JC N ((lE N).kc ρ 9) ((lE N).kc ρ 15) ((lE N).kc ρ 31):=κ
theorem afs(ρ):(lE N).kc ((lE N).ct ρ) 31=cP.Ks N ((lE N).kc ρ 9) ((lE N).kc ρ 15) N:=Fx.uL [] (afr N) ρ (cP.Ks N ((lE N).kc ρ 9) ((lE N).kc ρ 15)) λn ρ' e d=>by rw[e,d 9 rfl,d 15 rfl];rfl
theorem aft(K ρ):(lE N).bd K ρ 26=cP.Mf N ((lE N).kc K 31) ((lE N).kc ρ 9) ((lE N).kc ρ 15):=κ
theorem afu(ρ):(lE N).kc ((lE N).ct ρ) 26=cP.UD N ((lE N).kc ρ 9) ((lE N).kc ρ 15):=Fx.uJ [31] (aft N) ρ (by rw[afs];rfl)
theorem afv(K ρ):(lE N).bd K ρ 15=cP.oP N ((lE N).kc K 26) ((lE N).kc ρ 9) ((lE N).kc ρ 15):=κ
theorem afw(ρ):(lE N).kc ((lE N).ct ρ) 15=cP.l7 N ((lE N).kc ρ 9) N:=Fx.uL [26,31] (afv N) ρ (cP.l7 N ((lE N).kc ρ 9)) λn ρ' e d=>by rw[afu,e,d 9 rfl];rfl
theorem amT(K ρ):(lE N).bd K ρ 9=cP.dU N ((lE N).kc K 15) ((lE N).kc ρ 9):=κ
theorem amU(ρ):(lE N).kc ((lE N).ct ρ) 9=cP.l4 N N:=Fx.uL [15] (amT N) ρ (cP.l4 N) λn ρ' e d=>by rw[afw,e];rfl
theorem ayi(K):(lE N).top K=cP.b N ((lE N).kc K 9):=κ
def ayj:Kn prog:=⟨215,(lE N).S false (cP N),Fx.u1 (lE N) aC func215 [9] (ayi N) (by rw[amU];rfl)⟩
def Rf:Fx:=⟨53,tab,Kn.l [TQ N,Az N,IU N],N,f259,[.v I,.v I,.v I,.v py],[.v I,.v B],[⟨7,[(0,.v I),(1,.v I),(2,.v I),(3,.v py),(10,.obj dk),(11,.v B),(12,.v I)],[1,1,0,1,0,0],[]⟩],none⟩
theorem amV(K ρ):(Rf N).bd K ρ 7=oy.nw N ((Rf N).kc ρ 7):=κ
theorem amW(ρ):(Rf N).kc ((Rf N).ct ρ) 7=oy.l3 N N:=Fx.uL [] (amV N) ρ (oy.l3 N) λn ρ' e d=>by rw[e];rfl
theorem ayk(K):(Rf N).top K=oy.b N ((Rf N).kc K 7):=κ
def ayl:Kn prog:=⟨259,(Rf N).S true (oy N),Fx.u1 (Rf N) aC func259 [7] (ayk N) (by rw[amW];rfl)⟩
def rz:Fx:=⟨69,tab,Kn.l [ayl N],N,f216,[.v cR,.v py],[.own jZ,.v B],[⟨26,[(0,.v cR),(1,.v py),(6,.own jZ),(7,.v I),(8,.v I),(9,.v I),(10,.v I)],[1,1,1,0,1,0,0,1,0,0,1,0,0,1,0,0,1,1],[9,15]⟩,⟨15,[(0,.v cR),(1,.v py),(6,.own jZ),(7,.v I),(8,.v I),(9,.v I)],[1,1,1,0,1,0,0,1,0,0,1,0,0],[9]⟩,⟨9,[(0,.v cR),(1,.v py),(6,.own jZ),(7,.v I),(8,.v I)],[1,1,1,0,1,0,0],[]⟩],none⟩
theorem afx(K ρ):(rz N).bd K ρ 26=dS.Mf N ((rz N).kc ρ 9) ((rz N).kc ρ 15):=κ
theorem afy(ρ):(rz N).kc ((rz N).ct ρ) 26=dS.UD N ((rz N).kc ρ 9) ((rz N).kc ρ 15):=Fx.uJ [] (afx N) ρ
theorem afz(K ρ):(rz N).bd K ρ 15=dS.oP N ((rz N).kc K 26) ((rz N).kc ρ 9) ((rz N).kc ρ 15):=κ
theorem afA(ρ):(rz N).kc ((rz N).ct ρ) 15=dS.l7 N ((rz N).kc ρ 9) N:=Fx.uL [26] (afz N) ρ (dS.l7 N ((rz N).kc ρ 9)) λn ρ' e d=>by rw[afy,e,d 9 rfl];rfl
theorem amX(K ρ):(rz N).bd K ρ 9=dS.dU N ((rz N).kc K 15) ((rz N).kc ρ 9):=κ
theorem amY(ρ):(rz N).kc ((rz N).ct ρ) 9=dS.l4 N N:=Fx.uL [15] (amX N) ρ (dS.l4 N) λn ρ' e d=>by rw[afA,e];rfl
theorem aym(K):(rz N).top K=dS.b N ((rz N).kc K 9):=κ
def ayn:Kn prog:=⟨216,(rz N).S false (dS N),Fx.u1 (rz N) aC func216 [9] (aym N) (by rw[amY];rfl)⟩
def ata:Fx:=⟨36,tab,Kn.l [ayj N,ayn N],N,f154,[.v aJ,.v cR,.v py],[.v aJ,.v I],[],none⟩
def Rg:Kn prog:=⟨154,(ata N).S false (zt N),Fx.u0 (ata N) aC func154⟩
def atb:Fx:=⟨34,tab,Kn.l [Az N,abB N,Rg N],N,f250,[.v dQ,.v I,.v I,.v I,.v I,.v I],[.v dQ,.v jZ],[],none⟩
def ayo:Kn prog:=⟨250,(atb N).S false (P6 N),Fx.u0 (atb N) aC func250⟩
def Rh:Fx:=⟨33,tab,Kn.l [k84 N,Az N,TQ N],N,f117,[.v cR,.v I],[.v dk],[⟨11,[(0,.v cR),(1,.v I),(4,.obj dk),(5,.obj dk),(6,.v I)],[1,1,1,0,1,0,0],[]⟩],none⟩
theorem afB(K ρ):(Rh N).bd K ρ 11=p7.eA N ((Rh N).kc ρ 11):=κ
theorem afC(ρ):(Rh N).kc ((Rh N).ct ρ) 11=p7.l5 N N:=Fx.uL [] (afB N) ρ (p7.l5 N) λn ρ' e d=>by rw[e];rfl
theorem ayp(K):(Rh N).top K=p7.b N ((Rh N).kc K 11):=κ
def ayq:Kn prog:=⟨117,(Rh N).S false (p7 N),Fx.u1 (Rh N) aC func117 [11] (ayp N) (by rw[afC];rfl)⟩
def X44:Fx:=⟨9,tab,[],N,f44,[.v dk],[.v I],[],none⟩
def k44:Kn prog:=⟨44,(X44 N).S true (Sq N),Fx.u0 (X44 N) aC func44⟩
def X43:Fx:=⟨15,tab,Kn.l [ayq N,k44 N,k84 N],N,f43,[.v cR],[.v B],[⟨5,[(0,.v cR),(3,.v I)],[1,0,1,0,0],[]⟩],none⟩
theorem atc(K ρ):(X43 N).bd K ρ 5=Ee.fG N ((X43 N).kc ρ 5):=κ
theorem atd(ρ):(X43 N).kc ((X43 N).ct ρ) 5=Ee.l2 N N:=Fx.uL [] (atc N) ρ (Ee.l2 N) λn ρ' e d=>by rw[e];rfl
theorem h43(K):(X43 N).top K=Ee.b N ((X43 N).kc K 5):=κ
def k43:Kn prog:=⟨43,(X43 N).S true (Ee N),Fx.u1 (X43 N) aC func43 [5] (h43 N) (by rw[atd];rfl)⟩
def ate:Fx:=⟨9,tab,[],N,f115,[.v I],[.v B],[],none⟩
def TR:Kn prog:=⟨115,(ate N).S true (EZ N),Fx.u0 (ate N) aC func115⟩
def atf:Fx:=⟨56,tab,Kn.l [TR N],N,f185,[.v nn],[.v B],[],none⟩
def afD:Kn prog:=⟨185,(atf N).S true (SC N),Fx.u0 (atf N) aC func185⟩
def Ri:Fx:=⟨37,tab,Kn.l [afD N],N,f113,[.v lD],[.v B],[⟨9,[(0,.v lD),(3,.v I)],[1,1,0,1,0,0],[]⟩],none⟩
theorem amZ(K ρ):(Ri N).bd K ρ 9=nJ.dU N ((Ri N).kc ρ 9):=κ
theorem am0(ρ):(Ri N).kc ((Ri N).ct ρ) 9=nJ.l4 N N:=Fx.uL [] (amZ N) ρ (nJ.l4 N) λn ρ' e d=>by rw[e];rfl
theorem ayr(K):(Ri N).top K=nJ.b N ((Ri N).kc K 9):=κ
def XL:Kn prog:=⟨113,(Ri N).S true (nJ N),Fx.u1 (Ri N) aC func113 [9] (ayr N) (by rw[am0];rfl)⟩
def X45:Fx:=⟨24,tab,Kn.l [k88 N,Az N,TQ N],N,f45,[.v cR],[.v dk],[⟨11,[(0,.v cR),(2,.obj dk),(3,.obj dk),(4,.v I)],[1,1,1,0,1,0,0],[]⟩],none⟩
theorem am1(K ρ):(X45 N).bd K ρ 11=CY.eA N ((X45 N).kc ρ 11):=κ
theorem am2(ρ):(X45 N).kc ((X45 N).ct ρ) 11=CY.l5 N N:=Fx.uL [] (am1 N) ρ (CY.l5 N) λn ρ' e d=>by rw[e];rfl
theorem h45(K):(X45 N).top K=CY.b N ((X45 N).kc K 11):=κ
def k45:Kn prog:=⟨45,(X45 N).S false (CY N),Fx.u1 (X45 N) aC func45 [11] (h45 N) (by rw[am2];rfl)⟩
def atg:Fx:=⟨19,tab,Kn.l [k48 N],N,f114,[.v aJ,.v I],[.v B],[],none⟩
def ath:Kn prog:=⟨114,(atg N).S true (Ma N),Fx.u0 (atg N) aC func114⟩
def X22:Fx:=⟨11,tab,Kn.l [k69 N,k70 N],N,f22,[.v dH,.v I],[.v I],[],none⟩
def k22:Kn prog:=⟨22,(X22 N).S true (Uu N),Fx.u0 (X22 N) aC func22⟩
def IV:Fx:=⟨163,tab,Kn.l [TP N,amF N,k88 N,k43 N,XL N,k45 N,k44 N,ath N,k22 N,TR N],N,f41,[.v aA,.v aJ],[.v B],[⟨45,[(2,.obj aA),(3,.obj aJ),(9,.v I)],[1,1,1,1,1,1,0,1,0,0],[]⟩,⟨35,[(2,.obj aA),(3,.obj aJ),(8,.v I)],[1,1,1,1,1,0,1,0,0],[]⟩,⟨25,[(2,.obj aA),(3,.obj aJ),(7,.v I)],[1,1,1,1,0,1,0,0],[]⟩,⟨13,[(2,.obj aA),(3,.obj aJ),(5,.v I)],[1,1,1,0,1,0,0],[]⟩],none⟩
theorem am4(K ρ):(IV N).bd K ρ 45=gH.wW N ((IV N).kc ρ 45):=κ
theorem am5(ρ):(IV N).kc ((IV N).ct ρ) 45=gH.yc N N:=Fx.uL [] (am4 N) ρ (gH.yc N) λn ρ' e d=>by rw[e];rfl
theorem am6(K ρ):(IV N).bd K ρ 35=gH.E3 N ((IV N).kc K 45) ((IV N).kc ρ 35):=κ
theorem am7(ρ):(IV N).kc ((IV N).ct ρ) 35=gH.FG N N:=Fx.uL [45] (am6 N) ρ (gH.FG N) λn ρ' e d=>by rw[am5,e];rfl
theorem am8(K ρ):(IV N).bd K ρ 25=gH.nK N ((IV N).kc K 35) ((IV N).kc ρ 25):=κ
theorem am9(ρ):(IV N).kc ((IV N).ct ρ) 25=gH.oM N N:=Fx.uL [35,45] (am8 N) ρ (gH.oM N) λn ρ' e d=>by rw[am7,e];rfl
theorem ana(K ρ):(IV N).bd K ρ 13=gH.uU N ((IV N).kc K 25) ((IV N).kc ρ 13):=κ
theorem anb(ρ):(IV N).kc ((IV N).ct ρ) 13=gH.l6 N N:=Fx.uL [25,35,45] (ana N) ρ (gH.l6 N) λn ρ' e d=>by rw[am9,e];rfl
theorem h41(K):(IV N).top K=gH.b N ((IV N).kc K 13):=κ
def Lm:Kn prog:=⟨41,(IV N).S true (gH N),Fx.u1 (IV N) aC func41 [13,25,35,45] (h41 N) (by rw[anb];rfl)⟩
def X34:Fx:=⟨9,tab,Kn.l [k52 N,TQ N],N,f34,[.v dk,.v dk],[.v dk],[],none⟩
def k34:Kn prog:=⟨34,(X34 N).S false (Uo N),Fx.u0 (X34 N) aC func34⟩
def Rj:Fx:=⟨39,tab,Kn.l [k84 N],N,f148,[.v cR,.v I],[.own kM],[⟨11,[(0,.v cR),(1,.v I),(5,.own kM),(6,.v I)],[1,1,1,0,1,0,0],[]⟩],none⟩
theorem afE(K ρ):(Rj N).bd K ρ 11=mL.eA N ((Rj N).kc ρ 11):=κ
theorem afF(ρ):(Rj N).kc ((Rj N).ct ρ) 11=mL.l5 N N:=Fx.uL [] (afE N) ρ (mL.l5 N) λn ρ' e d=>by rw[e];rfl
theorem ays(K):(Rj N).top K=mL.b N ((Rj N).kc K 11):=κ
def XM:Kn prog:=⟨148,(Rj N).S false (mL N),Fx.u1 (Rj N) aC func148 [11] (ays N) (by rw[afF];rfl)⟩
def zy:Fx:=⟨74,tab,[],N,f204,[.v lD,.v I],[.own jZ],[⟨15,[(0,.v lD),(1,.v I),(5,.own jZ),(6,.v I),(7,.obj jZ),(8,.v I)],[1,1,0,1,0,0,1,0,0,1,0,1,0,0],[7]⟩,⟨7,[(0,.v lD),(1,.v I),(5,.own jZ),(6,.v I)],[1,1,0,1,0,0],[]⟩],none⟩
theorem afG(K ρ):(zy N).bd K ρ 15=iM.oP N ((zy N).kc ρ 7) ((zy N).kc ρ 15):=κ
theorem afH(ρ):(zy N).kc ((zy N).ct ρ) 15=iM.l7 N ((zy N).kc ρ 7) N:=Fx.uL [] (afG N) ρ (iM.l7 N ((zy N).kc ρ 7)) λn ρ' e d=>by rw[e,d 7 rfl];rfl
theorem ane(K ρ):(zy N).bd K ρ 7=iM.nw N ((zy N).kc K 15) ((zy N).kc ρ 7):=κ
theorem anf(ρ):(zy N).kc ((zy N).ct ρ) 7=iM.l3 N N:=Fx.uL [15] (ane N) ρ (iM.l3 N) λn ρ' e d=>by rw[afH,e];rfl
theorem ayt(K):(zy N).top K=iM.b N ((zy N).kc K 7):=κ
def ang:Kn prog:=⟨204,(zy N).S false (iM N),Fx.u1 (zy N) aC func204 [7] (ayt N) (by rw[anf];rfl)⟩
def Rk:Fx:=⟨66,tab,Kn.l [TP N],N,f239,[.v aA,.v dH],[.v B],[⟨9,[(1,.v dH),(2,.obj aA),(5,.v I)],[1,1,0,1,0,0],[]⟩],none⟩
theorem anh(K ρ):(Rk N).bd K ρ 9=ov.dU N ((Rk N).kc ρ 9):=κ
theorem ani(ρ):(Rk N).kc ((Rk N).ct ρ) 9=ov.l4 N N:=Fx.uL [] (anh N) ρ (ov.l4 N) λn ρ' e d=>by rw[e];rfl
theorem ayu(K):(Rk N).top K=ov.b N ((Rk N).kc K 9):=κ
def afI:Kn prog:=⟨239,(Rk N).S true (ov N),Fx.u1 (Rk N) aC func239 [9] (ayu N) (by rw[ani];rfl)⟩
def Rl:Fx:=⟨79,tab,Kn.l [TP N],N,f240,[.v aA,.v cR],[.v B],[⟨11,[(1,.v cR),(2,.obj aA),(5,.v I),(6,.v I)],[1,1,1,0,1,0,0],[]⟩],none⟩
theorem afJ(K ρ):(Rl N).bd K ρ 11=rn.eA N ((Rl N).kc ρ 11):=κ
theorem afK(ρ):(Rl N).kc ((Rl N).ct ρ) 11=rn.l5 N N:=Fx.uL [] (afJ N) ρ (rn.l5 N) λn ρ' e d=>by rw[e];rfl
theorem ayv(K):(Rl N).top K=rn.b N ((Rl N).kc K 11):=κ
def ati:Kn prog:=⟨240,(Rl N).S true (rn N),Fx.u1 (Rl N) aC func240 [11] (ayv N) (by rw[afK];rfl)⟩
def X33:Fx:=⟨6,tab,Kn.l [k82 N],N,f33,[.v dk],[.v dk],[],none⟩
def k33:Kn prog:=⟨33,(X33 N).S false (Zb N),Fx.u0 (X33 N) aC func33⟩
def X30:Fx:=⟨9,tab,Kn.l [k34 N,k44 N],N,f30,[.v dk,.v dk],[.v I],[],none⟩
def k30:Kn prog:=⟨30,(X30 N).S true (R3 N),Fx.u0 (X30 N) aC func30⟩
def Dz:Fx:=⟨96,tab,Kn.l [afI N,ati N,Az N,TQ N,k33 N,k34 N,k30 N],N,f203,[.v aA,.v dH,.v cR,.v I],[.v dk,.v I],[⟨25,[(2,.v cR),(3,.v I),(8,.obj dk),(10,.obj dk),(11,.obj dk),(12,.obj dk),(14,.v I)],[1,1,1,1,1,0,1,0,0],[]⟩,⟨15,[(1,.v dH),(2,.v cR),(3,.v I),(8,.obj dk),(10,.obj dk),(11,.obj dk),(12,.obj dk),(13,.v I)],[1,1,1,1,0,1,0,0],[]⟩],none⟩
theorem afM(K ρ):(Dz N).bd K ρ 25=jS.nK N ((Dz N).kc ρ 25):=κ
theorem afN(ρ):(Dz N).kc ((Dz N).ct ρ) 25=jS.oM N N:=Fx.uL [] (afM N) ρ (jS.oM N) λn ρ' e d=>by rw[e];rfl
theorem afO(K ρ):(Dz N).bd K ρ 15=jS.oP N ((Dz N).kc K 25) ((Dz N).kc ρ 15):=κ
theorem afP(ρ):(Dz N).kc ((Dz N).ct ρ) 15=jS.l7 N N:=Fx.uL [25] (afO N) ρ (jS.l7 N) λn ρ' e d=>by rw[afN,e];rfl
theorem ayw(K):(Dz N).top K=jS.b N ((Dz N).kc K 15):=κ
def atj:Kn prog:=⟨203,(Dz N).S false (jS N),Fx.u1 (Dz N) aC func203 [15,25] (ayw N) (by rw[afP];rfl)⟩
def FV:Fx:=⟨71,tab,Kn.l [k93 N,k82 N],N,f32,[.v dk,.v dk],[.v dk],[⟨18,[(2,.obj dk),(3,.obj dk),(4,.obj dk),(5,.own U),(6,.v I),(7,.v U),(8,.v I)],[1,1,0,1,0,0,1,0,0,1,1,0,0,1],[7,15]⟩,⟨15,[(2,.obj dk),(3,.obj dk),(4,.obj dk),(5,.own U),(6,.v I),(7,.v U),(8,.v I)],[1,1,0,1,0,0,1,0,0,1,1,0,0],[7]⟩,⟨7,[(2,.obj dk),(3,.obj dk),(4,.obj dk),(5,.own U),(6,.v I)],[1,1,0,1,0,0],[]⟩],none⟩
theorem anj(K ρ):(FV N).bd K ρ 18=kO.Js N ((FV N).kc ρ 7) ((FV N).kc ρ 15):=κ
theorem ank(ρ):(FV N).kc ((FV N).ct ρ) 18=kO.j9 N ((FV N).kc ρ 7) ((FV N).kc ρ 15):=Fx.uJ [] (anj N) ρ
theorem anl(K ρ):(FV N).bd K ρ 15=kO.oP N ((FV N).kc K 18) ((FV N).kc ρ 7) ((FV N).kc ρ 15):=κ
theorem anm(ρ):(FV N).kc ((FV N).ct ρ) 15=kO.l7 N ((FV N).kc ρ 7) N:=Fx.uL [18] (anl N) ρ (kO.l7 N ((FV N).kc ρ 7)) λn ρ' e d=>by rw[ank,e,d 7 rfl];rfl
theorem atk(K ρ):(FV N).bd K ρ 7=kO.nw N ((FV N).kc K 15) ((FV N).kc ρ 7):=κ
theorem atl(ρ):(FV N).kc ((FV N).ct ρ) 7=kO.l3 N N:=Fx.uL [15] (atk N) ρ (kO.l3 N) λn ρ' e d=>by rw[anm,e];rfl
theorem h32(K):(FV N).top K=kO.b N ((FV N).kc K 7):=κ
def k32:Kn prog:=⟨32,(FV N).S false (kO N),Fx.u1 (FV N) aC func32 [7] (h32 N) (by rw[atl];rfl)⟩
def Rm:Fx:=⟨50,tab,Kn.l [afI N,ati N,atj N,Az N,k32 N,TQ N],N,f231,[.v aA,.v dH,.v cR],[.v dk,.v I],[⟨11,[(1,.v dH),(2,.v cR),(3,.obj aA),(6,.obj dk),(8,.obj dk),(9,.v I)],[1,1,1,0,1,0,0],[]⟩],none⟩
theorem afQ(K ρ):(Rm N).bd K ρ 11=rp.eA N ((Rm N).kc ρ 11):=κ
theorem afR(ρ):(Rm N).kc ((Rm N).ct ρ) 11=rp.l5 N N:=Fx.uL [] (afQ N) ρ (rp.l5 N) λn ρ' e d=>by rw[e];rfl
theorem ayx(K):(Rm N).top K=rp.b N ((Rm N).kc K 11):=κ
def atm:Kn prog:=⟨231,(Rm N).S false (rp N),Fx.u1 (Rm N) aC func231 [11] (ayx N) (by rw[afR];rfl)⟩
def atn:Fx:=⟨31,tab,Kn.l [XM N,ang N,atm N],N,f180,[.v aA,.v aJ,.v I,.v lD],[.v dk],[],none⟩
def ato:Kn prog:=⟨180,(atn N).S false (Z8 N),Fx.u0 (atn N) aC func180⟩
def atp:Fx:=⟨63,tab,Kn.l [Lm N,k48 N,k22 N,k29 N,Az N,k34 N,ato N,k30 N,abB N,Rg N],N,f135,[.v aA,.v aJ,.v I,.v I],[.v aJ,.v I],[],none⟩
def ayy:Kn prog:=⟨135,(atp N).S false (W4 N),Fx.u0 (atp N) aC func135⟩
def atq:Fx:=⟨10,tab,Kn.l [k22 N],N,f251,[.v dQ,.v I],[.v I],[],none⟩
def atr:Kn prog:=⟨251,(atq N).S true (Ie N),Fx.u0 (atq N) aC func251⟩
def Rn:Fx:=⟨53,tab,Kn.l [XK N,afk N],N,f252,[.v fk,.v I,.v I],[.own e7,.v I],[⟨17,[(1,.v I),(2,.v I),(10,.own e7),(11,.v I)],[1,1,1,1,0,1,0,0],[]⟩],none⟩
theorem afS(K ρ):(Rn N).bd K ρ 17=oE.Ec N ((Rn N).kc ρ 17):=κ
theorem afT(ρ):(Rn N).kc ((Rn N).ct ρ) 17=oE.l8 N N:=Fx.uL [] (afS N) ρ (oE.l8 N) λn ρ' e d=>by rw[e];rfl
theorem ayz(K):(Rn N).top K=oE.b N ((Rn N).kc K 17):=κ
def ayA:Kn prog:=⟨252,(Rn N).S false (oE N),Fx.u1 (Rn N) aC func252 [17] (ayz N) (by rw[afT];rfl)⟩
def ats:Fx:=⟨36,tab,Kn.l [afD N,TR N,Az N,k32 N],N,f136,[.v nn,.v I],[.v dk,.v I],[],none⟩
def ayB:Kn prog:=⟨136,(ats N).S false (ady N),Fx.u0 (ats N) aC func136⟩
def att:Fx:=⟨104,tab,Kn.l [Lm N,afD N,k48 N,k22 N,XM N,ang N,atj N,Az N,k30 N,ayB N,k29 N,k34 N,ato N],N,f138,[.v aA,.v aJ,.v nn],[.v I],[],none⟩
def atu:Kn prog:=⟨138,(att N).S true (Z9 N),Fx.u0 (att N) aC func138⟩
def atv:Fx:=⟨24,tab,[],N,f268,[.v nn,.v nn],[.v B],[],none⟩
def ayC:Kn prog:=⟨268,(atv N).S true (W3 N),Fx.u0 (atv N) aC func268⟩
def tu:Fx:=⟨72,tab,Kn.l [XL N,ayC N],N,f238,[.v lD,.v I,.v I],[.own nn],[⟨22,[(0,.v lD),(1,.v I),(2,.v I),(7,.own nn),(8,.v I),(9,.v I)],[1,1,1,0,1,0,0,1,0,0,1,1,1],[11]⟩,⟨19,[(0,.v lD),(1,.v I),(2,.v I),(7,.own nn),(8,.v I),(9,.v I)],[1,1,1,0,1,0,0,1,0,0,1,1,0,0,0],[11]⟩,⟨11,[(0,.v lD),(1,.v I),(2,.v I),(7,.own nn),(8,.v I)],[1,1,1,0,1,0,0],[]⟩],none⟩
theorem afU(K ρ):(tu N).bd K ρ 22=et.yr N ((tu N).kc ρ 11):=κ
theorem afV(ρ):(tu N).kc ((tu N).ct ρ) 22=et.E9 N ((tu N).kc ρ 11):=Fx.uJ [] (afU N) ρ
theorem afW(K ρ):(tu N).bd K ρ 19=et.vN N ((tu N).kc K 22) ((tu N).kc ρ 11) ((tu N).kc ρ 19):=κ
theorem afX(ρ):(tu N).kc ((tu N).ct ρ) 19=et.l9 N ((tu N).kc ρ 11) N:=Fx.uL [22] (afW N) ρ (et.l9 N ((tu N).kc ρ 11)) λn ρ' e d=>by rw[afV,e,d 11 rfl];rfl
theorem afY(K ρ):(tu N).bd K ρ 11=et.eA N ((tu N).kc K 19) ((tu N).kc ρ 11):=κ
theorem afZ(ρ):(tu N).kc ((tu N).ct ρ) 11=et.l5 N N:=Fx.uL [19,22] (afY N) ρ (et.l5 N) λn ρ' e d=>by rw[afX,e];rfl
theorem ayD(K):(tu N).top K=et.b N ((tu N).kc K 11):=κ
def ayE:Kn prog:=⟨238,(tu N).S false (et N),Fx.u1 (tu N) aC func238 [11] (ayD N) (by rw[afZ];rfl)⟩
def ky:Fx:=⟨174,tab,Kn.l [XL N,afD N,ayE N],N,f202,[.v lD,.v nn],[.own nn,.own qo,.v I,.v I],[⟨49,[(8,.own nn),(9,.v I),(10,.own qo),(16,.own nn),(17,.v I)],[1,1,1,1,1,1,1,0,1,0,0],[]⟩,⟨44,[(8,.own nn),(9,.v I),(10,.own qo)],[1,1,1,1,1,1],[]⟩,⟨37,[(3,.obj nn),(8,.own nn),(9,.v I),(10,.own qo),(11,.own nn),(12,.v I),(13,.v I),(15,.v I)],[1,1,1,1,1,0,1,0,0,1,0,0,1,1,1,1,1,1,1,1,0,0],[15]⟩,⟨30,[(3,.obj nn),(8,.own nn),(9,.v I),(10,.own qo),(11,.own nn),(12,.v I),(13,.v I),(14,.obj qo)],[1,1,1,1,1,0,1,0,0,1,0,0,1,1,1,1,1],[15]⟩,⟨20,[(3,.obj nn),(8,.own nn),(9,.v I),(10,.own qo),(11,.own nn),(12,.v I)],[1,1,1,1,1,0,1,0,0,1,0,0,1],[15]⟩,⟨15,[(3,.obj nn),(8,.own nn),(9,.v I),(10,.own qo),(11,.own nn),(12,.v I)],[1,1,1,1,1,0,1,0,0],[]⟩],none⟩
theorem af0(K ρ):(ky N).bd K ρ 49=cA.PU N ((ky N).kc ρ 49):=κ
theorem af1(ρ):(ky N).kc ((ky N).ct ρ) 49=cA.Nm N N:=Fx.uL [] (af0 N) ρ (cA.Nm N) λn ρ' e d=>by rw[e];rfl
theorem af2(K ρ):(ky N).bd K ρ 44=cA.adG N ((ky N).kc K 49):=κ
theorem af3(ρ):(ky N).kc ((ky N).ct ρ) 44=cA.j22 N:=Fx.uJ [49] (af2 N) ρ (by rw[af1];rfl)
theorem af4(K ρ):(ky N).bd K ρ 37=cA.Fa N ((ky N).kc ρ 15) ((ky N).kc ρ 37):=κ
theorem af5(ρ):(ky N).kc ((ky N).ct ρ) 37=cA.I5 N ((ky N).kc ρ 15) N:=Fx.uL [44,49] (af4 N) ρ (cA.I5 N ((ky N).kc ρ 15)) λn ρ' e d=>by rw[e,d 15 rfl];rfl
theorem af6(K ρ):(ky N).bd K ρ 30=cA.wZ N ((ky N).kc K 37) ((ky N).kc ρ 15):=κ
theorem af7(ρ):(ky N).kc ((ky N).ct ρ) 30=cA.Dg N ((ky N).kc ρ 15):=Fx.uJ [44,49,37] (af6 N) ρ (by rw[af5];rfl)
theorem af8(K ρ):(ky N).bd K ρ 20=cA.Dh N ((ky N).kc K 30) ((ky N).kc ρ 15):=κ
theorem af9(ρ):(ky N).kc ((ky N).ct ρ) 20=cA.JJ N ((ky N).kc ρ 15):=Fx.uJ [44,49,30,37] (af8 N) ρ (by rw[af7];rfl)
theorem aga(K ρ):(ky N).bd K ρ 15=cA.oP N ((ky N).kc K 44) ((ky N).kc K 20) ((ky N).kc ρ 15):=κ
theorem agb(ρ):(ky N).kc ((ky N).ct ρ) 15=cA.l7 N N:=Fx.uL [44,49,20,30,37] (aga N) ρ (cA.l7 N) λn ρ' e d=>by rw[af3,af9,e];rfl
theorem ayF(K):(ky N).top K=cA.b N ((ky N).kc K 15):=κ
def ayG:Kn prog:=⟨202,(ky N).S false (cA N),Fx.u1 (ky N) aC func202 [15,44,49] (ayF N) (by rw[agb];rfl)⟩
def atw:Fx:=⟨53,tab,Kn.l [TR N],N,f177,[.v qo],[.v B],[],none⟩
def atx:Kn prog:=⟨177,(atw N).S true (ZK N),Fx.u0 (atw N) aC func177⟩
def aty:Fx:=⟨7,tab,[],N,f230,[.v I],[.v I,.v I],[],none⟩
def atz:Kn prog:=⟨230,(aty N).S true (Ml N),Fx.u0 (aty N) aC func230⟩
def atA:Fx:=⟨53,tab,Kn.l [atx N,TR N,Az N,k32 N,k44 N,atz N,k52 N],N,f178,[.v qo,.v I],[.own s7,.v I],[],none⟩
def ayH:Kn prog:=⟨178,(atA N).S false (Pm N),Fx.u0 (atA N) aC func178⟩
def DA:Fx:=⟨107,tab,Kn.l [Lm N,atx N,ath N,ayH N,Rg N],N,f105,[.v aA,.v aJ,.v zu],[.v aJ,.v I],[⟨23,[(2,.v zu),(3,.obj aA),(4,.obj aJ),(6,.obj aJ),(9,.own jZ),(10,.own s7),(11,.v I)],[1,1,1,1,1,0,1,0,0],[]⟩,⟨9,[(2,.v zu),(3,.obj aA),(4,.obj aJ),(6,.obj aJ),(8,.v I)],[1,1,0,1,0,0],[]⟩],none⟩
theorem agc(K ρ):(DA N).bd K ρ 23=fm.yf N ((DA N).kc ρ 23):=κ
theorem agd(ρ):(DA N).kc ((DA N).ct ρ) 23=fm.Al N N:=Fx.uL [] (agc N) ρ (fm.Al N) λn ρ' e d=>by rw[e];rfl
theorem ann(K ρ):(DA N).bd K ρ 9=fm.dU N ((DA N).kc K 23) ((DA N).kc ρ 9):=κ
theorem ano(ρ):(DA N).kc ((DA N).ct ρ) 9=fm.l4 N N:=Fx.uL [23] (ann N) ρ (fm.l4 N) λn ρ' e d=>by rw[agd,e];rfl
theorem ayI(K):(DA N).top K=fm.b N ((DA N).kc K 9):=κ
def atB:Kn prog:=⟨105,(DA N).S false (fm N),Fx.u1 (DA N) aC func105 [9,23] (ayI N) (by rw[ano];rfl)⟩
def IW:Fx:=⟨85,tab,Kn.l [atu N,ayG N,atB N],N,f134,[.v aA,.v aJ,.v nn],[.v aJ,.v zu,.v I,.v I],[⟨20,[(3,.obj aA),(4,.obj aJ),(5,.obj nn),(6,.obj aJ),(12,.own nn),(13,.own qo),(14,.v I)],[1,1,1,1,1],[]⟩,⟨14,[(3,.obj aA),(4,.obj aJ),(5,.obj nn),(6,.obj aJ)],[1,1,1],[]⟩],none⟩
theorem age(K ρ):(IW N).bd K ρ 20=jT.Dh N:=κ
theorem agf(ρ):(IW N).kc ((IW N).ct ρ) 20=jT.JJ N:=Fx.uJ [] (age N) ρ
theorem agh(K ρ):(IW N).bd K ρ 14=jT.XV N ((IW N).kc K 20):=κ
theorem agi(ρ):(IW N).kc ((IW N).ct ρ) 14=jT.j7 N:=Fx.uJ [20] (agh N) ρ (by rw[agf];rfl)
theorem ayJ(K):(IW N).top K=jT.b N ((IW N).kc K 14):=κ
def ayK:Kn prog:=⟨134,(IW N).S false (jT N),Fx.u1 (IW N) aC func134 [14,20] (ayJ N) (by rw[agi];rfl)⟩
def Ro:Fx:=⟨48,tab,Kn.l [XL N],N,f253,[.v lD,.v I,.v I],[.own nn,.v I],[⟨11,[(0,.v lD),(1,.v I),(2,.v I),(8,.own nn),(9,.v I)],[1,1,1,0,1,0,0],[]⟩],none⟩
theorem agj(K ρ):(Ro N).bd K ρ 11=oG.eA N ((Ro N).kc ρ 11):=κ
theorem agk(ρ):(Ro N).kc ((Ro N).ct ρ) 11=oG.l5 N N:=Fx.uL [] (agj N) ρ (oG.l5 N) λn ρ' e d=>by rw[e];rfl
theorem ayL(K):(Ro N).top K=oG.b N ((Ro N).kc K 11):=κ
def ayM:Kn prog:=⟨253,(Ro N).S false (oG N),Fx.u1 (Ro N) aC func253 [11] (ayL N) (by rw[agk];rfl)⟩
def Rp:Fx:=⟨76,tab,Kn.l [k84 N,TR N,Az N,k34 N,k44 N,atz N,k32 N],N,f179,[.v cR,.v I,.v I,.v I],[.own s7,.v I],[⟨13,[(0,.v cR),(1,.v I),(10,.own s7),(11,.obj dk),(12,.v I)],[1,1,1,1,0,1,0,0],[]⟩],none⟩
theorem agl(K ρ):(Rp N).bd K ρ 13=kf.uU N ((Rp N).kc ρ 13):=κ
theorem agm(ρ):(Rp N).kc ((Rp N).ct ρ) 13=kf.l6 N N:=Fx.uL [] (agl N) ρ (kf.l6 N) λn ρ' e d=>by rw[e];rfl
theorem ayN(K):(Rp N).top K=kf.b N ((Rp N).kc K 13):=κ
def ayO:Kn prog:=⟨179,(Rp N).S false (kf N),Fx.u1 (Rp N) aC func179 [13] (ayN N) (by rw[agm];rfl)⟩
def atC:Fx:=⟨70,tab,Kn.l [Lm N,TR N,ayO N,Rg N],N,f106,[.v aA,.v aJ,.v I,.v I],[.v aJ,.v py,.v I],[],some (aJ,[.iD 4],I,[5,13])⟩
def ayP:Kn prog:=⟨106,(atC N).S false (PV N),Fx.u0 (atC N) aC func106⟩
def Rq:Fx:=⟨50,tab,[],N,f272,[.v dH],[.v B],[⟨5,[(0,.v dH),(3,.v I)],[1,0,1,0,0],[]⟩],none⟩
theorem anp(K ρ):(Rq N).bd K ρ 5=rq.fG N ((Rq N).kc ρ 5):=κ
theorem anq(ρ):(Rq N).kc ((Rq N).ct ρ) 5=rq.l2 N N:=Fx.uL [] (anp N) ρ (rq.l2 N) λn ρ' e d=>by rw[e];rfl
theorem ayQ(K):(Rq N).top K=rq.b N ((Rq N).kc K 5):=κ
def atD:Kn prog:=⟨272,(Rq N).S true (rq N),Fx.u1 (Rq N) aC func272 [5] (ayQ N) (by rw[anq];rfl)⟩
def rA:Fx:=⟨84,tab,Kn.l [atD N,Az N,TQ N,IU N],N,f254,[.v dH,.v py],[.own kM,.v I],[⟨29,[(0,.v dH),(1,.v py),(6,.own kM),(7,.v I),(8,.obj dk),(10,.v I)],[1,1,1,0,1,0,0,1,0,0,1,1,0,1,0,0],[11]⟩,⟨19,[(0,.v dH),(1,.v py),(6,.own kM),(7,.v I),(8,.obj dk),(9,.v I)],[1,1,1,0,1,0,0,1,0,0,1,0,1,0,0],[11]⟩,⟨11,[(0,.v dH),(1,.v py),(6,.own kM),(7,.v I)],[1,1,1,0,1,0,0],[]⟩],none⟩
theorem agn(K ρ):(rA N).bd K ρ 29=fp.HM N ((rA N).kc ρ 11) ((rA N).kc ρ 29):=κ
theorem ago(ρ):(rA N).kc ((rA N).ct ρ) 29=fp.KI N ((rA N).kc ρ 11) N:=Fx.uL [] (agn N) ρ (fp.KI N ((rA N).kc ρ 11)) λn ρ' e d=>by rw[e,d 11 rfl];rfl
theorem agp(K ρ):(rA N).bd K ρ 19=fp.vN N ((rA N).kc K 29) ((rA N).kc ρ 11) ((rA N).kc ρ 19):=κ
theorem agq(ρ):(rA N).kc ((rA N).ct ρ) 19=fp.l9 N ((rA N).kc ρ 11) N:=Fx.uL [29] (agp N) ρ (fp.l9 N ((rA N).kc ρ 11)) λn ρ' e d=>by rw[ago,e,d 11 rfl];rfl
theorem agr(K ρ):(rA N).bd K ρ 11=fp.eA N ((rA N).kc K 19) ((rA N).kc ρ 11):=κ
theorem ags(ρ):(rA N).kc ((rA N).ct ρ) 11=fp.l5 N N:=Fx.uL [19,29] (agr N) ρ (fp.l5 N) λn ρ' e d=>by rw[agq,e];rfl
theorem ayR(K):(rA N).top K=fp.b N ((rA N).kc K 11):=κ
def ayS:Kn prog:=⟨254,(rA N).S false (fp N),Fx.u1 (rA N) aC func254 [11] (ayR N) (by rw[ags];rfl)⟩
def atE:Fx:=⟨15,tab,Kn.l [Az N,TQ N,IU N],N,f255,[.v dQ,.v I],[.v I,.v B],[],none⟩
def anr:Kn prog:=⟨255,(atE N).S true (Xg N),Fx.u0 (atE N) aC func255⟩
def atG:Fx:=⟨41,tab,[],N,f281,[.v I,.v I],[.v I,.v B],[],none⟩
def ayT:Kn prog:=⟨281,(atG N).S true (W1 N),Fx.u0 (atG N) aC func281⟩
def Rr:Fx:=⟨51,tab,Kn.l [k69 N,k70 N,ayT N],N,f273,[.v dH,.v I,.v I],[.own kM,.v I],[⟨23,[(1,.v I),(9,.v I),(11,.own kM),(12,.v I)],[1,1,1,1,1,1,1,0,1,0,0],[]⟩],none⟩
theorem agt(K ρ):(Rr N).bd K ρ 23=mN.yf N ((Rr N).kc ρ 23):=κ
theorem agu(ρ):(Rr N).kc ((Rr N).ct ρ) 23=mN.Al N N:=Fx.uL [] (agt N) ρ (mN.Al N) λn ρ' e d=>by rw[e];rfl
theorem ayU(K):(Rr N).top K=mN.b N ((Rr N).kc K 23):=κ
def atH:Kn prog:=⟨273,(Rr N).S false (mN N),Fx.u1 (Rr N) aC func273 [23] (ayU N) (by rw[agu];rfl)⟩
def Rs:Fx:=⟨33,tab,Kn.l [XK N],N,f182,[.v fk,.v I],[.own I],[⟨11,[(0,.v fk),(1,.v I),(5,.own I),(6,.v I)],[1,1,1,0,1,0,0],[]⟩],none⟩
theorem agv(K ρ):(Rs N).bd K ρ 11=sP.eA N ((Rs N).kc ρ 11):=κ
theorem agw(ρ):(Rs N).kc ((Rs N).ct ρ) 11=sP.l5 N N:=Fx.uL [] (agv N) ρ (sP.l5 N) λn ρ' e d=>by rw[e];rfl
theorem ayV(K):(Rs N).top K=sP.b N ((Rs N).kc K 11):=κ
def ayW:Kn prog:=⟨182,(Rs N).S false (sP N),Fx.u1 (Rs N) aC func182 [11] (ayV N) (by rw[agw];rfl)⟩
def zz:Fx:=⟨48,tab,Kn.l [XL N],N,f181,[.v lD,.v LI],[.own nn],[⟨19,[(0,.v lD),(1,.v LI),(5,.own nn),(6,.v I),(7,.v B),(8,.v I)],[1,1,1,0,1,0,0,1,0,0,1,0,1,0,0],[11]⟩,⟨11,[(0,.v lD),(1,.v LI),(5,.own nn),(6,.v I)],[1,1,1,0,1,0,0],[]⟩],none⟩
theorem agx(K ρ):(zz N).bd K ρ 19=gC.vN N ((zz N).kc ρ 11) ((zz N).kc ρ 19):=κ
theorem agy(ρ):(zz N).kc ((zz N).ct ρ) 19=gC.l9 N ((zz N).kc ρ 11) N:=Fx.uL [] (agx N) ρ (gC.l9 N ((zz N).kc ρ 11)) λn ρ' e d=>by rw[e,d 11 rfl];rfl
theorem agz(K ρ):(zz N).bd K ρ 11=gC.eA N ((zz N).kc K 19) ((zz N).kc ρ 11):=κ
theorem agA(ρ):(zz N).kc ((zz N).ct ρ) 11=gC.l5 N N:=Fx.uL [19] (agz N) ρ (gC.l5 N) λn ρ' e d=>by rw[agy,e];rfl
theorem ayX(K):(zz N).top K=gC.b N ((zz N).kc K 11):=κ
def ayY:Kn prog:=⟨181,(zz N).S false (gC N),Fx.u1 (zz N) aC func181 [11] (ayX N) (by rw[agA];rfl)⟩
def atI:Fx:=⟨28,tab,Kn.l [Lm N,k22 N,ayW N,ayY N],N,f108,[.v aA,.v aJ,.v I],[.v aJ,.v I],[],none⟩
def ayZ:Kn prog:=⟨108,(atI N).S false (ME N),Fx.u0 (atI N) aC func108⟩
def atJ:Fx:=⟨41,tab,[],N,f296,[.v e7],[.v B],[],none⟩
def atK:Kn prog:=⟨296,(atJ N).S true (Zo N),Fx.u0 (atJ N) aC func296⟩
def tv:Fx:=⟨67,tab,Kn.l [atK N],N,f282,[.v fk],[.v B],[⟨19,[(0,.v fk),(3,.v I),(4,.v I)],[1,1,0,1,0,0,1,0,0,1,1,0,0],[9]⟩,⟨16,[(0,.v fk),(3,.v I)],[1,1,0,1,0,0,1,0,0,1],[9]⟩,⟨9,[(0,.v fk),(3,.v I)],[1,1,0,1,0,0],[]⟩],none⟩
theorem agB(K ρ):(tv N).bd K ρ 19=e8.vN N ((tv N).kc ρ 9) ((tv N).kc ρ 19):=κ
theorem agC(ρ):(tv N).kc ((tv N).ct ρ) 19=e8.l9 N ((tv N).kc ρ 9) N:=Fx.uL [] (agB N) ρ (e8.l9 N ((tv N).kc ρ 9)) λn ρ' e d=>by rw[e,d 9 rfl];rfl
theorem agD(K ρ):(tv N).bd K ρ 16=e8.Zz N ((tv N).kc K 19) ((tv N).kc ρ 9):=κ
theorem agE(ρ):(tv N).kc ((tv N).ct ρ) 16=e8.j8 N ((tv N).kc ρ 9):=Fx.uJ [19] (agD N) ρ (by rw[agC];rfl)
theorem ans(K ρ):(tv N).bd K ρ 9=e8.dU N ((tv N).kc K 16) ((tv N).kc ρ 9):=κ
theorem ant(ρ):(tv N).kc ((tv N).ct ρ) 9=e8.l4 N N:=Fx.uL [16,19] (ans N) ρ (e8.l4 N) λn ρ' e d=>by rw[agE,e];rfl
theorem ay0(K):(tv N).top K=e8.b N ((tv N).kc K 9):=κ
def abC:Kn prog:=⟨282,(tv N).S true (e8 N),Fx.u1 (tv N) aC func282 [9] (ay0 N) (by rw[ant];rfl)⟩
def Rt:Fx:=⟨32,tab,Kn.l [abC N],N,f274,[.v fk,.v I],[.own e7],[⟨11,[(0,.v fk),(1,.v I),(5,.own e7),(6,.v I)],[1,1,1,0,1,0,0],[]⟩],none⟩
theorem agF(K ρ):(Rt N).bd K ρ 11=qm.eA N ((Rt N).kc ρ 11):=κ
theorem agG(ρ):(Rt N).kc ((Rt N).ct ρ) 11=qm.l5 N N:=Fx.uL [] (agF N) ρ (qm.l5 N) λn ρ' e d=>by rw[e];rfl
theorem ay1(K):(Rt N).top K=qm.b N ((Rt N).kc K 11):=κ
def ay2:Kn prog:=⟨274,(Rt N).S false (qm N),Fx.u1 (Rt N) aC func274 [11] (ay1 N) (by rw[agG];rfl)⟩
def atL:Fx:=⟨66,tab,[],N,f275,[.v dQ,.v I],[.v B],[],none⟩
def ay3:Kn prog:=⟨275,(atL N).S true (adT N),Fx.u0 (atL N) aC func275⟩
def atM:Fx:=⟨9,tab,Kn.l [k22 N],N,f151,[.v aJ,.v I],[.v I],[],none⟩
def agH:Kn prog:=⟨151,(atM N).S true (MF N),Fx.u0 (atM N) aC func151⟩
def Ru:Fx:=⟨56,tab,Kn.l [afI N,Az N,k33 N,k32 N,TQ N],N,f214,[.v aA,.v dH,.v B],[.v dk,.v I],[⟨11,[(1,.v dH),(2,.v B),(3,.obj aA),(6,.obj dk),(8,.obj dk),(9,.v I)],[1,1,1,0,1,0,0],[]⟩],none⟩
theorem agI(K ρ):(Ru N).bd K ρ 11=qK.eA N ((Ru N).kc ρ 11):=κ
theorem agJ(ρ):(Ru N).kc ((Ru N).ct ρ) 11=qK.l5 N N:=Fx.uL [] (agI N) ρ (qK.l5 N) λn ρ' e d=>by rw[e];rfl
theorem ay4(K):(Ru N).top K=qK.b N ((Ru N).kc K 11):=κ
def atN:Kn prog:=⟨214,(Ru N).S false (qK N),Fx.u1 (Ru N) aC func214 [11] (ay4 N) (by rw[agJ];rfl)⟩
def atO:Fx:=⟨11,tab,Kn.l [atN N],N,f316,[.v aA,.v dH],[.v dk,.v I],[],none⟩
def ay5:Kn prog:=⟨316,(atO N).S false (alk N),Fx.u0 (atO N) aC func316⟩
def atP:Fx:=⟨9,tab,Kn.l [k29 N],N,f149,[.v aJ,.v I],[.v I],[],none⟩
def agK:Kn prog:=⟨149,(atP N).S true (Tf N),Fx.u0 (atP N) aC func149⟩
def atS:Fx:=⟨69,tab,Kn.l [Lm N,k48 N,agH N,XM N,ay5 N,agK N,Az N,k30 N],N,f297,[.v aA,.v aJ,.v I,.v I,.v I],[.v I],[],none⟩
def ay6:Kn prog:=⟨297,(atS N).S true (adH N),Fx.u0 (atS N) aC func297⟩
def Rv:Fx:=⟨61,tab,Kn.l [amF N,afk N,k70 N],N,f298,[.v dH,.v fk,.v I,.v I],[.own e7,.v I],[⟨27,[(2,.v I),(3,.v I),(13,.own e7),(14,.v I)],[1,1,1,1,1,1,1,1,0,1,0,0],[]⟩],none⟩
theorem agL(K ρ):(Rv N).bd K ρ 27=oF.lq N ((Rv N).kc ρ 27):=κ
theorem agM(ρ):(Rv N).kc ((Rv N).ct ρ) 27=oF.mq N N:=Fx.uL [] (agL N) ρ (oF.mq N) λn ρ' e d=>by rw[e];rfl
theorem ay7(K):(Rv N).top K=oF.b N ((Rv N).kc K 27):=κ
def ay8:Kn prog:=⟨298,(Rv N).S false (oF N),Fx.u1 (Rv N) aC func298 [27] (ay7 N) (by rw[agM];rfl)⟩
def atT:Fx:=⟨42,tab,Kn.l [ay6 N,ay8 N],N,f283,[.v aA,.v aJ,.v I,.v I,.v I],[.v aJ,.v I],[],none⟩
def ay9:Kn prog:=⟨283,(atT N).S false (W5 N),Fx.u0 (atT N) aC func283⟩
def atU:Fx:=⟨11,tab,Kn.l [atN N],N,f147,[.v aA,.v dH],[.v dk,.v I],[],none⟩
def atV:Kn prog:=⟨147,(atU N).S false (aaq N),Fx.u0 (atU N) aC func147⟩
def X60:Fx:=⟨55,tab,Kn.l [Lm N,k48 N,XM N,atV N,agK N,IU N],N,f60,[.v aA,.v aJ,.v I],[.v I,.v I],[],none⟩
def k60:Kn prog:=⟨60,(X60 N).S true (F60 N),Fx.u0 (X60 N) aC func60⟩
def Rw:Fx:=⟨76,tab,Kn.l [k84 N],N,f153,[.v cR,.v I,.v I],[.own jZ],[⟨11,[(0,.v cR),(1,.v I),(2,.v I),(7,.own jZ),(8,.v I)],[1,1,1,0,1,0,0],[]⟩],none⟩
theorem agN(K ρ):(Rw N).bd K ρ 11=nM.eA N ((Rw N).kc ρ 11):=κ
theorem agO(ρ):(Rw N).kc ((Rw N).ct ρ) 11=nM.l5 N N:=Fx.uL [] (agN N) ρ (nM.l5 N) λn ρ' e d=>by rw[e];rfl
theorem aza(K):(Rw N).top K=nM.b N ((Rw N).kc K 11):=κ
def azb:Kn prog:=⟨153,(Rw N).S false (nM N),Fx.u1 (Rw N) aC func153 [11] (aza N) (by rw[agO];rfl)⟩
def Vm:Fx:=⟨86,tab,Kn.l [Lm N,agH N,k60 N,Az N,abB N,agK N,k52 N,azb N,Rg N],N,f61,[.v aA,.v aJ,.v I],[.v aJ,.v I],[⟨30,[(2,.v I),(3,.obj aA),(4,.obj aJ),(6,.obj aJ),(8,.own jZ),(9,.own s7),(10,.v I),(11,.obj e7)],[1,1,1,1,1,0,1,0,0,1,0,0,1,1,1],[17]⟩,⟨17,[(2,.v I),(3,.obj aA),(4,.obj aJ),(6,.obj aJ),(8,.own jZ),(9,.own s7),(10,.v I)],[1,1,1,1,1,0,1,0,0],[]⟩],none⟩
theorem anu(K ρ):(Vm N).bd K ρ 30=rM.wZ N ((Vm N).kc ρ 17):=κ
theorem anv(ρ):(Vm N).kc ((Vm N).ct ρ) 30=rM.Dg N ((Vm N).kc ρ 17):=Fx.uJ [] (anu N) ρ
theorem anw(K ρ):(Vm N).bd K ρ 17=rM.Ec N ((Vm N).kc K 30) ((Vm N).kc ρ 17):=κ
theorem anx(ρ):(Vm N).kc ((Vm N).ct ρ) 17=rM.l8 N N:=Fx.uL [30] (anw N) ρ (rM.l8 N) λn ρ' e d=>by rw[anv,e];rfl
theorem h61(K):(Vm N).top K=rM.b N ((Vm N).kc K 17):=κ
def k61:Kn prog:=⟨61,(Vm N).S false (rM N),Fx.u1 (Vm N) aC func61 [17] (h61 N) (by rw[anx];rfl)⟩
def Rx:Fx:=⟨48,tab,Kn.l [Lm N,k27 N,Az N,k32 N,TQ N],N,f299,[.v aA,.v aJ],[.own dk,.v I],[⟨11,[(2,.obj aA),(3,.obj aJ),(6,.own dk),(7,.v I)],[1,1,1,0,1,0,0],[]⟩],none⟩
theorem agP(K ρ):(Rx N).bd K ρ 11=sN.eA N ((Rx N).kc ρ 11):=κ
theorem agQ(ρ):(Rx N).kc ((Rx N).ct ρ) 11=sN.l5 N N:=Fx.uL [] (agP N) ρ (sN.l5 N) λn ρ' e d=>by rw[e];rfl
theorem azc(K):(Rx N).top K=sN.b N ((Rx N).kc K 11):=κ
def azd:Kn prog:=⟨299,(Rx N).S false (sN N),Fx.u1 (Rx N) aC func299 [11] (azc N) (by rw[agQ];rfl)⟩
def Ry:Fx:=⟨31,tab,Kn.l [TP N],N,f300,[.v aA,.v I],[.own I],[⟨11,[(1,.v I),(2,.obj aA),(5,.own I),(6,.v I)],[1,1,1,0,1,0,0],[]⟩],none⟩
theorem agR(K ρ):(Ry N).bd K ρ 11=qg.eA N ((Ry N).kc ρ 11):=κ
theorem agS(ρ):(Ry N).kc ((Ry N).ct ρ) 11=qg.l5 N N:=Fx.uL [] (agR N) ρ (qg.l5 N) λn ρ' e d=>by rw[e];rfl
theorem aze(K):(Ry N).top K=qg.b N ((Ry N).kc K 11):=κ
def azf:Kn prog:=⟨300,(Ry N).S false (qg N),Fx.u1 (Ry N) aC func300 [11] (aze N) (by rw[agS];rfl)⟩
def Rz:Fx:=⟨35,tab,Kn.l [amN N],N,f317,[.v LU],[.v LU,.v U],[⟨9,[(0,.v LU),(4,.own U),(5,.v U),(6,.v I)],[1,1,1,0,1,0,0],[]⟩],none⟩
theorem anz(K ρ):(Rz N).bd K ρ 9=qC.dU N ((Rz N).kc ρ 9):=κ
theorem anA(ρ):(Rz N).kc ((Rz N).ct ρ) 9=qC.l4 N N:=Fx.uL [] (anz N) ρ (qC.l4 N) λn ρ' e d=>by rw[e];rfl
theorem azg(K):(Rz N).top K=qC.b N ((Rz N).kc K 9):=κ
def azh:Kn prog:=⟨317,(Rz N).S false (qC N),Fx.u1 (Rz N) aC func317 [9] (azg N) (by rw[anA];rfl)⟩
def DB:Fx:=⟨77,tab,Kn.l [azh N,TQ N,Az N,k30 N,k34 N,k44 N,k52 N],N,f301,[.v dk,.v dk],[.v dk,.v dk],[⟨19,[(2,.obj dk),(3,.obj dk),(4,.obj dk),(5,.obj dk),(6,.own U),(10,.obj dk),(11,.obj dk),(12,.v I)],[1,1,1,1,0,1,0,0],[]⟩,⟨7,[(2,.obj dk),(3,.obj dk),(4,.obj dk),(5,.obj dk),(6,.own U),(7,.v LU)],[1,1,0,1,0,0],[]⟩],none⟩
theorem agT(K ρ):(DB N).bd K ρ 19=je.vN N ((DB N).kc ρ 19):=κ
theorem agU(ρ):(DB N).kc ((DB N).ct ρ) 19=je.l9 N N:=Fx.uL [] (agT N) ρ (je.l9 N) λn ρ' e d=>by rw[e];rfl
theorem anB(K ρ):(DB N).bd K ρ 7=je.nw N ((DB N).kc K 19) ((DB N).kc ρ 7):=κ
theorem anC(ρ):(DB N).kc ((DB N).ct ρ) 7=je.l3 N N:=Fx.uL [19] (anB N) ρ (je.l3 N) λn ρ' e d=>by rw[agU,e];rfl
theorem azi(K):(DB N).top K=je.b N ((DB N).kc K 7):=κ
def atW:Kn prog:=⟨301,(DB N).S false (je N),Fx.u1 (DB N) aC func301 [7,19] (azi N) (by rw[anC];rfl)⟩
def Cp:Fx:=⟨104,tab,Kn.l [azd N,azf N,k33 N,Az N,k30 N,atW N,IU N,k44 N],N,f284,[.v aA,.v aJ,.v I],[.own e7,.v I],[⟨30,[(2,.v I),(3,.obj aA),(4,.obj aJ),(8,.own dk),(10,.own e7),(11,.v I),(12,.own I),(16,.v I)],[1,1,1,1,0,1,0,0,1,0,0,1,1,1,1,1,1],[13]⟩,⟨13,[(2,.v I),(3,.obj aA),(4,.obj aJ),(8,.own dk),(10,.own e7),(11,.v I)],[1,1,1,1,0,1,0,0],[]⟩],none⟩
theorem agV(K ρ):(Cp N).bd K ρ 30=jH.wZ N ((Cp N).kc ρ 13):=κ
theorem agW(ρ):(Cp N).kc ((Cp N).ct ρ) 30=jH.Dg N ((Cp N).kc ρ 13):=Fx.uJ [] (agV N) ρ
theorem agX(K ρ):(Cp N).bd K ρ 13=jH.uU N ((Cp N).kc K 30) ((Cp N).kc ρ 13):=κ
theorem agY(ρ):(Cp N).kc ((Cp N).ct ρ) 13=jH.l6 N N:=Fx.uL [30] (agX N) ρ (jH.l6 N) λn ρ' e d=>by rw[agW,e];rfl
theorem azj(K):(Cp N).top K=jH.b N ((Cp N).kc K 13):=κ
def azk:Kn prog:=⟨284,(Cp N).S false (jH N),Fx.u1 (Cp N) aC func284 [13] (azj N) (by rw[agY];rfl)⟩
def atX:Fx:=⟨41,tab,[],N,f318,[.v e7],[.v B],[],none⟩
def azl:Kn prog:=⟨318,(atX N).S true (ads N),Fx.u0 (atX N) aC func318⟩
def TS:Fx:=⟨113,tab,Kn.l [Lm N,azl N,atu N,atB N],N,f302,[.v aA,.v aJ,.v e7,.v I,.v I,.v I],[.v aJ,.v e7,.v I],[⟨28,[(4,.v I),(6,.obj aA),(7,.obj aJ),(8,.obj e7),(12,.obj aJ),(13,.obj e7),(17,.obj qo)],[1,1,1,1,1,1,1,1],[]⟩],none⟩
theorem agZ(K ρ):(TS N).bd K ρ 28=qI.adz N:=κ
theorem ag0(ρ):(TS N).kc ((TS N).ct ρ) 28=qI.j14 N:=Fx.uJ [] (agZ N) ρ
theorem azm(K):(TS N).top K=qI.b N ((TS N).kc K 28):=κ
def azn:Kn prog:=⟨302,(TS N).S false (qI N),Fx.u1 (TS N) aC func302 [28] (azm N) (by rw[ag0];rfl)⟩
def RA:Fx:=⟨77,tab,Kn.l [azn N,aff N],N,f285,[.v aA,.v dQ,.v lZ],[.v dQ,.v jZ],[⟨11,[(3,.obj aA),(4,.obj dQ),(5,.obj lZ),(6,.obj dQ),(7,.obj jZ),(8,.own e7),(9,.v B),(10,.v I),(11,.v I)],[1,1,1,1,0,1,0,0],[]⟩],none⟩
theorem ag1(K ρ):(RA N).bd K ρ 11=oI.eA N ((RA N).kc ρ 11):=κ
theorem ag2(ρ):(RA N).kc ((RA N).ct ρ) 11=oI.l5 N N:=Fx.uL [] (ag1 N) ρ (oI.l5 N) λn ρ' e d=>by rw[e];rfl
theorem azo(K):(RA N).top K=oI.b N ((RA N).kc K 11):=κ
def azp:Kn prog:=⟨285,(RA N).S false (oI N),Fx.u1 (RA N) aC func285 [11] (azo N) (by rw[ag2];rfl)⟩
def RC:Fx:=⟨28,tab,Kn.l [k44 N,Az N,k32 N,k30 N],N,f303,[.v dk,.v I],[.v I],[⟨9,[(1,.v I),(2,.obj dk),(5,.v I)],[1,1,1,0,0,0],[]⟩],none⟩
theorem anD(K ρ):(RC N).bd K ρ 9=sQ.dU N ((RC N).kc ρ 9):=κ
theorem anE(ρ):(RC N).kc ((RC N).ct ρ) 9=sQ.l4 N N:=Fx.uL [] (anD N) ρ (sQ.l4 N) λn ρ' e d=>by rw[e];rfl
theorem azq(K):(RC N).top K=sQ.b N ((RC N).kc K 9):=κ
def azr:Kn prog:=⟨303,(RC N).S true (sQ N),Fx.u1 (RC N) aC func303 [9] (azq N) (by rw[anE];rfl)⟩
def RD:Fx:=⟨24,tab,[],N,f329,[.v I,.v LI],[.v B],[⟨9,[(1,.v LI),(5,.v I)],[1,1,0,1,0,0],[]⟩],none⟩
theorem anF(K ρ):(RD N).bd K ρ 9=qG.dU N ((RD N).kc ρ 9):=κ
theorem anG(ρ):(RD N).kc ((RD N).ct ρ) 9=qG.l4 N N:=Fx.uL [] (anF N) ρ (qG.l4 N) λn ρ' e d=>by rw[e];rfl
theorem azs(K):(RD N).top K=qG.b N ((RD N).kc K 9):=κ
def atY:Kn prog:=⟨329,(RD N).S true (qG N),Fx.u1 (RD N) aC func329 [9] (azs N) (by rw[anG];rfl)⟩
def RE:Fx:=⟨19,tab,Kn.l [Az N,TQ N],N,f327,[.v LI],[.v dk],[⟨7,[(0,.v LI),(2,.obj dk),(3,.obj dk),(4,.v I)],[1,1,0,1,0,0],[]⟩],none⟩
theorem anH(K ρ):(RE N).bd K ρ 7=qB.nw N ((RE N).kc ρ 7):=κ
theorem anI(ρ):(RE N).kc ((RE N).ct ρ) 7=qB.l3 N N:=Fx.uL [] (anH N) ρ (qB.l3 N) λn ρ' e d=>by rw[e];rfl
theorem azt(K):(RE N).top K=qB.b N ((RE N).kc K 7):=κ
def anJ:Kn prog:=⟨327,(RE N).S false (qB N),Fx.u1 (RE N) aC func327 [7] (azt N) (by rw[anI];rfl)⟩
def tx:Fx:=⟨48,tab,[],N,f330,[.v LI],[.own I],[⟨16,[(0,.v LI),(3,.own I),(4,.v I),(5,.v I)],[1,1,0,1,0,0,1,0,0,1,1],[7]⟩,⟨13,[(0,.v LI),(3,.own I),(4,.v I),(5,.v I)],[1,1,0,1,0,0,1,0,0,1,0,0,0],[7]⟩,⟨7,[(0,.v LI),(3,.own I),(4,.v I)],[1,1,0,1,0,0],[]⟩],none⟩
theorem ag3(K ρ):(tx N).bd K ρ 16=gg.Zz N ((tx N).kc ρ 7):=κ
theorem ag4(ρ):(tx N).kc ((tx N).ct ρ) 16=gg.j8 N ((tx N).kc ρ 7):=Fx.uJ [] (ag3 N) ρ
theorem ag5(K ρ):(tx N).bd K ρ 13=gg.uU N ((tx N).kc K 16) ((tx N).kc ρ 7) ((tx N).kc ρ 13):=κ
theorem ag6(ρ):(tx N).kc ((tx N).ct ρ) 13=gg.l6 N ((tx N).kc ρ 7) N:=Fx.uL [16] (ag5 N) ρ (gg.l6 N ((tx N).kc ρ 7)) λn ρ' e d=>by rw[ag4,e,d 7 rfl];rfl
theorem anK(K ρ):(tx N).bd K ρ 7=gg.nw N ((tx N).kc K 13) ((tx N).kc ρ 7):=κ
theorem anL(ρ):(tx N).kc ((tx N).ct ρ) 7=gg.l3 N N:=Fx.uL [13,16] (anK N) ρ (gg.l3 N) λn ρ' e d=>by rw[ag6,e];rfl
theorem azu(K):(tx N).top K=gg.b N ((tx N).kc K 7):=κ
def azv:Kn prog:=⟨330,(tx N).S false (gg N),Fx.u1 (tx N) aC func330 [7] (azu N) (by rw[anL];rfl)⟩
def yG:Fx:=⟨112,tab,Kn.l [atY N,anJ N,k44 N,IU N,Az N,k32 N,atW N,azv N],N,f319,[.v I,.v LI],[.own I,.v I],[⟨45,[(9,.own I),(11,.v I),(15,.own I),(16,.v I)],[1,1,1,1,1,1,1,1,1,1,0,1,0,0],[]⟩,⟨29,[(0,.v I),(1,.v LI),(6,.obj dk),(9,.own I),(10,.own I),(11,.v I),(12,.v I)],[1,1,1,1,1,1,1,1,0,1,0,0],[]⟩,⟨12,[(0,.v I),(1,.v LI),(6,.obj dk)],[1,1,1,1],[]⟩],none⟩
theorem ag7(K ρ):(yG N).bd K ρ 45=gu.wW N ((yG N).kc ρ 45):=κ
theorem ag8(ρ):(yG N).kc ((yG N).ct ρ) 45=gu.yc N N:=Fx.uL [] (ag7 N) ρ (gu.yc N) λn ρ' e d=>by rw[e];rfl
theorem ag9(K ρ):(yG N).bd K ρ 29=gu.HM N ((yG N).kc K 45) ((yG N).kc ρ 29):=κ
theorem aha(ρ):(yG N).kc ((yG N).ct ρ) 29=gu.KI N N:=Fx.uL [45] (ag9 N) ρ (gu.KI N) λn ρ' e d=>by rw[ag8,e];rfl
theorem ahb(K ρ):(yG N).bd K ρ 12=gu.ON N ((yG N).kc K 29):=κ
theorem ahc(ρ):(yG N).kc ((yG N).ct ρ) 12=gu.j6 N:=Fx.uJ [29,45] (ahb N) ρ (by rw[aha];rfl)
theorem azw(K):(yG N).top K=gu.b N ((yG N).kc K 12):=κ
def anM:Kn prog:=⟨319,(yG N).S false (gu N),Fx.u1 (yG N) aC func319 [12,29,45] (azw N) (by rw[ahc];rfl)⟩
def RF:Fx:=⟨33,tab,Kn.l [anM N],N,f304,[.v I,.v I],[.own I,.v I],[⟨11,[(0,.v I),(1,.v I),(6,.own I),(7,.v I)],[1,1,1,0,1,0,0],[]⟩],none⟩
theorem ahd(K ρ):(RF N).bd K ρ 11=sJ.eA N ((RF N).kc ρ 11):=κ
theorem ahe(ρ):(RF N).kc ((RF N).ct ρ) 11=sJ.l5 N N:=Fx.uL [] (ahd N) ρ (sJ.l5 N) λn ρ' e d=>by rw[e];rfl
theorem azx(K):(RF N).top K=sJ.b N ((RF N).kc K 11):=κ
def azy:Kn prog:=⟨304,(RF N).S false (sJ N),Fx.u1 (RF N) aC func304 [11] (azx N) (by rw[ahe];rfl)⟩
def gi:Fx:=⟨175,tab,Kn.l [Lm N,XM N,Az N,k33 N,TQ N,azr N,azy N,atV N,k52 N,IU N],N,f286,[.v aA,.v aJ,.v I],[.own jU,.v I],[⟨64,[(2,.v I),(3,.obj aA),(8,.own kM),(9,.own jU),(10,.v I),(11,.own kM),(14,.v I),(15,.v I),(16,.gk jU [.iD 1] kM),(17,.v I),(19,.own I)],[1,1,1,1,1,0,1,0,0,1,0,0,1,1,1,1,1,0,0,1,0,0,1,0,1,0,0,1,0,0,1,1,1,1],[17,41,49]⟩,⟨58,[(2,.v I),(3,.obj aA),(8,.own kM),(9,.own jU),(10,.v I),(11,.own kM),(14,.v I),(15,.v I),(16,.gk jU [.iD 1] kM),(17,.v I),(18,.v I)],[1,1,1,1,1,0,1,0,0,1,0,0,1,1,1,1,1,0,0,1,0,0,1,0,1,0,0,1,0,0,1,1],[17,41,49]⟩,⟨49,[(2,.v I),(3,.obj aA),(8,.own kM),(9,.own jU),(10,.v I),(11,.own kM),(14,.v I),(15,.v I),(16,.gk jU [.iD 1] kM),(17,.v I)],[1,1,1,1,1,0,1,0,0,1,0,0,1,1,1,1,1,0,0,1,0,0,1,0,1,0,0],[17,41]⟩,⟨41,[(2,.v I),(3,.obj aA),(8,.own kM),(9,.own jU),(10,.v I),(11,.own kM),(14,.v I),(15,.v I)],[1,1,1,1,1,0,1,0,0,1,0,0,1,1,1,1,1,0,0],[17]⟩,⟨27,[(2,.v I),(3,.obj aA),(8,.own kM),(9,.own jU),(10,.v I),(11,.own kM),(12,.obj dk),(13,.v I)],[1,1,1,1,1,0,1,0,0,1,0,0,1,1,0,1,0,0],[17]⟩,⟨17,[(2,.v I),(3,.obj aA),(8,.own kM),(9,.own jU),(10,.v I)],[1,1,1,1,1,0,1,0,0],[]⟩],some (jU,[.iD 1],kM,[16])⟩
theorem ahf(K ρ):(gi N).bd K ρ 64=cq.aln N ((gi N).kc ρ 17) ((gi N).kc ρ 41) ((gi N).kc ρ 49):=κ
theorem ahg(ρ):(gi N).kc ((gi N).ct ρ) 64=cq.j32 N ((gi N).kc ρ 17) ((gi N).kc ρ 41) ((gi N).kc ρ 49):=Fx.uJ [] (ahf N) ρ
theorem ahh(K ρ):(gi N).bd K ρ 58=cq.P0 N ((gi N).kc K 64) ((gi N).kc ρ 17) ((gi N).kc ρ 41) ((gi N).kc ρ 49):=κ
theorem ahi(ρ):(gi N).kc ((gi N).ct ρ) 58=cq.W9 N ((gi N).kc ρ 17) ((gi N).kc ρ 41) ((gi N).kc ρ 49):=Fx.uJ [64] (ahh N) ρ (by rw[ahg];rfl)
theorem ahj(K ρ):(gi N).bd K ρ 49=cq.PU N ((gi N).kc K 58) ((gi N).kc ρ 17) ((gi N).kc ρ 41) ((gi N).kc ρ 49):=κ
theorem ahk(ρ):(gi N).kc ((gi N).ct ρ) 49=cq.Nm N ((gi N).kc ρ 17) ((gi N).kc ρ 41) N:=Fx.uL [58,64] (ahj N) ρ (cq.Nm N ((gi N).kc ρ 17) ((gi N).kc ρ 41)) λn ρ' e d=>by rw[ahi,e,d 17 rfl,d 41 rfl];rfl
theorem ahl(K ρ):(gi N).bd K ρ 41=cq.PZ N ((gi N).kc K 49) ((gi N).kc ρ 17) ((gi N).kc ρ 41):=κ
theorem ahm(ρ):(gi N).kc ((gi N).ct ρ) 41=cq.JK N ((gi N).kc ρ 17) N:=Fx.uL [49] (ahl N) ρ (cq.JK N ((gi N).kc ρ 17)) λn ρ' e d=>by rw[ahk,e,d 17 rfl];rfl
theorem ahn(K ρ):(gi N).bd K ρ 27=cq.lq N ((gi N).kc K 41) ((gi N).kc ρ 17) ((gi N).kc ρ 27):=κ
theorem aho(ρ):(gi N).kc ((gi N).ct ρ) 27=cq.mq N ((gi N).kc ρ 17) N:=Fx.uL [41] (ahn N) ρ (cq.mq N ((gi N).kc ρ 17)) λn ρ' e d=>by rw[ahm,e,d 17 rfl];rfl
theorem ahp(K ρ):(gi N).bd K ρ 17=cq.Ec N ((gi N).kc K 27) ((gi N).kc ρ 17):=κ
theorem ahq(ρ):(gi N).kc ((gi N).ct ρ) 17=cq.l8 N N:=Fx.uL [27,41] (ahp N) ρ (cq.l8 N) λn ρ' e d=>by rw[aho,e];rfl
theorem azz(K):(gi N).top K=cq.b N ((gi N).kc K 17):=κ
def azA:Kn prog:=⟨286,(gi N).S false (cq N),Fx.u1 (gi N) aC func286 [17] (azz N) (by rw[ahq];rfl)⟩
def RG:Fx:=⟨48,tab,Kn.l [Lm N,k29 N],N,f287,[.v aA,.v aJ],[.own I,.v I],[⟨11,[(3,.obj aJ),(6,.own I),(7,.v I)],[1,1,1,0,1,0,0],[]⟩],none⟩
theorem ahr(K ρ):(RG N).bd K ρ 11=sR.eA N ((RG N).kc ρ 11):=κ
theorem ahs(ρ):(RG N).kc ((RG N).ct ρ) 11=sR.l5 N N:=Fx.uL [] (ahr N) ρ (sR.l5 N) λn ρ' e d=>by rw[e];rfl
theorem azB(K):(RG N).top K=sR.b N ((RG N).kc K 11):=κ
def azC:Kn prog:=⟨287,(RG N).S false (sR N),Fx.u1 (RG N) aC func287 [11] (azB N) (by rw[ahs];rfl)⟩
def Cr:Fx:=⟨99,tab,Kn.l [TP N,afI N],N,f306,[.v aA,.v mO],[.v B],[⟨18,[(1,.v mO),(2,.obj aA),(5,.v I),(6,.obj jU)],[1,1,0,1,0,0,1,0,0,1,1],[9]⟩,⟨9,[(1,.v mO),(2,.obj aA),(5,.v I)],[1,1,0,1,0,0],[]⟩],none⟩
theorem aht(K ρ):(Cr N).bd K ρ 18=jG.Js N ((Cr N).kc ρ 9):=κ
theorem ahu(ρ):(Cr N).kc ((Cr N).ct ρ) 18=jG.j9 N ((Cr N).kc ρ 9):=Fx.uJ [] (aht N) ρ
theorem anN(K ρ):(Cr N).bd K ρ 9=jG.dU N ((Cr N).kc K 18) ((Cr N).kc ρ 9):=κ
theorem anO(ρ):(Cr N).kc ((Cr N).ct ρ) 9=jG.l4 N N:=Fx.uL [18] (anN N) ρ (jG.l4 N) λn ρ' e d=>by rw[ahu,e];rfl
theorem azD(K):(Cr N).top K=jG.b N ((Cr N).kc K 9):=κ
def anP:Kn prog:=⟨306,(Cr N).S true (jG N),Fx.u1 (Cr N) aC func306 [9] (azD N) (by rw[anO];rfl)⟩
def RH:Fx:=⟨25,tab,[],N,f320,[.v mO,.v I],[.v jU,.v B],[⟨5,[(0,.v mO),(1,.v I),(4,.obj jU),(6,.v I)],[1,0,1,0,0],[]⟩],none⟩
theorem anQ(K ρ):(RH N).bd K ρ 5=rr.fG N ((RH N).kc ρ 5):=κ
theorem anR(ρ):(RH N).kc ((RH N).ct ρ) 5=rr.l2 N N:=Fx.uL [] (anQ N) ρ (rr.l2 N) λn ρ' e d=>by rw[e];rfl
theorem azE(K):(RH N).top K=rr.b N ((RH N).kc K 5):=κ
def atZ:Kn prog:=⟨320,(RH N).S false (rr N),Fx.u1 (RH N) aC func320 [5] (azE N) (by rw[anR];rfl)⟩
def rB:Fx:=⟨75,tab,Kn.l [Az N,TQ N,as9 N],N,f321,[.v dH,.v dH],[.own kM,.v B],[⟨25,[(0,.v dH),(1,.v dH),(6,.own kM),(7,.v I),(8,.obj dk),(10,.v I)],[1,1,0,1,0,0,1,0,0,1,1,0,1,0,0],[7]⟩,⟨15,[(0,.v dH),(1,.v dH),(6,.own kM),(7,.v I),(8,.obj dk),(9,.v I)],[1,1,0,1,0,0,1,0,0,1,0,1,0,0],[7]⟩,⟨7,[(0,.v dH),(1,.v dH),(6,.own kM),(7,.v I)],[1,1,0,1,0,0],[]⟩],none⟩
theorem ahv(K ρ):(rB N).bd K ρ 25=fu.nK N ((rB N).kc ρ 7) ((rB N).kc ρ 25):=κ
theorem ahw(ρ):(rB N).kc ((rB N).ct ρ) 25=fu.oM N ((rB N).kc ρ 7) N:=Fx.uL [] (ahv N) ρ (fu.oM N ((rB N).kc ρ 7)) λn ρ' e d=>by rw[e,d 7 rfl];rfl
theorem ahx(K ρ):(rB N).bd K ρ 15=fu.oP N ((rB N).kc K 25) ((rB N).kc ρ 7) ((rB N).kc ρ 15):=κ
theorem ahy(ρ):(rB N).kc ((rB N).ct ρ) 15=fu.l7 N ((rB N).kc ρ 7) N:=Fx.uL [25] (ahx N) ρ (fu.l7 N ((rB N).kc ρ 7)) λn ρ' e d=>by rw[ahw,e,d 7 rfl];rfl
theorem anS(K ρ):(rB N).bd K ρ 7=fu.nw N ((rB N).kc K 15) ((rB N).kc ρ 7):=κ
theorem anT(ρ):(rB N).kc ((rB N).ct ρ) 7=fu.l3 N N:=Fx.uL [15,25] (anS N) ρ (fu.l3 N) λn ρ' e d=>by rw[ahy,e];rfl
theorem azF(K):(rB N).top K=fu.b N ((rB N).kc K 7):=κ
def azG:Kn prog:=⟨321,(rB N).S false (fu N),Fx.u1 (rB N) aC func321 [7] (azF N) (by rw[anT];rfl)⟩
def at1:Fx:=⟨11,tab,Kn.l [XL N,ang N],N,f322,[.v lD,.v I],[.own jZ],[],none⟩
def azH:Kn prog:=⟨322,(at1 N).S false (alm N),Fx.u0 (at1 N) aC func322⟩
def Fj:Fx:=⟨157,tab,Kn.l [Lm N,anP N,abC N,atK N,agH N,atZ N,abA N,Az N,k32 N,k30 N,XM N,azG N,azH N,atm N,agK N,k34 N],N,f305,[.v aA,.v aJ,.v mO,.v fk,.v e7],[.v I],[⟨27,[(3,.v fk),(5,.obj aA),(6,.obj aJ),(9,.obj e7),(12,.obj jU),(14,.v I),(15,.v I)],[1,1,1,1,1,1,1,1,0,1,0,0],[]⟩,⟨6,[(2,.v mO),(3,.v fk),(5,.obj aA),(6,.obj aJ),(9,.obj e7)],[1,1],[]⟩],none⟩
theorem ahz(K ρ):(Fj N).bd K ρ 27=lV.lq N ((Fj N).kc ρ 27):=κ
theorem ahA(ρ):(Fj N).kc ((Fj N).ct ρ) 27=lV.mq N N:=Fx.uL [] (ahz N) ρ (lV.mq N) λn ρ' e d=>by rw[e];rfl
theorem anU(K ρ):(Fj N).bd K ρ 6=lV.j3b N ((Fj N).kc K 27):=κ
theorem anV(ρ):(Fj N).kc ((Fj N).ct ρ) 6=lV.j3 N:=Fx.uJ [27] (anU N) ρ (by rw[ahA];rfl)
theorem azI(K):(Fj N).top K=lV.b N ((Fj N).kc K 6):=κ
def azJ:Kn prog:=⟨305,(Fj N).S true (lV N),Fx.u1 (Fj N) aC func305 [6,27] (azI N) (by rw[anV];rfl)⟩
def at2:Fx:=⟨28,tab,Kn.l [azJ N],N,f288,[.v aA,.v aJ,.v mO,.v fk,.v e7],[.own e7,.v I],[],none⟩
def azK:Kn prog:=⟨288,(at2 N).S false (adJ N),Fx.u0 (at2 N) aC func288⟩
def RI:Fx:=⟨46,tab,Kn.l [abC N],N,f307,[.v fk,.v I],[.v e7,.v B],[⟨13,[(0,.v fk),(1,.v I),(4,.obj e7),(6,.obj e7),(7,.v B),(8,.v I)],[1,1,1,1,0,1,0,0],[]⟩],none⟩
theorem ahB(K ρ):(RI N).bd K ρ 13=sW.uU N ((RI N).kc ρ 13):=κ
theorem ahC(ρ):(RI N).kc ((RI N).ct ρ) 13=sW.l6 N N:=Fx.uL [] (ahB N) ρ (sW.l6 N) λn ρ' e d=>by rw[e];rfl
theorem azL(K):(RI N).top K=sW.b N ((RI N).kc K 13):=κ
def azM:Kn prog:=⟨307,(RI N).S true (sW N),Fx.u1 (RI N) aC func307 [13] (azL N) (by rw[ahC];rfl)⟩
def zA:Fx:=⟨158,tab,Kn.l [Lm N,anP N,abC N,azM N,abA N,agH N,Az N,abB N,Rg N],N,f289,[.v aA,.v aJ,.v mO,.v fk],[.v aJ,.own jU,.v I],[⟨45,[(2,.v mO),(3,.v fk),(5,.obj aJ),(8,.obj aJ),(11,.own jZ),(12,.own s7),(13,.own jU),(14,.v I),(15,.obj jU),(16,.obj e7),(18,.v I),(19,.v I)],[1,1,1,1,1,0,1,0,0,1,0,0,1,1,1,1,1,1,1,1,0,1,0,0],[15]⟩,⟨15,[(2,.v mO),(3,.v fk),(5,.obj aJ),(8,.obj aJ),(11,.own jZ),(12,.own s7),(13,.own jU),(14,.v I)],[1,1,1,1,1,0,1,0,0],[]⟩],none⟩
theorem ahD(K ρ):(zA N).bd K ρ 45=gq.wW N ((zA N).kc ρ 15) ((zA N).kc ρ 45):=κ
theorem ahE(ρ):(zA N).kc ((zA N).ct ρ) 45=gq.yc N ((zA N).kc ρ 15) N:=Fx.uL [] (ahD N) ρ (gq.yc N ((zA N).kc ρ 15)) λn ρ' e d=>by rw[e,d 15 rfl];rfl
theorem ahF(K ρ):(zA N).bd K ρ 15=gq.oP N ((zA N).kc K 45) ((zA N).kc ρ 15):=κ
theorem ahG(ρ):(zA N).kc ((zA N).ct ρ) 15=gq.l7 N N:=Fx.uL [45] (ahF N) ρ (gq.l7 N) λn ρ' e d=>by rw[ahE,e];rfl
theorem azN(K):(zA N).top K=gq.b N ((zA N).kc K 15):=κ
def azO:Kn prog:=⟨289,(zA N).S false (gq N),Fx.u1 (zA N) aC func289 [15] (azN N) (by rw[ahG];rfl)⟩
def RJ:Fx:=⟨58,tab,[],N,f308,[.v dH],[.v B],[⟨5,[(0,.v dH),(3,.v I)],[1,0,1,0,0],[]⟩],none⟩
theorem anW(K ρ):(RJ N).bd K ρ 5=qn.fG N ((RJ N).kc ρ 5):=κ
theorem anX(ρ):(RJ N).kc ((RJ N).ct ρ) 5=qn.l2 N N:=Fx.uL [] (anW N) ρ (qn.l2 N) λn ρ' e d=>by rw[e];rfl
theorem azP(K):(RJ N).top K=qn.b N ((RJ N).kc K 5):=κ
def ahH:Kn prog:=⟨308,(RJ N).S true (qn N),Fx.u1 (RJ N) aC func308 [5] (azP N) (by rw[anX];rfl)⟩
def RK:Fx:=⟨38,tab,[],N,f309,[.v LI],[.v B],[⟨5,[(0,.v LI),(3,.v I)],[1,0,1,0,0],[]⟩],none⟩
theorem anY(K ρ):(RK N).bd K ρ 5=sS.fG N ((RK N).kc ρ 5):=κ
theorem anZ(ρ):(RK N).kc ((RK N).ct ρ) 5=sS.l2 N N:=Fx.uL [] (anY N) ρ (sS.l2 N) λn ρ' e d=>by rw[e];rfl
theorem azQ(K):(RK N).top K=sS.b N ((RK N).kc K 5):=κ
def azR:Kn prog:=⟨309,(RK N).S true (sS N),Fx.u1 (RK N) aC func309 [5] (azQ N) (by rw[anZ];rfl)⟩
def DC:Fx:=⟨72,tab,Kn.l [atZ N],N,f310,[.v I,.v mO,.v fk],[.v I],[⟨25,[(0,.v I),(1,.v mO),(7,.v I),(12,.v I)],[1,1,1,0,1,0,0],[]⟩,⟨7,[(0,.v I),(1,.v mO),(2,.v fk),(7,.v I),(8,.v I)],[1,1,0,1,0,0],[]⟩],none⟩
theorem ahI(K ρ):(DC N).bd K ρ 25=kg.nK N ((DC N).kc ρ 25):=κ
theorem ahJ(ρ):(DC N).kc ((DC N).ct ρ) 25=kg.oM N N:=Fx.uL [] (ahI N) ρ (kg.oM N) λn ρ' e d=>by rw[e];rfl
theorem an0(K ρ):(DC N).bd K ρ 7=kg.nw N ((DC N).kc K 25) ((DC N).kc ρ 7):=κ
theorem an1(ρ):(DC N).kc ((DC N).ct ρ) 7=kg.l3 N N:=Fx.uL [25] (an0 N) ρ (kg.l3 N) λn ρ' e d=>by rw[ahJ,e];rfl
theorem azS(K):(DC N).top K=kg.b N ((DC N).kc K 7):=κ
def azT:Kn prog:=⟨310,(DC N).S true (kg N),Fx.u1 (DC N) aC func310 [7,25] (azS N) (by rw[an1];rfl)⟩
def mP:Fx:=⟨104,tab,Kn.l [ahH N,azR N,anP N,abC N,azT N],N,f290,[.v aA,.v dH,.v LI,.v mO,.v fk],[.own kM,.v I],[⟨37,[(1,.v dH),(2,.v LI),(3,.v mO),(4,.v fk),(12,.own kM),(13,.v I),(14,.v I),(15,.v B),(18,.v I)],[1,1,1,0,1,0,0,1,0,0,1,1,1,0,1,0,0],[11]⟩,⟨29,[(1,.v dH),(2,.v LI),(3,.v mO),(4,.v fk),(12,.own kM),(13,.v I),(14,.v I),(15,.v B),(17,.v I)],[1,1,1,0,1,0,0,1,0,0,1,1,0,1,0,0],[11]⟩,⟨19,[(1,.v dH),(2,.v LI),(3,.v mO),(4,.v fk),(12,.own kM),(13,.v I),(14,.v I),(15,.v B),(16,.v I)],[1,1,1,0,1,0,0,1,0,0,1,0,1,0,0],[11]⟩,⟨11,[(1,.v dH),(2,.v LI),(3,.v mO),(4,.v fk),(12,.own kM),(13,.v I)],[1,1,1,0,1,0,0],[]⟩],none⟩
theorem ahK(K ρ):(mP N).bd K ρ 37=dT.Fa N ((mP N).kc ρ 11) ((mP N).kc ρ 37):=κ
theorem ahL(ρ):(mP N).kc ((mP N).ct ρ) 37=dT.I5 N ((mP N).kc ρ 11) N:=Fx.uL [] (ahK N) ρ (dT.I5 N ((mP N).kc ρ 11)) λn ρ' e d=>by rw[e,d 11 rfl];rfl
theorem ahM(K ρ):(mP N).bd K ρ 29=dT.HM N ((mP N).kc K 37) ((mP N).kc ρ 11) ((mP N).kc ρ 29):=κ
theorem ahN(ρ):(mP N).kc ((mP N).ct ρ) 29=dT.KI N ((mP N).kc ρ 11) N:=Fx.uL [37] (ahM N) ρ (dT.KI N ((mP N).kc ρ 11)) λn ρ' e d=>by rw[ahL,e,d 11 rfl];rfl
theorem ahO(K ρ):(mP N).bd K ρ 19=dT.vN N ((mP N).kc K 29) ((mP N).kc ρ 11) ((mP N).kc ρ 19):=κ
theorem ahP(ρ):(mP N).kc ((mP N).ct ρ) 19=dT.l9 N ((mP N).kc ρ 11) N:=Fx.uL [29,37] (ahO N) ρ (dT.l9 N ((mP N).kc ρ 11)) λn ρ' e d=>by rw[ahN,e,d 11 rfl];rfl
theorem ahQ(K ρ):(mP N).bd K ρ 11=dT.eA N ((mP N).kc K 19) ((mP N).kc ρ 11):=κ
theorem ahR(ρ):(mP N).kc ((mP N).ct ρ) 11=dT.l5 N N:=Fx.uL [19,29,37] (ahQ N) ρ (dT.l5 N) λn ρ' e d=>by rw[ahP,e];rfl
theorem azU(K):(mP N).top K=dT.b N ((mP N).kc K 11):=κ
def azV:Kn prog:=⟨290,(mP N).S false (dT N),Fx.u1 (mP N) aC func290 [11] (azU N) (by rw[ahR];rfl)⟩
def at3:Fx:=⟨28,tab,Kn.l [k29 N],N,f323,[.own qo,.v aJ,.v I,.v I,.v I],[.own qo],[],none⟩
def azW:Kn prog:=⟨323,(at3 N).S false (MI N),Fx.u0 (at3 N) aC func323⟩
def at4:Fx:=⟨9,tab,[],N,f325,[.v I],[.v B],[],none⟩
def at5:Kn prog:=⟨325,(at4 N).S true (aat N),Fx.u0 (at4 N) aC func325⟩
def RL:Fx:=⟨27,tab,Kn.l [ahH N],N,f331,[.v dH,.v I],[.v I],[⟨9,[(0,.v dH),(1,.v I),(5,.v I)],[1,1,0,1,0,0],[]⟩],none⟩
theorem an2(K ρ):(RL N).bd K ρ 9=sT.dU N ((RL N).kc ρ 9):=κ
theorem an3(ρ):(RL N).kc ((RL N).ct ρ) 9=sT.l4 N N:=Fx.uL [] (an2 N) ρ (sT.l4 N) λn ρ' e d=>by rw[e];rfl
theorem azX(K):(RL N).top K=sT.b N ((RL N).kc K 9):=κ
def azY:Kn prog:=⟨331,(RL N).S true (sT N),Fx.u1 (RL N) aC func331 [9] (azX N) (by rw[an3];rfl)⟩
def RM:Fx:=⟨67,tab,Kn.l [Lm N,ahH N,at5 N,k29 N,azY N],N,f324,[.v aA,.v aJ,.v dH,.v I,.v I],[.own I,.v I],[⟨11,[(2,.v dH),(3,.v I),(4,.v I),(6,.obj aJ),(12,.own I),(13,.v I)],[1,1,1,0,1,0,0],[]⟩],none⟩
theorem ahS(K ρ):(RM N).bd K ρ 11=sU.eA N ((RM N).kc ρ 11):=κ
theorem ahT(ρ):(RM N).kc ((RM N).ct ρ) 11=sU.l5 N N:=Fx.uL [] (ahS N) ρ (sU.l5 N) λn ρ' e d=>by rw[e];rfl
theorem azZ(K):(RM N).top K=sU.b N ((RM N).kc K 11):=κ
def az0:Kn prog:=⟨324,(RM N).S false (sU N),Fx.u1 (RM N) aC func324 [11] (azZ N) (by rw[ahT];rfl)⟩
def nO:Fx:=⟨188,tab,Kn.l [Lm N,ahH N,atD N,k22 N,abA N,azW N,az0 N,at5 N,Az N,k29 N,k32 N,IU N,k48 N],N,f311,[.v aA,.v aJ,.v I,.v dH,.v dH],[.own qo,.v I],[⟨33,[(2,.v I),(3,.v dH),(4,.v dH),(5,.obj aA),(6,.obj aJ),(12,.own qo),(14,.v I),(15,.own I),(17,.v I)],[1,1,1,1,1,1,1,0,1,0,0,1,0,0,1,1,0,0],[25]⟩,⟨61,[(2,.v I),(4,.v dH),(6,.obj aJ),(12,.own qo),(22,.v I)],[1,1,1,1,1,1,1,1,1,0,1,0,0],[]⟩,⟨41,[(2,.v I),(4,.v dH),(5,.obj aA),(6,.obj aJ),(12,.own qo),(18,.v I)],[1,1,1,1,1,1,1,1,0,1,0,0],[]⟩,⟨25,[(2,.v I),(3,.v dH),(4,.v dH),(5,.obj aA),(6,.obj aJ),(12,.own qo),(14,.v I)],[1,1,1,1,1,1,1,0,1,0,0],[]⟩,⟨18,[(2,.v I),(3,.v dH),(4,.v dH),(5,.obj aA),(6,.obj aJ),(12,.own qo)],[1,1,1,1,1],[]⟩],none⟩
theorem ahU(K ρ):(nO N).bd K ρ 33=c3.wV N ((nO N).kc ρ 25) ((nO N).kc ρ 33):=κ
theorem ahV(ρ):(nO N).kc ((nO N).ct ρ) 33=c3.yb N ((nO N).kc ρ 25) N:=Fx.uL [41,61] (ahU N) ρ (c3.yb N ((nO N).kc ρ 25)) λn ρ' e d=>by rw[e,d 25 rfl];rfl
theorem ahW(K ρ):(nO N).bd K ρ 61=c3.Mi N ((nO N).kc ρ 61):=κ
theorem ahX(ρ):(nO N).kc ((nO N).ct ρ) 61=c3.O8 N N:=Fx.uL [] (ahW N) ρ (c3.O8 N) λn ρ' e d=>by rw[e];rfl
theorem ahY(K ρ):(nO N).bd K ρ 41=c3.PZ N ((nO N).kc K 61) ((nO N).kc ρ 41):=κ
theorem ahZ(ρ):(nO N).kc ((nO N).ct ρ) 41=c3.JK N N:=Fx.uL [61] (ahY N) ρ (c3.JK N) λn ρ' e d=>by rw[ahX,e];rfl
theorem ah0(K ρ):(nO N).bd K ρ 25=c3.nK N ((nO N).kc K 33) ((nO N).kc K 41) ((nO N).kc ρ 25):=κ
theorem ah1(ρ):(nO N).kc ((nO N).ct ρ) 25=c3.oM N N:=Fx.uL [41,61,33] (ah0 N) ρ (c3.oM N) λn ρ' e d=>by rw[ahV,ahZ,e];rfl
theorem ah2(K ρ):(nO N).bd K ρ 18=c3.Js N ((nO N).kc K 25):=κ
theorem ah3(ρ):(nO N).kc ((nO N).ct ρ) 18=c3.j9 N:=Fx.uJ [25,41,61] (ah2 N) ρ (by rw[ah1];rfl)
theorem az1(K):(nO N).top K=c3.b N ((nO N).kc K 18):=κ
def az2:Kn prog:=⟨311,(nO N).S false (c3 N),Fx.u1 (nO N) aC func311 [18,25,41,61] (az1 N) (by rw[ah3];rfl)⟩
def at6:Fx:=⟨19,tab,Kn.l [Lm N,k29 N],N,f312,[.v aA,.v aJ],[.v I,.v I],[],none⟩
def az3:Kn prog:=⟨312,(at6 N).S true (adL N),Fx.u0 (at6 N) aC func312⟩
def RN:Fx:=⟨97,tab,Kn.l [asw N],N,f326,[.v zu],[.v B],[⟨9,[(0,.v zu),(3,.v I)],[1,1,0,1,0,0],[]⟩],none⟩
theorem an4(K ρ):(RN N).bd K ρ 9=sV.dU N ((RN N).kc ρ 9):=κ
theorem an5(ρ):(RN N).kc ((RN N).ct ρ) 9=sV.l4 N N:=Fx.uL [] (an4 N) ρ (sV.l4 N) λn ρ' e d=>by rw[e];rfl
theorem az4(K):(RN N).top K=sV.b N ((RN N).kc K 9):=κ
def az5:Kn prog:=⟨326,(RN N).S true (sV N),Fx.u1 (RN N) aC func326 [9] (az4 N) (by rw[an5];rfl)⟩
def nP:Fx:=⟨106,tab,Kn.l [az5 N,anJ N,IU N,anM N],N,f313,[.v zu,.v I],[.own qo,.v I,.v I],[⟨37,[(7,.own qo),(8,.v I),(9,.v I),(10,.v I),(14,.own I),(16,.v I)],[1,1,1,0,1,0,0,1,0,1,1,1,1,1,1,1,0,1,0,0],[11]⟩,⟨22,[(7,.own qo),(8,.v I),(9,.v I),(10,.v I),(11,.own I)],[1,1,1,0,1,0,0,1,0,1,1,1],[11]⟩,⟨17,[(7,.own qo),(8,.v I),(9,.v I),(10,.v I),(11,.own I)],[1,1,1,0,1,0,0,1,0,1,1,0,0,0],[11]⟩,⟨11,[(7,.own qo),(8,.v I),(9,.v I)],[1,1,1,0,1,0,0],[]⟩],none⟩
theorem ah4(K ρ):(nP N).bd K ρ 37=ed.Fa N ((nP N).kc ρ 11) ((nP N).kc ρ 37):=κ
theorem ah5(ρ):(nP N).kc ((nP N).ct ρ) 37=ed.I5 N ((nP N).kc ρ 11) N:=Fx.uL [] (ah4 N) ρ (ed.I5 N ((nP N).kc ρ 11)) λn ρ' e d=>by rw[e,d 11 rfl];rfl
theorem ah6(K ρ):(nP N).bd K ρ 22=ed.yr N ((nP N).kc K 37) ((nP N).kc ρ 11):=κ
theorem ah7(ρ):(nP N).kc ((nP N).ct ρ) 22=ed.E9 N ((nP N).kc ρ 11):=Fx.uJ [37] (ah6 N) ρ (by rw[ah5];rfl)
theorem ah8(K ρ):(nP N).bd K ρ 17=ed.Ec N ((nP N).kc K 22) ((nP N).kc ρ 11) ((nP N).kc ρ 17):=κ
theorem ah9(ρ):(nP N).kc ((nP N).ct ρ) 17=ed.l8 N ((nP N).kc ρ 11) N:=Fx.uL [22,37] (ah8 N) ρ (ed.l8 N ((nP N).kc ρ 11)) λn ρ' e d=>by rw[ah7,e,d 11 rfl];rfl
theorem aia(K ρ):(nP N).bd K ρ 11=ed.eA N ((nP N).kc K 17) ((nP N).kc ρ 11):=κ
theorem aib(ρ):(nP N).kc ((nP N).ct ρ) 11=ed.l5 N N:=Fx.uL [17,22,37] (aia N) ρ (ed.l5 N) λn ρ' e d=>by rw[ah9,e];rfl
theorem az6(K):(nP N).top K=ed.b N ((nP N).kc K 11):=κ
def az7:Kn prog:=⟨313,(nP N).S false (ed N),Fx.u1 (nP N) aC func313 [11] (az6 N) (by rw[aib];rfl)⟩
def at7:Fx:=⟨14,tab,Kn.l [Lm N,k29 N],N,f314,[.v aA,.v aJ],[.v I,.v I],[],none⟩
def az8:Kn prog:=⟨314,(at7 N).S true (adM N),Fx.u0 (at7 N) aC func314⟩
def Fk:Fx:=⟨156,tab,Kn.l [az2 N,az3 N,az7 N,Az N,abB N,az8 N,abA N,Rg N],N,f291,[.v aA,.v aJ,.v I,.v dH,.v dH],[.v aJ,.v im,.v I],[⟨52,[(6,.obj aJ),(10,.obj aJ),(11,.obj im),(18,.own s7),(19,.gk im [.iD 2] qo),(21,.v I),(23,.v I),(24,.v I)],[1,1,1,1,1,1,1,1,1,1,1,1,1,1,1],[]⟩,⟨31,[(2,.v I),(5,.obj aA),(6,.obj aJ),(10,.obj aJ),(11,.obj im),(13,.own qo),(17,.v I),(18,.own s7),(19,.gk im [.iD 2] qo),(20,.v I)],[1,1,1,1,1,1,1,1,1,1,0,1,0,0],[]⟩],some (im,[.iD 2],qo,[19])⟩
theorem aic(K ρ):(Fk N).bd K ρ 52=jb.adO N:=κ
theorem aid(ρ):(Fk N).kc ((Fk N).ct ρ) 52=jb.j26 N:=Fx.uJ [] (aic N) ρ
theorem aie(K ρ):(Fk N).bd K ρ 31=jb.JC N ((Fk N).kc K 52) ((Fk N).kc ρ 31):=κ
theorem aif(ρ):(Fk N).kc ((Fk N).ct ρ) 31=jb.Ks N N:=Fx.uL [52] (aie N) ρ (jb.Ks N) λn ρ' e d=>by rw[aid,e];rfl
theorem az9(K):(Fk N).top K=jb.b N ((Fk N).kc K 31):=κ
def aAa:Kn prog:=⟨291,(Fk N).S false (jb N),Fx.u1 (Fk N) aC func291 [31,52] (az9 N) (by rw[aif];rfl)⟩
def rC:Fx:=⟨129,tab,Kn.l [atY N,anJ N,IU N,anM N],N,f328,[.v I,.v LI,.v LI],[.own I,.v I,.v I],[⟨39,[(1,.v LI),(2,.v LI),(11,.own I),(12,.v I),(13,.v I),(17,.own I),(19,.v I)],[1,1,1,1,0,1,0,0,1,0,0,1,1,1,1,1,0,0],[17]⟩,⟨25,[(1,.v LI),(2,.v LI),(11,.own I),(12,.v I),(13,.v I),(14,.own I),(15,.v B),(16,.v I)],[1,1,1,1,0,1,0,0,1,0,0,1,0,1,0,0],[17]⟩,⟨17,[(1,.v LI),(2,.v LI),(11,.own I),(12,.v I),(13,.v I)],[1,1,1,1,0,1,0,0],[]⟩],none⟩
theorem aih(K ρ):(rC N).bd K ρ 39=fg.SO N ((rC N).kc ρ 17) ((rC N).kc ρ 39):=κ
theorem aii(ρ):(rC N).kc ((rC N).ct ρ) 39=fg.WB N ((rC N).kc ρ 17) N:=Fx.uL [] (aih N) ρ (fg.WB N ((rC N).kc ρ 17)) λn ρ' e d=>by rw[e,d 17 rfl];rfl
theorem aij(K ρ):(rC N).bd K ρ 25=fg.nK N ((rC N).kc K 39) ((rC N).kc ρ 17) ((rC N).kc ρ 25):=κ
theorem aik(ρ):(rC N).kc ((rC N).ct ρ) 25=fg.oM N ((rC N).kc ρ 17) N:=Fx.uL [39] (aij N) ρ (fg.oM N ((rC N).kc ρ 17)) λn ρ' e d=>by rw[aii,e,d 17 rfl];rfl
theorem ail(K ρ):(rC N).bd K ρ 17=fg.Ec N ((rC N).kc K 25) ((rC N).kc ρ 17):=κ
theorem aim(ρ):(rC N).kc ((rC N).ct ρ) 17=fg.l8 N N:=Fx.uL [25,39] (ail N) ρ (fg.l8 N) λn ρ' e d=>by rw[aik,e];rfl
theorem aAb(K):(rC N).top K=fg.b N ((rC N).kc K 17):=κ
def aAc:Kn prog:=⟨328,(rC N).S false (fg N),Fx.u1 (rC N) aC func328 [17] (aAb N) (by rw[aim];rfl)⟩
def DD:Fx:=⟨127,tab,Kn.l [Lm N,k27 N,aAc N],N,f315,[.v aA,.v aJ,.v I],[.own jZ,.v I],[⟨43,[(2,.v I),(8,.v I),(9,.own I),(13,.own I),(16,.own jZ),(17,.v I)],[1,1,1,1,1,1,1,1,1,1,1,0,1,0,0],[]⟩,⟨23,[(2,.v I),(4,.obj aJ),(8,.v I),(9,.own I),(10,.own I),(11,.v I)],[1,1,1,1,1,1,1,0,1,0,0],[]⟩],none⟩
theorem ain(K ρ):(DD N).bd K ρ 43=gh.aau N ((DD N).kc ρ 43):=κ
theorem aio(ρ):(DD N).kc ((DD N).ct ρ) 43=gh.Xe N N:=Fx.uL [] (ain N) ρ (gh.Xe N) λn ρ' e d=>by rw[e];rfl
theorem aip(K ρ):(DD N).bd K ρ 23=gh.yf N ((DD N).kc K 43) ((DD N).kc ρ 23):=κ
theorem aiq(ρ):(DD N).kc ((DD N).ct ρ) 23=gh.Al N N:=Fx.uL [43] (aip N) ρ (gh.Al N) λn ρ' e d=>by rw[aio,e];rfl
theorem aAd(K):(DD N).top K=gh.b N ((DD N).kc K 23):=κ
def aAe:Kn prog:=⟨315,(DD N).S false (gh N),Fx.u1 (DD N) aC func315 [23,43] (aAd N) (by rw[aiq];rfl)⟩
def RO:Fx:=⟨41,tab,Kn.l [Lm N,aAe N,Rg N],N,f292,[.v aA,.v aJ],[.v aJ,.v I],[⟨11,[(2,.obj aA),(3,.obj aJ),(4,.obj aJ),(6,.own jZ),(7,.v I)],[1,1,1,0,1,0,0],[]⟩],none⟩
theorem air(K ρ):(RO N).bd K ρ 11=oH.eA N ((RO N).kc ρ 11):=κ
theorem ais(ρ):(RO N).kc ((RO N).ct ρ) 11=oH.l5 N N:=Fx.uL [] (air N) ρ (oH.l5 N) λn ρ' e d=>by rw[e];rfl
theorem aAf(K):(RO N).top K=oH.b N ((RO N).kc K 11):=κ
def aAg:Kn prog:=⟨292,(RO N).S false (oH N),Fx.u1 (RO N) aC func292 [11] (aAf N) (by rw[ais];rfl)⟩
def RP:Fx:=⟨325,tab,Kn.l [ay9 N,aff N,k61 N,azk N,azp N,azA N,anr N,azC N,azK N,azO N,azV N,aAa N,aAg N,atH N],N,f276,[.v aA,.v dQ,.v lZ],[.v dQ,.v jZ],[⟨83,[(4,.obj dQ),(6,.obj dQ),(7,.obj jZ),(14,.v mO),(16,.v I),(17,.v I)],[1,1,0,1,0,1,1,1,1,1,1,1,1,1,1,1,1,1,0,1,1,1,1,1,1,0,1,0,0],[]⟩],none⟩
theorem ait(K ρ):(RP N).bd K ρ 83=oJ.adS N ((RP N).kc ρ 83):=κ
theorem aiu(ρ):(RP N).kc ((RP N).ct ρ) 83=oJ.l41 N N:=Fx.uL [] (ait N) ρ (oJ.l41 N) λn ρ' e d=>by rw[e];rfl
theorem aAh(K):(RP N).top K=oJ.b N ((RP N).kc K 83):=κ
def aAi:Kn prog:=⟨276,(RP N).S false (oJ N),Fx.u1 (RP N) aC func276 [83] (aAh N) (by rw[aiu];rfl)⟩
def TT:Fx:=⟨141,tab,Kn.l [atH N,ayZ N,ay2 N,aff N,atr N,anr N,ay3 N,aAi N],N,f256,[.v aA,.v dQ,.v lZ],[.v dQ,.v jZ],[⟨58,[(3,.obj aA),(4,.obj dQ),(5,.obj lZ),(6,.obj dQ),(7,.obj jZ)],[1,1,1],[]⟩],none⟩
theorem aiv(K ρ):(TT N).bd K ρ 58=qL.P0 N:=κ
theorem aiw(ρ):(TT N).kc ((TT N).ct ρ) 58=qL.W9 N:=Fx.uJ [] (aiv N) ρ
theorem aAj(K):(TT N).top K=qL.b N ((TT N).kc K 58):=κ
def aAk:Kn prog:=⟨256,(TT N).S false (qL N),Fx.u1 (TT N) aC func256 [58] (aAj N) (by rw[aiw];rfl)⟩
def aua:Fx:=⟨295,tab,Kn.l [ax9 N,aff N,ayf N,ayg N,ayo N,ayy N,atr N,k29 N,Az N,k52 N,k30 N,ayA N,ayK N,ayM N,ayP N,ayS N,anr N,aAk N],N,f208,[.v aA,.v dQ,.v lZ],[.v dQ,.v jZ],[],none⟩
def aAl:Kn prog:=⟨208,(aua N).S false (Xh N),Fx.u0 (aua N) aC func208⟩
def aub:Fx:=⟨36,tab,Kn.l [TP N,ax7 N,aAl N],N,f143,[.v aA,.v dQ,.v lZ],[.v dQ,.v jZ],[],none⟩
def auc:Kn prog:=⟨143,(aub N).S false (Tj N),Fx.u0 (aub N) aC func143⟩
def RQ:Fx:=⟨48,tab,Kn.l [auc N],N,f257,[.io nq,.lo lZ],[.v dQ,.io nq,.lo lZ],[⟨3,[(0,.io nq),(1,.own lZ),(4,.obj dQ)],[1,0,0,0],[]⟩],none⟩
theorem an6(K ρ):(RQ N).bd K ρ 3=ry.l1b N ((RQ N).kc ρ 3):=κ
theorem an7(ρ):(RQ N).kc ((RQ N).ct ρ) 3=ry.l1 N N:=Fx.uL [] (an6 N) ρ (ry.l1 N) λn ρ' e d=>by rw[e];rfl
theorem aAm(K):(RQ N).top K=ry.b N ((RQ N).kc K 3):=κ
def aAn:Kn prog:=⟨257,(RQ N).S false (ry N),Fx.u1 (RQ N) aC func257 [3] (aAm N) (by rw[an7];rfl)⟩
def qv:Fx:=⟨119,tab,Kn.l [k57 N,aAn N,XJ N,k62 N,asM N],N,f213,[.io dI,.io nq,.own lZ],[.own lZ,.io dI,.io nq],[⟨35,[(0,.io dI),(1,.io nq),(2,.own lZ),(10,.obj dQ),(11,.v I),(12,.obj jU),(13,.v I)],[1,1,1,1,0,1,0,0,1,0,0,1,1,0,0],[27]⟩,⟨27,[(0,.io dI),(1,.io nq),(2,.own lZ),(10,.obj dQ),(11,.v I)],[1,1,1,1,0,1,0,0],[]⟩,⟨20,[(0,.io dI),(1,.io nq),(2,.own lZ)],[1,1],[]⟩,⟨11,[(0,.io dI),(1,.io nq),(2,.own lZ),(7,.obj dQ),(8,.v I)],[1,0,1,0,1,1,1,0,0],[]⟩],none⟩
theorem aix(K ρ):(qv N).bd K ρ 35=eL.E3 N ((qv N).kc ρ 27) ((qv N).kc ρ 35):=κ
theorem aiy(ρ):(qv N).kc ((qv N).ct ρ) 35=eL.FG N ((qv N).kc ρ 27) N:=Fx.uL [] (aix N) ρ (eL.FG N ((qv N).kc ρ 27)) λn ρ' e d=>by rw[e,d 27 rfl];rfl
theorem aiz(K ρ):(qv N).bd K ρ 27=eL.lq N ((qv N).kc K 35) ((qv N).kc ρ 27):=κ
theorem aiA(ρ):(qv N).kc ((qv N).ct ρ) 27=eL.mq N N:=Fx.uL [35] (aiz N) ρ (eL.mq N) λn ρ' e d=>by rw[aiy,e];rfl
theorem aiB(K ρ):(qv N).bd K ρ 20=eL.Dh N ((qv N).kc K 27):=κ
theorem Vn(ρ):(qv N).kc ((qv N).ct ρ) 20=eL.JJ N:=Fx.uJ [27] (aiB N) ρ (by rw[aiA];rfl)
theorem aiC(K ρ):(qv N).bd K ρ 11=eL.eA N ((qv N).kc K 20) ((qv N).kc ρ 11):=κ
theorem aiD(ρ):(qv N).kc ((qv N).ct ρ) 11=eL.l5 N N:=Fx.uL [20,27] (aiC N) ρ (eL.l5 N) λn ρ' e d=>by rw[Vn,e];rfl
theorem aAo(K):(qv N).top K=eL.b N ((qv N).kc K 11) ((qv N).kc K 20):=κ
def aAp:Kn prog:=⟨213,(qv N).S false (eL N),Fx.u1 (qv N) aC func213 [11,20,27] (aAo N) (by rw[aiD,Vn];rfl)⟩
def DE:Fx:=⟨99,tab,Kn.l [asL N,asI N,XJ N,asM N,k57 N,aAp N],N,f146,[.io dI,.v aA,.v I],[.own lZ,.io dI],[⟨35,[(0,.io dI),(4,.obj aA),(9,.obj nq),(10,.own lZ),(13,.v I)],[1,1,1,1,1,1,1,1,1,1,1,1,0,1,0,0],[]⟩,⟨19,[(0,.io dI),(4,.obj aA),(9,.obj nq),(10,.own lZ),(12,.v I)],[1,1,1,1,1,1,1,1,0,1,0,0],[]⟩],none⟩
theorem aiE(K ρ):(DE N).bd K ρ 35=jW.E3 N ((DE N).kc ρ 35):=κ
theorem aiF(ρ):(DE N).kc ((DE N).ct ρ) 35=jW.FG N N:=Fx.uL [] (aiE N) ρ (jW.FG N) λn ρ' e d=>by rw[e];rfl
theorem aiG(K ρ):(DE N).bd K ρ 19=jW.vN N ((DE N).kc K 35) ((DE N).kc ρ 19):=κ
theorem aiH(ρ):(DE N).kc ((DE N).ct ρ) 19=jW.l9 N N:=Fx.uL [35] (aiG N) ρ (jW.l9 N) λn ρ' e d=>by rw[aiF,e];rfl
theorem aAq(K):(DE N).top K=jW.b N ((DE N).kc K 19):=κ
def aAr:Kn prog:=⟨146,(DE N).S false (jW N),Fx.u1 (DE N) aC func146 [19,35] (aAq N) (by rw[aiH];rfl)⟩
def X59:Fx:=⟨38,tab,Kn.l [XJ N,ams N,asI N,aAr N],N,f59,[.io dI,.v aA,.v I],[.own lZ,.io dI],[⟨11,[(0,.io dI),(4,.obj aA),(7,.own lZ),(8,.v I)],[1,0,1,0,1,0,1,0,1,0,0],[]⟩],none⟩
theorem an8(K ρ):(X59 N).bd K ρ 11=IC.eA N ((X59 N).kc ρ 11):=κ
theorem an9(ρ):(X59 N).kc ((X59 N).ct ρ) 11=IC.l5 N N:=Fx.uL [] (an8 N) ρ (IC.l5 N) λn ρ' e d=>by rw[e];rfl
theorem h59(K):(X59 N).top K=IC.b N ((X59 N).kc K 11):=κ
def k59:Kn prog:=⟨59,(X59 N).S false (IC N),Fx.u1 (X59 N) aC func59 [11] (h59 N) (by rw[an9];rfl)⟩
def X58:Fx:=⟨43,tab,Kn.l [asL N,auc N],N,f58,[.v aA,.v alG],[.v dQ,.own jZ],[⟨13,[(1,.v alG),(2,.obj aA),(4,.obj dQ),(6,.obj dQ),(8,.own jZ),(9,.v I)],[1,1,1,1,0,1,0,0],[]⟩],none⟩
theorem aoa(K ρ):(X58 N).bd K ρ 13=IB.uU N ((X58 N).kc ρ 13):=κ
theorem aob(ρ):(X58 N).kc ((X58 N).ct ρ) 13=IB.l6 N N:=Fx.uL [] (aoa N) ρ (IB.l6 N) λn ρ' e d=>by rw[e];rfl
theorem h58(K):(X58 N).top K=IB.b N ((X58 N).kc K 13):=κ
def k58:Kn prog:=⟨58,(X58 N).S false (IB N),Fx.u1 (X58 N) aC func58 [13] (h58 N) (by rw[aob];rfl)⟩
def X18:Fx:=⟨19,tab,Kn.l [k59 N,k58 N],N,f18,[.io dI,.v aA,.v I],[.v dQ,.io dI],[],none⟩
def k18:Kn prog:=⟨18,(X18 N).S false (F18 N),Fx.u0 (X18 N) aC func18⟩
def DF:Fx:=⟨75,tab,Kn.l [XJ N,k57 N,k40 N],N,f37,[.io dI,.v aA,.v aJ],[.own qo,.io dI],[⟨22,[(0,.io dI),(4,.obj aA),(5,.obj aJ),(7,.own qo),(8,.v I),(10,.obj qo)],[1,1,0,1,0,0,1,0,0,1,1,1,1],[7]⟩,⟨18,[(0,.io dI),(4,.obj aA),(5,.obj aJ),(7,.own qo),(8,.v I),(10,.obj qo)],[1,1,0,1,0,0,1,0,0,1,1,1],[7]⟩,⟨7,[(0,.io dI),(4,.obj aA),(5,.obj aJ),(7,.own qo),(8,.v I)],[1,1,0,1,0,0],[]⟩],none⟩
theorem aCi:tI prog (DF N).E:=Fx.OG (DF N) aC (Kn.all _) κ
theorem aoc(K ρ):(DF N).bd K ρ 22=pN.yr N ((DF N).kc ρ 7):=κ
theorem aod(ρ):(DF N).kc ((DF N).ct ρ) 22=pN.E9 N ((DF N).kc ρ 7):=Fx.uJ [] (aoc N) ρ
theorem aoe(K ρ):(DF N).bd K ρ 18=pN.Js N ((DF N).kc K 22) ((DF N).kc ρ 7):=κ
theorem aof(ρ):(DF N).kc ((DF N).ct ρ) 18=pN.j9 N ((DF N).kc ρ 7):=Fx.uJ [22] (aoe N) ρ (by rw[aod];rfl)
theorem aud(K ρ):(DF N).bd K ρ 7=pN.nw N ((DF N).kc K 18) ((DF N).kc ρ 7):=κ
theorem ajR(ρ):(DF N).kc ((DF N).ct ρ) 7=pN.l3 N N:=Fx.uL [18,22] (aud N) ρ (pN.l3 N) λn ρ' e d=>by rw[aof,e];rfl
theorem h37(K):(DF N).top K=pN.b N ((DF N).kc K 7):=κ
theorem aCk: ∀x,NU (DF N).E (DF N).fn (DF N).args (DF N).res x=Jr (DF N).args (pN N) x:=Fx.apU κ [7] (λK=>κ) (h37 N) (by rw[ajR];rfl)
def k37:Kn prog:=⟨37,(DF N).S false (pN N),Fx.u1 (DF N) aC func37 [7] (h37 N) (by rw[ajR];rfl)⟩
def X94:Fx:=⟨26,tab,[],N,f94,[.v dH,.v dH],[.v B],[⟨9,[(0,.v dH),(1,.v dH),(5,.v I)],[1,1,0,1,0,0],[]⟩],none⟩
theorem aue(K ρ):(X94 N).bd K ρ 9=E5.dU N ((X94 N).kc ρ 9):=κ
theorem auf(ρ):(X94 N).kc ((X94 N).ct ρ) 9=E5.l4 N N:=Fx.uL [] (aue N) ρ (E5.l4 N) λn ρ' e d=>by rw[e];rfl
theorem h94(K):(X94 N).top K=E5.b N ((X94 N).kc K 9):=κ
def k94:Kn prog:=⟨94,(X94 N).S true (E5 N),Fx.u1 (X94 N) aC func94 [9] (h94 N) (by rw[auf];rfl)⟩
def X25:Fx:=⟨26,tab,[],N,f25,[.v fk,.v fk],[.v B],[⟨9,[(0,.v fk),(1,.v fk),(5,.v I)],[1,1,0,1,0,0],[]⟩],none⟩
theorem aug(K ρ):(X25 N).bd K ρ 9=E6.dU N ((X25 N).kc ρ 9):=κ
theorem auh(ρ):(X25 N).kc ((X25 N).ct ρ) 9=E6.l4 N N:=Fx.uL [] (aug N) ρ (E6.l4 N) λn ρ' e d=>by rw[e];rfl
theorem h25(K):(X25 N).top K=E6.b N ((X25 N).kc K 9):=κ
def k25:Kn prog:=⟨25,(X25 N).S true (E6 N),Fx.u1 (X25 N) aC func25 [9] (h25 N) (by rw[auh];rfl)⟩
def X96:Fx:=⟨26,tab,[],N,f96,[.v cR,.v cR],[.v B],[⟨9,[(0,.v cR),(1,.v cR),(5,.v I)],[1,1,0,1,0,0],[]⟩],none⟩
theorem aui(K ρ):(X96 N).bd K ρ 9=E7.dU N ((X96 N).kc ρ 9):=κ
theorem auj(ρ):(X96 N).kc ((X96 N).ct ρ) 9=E7.l4 N N:=Fx.uL [] (aui N) ρ (E7.l4 N) λn ρ' e d=>by rw[e];rfl
theorem h96(K):(X96 N).top K=E7.b N ((X96 N).kc K 9):=κ
def k96:Kn prog:=⟨96,(X96 N).S true (E7 N),Fx.u1 (X96 N) aC func96 [9] (h96 N) (by rw[auj];rfl)⟩
def X24:Fx:=⟨26,tab,[],N,f24,[.v lD,.v lD],[.v B],[⟨9,[(0,.v lD),(1,.v lD),(5,.v I)],[1,1,0,1,0,0],[]⟩],none⟩
theorem auk(K ρ):(X24 N).bd K ρ 9=E8.dU N ((X24 N).kc ρ 9):=κ
theorem aul(ρ):(X24 N).kc ((X24 N).ct ρ) 9=E8.l4 N N:=Fx.uL [] (auk N) ρ (E8.l4 N) λn ρ' e d=>by rw[e];rfl
theorem h24(K):(X24 N).top K=E8.b N ((X24 N).kc K 9):=κ
def k24:Kn prog:=⟨24,(X24 N).S true (E8 N),Fx.u1 (X24 N) aC func24 [9] (h24 N) (by rw[aul];rfl)⟩
def X35:Fx:=⟨45,tab,Kn.l [k94 N,k25 N,k95 N,k96 N,k55 N,k24 N],N,f35,[.v aJ,.v aJ],[.v B],[],none⟩
def k35:Kn prog:=⟨35,(X35 N).S true (F35 N),Fx.u0 (X35 N) aC func35⟩
def X10:Fx:=⟨116,tab,Kn.l [k36 N,k16 N,k17 N,k18 N,XJ N,k37 N,k38 N,k42 N,k23 N,k43 N,k45 N,k44 N,k35 N],N,f10,[.v LU,.v (.int .u32)],[.v B],[],none⟩
theorem aum:tI prog (X10 N).E:=Fx.OG (X10 N) aC (Kn.all _) κ
theorem aun: ∀x,NU (X10 N).E (X10 N).fn (X10 N).args (X10 N).res x=Jr (X10 N).args (F10 N) x:=Fx.acG κ
def U6:Kn prog:=⟨10,(X10 N).S true (F10 N),Fx.u0 (X10 N) aC func10⟩
end
end VM.F
