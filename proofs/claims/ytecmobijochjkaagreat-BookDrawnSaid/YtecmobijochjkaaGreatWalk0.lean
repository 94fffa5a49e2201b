/- A part of the proof of BookDrawn of layer 18: each function of the program does what its equation says; printed by a program. -/
import Derived.Test.YtecmobijochjkaaGreatText
import Derived.Test.YtecmobijochjkaaGreatVm8
import Derived.Test.YtecmobijochjkaaGreatProg
import Derived.KernelRfl
set_option linter.all false
noncomputable section
namespace VM.F
open Go VM Go.Proofs
open Tryz
set_option maxRecDepth 100000
abbrev I:Ty:= .int .i64
abbrev U:Ty:= .int .u64
abbrev B:Ty:= .bool
abbrev Z:Ty:= .str
abbrev QO:Ty:= .slice mv
abbrev dJ:Ty:= .slice kO
abbrev TL:Ty:= .slice eC
abbrev ars:Ty:= .slice dj
abbrev aw5:Ty:= .slice dH
abbrev cS:Ty:= .slice kf
abbrev ab5:Ty:= .slice wL
abbrev fp:Ty:= .slice fa
abbrev iz:Ty:= .slice ti
abbrev yQ:Ty:= .slice qA
abbrev nB:Ty:= .slice tj
abbrev lF:Ty:= .slice nw
abbrev alR:Ty:= .slice me
abbrev mU:Ty:= .slice jT
abbrev art:Ty:= .slice ix
abbrev aru:Ty:= .slice aA
abbrev aw6:Ty:= .slice aL
abbrev ao8:Ty:= .slice tc
abbrev avi:Ty:= .slice dO
abbrev avj:Ty:= .slice nA
abbrev LI:Ty:= .slice I
abbrev LU:Ty:= .slice U
def tab:List (Nat×Ty):=[(2,I),(3,I),(4,B),(5,(.int .u8)),(9,Z),(22,LU),(26,fp),(28,aA),(30,dJ),(31,fp),(32,cS),(33,cS),(34,LI),(35,lF),(37,aL),(38,fp),(39,mU),(40,fp),(41,LI),(42,dJ),(43,dJ),(45,tc),(46,yQ),(48,ix),(50,dO),(55,I),(63,dj),(67,fa),(76,fa),(78,yQ),(85,kf),(87,kf),(89,nw),(92,iz),(109,qA),(115,dH),(117,cS),(120,alR),(122,U),(124,cS),(126,eC),(132,ti),(149,dJ),(162,kf),(165,nB),(185,cS),(196,kO),(200,kf),(204,me),(214,kO),(220,TL),(230,(.arr 2 I)),(238,tj),(254,kf),(266,nA),(277,(.arr 13 B)),(310,fa),(312,jT),(322,kO),(330,fa),(353,ars),(371,kO),(379,qA)]
theorem aC:Hg prog tab:=⟨κ,κ⟩
section
variable(N:Nat)
abbrev abA:nc:=tM.S N
abbrev abB:nc:=uX.S N
theorem abC:jw prog 191 (abB N):=V9 N func191 κ κ κ κ
def TM:Kn prog:=⟨191,abB N,abC N⟩
theorem abD:jw prog 217 (abA N):=Wa N func217 κ κ κ κ
def TN:Kn prog:=⟨217,abA N,abD N⟩
abbrev QP:nc:=xI (.pair (.int .i64) (.pair (.int .i64) (.pair (.int .i64) (.pair (.int .i64) (.pair (.int .i64) (.pair (.int .i64) .unit)))))) N
def Nc.TO:Go.Shelf.Ren:={f:=λi=>0,t:=λi=>cond (Nat.beq i 3) 89 (cond (Nat.beq i 4) 4 35),g:=λ_=>0}
theorem Nc.AE:L7 prog (.pair (.int .i64) (.pair (.int .i64) (.pair (.int .i64) (.pair (.int .i64) (.pair (.int .i64) (.pair (.int .i64) .unit)))))) Nc.TO 186 f186:=⟨Tryz.func186.trans κ,underlying4,underlying35,iM (x:= .inl 89) κ,δ,κ⟩
theorem TP:jw prog 186 (QP N):=rS Nc.AE κ κ N
def I3:Kn prog:=⟨186,QP N,TP N⟩
abbrev QQ:nc:=xI (.pair (.int .i64) (.pair (.int .i64) .unit)) N
def Nd.TO:Go.Shelf.Ren:={f:=λi=>0,t:=λi=>cond (Nat.beq i 3) 196 (cond (Nat.beq i 4) 4 30),g:=λ_=>0}
theorem Nd.AE:L7 prog (.pair (.int .i64) (.pair (.int .i64) .unit)) Nd.TO 192 f192:=⟨Tryz.func192.trans κ,underlying4,underlying30,iM (x:= .inl 196) κ,δ,κ⟩
theorem TQ:jw prog 192 (QQ N):=rS Nd.AE κ κ N
def QR:Kn prog:=⟨192,QQ N,TQ N⟩
abbrev QS:nc:=xI (.pair (.int .i64) (.pair (.int .i64) (.pair (.int .i64) (.pair (.int .i64) .unit)))) N
def Nf.TO:Go.Shelf.Ren:={f:=λi=>0,t:=λi=>cond (Nat.beq i 3) 67 (cond (Nat.beq i 4) 4 31),g:=λ_=>0}
theorem Nf.AE:L7 prog (.pair (.int .i64) (.pair (.int .i64) (.pair (.int .i64) (.pair (.int .i64) .unit)))) Nf.TO 193 f193:=⟨Tryz.func193.trans κ,underlying4,underlying31,iM (x:= .inl 67) κ,δ,κ⟩
theorem TR:jw prog 193 (QS N):=rS Nf.AE κ κ N
def QT:Kn prog:=⟨193,QS N,TR N⟩
abbrev QU:nc:=xI (.pair (.int .i64) (.pair (.int .i64) (.pair (.int .i64) .unit))) N
def Ng.TO:Go.Shelf.Ren:={f:=λi=>0,t:=λi=>cond (Nat.beq i 3) 85 (cond (Nat.beq i 4) 4 32),g:=λ_=>0}
theorem Ng.AE:L7 prog (.pair (.int .i64) (.pair (.int .i64) (.pair (.int .i64) .unit))) Ng.TO 194 f194:=⟨Tryz.func194.trans κ,underlying4,underlying32,iM (x:= .inl 85) κ,δ,κ⟩
theorem TS:jw prog 194 (QU N):=rS Ng.AE κ κ N
def I4:Kn prog:=⟨194,QU N,TS N⟩
abbrev QV:nc:=xI (.pair (.int .i64) (.pair (.int .i64) (.pair (.int .i64) .unit))) N
def Nh.TO:Go.Shelf.Ren:={f:=λi=>0,t:=λi=>cond (Nat.beq i 3) 87 (cond (Nat.beq i 4) 4 33),g:=λ_=>0}
theorem Nh.AE:L7 prog (.pair (.int .i64) (.pair (.int .i64) (.pair (.int .i64) .unit))) Nh.TO 195 f195:=⟨Tryz.func195.trans κ,underlying4,underlying33,iM (x:= .inl 87) κ,δ,κ⟩
theorem TT:jw prog 195 (QV N):=rS Nh.AE κ κ N
def I5:Kn prog:=⟨195,QV N,TT N⟩
abbrev QW:nc:=xI (.int .i64) N
def Ni.TO:Go.Shelf.Ren:={f:=λi=>0,t:=λi=>cond (Nat.beq i 3) 2 (cond (Nat.beq i 4) 4 34),g:=λ_=>0}
theorem Ni.AE:L7 prog (.int .i64) Ni.TO 196 f196:=⟨Tryz.func196.trans κ,underlying4,underlying34,iM (x:= .inl 2) κ,δ,κ⟩
theorem TU:jw prog 196 (QW N):=rS Ni.AE κ κ N
def QX:Kn prog:=⟨196,QW N,TU N⟩
abbrev QY:nc:=m2 (.pair (.int .i64) (.pair (.int .i64) (.pair (.int .i64) .unit))) N
def Nj.TO:Go.Shelf.Ren:={f:=λi=>cond (Nat.beq i 29) 260 (cond (Nat.beq i 30) 261 0),t:=λi=>cond (Nat.beq i 24) 33 (cond (Nat.beq i 9) 87 (cond (Nat.beq i 3) 3 (cond (Nat.beq i 4) 4 0))),g:=λ_=>0}
theorem Nj.AE:Wb prog (.pair (.int .i64) (.pair (.int .i64) (.pair (.int .i64) .unit))) Nj.TO 221 f221 f260:=⟨Tryz.func221.trans κ,underlying3,underlying4,underlying33,iM (x:= .inl 87) κ,δ,κ⟩
theorem TV:jw prog 221 (QY N):=Hl Nj.AE ⟨func260,κ,κ,κ,κ⟩ κ κ N
def abE:Kn prog:=⟨221,QY N,TV N⟩
abbrev QZ:nc:=m2 (.pair (.int .i64) (.pair (.int .i64) (.pair (.int .i64) .unit))) N
def Nk.TO:Go.Shelf.Ren:={f:=λi=>cond (Nat.beq i 29) 262 (cond (Nat.beq i 30) 263 0),t:=λi=>cond (Nat.beq i 24) 32 (cond (Nat.beq i 9) 85 (cond (Nat.beq i 3) 3 (cond (Nat.beq i 4) 4 0))),g:=λ_=>0}
theorem Nk.AE:Wb prog (.pair (.int .i64) (.pair (.int .i64) (.pair (.int .i64) .unit))) Nk.TO 223 f223 f262:=⟨Tryz.func223.trans κ,underlying3,underlying4,underlying32,iM (x:= .inl 85) κ,δ,κ⟩
theorem TW:jw prog 223 (QZ N):=Hl Nk.AE ⟨func262,κ,κ,κ,κ⟩ κ κ N
def abF:Kn prog:=⟨223,QZ N,TW N⟩
def X97:Fx:=⟨21,tab,[],N,f97,[],[.v aA,.v aL],[],none⟩
theorem aBU:sF prog (X97 N).E:=Fx.Km (X97 N) aC trivial κ
theorem aBV: ∀x,No (X97 N).E (X97 N).fn (X97 N).args (X97 N).res x=Hh (X97 N).args (F97 N) x:=Fx.acP κ
def k97:Kn prog:=⟨97,(X97 N).S false (F97 N),Fx.u0 (X97 N) aC func97⟩
def arv:Fx:=⟨15,tab,[],N,f161,[.v I,.v I,.v I],[.v B],[],none⟩
def aw7:Kn prog:=⟨161,(arv N).S true (E1 N),Fx.u0 (arv N) aC func161⟩
def X71:Fx:=⟨68,tab,Kn.l [aw7 N],N,f71,[.v aA],[.v B],[⟨9,[(1,.obj aA),(11,.v fp),(12,.v I),(13,.v I)],[1,1,0,1,0,0],[]⟩],none⟩
theorem arw(K ρ):(X71 N).bd K ρ 9=CC.dL N ((X71 N).kc ρ 9):=κ
theorem arx(ρ):(X71 N).kc ((X71 N).cv ρ) 9=CC.l4 N N:=Fx.uL [] (arw N) ρ (CC.l4 N) λn ρ' e d=>by rw[e];rfl
theorem h71(K):(X71 N).top K=CC.b N ((X71 N).kc K 9):=κ
def k71:Kn prog:=⟨71,(X71 N).S true (CC N),Fx.u1 (X71 N) aC func71 [9] (h71 N) (by rw[arx];rfl)⟩
def Ya:Fx:=⟨39,tab,Kn.l [k71 N],N,f98,[.v aA],[.v aL,.v I],[⟨15,[(2,.obj aL),(4,.gn aL [.iK 4] I),(24,.v fp),(25,.v I),(26,.v I)],[1,1,1,1,0,1,0,0],[]⟩,⟨12,[(1,.obj aA),(2,.obj aL),(4,.gn aL [.iK 4] I)],[1,1,1,1],[]⟩],some (aL,[.iK 4],I,[4])⟩
theorem alS(K ρ):(Ya N).bd K ρ 15=xb.mK N ((Ya N).kc ρ 15):=κ
theorem alT(ρ):(Ya N).kc ((Ya N).cv ρ) 15=xb.l7 N N:=Fx.uL [] (alS N) ρ (xb.l7 N) λn ρ' e d=>by rw[e];rfl
theorem alU(K ρ):(Ya N).bd K ρ 12=xb.OY N ((Ya N).kc K 15):=κ
theorem alV(ρ):(Ya N).kc ((Ya N).cv ρ) 12=xb.j6 N:=Fx.uJ [15] (alU N) ρ (by rw[alT];rfl)
theorem h98(K):(Ya N).top K=xb.b N ((Ya N).kc K 12):=κ
def k98:Kn prog:=⟨98,(Ya N).S false (xb N),Fx.u1 (Ya N) aC func98 [12,15] (h98 N) (by rw[alV];rfl)⟩
def Q0:Fx:=⟨46,tab,[],N,f155,[.v dJ],[.v B],[⟨5,[(0,.v dJ),(5,.v dJ),(6,.v I),(7,.v I)],[1,0,1,0,0],[]⟩],none⟩
theorem alW(K ρ):(Q0 N).bd K ρ 5=qh.fI N ((Q0 N).kc ρ 5):=κ
theorem alX(ρ):(Q0 N).kc ((Q0 N).cv ρ) 5=qh.l2 N N:=Fx.uL [] (alW N) ρ (qh.l2 N) λn ρ' e d=>by rw[e];rfl
theorem aw8(K):(Q0 N).top K=qh.b N ((Q0 N).kc K 5):=κ
def ary:Kn prog:=⟨155,(Q0 N).S true (qh N),Fx.u1 (Q0 N) aC func155 [5] (aw8 N) (by rw[alX];rfl)⟩
def Q1:Fx:=⟨77,tab,[],N,f162,[.v fp],[.v B],[⟨7,[(0,.v fp),(3,.obj (.arr 13 B)),(6,.v fp),(7,.v I),(8,.v I)],[1,1,0,1,0,0],[]⟩],none⟩
theorem alY(K ρ):(Q1 N).bd K ρ 7=nr.m3 N ((Q1 N).kc ρ 7):=κ
theorem alZ(ρ):(Q1 N).kc ((Q1 N).cv ρ) 7=nr.l3 N N:=Fx.uL [] (alY N) ρ (nr.l3 N) λn ρ' e d=>by rw[e];rfl
theorem aw9(K):(Q1 N).top K=nr.b N ((Q1 N).kc K 7):=κ
def al0:Kn prog:=⟨162,(Q1 N).S true (nr N),Fx.u1 (Q1 N) aC func162 [7] (aw9 N) (by rw[alZ];rfl)⟩
def X63:Fx:=⟨23,tab,Kn.l [ary N],N,f63,[.v dJ,.v I],[.v I],[⟨9,[(1,.v I),(10,.v dJ),(11,.v I),(12,.v I)],[1,1,0,1,0,0],[]⟩],none⟩
theorem arz(K ρ):(X63 N).bd K ρ 9=BW.dL N ((X63 N).kc ρ 9):=κ
theorem arA(ρ):(X63 N).kc ((X63 N).cv ρ) 9=BW.l4 N N:=Fx.uL [] (arz N) ρ (BW.l4 N) λn ρ' e d=>by rw[e];rfl
theorem h63(K):(X63 N).top K=BW.b N ((X63 N).kc K 9):=κ
def k63:Kn prog:=⟨63,(X63 N).S true (BW N),Fx.u1 (X63 N) aC func63 [9] (h63 N) (by rw[arA];rfl)⟩
def X72:Fx:=⟨27,tab,Kn.l [ary N,al0 N,k63 N],N,f72,[.v dJ,.v fp],[.v B],[⟨9,[(0,.v dJ),(15,.v fp),(16,.v I),(17,.v I)],[1,1,0,1,0,0],[]⟩],none⟩
theorem arB(K ρ):(X72 N).bd K ρ 9=E3.dL N ((X72 N).kc ρ 9):=κ
theorem arC(ρ):(X72 N).kc ((X72 N).cv ρ) 9=E3.l4 N N:=Fx.uL [] (arB N) ρ (E3.l4 N) λn ρ' e d=>by rw[e];rfl
theorem h72(K):(X72 N).top K=E3.b N ((X72 N).kc K 9):=κ
def k72:Kn prog:=⟨72,(X72 N).S true (E3 N),Fx.u1 (X72 N) aC func72 [9] (h72 N) (by rw[arC];rfl)⟩
def arD:Fx:=⟨30,tab,[],N,f163,[.v I,.v I],[.v B],[],none⟩
def arE:Kn prog:=⟨163,(arD N).S true (SG N),Fx.u0 (arD N) aC func163⟩
def arF:Fx:=⟨19,tab,[],N,f164,[.v I,.v I,.v kf],[.v I],[],none⟩
def arG:Kn prog:=⟨164,(arF N).S true (SJ N),Fx.u0 (arF N) aC func164⟩
def X73:Fx:=⟨41,tab,Kn.l [arE N,arG N],N,f73,[.v cS],[.v B],[⟨5,[(0,.v cS),(5,.v cS),(6,.v I),(7,.v I)],[1,0,1,0,0],[]⟩],none⟩
theorem arH(K ρ):(X73 N).bd K ρ 5=CZ.fI N ((X73 N).kc ρ 5):=κ
theorem arI(ρ):(X73 N).kc ((X73 N).cv ρ) 5=CZ.l2 N N:=Fx.uL [] (arH N) ρ (CZ.l2 N) λn ρ' e d=>by rw[e];rfl
theorem h73(K):(X73 N).top K=CZ.b N ((X73 N).kc K 5):=κ
def k73:Kn prog:=⟨73,(X73 N).S true (CZ N),Fx.u1 (X73 N) aC func73 [5] (h73 N) (by rw[arI];rfl)⟩
def X65:Fx:=⟨8,tab,[],N,f65,[.v I],[.v eC],[],none⟩
def k65:Kn prog:=⟨65,(X65 N).S true (O4 N),Fx.u0 (X65 N) aC func65⟩
def Q2:Fx:=⟨51,tab,Kn.l [TM N],N,f165,[.v TL],[.v eC,.v B],[⟨7,[(2,.obj eC),(4,.v I),(5,.v U),(6,.v U),(10,.v TL),(11,.v I),(12,.v I)],[1,1,0,1,0,0],[]⟩],none⟩
theorem al1(K ρ):(Q2 N).bd K ρ 7=nP.m3 N ((Q2 N).kc ρ 7):=κ
theorem al2(ρ):(Q2 N).kc ((Q2 N).cv ρ) 7=nP.l3 N N:=Fx.uL [] (al1 N) ρ (nP.l3 N) λn ρ' e d=>by rw[e];rfl
theorem axc(K):(Q2 N).top K=nP.b N ((Q2 N).kc K 7):=κ
def XV:Kn prog:=⟨165,(Q2 N).S true (nP N),Fx.u1 (Q2 N) aC func165 [7] (axc N) (by rw[al2];rfl)⟩
def X75:Fx:=⟨31,tab,Kn.l [k73 N,k65 N,XV N],N,f75,[.v cS],[.v eC],[⟨11,[(2,.obj eC),(3,.own eC),(12,.v cS),(13,.v I),(14,.v I)],[1,1,1,0,1,0,0],[]⟩],none⟩
theorem al3(K ρ):(X75 N).bd K ρ 11=Eg.dU N ((X75 N).kc ρ 11):=κ
theorem al4(ρ):(X75 N).kc ((X75 N).cv ρ) 11=Eg.l5 N N:=Fx.uL [] (al3 N) ρ (Eg.l5 N) λn ρ' e d=>by rw[e];rfl
theorem h75(K):(X75 N).top K=Eg.b N ((X75 N).kc K 11):=κ
def k75:Kn prog:=⟨75,(X75 N).S true (Eg N),Fx.u1 (X75 N) aC func75 [11] (h75 N) (by rw[al4];rfl)⟩
def arJ:Fx:=⟨27,tab,[],N,f132,[.v eC,.v eC],[.v I],[],none⟩
def arK:Kn prog:=⟨132,(arJ N).S true (Wt N),Fx.u0 (arJ N) aC func132⟩
def X74:Fx:=⟨6,tab,Kn.l [arK N],N,f74,[.v eC],[.v I],[],none⟩
def k74:Kn prog:=⟨74,(X74 N).S true (F74 N),Fx.u0 (X74 N) aC func74⟩
def arL:Fx:=⟨19,tab,[],N,f158,[.v I,.v I],[.v B],[],none⟩
def arM:Kn prog:=⟨158,(arL N).S true (Zt N),Fx.u0 (arL N) aC func158⟩
def arN:Fx:=⟨5,tab,[],N,f218,[.v I],[.v B],[],none⟩
def al5:Kn prog:=⟨218,(arN N).S true (SL N),Fx.u0 (arN N) aC func218⟩
def arO:Fx:=⟨19,tab,[],N,f219,[.v I,.v I,.v kf],[.v I],[],none⟩
def arP:Kn prog:=⟨219,(arO N).S true (Wp N),Fx.u0 (arO N) aC func219⟩
def Q3:Fx:=⟨47,tab,Kn.l [arM N,al5 N,arP N],N,f157,[.v cS],[.v B],[⟨5,[(0,.v cS),(5,.v cS),(6,.v I),(7,.v I)],[1,0,1,0,0],[]⟩],none⟩
theorem al6(K ρ):(Q3 N).bd K ρ 5=ou.fI N ((Q3 N).kc ρ 5):=κ
theorem al7(ρ):(Q3 N).kc ((Q3 N).cv ρ) 5=ou.l2 N N:=Fx.uL [] (al6 N) ρ (ou.l2 N) λn ρ' e d=>by rw[e];rfl
theorem axd(K):(Q3 N).top K=ou.b N ((Q3 N).kc K 5):=κ
def abG:Kn prog:=⟨157,(Q3 N).S true (ou N),Fx.u1 (Q3 N) aC func157 [5] (axd N) (by rw[al7];rfl)⟩
def Q4:Fx:=⟨37,tab,Kn.l [abG N,k65 N,XV N],N,f166,[.v cS,.v I],[.v eC],[⟨11,[(1,.v I),(4,.obj eC),(5,.own eC),(14,.v cS),(15,.v I),(16,.v I)],[1,1,1,0,1,0,0],[]⟩],none⟩
theorem aes(K ρ):(Q4 N).bd K ρ 11=qj.dU N ((Q4 N).kc ρ 11):=κ
theorem aet(ρ):(Q4 N).kc ((Q4 N).cv ρ) 11=qj.l5 N N:=Fx.uL [] (aes N) ρ (qj.l5 N) λn ρ' e d=>by rw[e];rfl
theorem axe(K):(Q4 N).top K=qj.b N ((Q4 N).kc K 11):=κ
def axf:Kn prog:=⟨166,(Q4 N).S true (qj N),Fx.u1 (Q4 N) aC func166 [11] (axe N) (by rw[aet];rfl)⟩
def X76:Fx:=⟨15,tab,Kn.l [axf N,k74 N,abG N],N,f76,[.v cS],[.v B],[⟨5,[(0,.v cS),(4,.v I)],[1,0,1,0,0],[]⟩],none⟩
theorem arQ(K ρ):(X76 N).bd K ρ 5=E4.fI N ((X76 N).kc ρ 5):=κ
theorem arR(ρ):(X76 N).kc ((X76 N).cv ρ) 5=E4.l2 N N:=Fx.uL [] (arQ N) ρ (E4.l2 N) λn ρ' e d=>by rw[e];rfl
theorem h76(K):(X76 N).top K=E4.b N ((X76 N).kc K 5):=κ
def k76:Kn prog:=⟨76,(X76 N).S true (E4 N),Fx.u1 (X76 N) aC func76 [5] (h76 N) (by rw[arR];rfl)⟩
def arS:Fx:=⟨61,tab,[],N,f128,[.v nw],[.v B],[],none⟩
def axg:Kn prog:=⟨128,(arS N).S true (ac4 N),Fx.u0 (arS N) aC func128⟩
def X77:Fx:=⟨34,tab,Kn.l [axg N],N,f77,[.v lF],[.v B],[⟨5,[(0,.v lF),(5,.v lF),(6,.v I),(7,.v I)],[1,0,1,0,0],[]⟩],none⟩
theorem arT(K ρ):(X77 N).bd K ρ 5=C5.fI N ((X77 N).kc ρ 5):=κ
theorem arU(ρ):(X77 N).kc ((X77 N).cv ρ) 5=C5.l2 N N:=Fx.uL [] (arT N) ρ (C5.l2 N) λn ρ' e d=>by rw[e];rfl
theorem h77(K):(X77 N).top K=C5.b N ((X77 N).kc K 5):=κ
def k77:Kn prog:=⟨77,(X77 N).S true (C5 N),Fx.u1 (X77 N) aC func77 [5] (h77 N) (by rw[arU];rfl)⟩
def Q5:Fx:=⟨25,tab,Kn.l [al0 N],N,f124,[.v fp,.v I],[.v fa,.v B],[⟨9,[(1,.v I),(4,.obj fa),(12,.v fp),(13,.v I),(14,.v I)],[1,1,0,1,0,0],[]⟩],none⟩
theorem al8(K ρ):(Q5 N).bd K ρ 9=qi.dL N ((Q5 N).kc ρ 9):=κ
theorem al9(ρ):(Q5 N).kc ((Q5 N).cv ρ) 9=qi.l4 N N:=Fx.uL [] (al8 N) ρ (qi.l4 N) λn ρ' e d=>by rw[e];rfl
theorem axi(K):(Q5 N).top K=qi.b N ((Q5 N).kc K 9):=κ
def axj:Kn prog:=⟨124,(Q5 N).S true (qi N),Fx.u1 (Q5 N) aC func124 [9] (axi N) (by rw[al9];rfl)⟩
def X78:Fx:=⟨15,tab,Kn.l [axj N],N,f78,[.v aL,.v I],[.v B],[],none⟩
def k78:Kn prog:=⟨78,(X78 N).S true (F78 N),Fx.u0 (X78 N) aC func78⟩
def X81:Fx:=⟨9,tab,[],N,f81,[.v I],[.v B],[],none⟩
def k81:Kn prog:=⟨81,(X81 N).S true (F81 N),Fx.u0 (X81 N) aC func81⟩
def X80:Fx:=⟨6,tab,Kn.l [k81 N],N,f80,[.v I],[.v B],[],none⟩
def k80:Kn prog:=⟨80,(X80 N).S true (F80 N),Fx.u0 (X80 N) aC func80⟩
def Q6:Fx:=⟨19,tab,Kn.l [k80 N],N,f167,[.v LI,.fn 80 .unit],[.v I],[⟨5,[(0,.v LI),(1,.fn 80 .unit),(7,.v I),(8,.v I)],[1,0,1,0,0],[]⟩],none⟩
theorem ama(K ρ):(Q6 N).bd K ρ 5=tx.fI N ((Q6 N).kc ρ 5):=κ
theorem amb(ρ):(Q6 N).kc ((Q6 N).cv ρ) 5=tx.l2 N N:=Fx.uL [] (ama N) ρ (tx.l2 N) λn ρ' e d=>by rw[e];rfl
theorem axl(K):(Q6 N).top K=tx.b N ((Q6 N).kc K 5):=κ
def axm:Kn prog:=⟨167,(Q6 N).S true (tx N),Fx.u1 (Q6 N) aC func167 [5] (axl N) (by rw[amb];rfl)⟩
def X79:Fx:=⟨9,tab,Kn.l [axm N],N,f79,[.v LI,.fn 80 .unit],[.v B],[],none⟩
def k79:Kn prog:=⟨79,(X79 N).S true (F79 N),Fx.u0 (X79 N) aC func79⟩
def NB:Fx:=⟨133,tab,Kn.l [k71 N,k72 N,k73 N,k75 N,k74 N,k76 N,k77 N,k78 N,k63 N,k79 N],N,f23,[.v aA,.v aL],[.v B],[⟨45,[(2,.obj aA),(3,.obj aL),(109,.v lF),(110,.v I),(111,.v I)],[1,1,1,1,0,1,0,0],[]⟩,⟨33,[(2,.obj aA),(3,.obj aL),(83,.v cS),(84,.v I),(85,.v I)],[1,1,1,0,1,0,0],[]⟩,⟨9,[(2,.obj aA),(3,.obj aL),(57,.v cS),(58,.v I),(59,.v I)],[1,1,0,1,0,0],[]⟩],none⟩
theorem amc(K ρ):(NB N).bd K ρ 45=lx.w8 N ((NB N).kc ρ 45):=κ
theorem amd(ρ):(NB N).kc ((NB N).cv ρ) 45=lx.yk N N:=Fx.uL [] (amc N) ρ (lx.yk N) λn ρ' e d=>by rw[e];rfl
theorem ame(K ρ):(NB N).bd K ρ 33=lx.w7 N ((NB N).kc K 45) ((NB N).kc ρ 33):=κ
theorem amf(ρ):(NB N).kc ((NB N).cv ρ) 33=lx.yj N N:=Fx.uL [45] (ame N) ρ (lx.yj N) λn ρ' e d=>by rw[amd,e];rfl
theorem arW(K ρ):(NB N).bd K ρ 9=lx.dL N ((NB N).kc K 33) ((NB N).kc ρ 9):=κ
theorem arX(ρ):(NB N).kc ((NB N).cv ρ) 9=lx.l4 N N:=Fx.uL [33,45] (arW N) ρ (lx.l4 N) λn ρ' e d=>by rw[amf,e];rfl
theorem h23(K):(NB N).top K=lx.b N ((NB N).kc K 9):=κ
def k23:Kn prog:=⟨23,(NB N).S true (lx N),Fx.u1 (NB N) aC func23 [9,33,45] (h23 N) (by rw[arX];rfl)⟩
def Q7:Fx:=⟨50,tab,Kn.l [k81 N],N,f103,[.v qA],[.v B],[⟨5,[(1,.obj qA),(9,.v (.arr 2 I)),(10,.v I)],[1,0,1,0,0],[]⟩],none⟩
theorem amh(K ρ):(Q7 N).bd K ρ 5=pB.fI N ((Q7 N).kc ρ 5):=κ
theorem ami(ρ):(Q7 N).kc ((Q7 N).cv ρ) 5=pB.l2 N N:=Fx.uL [] (amh N) ρ (pB.l2 N) λn ρ' e d=>by rw[e];rfl
theorem axn(K):(Q7 N).top K=pB.b N ((Q7 N).kc K 5):=κ
def arY:Kn prog:=⟨103,(Q7 N).S true (pB N),Fx.u1 (Q7 N) aC func103 [5] (axn N) (by rw[ami];rfl)⟩
def arZ:Fx:=⟨6,tab,Kn.l [arY N],N,f102,[.v qA],[.v B],[],none⟩
def axo:Kn prog:=⟨102,(arZ N).S true (alo N),Fx.u0 (arZ N) aC func102⟩
def Q8:Fx:=⟨19,tab,Kn.l [axo N],N,f174,[.v yQ,.fn 102 .unit],[.v I],[⟨5,[(0,.v yQ),(1,.fn 102 .unit),(7,.v I),(8,.v I)],[1,0,1,0,0],[]⟩],none⟩
theorem amj(K ρ):(Q8 N).bd K ρ 5=tA.fI N ((Q8 N).kc ρ 5):=κ
theorem amk(ρ):(Q8 N).kc ((Q8 N).cv ρ) 5=tA.l2 N N:=Fx.uL [] (amj N) ρ (tA.l2 N) λn ρ' e d=>by rw[e];rfl
theorem axp(K):(Q8 N).top K=tA.b N ((Q8 N).kc K 5):=κ
def axq:Kn prog:=⟨174,(Q8 N).S true (tA N),Fx.u1 (Q8 N) aC func174 [5] (axp N) (by rw[amk];rfl)⟩
def ar0:Fx:=⟨9,tab,Kn.l [axq N],N,f101,[.v yQ,.fn 102 .unit],[.v B],[],none⟩
def axr:Kn prog:=⟨101,(ar0 N).S true (ado N),Fx.u0 (ar0 N) aC func101⟩
def ar1:Fx:=⟨10,tab,[],N,f225,[.v I],[.v U],[],none⟩
def ar2:Kn prog:=⟨225,(ar1 N).S true (Wj N),Fx.u0 (ar1 N) aC func225⟩
def ar3:Fx:=⟨51,tab,[],N,f228,[.v U,.v U],[.v U,.v U],[],none⟩
def ar4:Kn prog:=⟨228,(ar3 N).S true (Wi N),Fx.u0 (ar3 N) aC func228⟩
def TX:Fx:=⟨47,tab,Kn.l [TN N],N,f229,[.v B,.v U,.v U],[.v eC,.v B],[⟨14,[(1,.v U),(2,.v U),(6,.obj eC)],[1,1,1],[]⟩],none⟩
theorem aeu(K ρ):(TX N).bd K ρ 14=rz.X9 N:=κ
theorem aev(ρ):(TX N).kc ((TX N).cv ρ) 14=rz.j7 N:=Fx.uJ [] (aeu N) ρ
theorem axs(K):(TX N).top K=rz.b N ((TX N).kc K 14):=κ
def ar5:Kn prog:=⟨229,(TX N).S true (rz N),Fx.u1 (TX N) aC func229 [14] (axs N) (by rw[aev];rfl)⟩
def ar6:Fx:=⟨29,tab,Kn.l [ar2 N,ar4 N,ar5 N],N,f176,[.v I,.v I],[.v eC],[],none⟩
def ar7:Kn prog:=⟨176,(ar6 N).S true (Wo N),Fx.u0 (ar6 N) aC func176⟩
def ar8:Fx:=⟨12,tab,[],N,f175,[.v I,.v eC],[.v ti],[],none⟩
def ar9:Kn prog:=⟨175,(ar8 N).S true (WX N),Fx.u0 (ar8 N) aC func175⟩
def asa:Fx:=⟨41,tab,Kn.l [arY N,k81 N,ar7 N,ar9 N],N,f104,[.v qA,.v I],[.own ti,.v I],[],none⟩
def axt:Kn prog:=⟨104,(asa N).S false (ZY N),Fx.u0 (asa N) aC func104⟩
def asb:Fx:=⟨22,tab,Kn.l [QR N,QT N,I4 N,I5 N,QX N,I3 N],N,f126,[.v aL],[.v aL],[],none⟩
def asc:Kn prog:=⟨126,(asb N).S false (ZN N),Fx.u0 (asb N) aC func126⟩
def zC:Fx:=⟨42,tab,Kn.l [k65 N,XV N,k74 N],N,f220,[.v cS],[.v B],[⟨13,[(0,.v cS),(3,.v I),(4,.own eC),(9,.v I),(12,.v cS),(13,.v I),(14,.v I)],[1,0,1,0,0,1,1,0,0,1,1,0,1,0,0],[5]⟩,⟨5,[(0,.v cS),(9,.v I)],[1,0,1,0,0],[]⟩],none⟩
theorem aew(K ρ):(zC N).bd K ρ 13=gY.u7 N ((zC N).kc ρ 5) ((zC N).kc ρ 13):=κ
theorem aex(ρ):(zC N).kc ((zC N).cv ρ) 13=gY.l6 N ((zC N).kc ρ 5) N:=Fx.uL [] (aew N) ρ (gY.l6 N ((zC N).kc ρ 5)) λn ρ' e d=>by rw[e,d 5 rfl];rfl
theorem aml(K ρ):(zC N).bd K ρ 5=gY.fI N ((zC N).kc K 13) ((zC N).kc ρ 5):=κ
theorem amm(ρ):(zC N).kc ((zC N).cv ρ) 5=gY.l2 N N:=Fx.uL [13] (aml N) ρ (gY.l2 N) λn ρ' e d=>by rw[aex,e];rfl
theorem axu(K):(zC N).top K=gY.b N ((zC N).kc K 5):=κ
def axv:Kn prog:=⟨220,(zC N).S true (gY N),Fx.u1 (zC N) aC func220 [5] (axu N) (by rw[amm];rfl)⟩
def X92:Fx:=⟨14,tab,[],N,f92,[.v eC],[.v I,.v B],[],none⟩
def k92:Kn prog:=⟨92,(X92 N).S true (F92 N),Fx.u0 (X92 N) aC func92⟩
def asd:Fx:=⟨9,tab,[],N,f222,[.v cS],[.v cS],[],none⟩
def axw:Kn prog:=⟨222,(asd N).S false (adb N),Fx.u0 (asd N) aC func222⟩
def jL:Fx:=⟨173,tab,Kn.l [abG N,arM N,al5 N,axv N,I5 N,arP N,abE N,k65 N,XV N,k92 N,axw N],N,f159,[.v cS,.v cS],[.v cS,.v I],[⟨36,[(1,.v cS),(8,.own kf),(10,.obj kf),(11,.v I),(54,.v cS),(55,.v I),(56,.v I)],[1,1,1,1,1,0,1,0,0,1,1,0,0,1,1,1],[27]⟩,⟨33,[(1,.v cS),(8,.own kf),(10,.obj kf),(11,.v I),(54,.v cS),(55,.v I),(56,.v I)],[1,1,1,1,1,0,1,0,0,1,1,0,0,1,1,0,0,0],[27]⟩,⟨55,[(1,.v cS),(12,.own kf),(14,.obj kf),(15,.own eC),(107,.own kf),(108,.v I),(109,.v I),(117,.v cS),(118,.v I),(119,.v I)],[1,1,1,1,1,1,1,0,1,0,0,1,1,0,0,1,1,0,1,0,0],[47]⟩,⟨47,[(1,.v cS),(12,.own kf),(107,.own kf),(108,.v I),(109,.v I)],[1,1,1,1,1,1,1,0,1,0,0],[]⟩,⟨27,[(1,.v cS),(8,.own kf),(54,.v cS),(55,.v I),(56,.v I)],[1,1,1,1,1,0,1,0,0],[]⟩,⟨9,[(0,.v cS),(1,.v cS),(30,.v cS),(31,.v I),(32,.v I)],[1,1,0,1,0,0],[]⟩],none⟩
theorem aey(K ρ):(jL N).bd K ρ 36=cN.alf N ((jL N).kc ρ 27):=κ
theorem aez(ρ):(jL N).kc ((jL N).cv ρ) 36=cN.j18 N ((jL N).kc ρ 27):=Fx.uJ [47] (aey N) ρ
theorem aeA(K ρ):(jL N).bd K ρ 33=cN.w7 N ((jL N).kc K 36) ((jL N).kc ρ 27) ((jL N).kc ρ 33):=κ
theorem aeB(ρ):(jL N).kc ((jL N).cv ρ) 33=cN.yj N ((jL N).kc ρ 27) N:=Fx.uL [47,36] (aeA N) ρ (cN.yj N ((jL N).kc ρ 27)) λn ρ' e d=>by rw[aez,e,d 27 rfl];rfl
theorem aeC(K ρ):(jL N).bd K ρ 55=cN.ade N ((jL N).kc ρ 47) ((jL N).kc ρ 55):=κ
theorem aeD(ρ):(jL N).kc ((jL N).cv ρ) 55=cN.l27 N ((jL N).kc ρ 47) N:=Fx.uL [] (aeC N) ρ (cN.l27 N ((jL N).kc ρ 47)) λn ρ' e d=>by rw[e,d 47 rfl];rfl
theorem aeE(K ρ):(jL N).bd K ρ 47=cN.adg N ((jL N).kc K 55) ((jL N).kc ρ 47):=κ
theorem aeF(ρ):(jL N).kc ((jL N).cv ρ) 47=cN.l23 N N:=Fx.uL [55] (aeE N) ρ (cN.l23 N) λn ρ' e d=>by rw[aeD,e];rfl
theorem aeG(K ρ):(jL N).bd K ρ 27=cN.ly N ((jL N).kc K 33) ((jL N).kc K 47) ((jL N).kc ρ 27):=κ
theorem aeH(ρ):(jL N).kc ((jL N).cv ρ) 27=cN.my N N:=Fx.uL [47,33,36] (aeG N) ρ (cN.my N) λn ρ' e d=>by rw[aeB,aeF,e];rfl
theorem amn(K ρ):(jL N).bd K ρ 9=cN.dL N ((jL N).kc K 27) ((jL N).kc ρ 9):=κ
theorem amo(ρ):(jL N).kc ((jL N).cv ρ) 9=cN.l4 N N:=Fx.uL [27,47] (amn N) ρ (cN.l4 N) λn ρ' e d=>by rw[aeH,e];rfl
theorem axx(K):(jL N).top K=cN.b N ((jL N).kc K 9):=κ
def ase:Kn prog:=⟨159,(jL N).S false (cN N),Fx.u1 (jL N) aC func159 [9,27,47] (axx N) (by rw[amo];rfl)⟩
def asf:Fx:=⟨9,tab,[],N,f224,[.v cS],[.v cS],[],none⟩
def axy:Kn prog:=⟨224,(asf N).S false (alh N),Fx.u0 (asf N) aC func224⟩
def jM:Fx:=⟨185,tab,Kn.l [k73 N,arE N,XV N,k74 N,I4 N,arG N,abF N,k65 N,k92 N,axy N],N,f160,[.v cS,.v iz],[.v cS,.v I],[⟨42,[(1,.v iz),(11,.own kf),(13,.obj ti),(14,.v I),(68,.v iz),(69,.v I),(70,.v I)],[1,1,1,1,1,1,0,1,0,0,1,1,0,0,1,1,1],[33]⟩,⟨39,[(1,.v iz),(11,.own kf),(13,.obj ti),(14,.v I),(68,.v iz),(69,.v I),(70,.v I)],[1,1,1,1,1,1,0,1,0,0,1,1,0,0,1,1,0,0,0],[33]⟩,⟨61,[(1,.v iz),(15,.own kf),(17,.obj kf),(18,.own eC),(121,.own kf),(122,.v I),(123,.v I),(131,.v iz),(132,.v I),(133,.v I)],[1,1,1,1,1,1,1,1,0,1,0,0,1,1,0,0,1,1,0,1,0,0],[53]⟩,⟨53,[(1,.v iz),(15,.own kf),(121,.own kf),(122,.v I),(123,.v I)],[1,1,1,1,1,1,1,1,0,1,0,0],[]⟩,⟨33,[(1,.v iz),(11,.own kf),(68,.v iz),(69,.v I),(70,.v I)],[1,1,1,1,1,1,0,1,0,0],[]⟩,⟨11,[(0,.v cS),(1,.v iz),(6,.own eC),(36,.v iz),(37,.v I),(38,.v I)],[1,1,1,0,1,0,0],[]⟩],none⟩
theorem aeI(K ρ):(jM N).bd K ρ 42=cO.ali N ((jM N).kc ρ 33):=κ
theorem aeJ(ρ):(jM N).kc ((jM N).cv ρ) 42=cO.j21 N ((jM N).kc ρ 33):=Fx.uJ [53] (aeI N) ρ
theorem aeK(K ρ):(jM N).bd K ρ 39=cO.SV N ((jM N).kc K 42) ((jM N).kc ρ 33) ((jM N).kc ρ 39):=κ
theorem aeL(ρ):(jM N).kc ((jM N).cv ρ) 39=cO.WO N ((jM N).kc ρ 33) N:=Fx.uL [53,42] (aeK N) ρ (cO.WO N ((jM N).kc ρ 33)) λn ρ' e d=>by rw[aeJ,e,d 33 rfl];rfl
theorem aeM(K ρ):(jM N).bd K ρ 61=cO.Mo N ((jM N).kc ρ 53) ((jM N).kc ρ 61):=κ
theorem aeN(ρ):(jM N).kc ((jM N).cv ρ) 61=cO.Pm N ((jM N).kc ρ 53) N:=Fx.uL [] (aeM N) ρ (cO.Pm N ((jM N).kc ρ 53)) λn ρ' e d=>by rw[e,d 53 rfl];rfl
theorem aeO(K ρ):(jM N).bd K ρ 53=cO.adk N ((jM N).kc K 61) ((jM N).kc ρ 53):=κ
theorem aeP(ρ):(jM N).kc ((jM N).cv ρ) 53=cO.l26 N N:=Fx.uL [61] (aeO N) ρ (cO.l26 N) λn ρ' e d=>by rw[aeN,e];rfl
theorem aeQ(K ρ):(jM N).bd K ρ 33=cO.w7 N ((jM N).kc K 39) ((jM N).kc K 53) ((jM N).kc ρ 33):=κ
theorem aeR(ρ):(jM N).kc ((jM N).cv ρ) 33=cO.yj N N:=Fx.uL [53,39,42] (aeQ N) ρ (cO.yj N) λn ρ' e d=>by rw[aeL,aeP,e];rfl
theorem aeS(K ρ):(jM N).bd K ρ 11=cO.dU N ((jM N).kc K 33) ((jM N).kc ρ 11):=κ
theorem aeT(ρ):(jM N).kc ((jM N).cv ρ) 11=cO.l5 N N:=Fx.uL [33,53] (aeS N) ρ (cO.l5 N) λn ρ' e d=>by rw[aeR,e];rfl
theorem axz(K):(jM N).top K=cO.b N ((jM N).kc K 11):=κ
def asg:Kn prog:=⟨160,(jM N).S false (cO N),Fx.u1 (jM N) aC func160 [11,33,53] (axz N) (by rw[aeT];rfl)⟩
def X68:Fx:=⟨37,tab,Kn.l [asc N,ase N,asg N],N,f68,[.v aL,.v cS,.v iz],[.v aL,.v I],[],none⟩
def k68:Kn prog:=⟨68,(X68 N).S false (F68 N),Fx.u0 (X68 N) aC func68⟩
def XW:Fx:=⟨113,tab,Kn.l [k23 N,axr N,k78 N,axt N,k68 N],N,f38,[.v aA,.v aL,.v yQ],[.v aL,.v I],[⟨25,[(4,.obj aL),(6,.obj aL),(10,.own kf),(11,.own ti),(68,.v yQ),(69,.v I),(70,.v I)],[1,1,1,1,1,0,1,0,0],[]⟩,⟨9,[(2,.v yQ),(3,.obj aA),(4,.obj aL),(6,.obj aL),(30,.v yQ),(31,.v I),(32,.v I)],[1,1,0,1,0,0],[]⟩],none⟩
theorem amp(K ρ):(XW N).bd K ρ 25=uC.mO N ((XW N).kc ρ 25):=κ
theorem amq(ρ):(XW N).kc ((XW N).cv ρ) 25=uC.nI N N:=Fx.uL [] (amp N) ρ (uC.nI N) λn ρ' e d=>by rw[e];rfl
theorem ash(K ρ):(XW N).bd K ρ 9=uC.dL N ((XW N).kc K 25) ((XW N).kc ρ 9):=κ
theorem asi(ρ):(XW N).kc ((XW N).cv ρ) 9=uC.l4 N N:=Fx.uL [25] (ash N) ρ (uC.l4 N) λn ρ' e d=>by rw[amq,e];rfl
theorem h38(K):(XW N).top K=uC.b N ((XW N).kc K 9):=κ
def k38:Kn prog:=⟨38,(XW N).S false (uC N),Fx.u1 (XW N) aC func38 [9,25] (h38 N) (by rw[asi];rfl)⟩
def Q9:Fx:=⟨55,tab,Kn.l [abG N,k81 N,ar7 N,ar9 N],N,f116,[.v cS,.v I,.v I,.v I],[.own ti,.v I],[⟨11,[(1,.v I),(2,.v I),(3,.v I),(10,.own ti),(26,.v cS),(27,.v I),(28,.v I)],[1,1,1,0,1,0,0],[]⟩],none⟩
theorem aeU(K ρ):(Q9 N).bd K ρ 11=qE.dU N ((Q9 N).kc ρ 11):=κ
theorem aeV(ρ):(Q9 N).kc ((Q9 N).cv ρ) 11=qE.l5 N N:=Fx.uL [] (aeU N) ρ (qE.l5 N) λn ρ' e d=>by rw[e];rfl
theorem axA(K):(Q9 N).top K=qE.b N ((Q9 N).kc K 11):=κ
def axB:Kn prog:=⟨116,(Q9 N).S false (qE N),Fx.u1 (Q9 N) aC func116 [11] (axA N) (by rw[aeV];rfl)⟩
def ajM:Fx:=⟨22,tab,Kn.l [QR N,QT N,I4 N,I5 N,QX N,I3 N],N,f126,[.v aL],[.sp aL 4 I],[],some (aL,[.iK 4],I,[1,2,1000000])⟩
def asj:Kn prog:=⟨126,(ajM N).S false (ajy N),Fx.u0 (ajM N) aC func126⟩
def asl:Fx:=⟨37,tab,Kn.l [asj N,ase N,asg N],N,f68,[.v aL,.v cS,.v iz],[.sp aL 4 I,.v I],[],some (aL,[.iK 4],I,[3,6,8,1000000])⟩
def axC:Kn prog:=⟨68,(asl N).S false (alI N),Fx.u0 (asl N) aC func68⟩
def X42:Fx:=⟨67,tab,Kn.l [k23 N,k81 N,axB N,axC N],N,f42,[.v aA,.v aL,.v I,.v I],[.v aL,.v iz,.v I],[],some (aL,[.iK 4],I,[5,13])⟩
def k42:Kn prog:=⟨42,(X42 N).S false (F42 N),Fx.u0 (X42 N) aC func42⟩
def X90:Fx:=⟨31,tab,Kn.l [abG N],N,f90,[.v cS,.v I],[.own kO],[⟨11,[(1,.v I),(5,.own kO),(11,.v cS),(12,.v I),(13,.v I)],[1,1,1,0,1,0,0],[]⟩],none⟩
theorem amr(K ρ):(X90 N).bd K ρ 11=El.dU N ((X90 N).kc ρ 11):=κ
theorem ams(ρ):(X90 N).kc ((X90 N).cv ρ) 11=El.l5 N N:=Fx.uL [] (amr N) ρ (El.l5 N) λn ρ' e d=>by rw[e];rfl
theorem h90(K):(X90 N).top K=El.b N ((X90 N).kc K 11):=κ
def k90:Kn prog:=⟨90,(X90 N).S false (El N),Fx.u1 (X90 N) aC func90 [11] (h90 N) (by rw[ams];rfl)⟩
def zD:Fx:=⟨64,tab,Kn.l [k77 N],N,f130,[.v lF,.v I],[.own kf],[⟨19,[(0,.v lF),(1,.v I),(5,.own kf),(6,.v I),(7,.obj kf),(13,.v I),(18,.v lF),(19,.v I),(20,.v I)],[1,1,1,0,1,0,0,1,1,0,0,1,1,0,1,0,0],[11]⟩,⟨11,[(0,.v lF),(1,.v I),(5,.own kf),(13,.v I)],[1,1,1,0,1,0,0],[]⟩],none⟩
theorem aeW(K ρ):(zD N).bd K ρ 19=gZ.vd N ((zD N).kc ρ 11) ((zD N).kc ρ 19):=κ
theorem aeX(ρ):(zD N).kc ((zD N).cv ρ) 19=gZ.l9 N ((zD N).kc ρ 11) N:=Fx.uL [] (aeW N) ρ (gZ.l9 N ((zD N).kc ρ 11)) λn ρ' e d=>by rw[e,d 11 rfl];rfl
theorem aeY(K ρ):(zD N).bd K ρ 11=gZ.dU N ((zD N).kc K 19) ((zD N).kc ρ 11):=κ
theorem aeZ(ρ):(zD N).kc ((zD N).cv ρ) 11=gZ.l5 N N:=Fx.uL [19] (aeY N) ρ (gZ.l5 N) λn ρ' e d=>by rw[aeX,e];rfl
theorem axD(K):(zD N).top K=gZ.b N ((zD N).kc K 11):=κ
def axE:Kn prog:=⟨130,(zD N).S false (gZ N),Fx.u1 (zD N) aC func130 [11] (axD N) (by rw[aeZ];rfl)⟩
def Ra:Fx:=⟨54,tab,Kn.l [al5 N,k71 N],N,f198,[.v aA,.v dJ],[.v B],[⟨5,[(1,.v dJ),(2,.obj aA),(7,.v dJ),(8,.v I),(9,.v I)],[1,0,1,0,0],[]⟩],none⟩
theorem amt(K ρ):(Ra N).bd K ρ 5=qm.fI N ((Ra N).kc ρ 5):=κ
theorem amu(ρ):(Ra N).kc ((Ra N).cv ρ) 5=qm.l2 N N:=Fx.uL [] (amt N) ρ (qm.l2 N) λn ρ' e d=>by rw[e];rfl
theorem axF(K):(Ra N).top K=qm.b N ((Ra N).kc K 5):=κ
def asm:Kn prog:=⟨198,(Ra N).S true (qm N),Fx.u1 (Ra N) aC func198 [5] (axF N) (by rw[amu];rfl)⟩
def Rb:Fx:=⟨73,tab,Kn.l [k71 N],N,f199,[.v aA,.v cS],[.v B],[⟨5,[(1,.v cS),(2,.obj aA),(7,.v cS),(8,.v I),(9,.v I)],[1,0,1,0,0],[]⟩],none⟩
theorem amv(K ρ):(Rb N).bd K ρ 5=qw.fI N ((Rb N).kc ρ 5):=κ
theorem amw(ρ):(Rb N).kc ((Rb N).cv ρ) 5=qw.l2 N N:=Fx.uL [] (amv N) ρ (qw.l2 N) λn ρ' e d=>by rw[e];rfl
theorem axG(K):(Rb N).top K=qw.b N ((Rb N).kc K 5):=κ
def asn:Kn prog:=⟨199,(Rb N).S true (qw N),Fx.u1 (Rb N) aC func199 [5] (axG N) (by rw[amw];rfl)⟩
def aso:Fx:=⟨52,tab,Kn.l [TM N],N,f125,[.v eC,.v eC],[.v eC,.v B],[],none⟩
def axH:Kn prog:=⟨125,(aso N).S true (ZZ N),Fx.u0 (aso N) aC func125⟩
def asq:Fx:=⟨52,tab,Kn.l [TN N],N,f156,[.v eC,.v eC],[.v eC,.v B],[],none⟩
def asr:Kn prog:=⟨156,(asq N).S true (Te N),Fx.u0 (asq N) aC func156⟩
def X66:Fx:=⟨9,tab,Kn.l [asr N],N,f66,[.v eC],[.v eC,.v B],[],none⟩
def k66:Kn prog:=⟨66,(X66 N).S true (F66 N),Fx.u0 (X66 N) aC func66⟩
def ass:Fx:=⟨12,tab,Kn.l [k66 N],N,f200,[.v eC],[.v eC,.v B],[],none⟩
def axI:Kn prog:=⟨200,(ass N).S true (Tf N),Fx.u0 (ass N) aC func200⟩
def DB:Fx:=⟨104,tab,Kn.l [asm N,asn N,k65 N,axH N,asr N,axI N,arK N],N,f131,[.v aA,.v dJ,.v cS,.v I],[.v eC,.v I],[⟨27,[(3,.v I),(8,.obj eC),(10,.v I),(11,.v I),(12,.v I),(57,.v cS),(58,.v I),(59,.v I)],[1,1,1,1,0,1,0,0],[]⟩,⟨15,[(2,.v cS),(3,.v I),(8,.obj eC),(10,.v I),(11,.v I),(12,.v I),(44,.v dJ),(45,.v I),(46,.v I)],[1,1,1,0,1,0,0],[]⟩],none⟩
theorem ae0(K ρ):(DB N).bd K ρ 27=iZ.ly N ((DB N).kc ρ 27):=κ
theorem ae1(ρ):(DB N).kc ((DB N).cv ρ) 27=iZ.my N N:=Fx.uL [] (ae0 N) ρ (iZ.my N) λn ρ' e d=>by rw[e];rfl
theorem ae2(K ρ):(DB N).bd K ρ 15=iZ.mK N ((DB N).kc K 27) ((DB N).kc ρ 15):=κ
theorem ae3(ρ):(DB N).kc ((DB N).cv ρ) 15=iZ.l7 N N:=Fx.uL [27] (ae2 N) ρ (iZ.l7 N) λn ρ' e d=>by rw[ae1,e];rfl
theorem axJ(K):(DB N).top K=iZ.b N ((DB N).kc K 15):=κ
def axK:Kn prog:=⟨131,(DB N).S true (iZ N),Fx.u1 (DB N) aC func131 [15,27] (axJ N) (by rw[ae3];rfl)⟩
def ast:Fx:=⟨32,tab,Kn.l [TN N],N,f237,[.v eC],[.v U,.v U],[],none⟩
def axL:Kn prog:=⟨237,(ast N).S true (ac0 N),Fx.u0 (ast N) aC func237⟩
def asu:Fx:=⟨55,tab,Kn.l [axL N,ar2 N,ar4 N,TM N,ar5 N],N,f201,[.v eC,.v I],[.v eC,.v B],[],none⟩
def axM:Kn prog:=⟨201,(asu N).S true (adx N),Fx.u0 (asu N) aC func201⟩
def Rc:Fx:=⟨62,tab,Kn.l [asm N,asn N,axK N,axM N,XV N],N,f133,[.v aA,.v dJ,.v cS],[.v eC,.v I],[⟨11,[(1,.v dJ),(2,.v cS),(3,.obj aA),(6,.obj eC),(8,.own eC),(29,.v fp),(30,.v I),(31,.v I)],[1,1,1,0,1,0,0],[]⟩],none⟩
theorem ae4(K ρ):(Rc N).bd K ρ 11=sY.dU N ((Rc N).kc ρ 11):=κ
theorem ae5(ρ):(Rc N).kc ((Rc N).cv ρ) 11=sY.l5 N N:=Fx.uL [] (ae4 N) ρ (sY.l5 N) λn ρ' e d=>by rw[e];rfl
theorem axN(K):(Rc N).top K=sY.b N ((Rc N).kc K 11):=κ
def axO:Kn prog:=⟨133,(Rc N).S true (sY N),Fx.u1 (Rc N) aC func133 [11] (axN N) (by rw[ae5];rfl)⟩
def X99:Fx:=⟨32,tab,Kn.l [k23 N,k78 N,k90 N,axE N,axO N],N,f99,[.v aA,.v aL,.v I],[.v eC,.v I],[],none⟩
def k99:Kn prog:=⟨99,(X99 N).S true (F99 N),Fx.u0 (X99 N) aC func99⟩
def Re:Fx:=⟨28,tab,Kn.l [al0 N],N,f173,[.v fp,.v I],[.own I],[⟨11,[(1,.v I),(5,.own I),(11,.v fp),(12,.v I),(13,.v I)],[1,1,1,0,1,0,0],[]⟩],none⟩
theorem ae6(K ρ):(Re N).bd K ρ 11=qF.dU N ((Re N).kc ρ 11):=κ
theorem ae7(ρ):(Re N).kc ((Re N).cv ρ) 11=qF.l5 N N:=Fx.uL [] (ae6 N) ρ (qF.l5 N) λn ρ' e d=>by rw[e];rfl
theorem axP(K):(Re N).top K=qF.b N ((Re N).kc K 11):=κ
def axQ:Kn prog:=⟨173,(Re N).S false (qF N),Fx.u1 (Re N) aC func173 [11] (axP N) (by rw[ae7];rfl)⟩
def Rf:Fx:=⟨19,tab,[],N,f264,[.v LI,.v I],[.v I],[⟨5,[(0,.v LI),(1,.v I),(7,.v I),(8,.v I)],[1,0,1,0,0],[]⟩],none⟩
theorem amx(K ρ):(Rf N).bd K ρ 5=tf.fI N ((Rf N).kc ρ 5):=κ
theorem amy(ρ):(Rf N).kc ((Rf N).cv ρ) 5=tf.l2 N N:=Fx.uL [] (amx N) ρ (tf.l2 N) λn ρ' e d=>by rw[e];rfl
theorem axR(K):(Rf N).top K=tf.b N ((Rf N).kc K 5):=κ
def axS:Kn prog:=⟨264,(Rf N).S true (tf N),Fx.u1 (Rf N) aC func264 [5] (axR N) (by rw[amy];rfl)⟩
def asv:Fx:=⟨9,tab,Kn.l [axS N],N,f227,[.v LI,.v I],[.v B],[],none⟩
def axT:Kn prog:=⟨227,(asv N).S true (ad7 N),Fx.u0 (asv N) aC func227⟩
def asw:Fx:=⟨8,tab,Kn.l [axT N],N,f226,[.v nw,.jH LI],[.v B],[],none⟩
def asx:Kn prog:=⟨226,(asw N).S true (aaZ N),Fx.u0 (asw N) aC func226⟩
def Rg:Fx:=⟨19,tab,Kn.l [asx N],N,f205,[.v lF,.fn 226 (.pair (.pair LI .unit) .unit)],[.v I],[⟨5,[(0,.v lF),(1,.fn 226 (.pair (.pair LI .unit) .unit)),(7,.v I),(8,.v I)],[1,0,1,0,0],[]⟩],none⟩
theorem amz(K ρ):(Rg N).bd K ρ 5=qY.fI N ((Rg N).kc ρ 5):=κ
theorem amA(ρ):(Rg N).kc ((Rg N).cv ρ) 5=qY.l2 N N:=Fx.uL [] (amz N) ρ (qY.l2 N) λn ρ' e d=>by rw[e];rfl
theorem axU(K):(Rg N).top K=qY.b N ((Rg N).kc K 5):=κ
def axV:Kn prog:=⟨205,(Rg N).S true (qY N),Fx.u1 (Rg N) aC func205 [5] (axU N) (by rw[amA];rfl)⟩
def Rh:Fx:=⟨42,tab,Kn.l [axV N,asx N],N,f189,[.own nw,.fn 226 (.pair (.pair LI .unit) .unit)],[.v lF],[⟨11,[(0,.own nw),(1,.fn 226 (.pair (.pair LI .unit) .unit)),(5,.v I),(6,.v I)],[1,1,1,0,1,0,0],[]⟩],some (.unit,[],.unit,[1000001])⟩
theorem ae8(K ρ):(Rh N).bd K ρ 11=th.dU N ((Rh N).kc ρ 11):=κ
theorem ae9(ρ):(Rh N).kc ((Rh N).cv ρ) 11=th.l5 N N:=Fx.uL [] (ae8 N) ρ (th.l5 N) λn ρ' e d=>by rw[e];rfl
theorem axW(K):(Rh N).top K=th.b N ((Rh N).kc K 11):=κ
def axX:Kn prog:=⟨189,(Rh N).S false (th N),Fx.u1 (Rh N) aC func189 [11] (axW N) (by rw[ae9];rfl)⟩
def asy:Fx:=⟨12,tab,Kn.l [k77 N,I3 N,axX N],N,f172,[.v lF,.v LI],[.v lF],[],none⟩
def axY:Kn prog:=⟨172,(asy N).S false (ad9 N),Fx.u0 (asy N) aC func172⟩
def asz:Fx:=⟨33,tab,Kn.l [k23 N,k63 N,asc N,axQ N,axY N],N,f100,[.v aA,.v aL,.v I],[.v aL,.v I],[],none⟩
def asA:Kn prog:=⟨100,(asz N).S false (XI N),Fx.u0 (asz N) aC func100⟩
def X95:Fx:=⟨26,tab,[],N,f95,[.v cS,.v cS],[.v B],[⟨9,[(0,.v cS),(1,.v cS),(5,.v I)],[1,1,0,1,0,0],[]⟩],none⟩
theorem asB(K ρ):(X95 N).bd K ρ 9=Dd.dL N ((X95 N).kc ρ 9):=κ
theorem asC(ρ):(X95 N).kc ((X95 N).cv ρ) 9=Dd.l4 N N:=Fx.uL [] (asB N) ρ (Dd.l4 N) λn ρ' e d=>by rw[e];rfl
theorem h95(K):(X95 N).top K=Dd.b N ((X95 N).kc K 9):=κ
def k95:Kn prog:=⟨95,(X95 N).S true (Dd N),Fx.u1 (X95 N) aC func95 [9] (h95 N) (by rw[asC];rfl)⟩
def X55:Fx:=⟨26,tab,[],N,f55,[.v LI,.v LI],[.v B],[⟨9,[(0,.v LI),(1,.v LI),(5,.v I)],[1,1,0,1,0,0],[]⟩],none⟩
theorem asD(K ρ):(X55 N).bd K ρ 9=De.dL N ((X55 N).kc ρ 9):=κ
theorem asE(ρ):(X55 N).kc ((X55 N).cv ρ) 9=De.l4 N N:=Fx.uL [] (asD N) ρ (De.l4 N) λn ρ' e d=>by rw[e];rfl
theorem h55(K):(X55 N).top K=De.b N ((X55 N).kc K 9):=κ
def k55:Kn prog:=⟨55,(X55 N).S true (De N),Fx.u1 (X55 N) aC func55 [9] (h55 N) (by rw[asE];rfl)⟩
def X84:Fx:=⟨78,tab,[],N,f84,[.v cS],[.v B],[⟨5,[(0,.v cS),(3,.v I)],[1,0,1,0,0],[]⟩],none⟩
theorem asF(K ρ):(X84 N).bd K ρ 5=AH.fI N ((X84 N).kc ρ 5):=κ
theorem asG(ρ):(X84 N).kc ((X84 N).cv ρ) 5=AH.l2 N N:=Fx.uL [] (asF N) ρ (AH.l2 N) λn ρ' e d=>by rw[e];rfl
theorem h84(K):(X84 N).top K=AH.b N ((X84 N).kc K 5):=κ
def k84:Kn prog:=⟨84,(X84 N).S true (AH N),Fx.u1 (X84 N) aC func84 [5] (h84 N) (by rw[asG];rfl)⟩
def X27:Fx:=⟨38,tab,Kn.l [k84 N],N,f27,[.v cS,.v I,.v I],[.v I],[⟨9,[(0,.v cS),(1,.v I),(2,.v I),(7,.v I)],[1,1,0,1,0,0],[]⟩],none⟩
theorem asH(K ρ):(X27 N).bd K ρ 9=CE.dL N ((X27 N).kc ρ 9):=κ
theorem asI(ρ):(X27 N).kc ((X27 N).cv ρ) 9=CE.l4 N N:=Fx.uL [] (asH N) ρ (CE.l4 N) λn ρ' e d=>by rw[e];rfl
theorem h27(K):(X27 N).top K=CE.b N ((X27 N).kc K 9):=κ
def k27:Kn prog:=⟨27,(X27 N).S true (CE N),Fx.u1 (X27 N) aC func27 [9] (h27 N) (by rw[asI];rfl)⟩
def asJ:Fx:=⟨30,tab,[],N,f169,[.v I,.v I],[.v B],[],none⟩
def asK:Kn prog:=⟨169,(asJ N).S true (SH N),Fx.u0 (asJ N) aC func169⟩
def X88:Fx:=⟨74,tab,Kn.l [asK N],N,f88,[.v cS],[.v B],[⟨5,[(0,.v cS),(3,.v I)],[1,0,1,0,0],[]⟩],none⟩
theorem asL(K ρ):(X88 N).bd K ρ 5=C0.fI N ((X88 N).kc ρ 5):=κ
theorem asM(ρ):(X88 N).kc ((X88 N).cv ρ) 5=C0.l2 N N:=Fx.uL [] (asL N) ρ (C0.l2 N) λn ρ' e d=>by rw[e];rfl
theorem h88(K):(X88 N).top K=C0.b N ((X88 N).kc K 5):=κ
def k88:Kn prog:=⟨88,(X88 N).S true (C0 N),Fx.u1 (X88 N) aC func88 [5] (h88 N) (by rw[asM];rfl)⟩
def X29:Fx:=⟨38,tab,Kn.l [k88 N],N,f29,[.v cS,.v I,.v I],[.v I],[⟨9,[(0,.v cS),(1,.v I),(2,.v I),(7,.v I)],[1,1,0,1,0,0],[]⟩],none⟩
theorem asN(K ρ):(X29 N).bd K ρ 9=vy.dL N ((X29 N).kc ρ 9):=κ
theorem asO(ρ):(X29 N).kc ((X29 N).cv ρ) 9=vy.l4 N N:=Fx.uL [] (asN N) ρ (vy.l4 N) λn ρ' e d=>by rw[e];rfl
theorem h29(K):(X29 N).top K=vy.b N ((X29 N).kc K 9):=κ
def k29:Kn prog:=⟨29,(X29 N).S true (vy N),Fx.u1 (X29 N) aC func29 [9] (h29 N) (by rw[asO];rfl)⟩
def X36:Fx:=⟨145,tab,Kn.l [k97 N,k98 N,k38 N,k42 N,k99 N,asA N,k95 N,k55 N,k27 N,k29 N,k23 N],N,f36,[],[.v B],[],none⟩
theorem aCd:sF prog (X36 N).E:=Fx.Km (X36 N) aC (Kn.all _) κ
theorem aCe: ∀x,No (X36 N).E (X36 N).fn (X36 N).args (X36 N).res x=Hh (X36 N).args (F36 N) x:=Fx.acP κ
def k36:Kn prog:=⟨36,(X36 N).S true (F36 N),Fx.u0 (X36 N) aC func36⟩
def X16:Fx:=⟨6,tab,[],N,f16,[.v LU],[.ptr dH],[],none⟩
def k16:Kn prog:=⟨16,(X16 N).S false (F16 N),Fx.u0 (X16 N) aC func16⟩
def X62:Fx:=⟨32,tab,[],N,f62,[.io dH],[.v U,.io dH],[],none⟩
def k62:Kn prog:=⟨62,(X62 N).S false (F62 N),Fx.u0 (X62 N) aC func62⟩
def X20:Fx:=⟨11,tab,Kn.l [k62 N],N,f20,[.io dH,.v I],[.v I,.io dH],[],none⟩
def Yb:Kn prog:=⟨20,(X20 N).S false (o9 N),Fx.u0 (X20 N) aC func20⟩
def X57:Fx:=⟨11,tab,Kn.l [Yb N],N,f57,[.io dH,.v I],[.v B,.io dH],[],none⟩
def k57:Kn prog:=⟨57,(X57 N).S false (P0 N),Fx.u0 (X57 N) aC func57⟩
def X40:Fx:=⟨29,tab,Kn.l [k62 N],N,f40,[.io dH],[.v I,.io dH],[],none⟩
def k40:Kn prog:=⟨40,(X40 N).S false (JV N),Fx.u0 (X40 N) aC func40⟩
def Vo:Fx:=⟨71,tab,Kn.l [Yb N,k57 N,k40 N],N,f17,[.io dH],[.v aA,.io dH],[⟨16,[(0,.io dH),(2,.obj aA),(3,.gn aA [.iK 0] fa),(4,.v I),(5,.obj fa)],[1,1,0,1,0,0,1,0,0,1,1],[7]⟩,⟨7,[(0,.io dH),(2,.obj aA),(3,.gn aA [.iK 0] fa),(4,.v I)],[1,1,0,1,0,0],[]⟩],some (aA,[.iK 0],fa,[3])⟩
theorem amB(K ρ):(Vo N).bd K ρ 16=wK.ZO N ((Vo N).kc ρ 7):=κ
theorem amC(ρ):(Vo N).kc ((Vo N).cv ρ) 16=wK.j8 N ((Vo N).kc ρ 7):=Fx.uJ [] (amB N) ρ
theorem asP(K ρ):(Vo N).bd K ρ 7=wK.m3 N ((Vo N).kc K 16) ((Vo N).kc ρ 7):=κ
theorem asQ(ρ):(Vo N).kc ((Vo N).cv ρ) 7=wK.l3 N N:=Fx.uL [16] (asP N) ρ (wK.l3 N) λn ρ' e d=>by rw[amC,e];rfl
theorem h17(K):(Vo N).top K=wK.b N ((Vo N).kc K 7):=κ
def k17:Kn prog:=⟨17,(Vo N).S false (wK N),Fx.u1 (Vo N) aC func17 [7] (h17 N) (by rw[asQ];rfl)⟩
def asR:Fx:=⟨30,tab,Kn.l [Yb N,k57 N,k40 N],N,f209,[.io dH,.v aA,.v I],[.v me,.io dH],[],none⟩
def amD:Kn prog:=⟨209,(asR N).S false (Xb N),Fx.u0 (asR N) aC func209⟩
def asS:Fx:=⟨48,tab,Kn.l [Yb N,k57 N,k40 N],N,f210,[.io dH,.v aA],[.v me,.io dH],[],none⟩
def asT:Kn prog:=⟨210,(asS N).S false (aao N),Fx.u0 (asS N) aC func210⟩
def asU:Fx:=⟨133,tab,Kn.l [Yb N,k40 N,amD N,asT N],N,f144,[.io dH,.v aA],[.v me,.io dH],[],none⟩
def amE:Kn prog:=⟨144,(asU N).S false (Xc N),Fx.u0 (asU N) aC func144⟩
def xc:Fx:=⟨62,tab,Kn.l [k57 N,Yb N],N,f211,[.io dH,.v aA],[.own me,.io dH],[⟨27,[(0,.io dH),(5,.own me),(8,.v I)],[1,1,1,1,0,1,0,0],[]⟩,⟨19,[(0,.io dH),(5,.own me),(7,.v I)],[1,1,1,0,1,0,0],[]⟩,⟨7,[(0,.io dH),(5,.own me),(6,.v I)],[1,1,0,1,0,0],[]⟩],none⟩
theorem afb(K ρ):(xc N).bd K ρ 27=gB.ly N ((xc N).kc ρ 27):=κ
theorem afc(ρ):(xc N).kc ((xc N).cv ρ) 27=gB.my N N:=Fx.uL [] (afb N) ρ (gB.my N) λn ρ' e d=>by rw[e];rfl
theorem afd(K ρ):(xc N).bd K ρ 19=gB.vd N ((xc N).kc K 27) ((xc N).kc ρ 19):=κ
theorem afe(ρ):(xc N).kc ((xc N).cv ρ) 19=gB.l9 N N:=Fx.uL [27] (afd N) ρ (gB.l9 N) λn ρ' e d=>by rw[afc,e];rfl
theorem amF(K ρ):(xc N).bd K ρ 7=gB.m3 N ((xc N).kc K 19) ((xc N).kc ρ 7):=κ
theorem amG(ρ):(xc N).kc ((xc N).cv ρ) 7=gB.l3 N N:=Fx.uL [19,27] (amF N) ρ (gB.l3 N) λn ρ' e d=>by rw[afe,e];rfl
theorem ax2(K):(xc N).top K=gB.b N ((xc N).kc K 7):=κ
def ax3:Kn prog:=⟨211,(xc N).S false (gB N),Fx.u1 (xc N) aC func211 [7,19,27] (ax2 N) (by rw[amG];rfl)⟩
def Ri:Fx:=⟨50,tab,Kn.l [ax3 N,Yb N,amE N,amD N,asT N],N,f145,[.io dH,.v aA,.v I],[.own me,.io dH],[⟨7,[(0,.io dH),(4,.obj aA),(7,.own me),(8,.v I)],[1,1,0,1,0,0],[]⟩],none⟩
theorem amH(K ρ):(Ri N).bd K ρ 7=qV.m3 N ((Ri N).kc ρ 7):=κ
theorem amI(ρ):(Ri N).kc ((Ri N).cv ρ) 7=qV.l3 N N:=Fx.uL [] (amH N) ρ (qV.l3 N) λn ρ' e d=>by rw[e];rfl
theorem ax4(K):(Ri N).top K=qV.b N ((Ri N).kc K 7):=κ
def asV:Kn prog:=⟨145,(Ri N).S false (qV N),Fx.u1 (Ri N) aC func145 [7] (ax4 N) (by rw[amI];rfl)⟩
def asW:Fx:=⟨15,tab,[],N,f184,[.v I,.v I,.v I],[.v B],[],none⟩
def ax5:Kn prog:=⟨184,(asW N).S true (JI N),Fx.u0 (asW N) aC func184⟩
def Rj:Fx:=⟨77,tab,Kn.l [ax5 N],N,f111,[.v aA],[.v B],[⟨9,[(1,.obj aA),(3,.v I)],[1,1,0,1,0,0],[]⟩],none⟩
theorem amJ(K ρ):(Rj N).bd K ρ 9=nj.dL N ((Rj N).kc ρ 9):=κ
theorem amK(ρ):(Rj N).kc ((Rj N).cv ρ) 9=nj.l4 N N:=Fx.uL [] (amJ N) ρ (nj.l4 N) λn ρ' e d=>by rw[e];rfl
theorem ax6(K):(Rj N).top K=nj.b N ((Rj N).kc K 9):=κ
def TY:Kn prog:=⟨111,(Rj N).S true (nj N),Fx.u1 (Rj N) aC func111 [9] (ax6 N) (by rw[amK];rfl)⟩
def Fm:Fx:=⟨41,tab,Kn.l [TY N],N,f206,[.v aA],[.v aL,.v I],[⟨15,[(1,.obj aA),(2,.obj aL),(4,.gn aL [.iK 4] I),(5,.v I)],[1,1,1,1,0,1,0,0],[]⟩,⟨12,[(1,.obj aA),(2,.obj aL),(4,.gn aL [.iK 4] I)],[1,1,1,1],[]⟩],some (aL,[.iK 4],I,[4])⟩
theorem aff(K ρ):(Fm N).bd K ρ 15=jb.mK N ((Fm N).kc ρ 15):=κ
theorem afg(ρ):(Fm N).kc ((Fm N).cv ρ) 15=jb.l7 N N:=Fx.uL [] (aff N) ρ (jb.l7 N) λn ρ' e d=>by rw[e];rfl
theorem afh(K ρ):(Fm N).bd K ρ 12=jb.OY N ((Fm N).kc K 15):=κ
theorem afi(ρ):(Fm N).kc ((Fm N).cv ρ) 12=jb.j6 N:=Fx.uJ [15] (afh N) ρ (by rw[afg];rfl)
theorem ax7(K):(Fm N).top K=jb.b N ((Fm N).kc K 12):=κ
def ax8:Kn prog:=⟨206,(Fm N).S false (jb N),Fx.u1 (Fm N) aC func206 [12,15] (ax7 N) (by rw[afi];rfl)⟩
def asX:Fx:=⟨17,tab,Kn.l [ax8 N],N,f142,[.v aA],[.v dO,.v I],[],none⟩
def asY:Kn prog:=⟨142,(asX N).S false (abi N),Fx.u0 (asX N) aC func142⟩
def Rk:Fx:=⟨33,tab,Kn.l [Yb N,k57 N,amD N,amE N],N,f212,[.io dH,.v aA],[.own me,.io dH],[⟨7,[(0,.io dH),(3,.obj aA),(5,.own me),(6,.v I)],[1,1,0,1,0,0],[]⟩],none⟩
theorem amL(K ρ):(Rk N).bd K ρ 7=oK.m3 N ((Rk N).kc ρ 7):=κ
theorem amM(ρ):(Rk N).kc ((Rk N).cv ρ) 7=oK.l3 N N:=Fx.uL [] (amL N) ρ (oK.l3 N) λn ρ' e d=>by rw[e];rfl
theorem ax9(K):(Rk N).top K=oK.b N ((Rk N).kc K 7):=κ
def asZ:Kn prog:=⟨212,(Rk N).S false (oK N),Fx.u1 (Rk N) aC func212 [7] (ax9 N) (by rw[amM];rfl)⟩
def as0:Fx:=⟨9,tab,[],N,f241,[.v I],[.v B],[],none⟩
def aya:Kn prog:=⟨241,(as0 N).S true (aly N),Fx.u0 (as0 N) aC func241⟩
def as2:Fx:=⟨32,tab,[],N,f242,[.v I],[.v Z],[],none⟩
def ayb:Kn prog:=⟨242,(as2 N).S true (adJ N),Fx.u0 (as2 N) aC func242⟩
def as3:Fx:=⟨12,tab,[],N,f269,[.v I],[.v I,.v I],[],none⟩
def ayc:Kn prog:=⟨269,(as3 N).S true (alw N),Fx.u0 (as3 N) aC func269⟩
def as4:Fx:=⟨6,tab,[],N,f270,[.v I],[.v I,.v I],[],none⟩
def ayd:Kn prog:=⟨270,(as4 N).S true (alx N),Fx.u0 (as4 N) aC func270⟩
def as5:Fx:=⟨27,tab,Kn.l [ayc N,ayd N],N,f243,[.v I,.v (.int .u8)],[.v I,.v I],[],none⟩
def aye:Kn prog:=⟨243,(as5 N).S true (adK N),Fx.u0 (as5 N) aC func243⟩
def as6:Fx:=⟨32,tab,[],N,f244,[.v me,.v (.int .u8)],[.v I],[],none⟩
def ayf:Kn prog:=⟨244,(as6 N).S true (adL N),Fx.u0 (as6 N) aC func244⟩
def as7:Fx:=⟨35,tab,[],N,f245,[.v me,.v (.int .u8),.v I],[.v me],[],none⟩
def ayg:Kn prog:=⟨245,(as7 N).S true (adM N),Fx.u0 (as7 N) aC func245⟩
def Rl:Fx:=⟨56,tab,Kn.l [aya N,ayb N,aye N,ayf N,ayg N],N,f207,[.v me],[.v B],[⟨13,[(1,.obj me),(3,.v Z),(4,.obj me),(5,.v I)],[1,1,1,1,0,1,0,0],[]⟩],none⟩
theorem afj(K ρ):(Rl N).bd K ρ 13=s0.u7 N ((Rl N).kc ρ 13):=κ
theorem afk(ρ):(Rl N).kc ((Rl N).cv ρ) 13=s0.l6 N N:=Fx.uL [] (afj N) ρ (s0.l6 N) λn ρ' e d=>by rw[e];rfl
theorem ayh(K):(Rl N).top K=s0.b N ((Rl N).kc K 13):=κ
def ayi:Kn prog:=⟨207,(Rl N).S true (s0 N),Fx.u1 (Rl N) aC func207 [13] (ayh N) (by rw[afk];rfl)⟩
def X69:Fx:=⟨58,tab,[],N,f69,[.v dJ],[.v B],[⟨5,[(0,.v dJ),(3,.v I)],[1,0,1,0,0],[]⟩],none⟩
theorem as8(K ρ):(X69 N).bd K ρ 5=CD.fI N ((X69 N).kc ρ 5):=κ
theorem as9(ρ):(X69 N).kc ((X69 N).cv ρ) 5=CD.l2 N N:=Fx.uL [] (as8 N) ρ (CD.l2 N) λn ρ' e d=>by rw[e];rfl
theorem h69(K):(X69 N).top K=CD.b N ((X69 N).kc K 5):=κ
def k69:Kn prog:=⟨69,(X69 N).S true (CD N),Fx.u1 (X69 N) aC func69 [5] (h69 N) (by rw[as9];rfl)⟩
def X70:Fx:=⟨24,tab,[],N,f70,[.v dJ,.v I],[.v I],[⟨5,[(0,.v dJ),(1,.v I),(5,.v I)],[1,0,1,0,0],[]⟩],none⟩
theorem ata(K ρ):(X70 N).bd K ρ 5=AI.fI N ((X70 N).kc ρ 5):=κ
theorem atb(ρ):(X70 N).kc ((X70 N).cv ρ) 5=AI.l2 N N:=Fx.uL [] (ata N) ρ (AI.l2 N) λn ρ' e d=>by rw[e];rfl
theorem h70(K):(X70 N).top K=AI.b N ((X70 N).kc K 5):=κ
def k70:Kn prog:=⟨70,(X70 N).S true (AI N),Fx.u1 (X70 N) aC func70 [5] (h70 N) (by rw[atb];rfl)⟩
def Fo:Fx:=⟨53,tab,Kn.l [k69 N,k70 N],N,f246,[.v dJ,.v I],[.own kO,.v I],[⟨18,[(0,.v dJ),(1,.v I),(6,.own kO),(7,.v I)],[1,1,1,1,1,1],[]⟩,⟨15,[(0,.v dJ),(1,.v I),(6,.own kO),(7,.v I)],[1,1,1,1,1,0,0,0],[]⟩],none⟩
theorem afl(K ρ):(Fo N).bd K ρ 18=ja.JF N:=κ
theorem afm(ρ):(Fo N).kc ((Fo N).cv ρ) 18=ja.j9 N:=Fx.uJ [] (afl N) ρ
theorem afn(K ρ):(Fo N).bd K ρ 15=ja.mK N ((Fo N).kc K 18) ((Fo N).kc ρ 15):=κ
theorem afo(ρ):(Fo N).kc ((Fo N).cv ρ) 15=ja.l7 N N:=Fx.uL [18] (afn N) ρ (ja.l7 N) λn ρ' e d=>by rw[afm,e];rfl
theorem ayj(K):(Fo N).top K=ja.b N ((Fo N).kc K 15):=κ
def ayk:Kn prog:=⟨246,(Fo N).S false (ja N),Fx.u1 (Fo N) aC func246 [15,18] (ayj N) (by rw[afo];rfl)⟩
def atc:Fx:=⟨5,tab,[],N,f247,[.v I],[.v kf],[],none⟩
def afp:Kn prog:=⟨247,(atc N).S true (gd N),Fx.u0 (atc N) aC func247⟩
def tE:Fx:=⟨95,tab,[],N,f120,[.v fp],[.v B],[⟨17,[(0,.v fp),(3,.v I),(4,.obj fa),(5,.v I)],[1,0,1,0,0,1,0,0,1,1,1,0,0],[5]⟩,⟨14,[(0,.v fp),(3,.v I),(4,.obj fa)],[1,0,1,0,0,1,0,0,1,1],[5]⟩,⟨5,[(0,.v fp),(3,.v I)],[1,0,1,0,0],[]⟩],none⟩
theorem afq(K ρ):(tE N).bd K ρ 17=e8.Ef N ((tE N).kc ρ 5) ((tE N).kc ρ 17):=κ
theorem afr(ρ):(tE N).kc ((tE N).cv ρ) 17=e8.l8 N ((tE N).kc ρ 5) N:=Fx.uL [] (afq N) ρ (e8.l8 N ((tE N).kc ρ 5)) λn ρ' e d=>by rw[e,d 5 rfl];rfl
theorem afs(K ρ):(tE N).bd K ρ 14=e8.X9 N ((tE N).kc K 17) ((tE N).kc ρ 5):=κ
theorem aft(ρ):(tE N).kc ((tE N).cv ρ) 14=e8.j7 N ((tE N).kc ρ 5):=Fx.uJ [17] (afs N) ρ (by rw[afr];rfl)
theorem amN(K ρ):(tE N).bd K ρ 5=e8.fI N ((tE N).kc K 14) ((tE N).kc ρ 5):=κ
theorem amO(ρ):(tE N).kc ((tE N).cv ρ) 5=e8.l2 N N:=Fx.uL [14,17] (amN N) ρ (e8.l2 N) λn ρ' e d=>by rw[aft,e];rfl
theorem ayl(K):(tE N).top K=e8.b N ((tE N).kc K 5):=κ
def XX:Kn prog:=⟨120,(tE N).S true (e8 N),Fx.u1 (tE N) aC func120 [5] (ayl N) (by rw[amO];rfl)⟩
def Rm:Fx:=⟨28,tab,Kn.l [k69 N,XX N,k70 N],N,f112,[.v dJ,.v fp],[.v B],[⟨9,[(0,.v dJ),(1,.v fp),(5,.v I)],[1,1,0,1,0,0],[]⟩],none⟩
theorem amP(K ρ):(Rm N).bd K ρ 9=pt.dL N ((Rm N).kc ρ 9):=κ
theorem amQ(ρ):(Rm N).kc ((Rm N).cv ρ) 9=pt.l4 N N:=Fx.uL [] (amP N) ρ (pt.l4 N) λn ρ' e d=>by rw[e];rfl
theorem aym(K):(Rm N).top K=pt.b N ((Rm N).kc K 9):=κ
def amR:Kn prog:=⟨112,(Rm N).S true (pt N),Fx.u1 (Rm N) aC func112 [9] (aym N) (by rw[amQ];rfl)⟩
def Rn:Fx:=⟨25,tab,[],N,f121,[.v fp,.v I],[.v fa,.v B],[⟨5,[(0,.v fp),(1,.v I),(4,.obj fa),(6,.v I)],[1,0,1,0,0],[]⟩],none⟩
theorem amS(K ρ):(Rn N).bd K ρ 5=oX.fI N ((Rn N).kc ρ 5):=κ
theorem amT(ρ):(Rn N).kc ((Rn N).cv ρ) 5=oX.l2 N N:=Fx.uL [] (amS N) ρ (oX.l2 N) λn ρ' e d=>by rw[e];rfl
theorem ayn(K):(Rn N).top K=oX.b N ((Rn N).kc K 5):=κ
def afu:Kn prog:=⟨121,(Rn N).S true (oX N),Fx.u1 (Rn N) aC func121 [5] (ayn N) (by rw[amT];rfl)⟩
def Ro:Fx:=⟨35,tab,Kn.l [XX N],N,f271,[.v fp,.v I],[.v I],[⟨9,[(0,.v fp),(1,.v I),(5,.v I)],[1,1,0,1,0,0],[]⟩],none⟩
theorem amU(K ρ):(Ro N).bd K ρ 9=np.dL N ((Ro N).kc ρ 9):=κ
theorem amV(ρ):(Ro N).kc ((Ro N).cv ρ) 9=np.l4 N N:=Fx.uL [] (amU N) ρ (np.l4 N) λn ρ' e d=>by rw[e];rfl
theorem ayo(K):(Ro N).top K=np.b N ((Ro N).kc K 9):=κ
def abI:Kn prog:=⟨271,(Ro N).S true (np N),Fx.u1 (Ro N) aC func271 [9] (ayo N) (by rw[amV];rfl)⟩
def zE:Fx:=⟨81,tab,Kn.l [amR N,XX N,k70 N,afu N,abI N],N,f248,[.v dJ,.v fp,.v fa],[.own fa,.v I],[⟨30,[(1,.v fp),(5,.obj fa),(11,.own fa),(12,.v I)],[1,1,1,1,1,1,1,1,1],[]⟩,⟨27,[(1,.v fp),(5,.obj fa),(11,.own fa),(12,.v I)],[1,1,1,1,1,1,1,1,0,0,0],[]⟩,⟨22,[(1,.v fp),(5,.obj fa)],[1,1,1,1,1,1],[]⟩],none⟩
theorem afv(K ρ):(zE N).bd K ρ 30=fQ.xa N:=κ
theorem afw(ρ):(zE N).kc ((zE N).cv ρ) 30=fQ.Dn N:=Fx.uJ [] (afv N) ρ
theorem afx(K ρ):(zE N).bd K ρ 27=fQ.ly N ((zE N).kc K 30) ((zE N).kc ρ 27):=κ
theorem afy(ρ):(zE N).kc ((zE N).cv ρ) 27=fQ.my N N:=Fx.uL [30] (afx N) ρ (fQ.my N) λn ρ' e d=>by rw[afw,e];rfl
theorem afz(K ρ):(zE N).bd K ρ 22=fQ.ym N ((zE N).kc K 27):=κ
theorem afA(ρ):(zE N).kc ((zE N).cv ρ) 22=fQ.E9 N:=Fx.uJ [27,30] (afz N) ρ (by rw[afy];rfl)
theorem ayp(K):(zE N).top K=fQ.b N ((zE N).kc K 22):=κ
def ayq:Kn prog:=⟨248,(zE N).S false (fQ N),Fx.u1 (zE N) aC func248 [22,27,30] (ayp N) (by rw[afA];rfl)⟩
def X48:Fx:=⟨15,tab,Kn.l [XX N,afu N],N,f48,[.v fp,.v I],[.v fa,.v B],[],none⟩
def k48:Kn prog:=⟨48,(X48 N).S true (Ws N),Fx.u0 (X48 N) aC func48⟩
def atd:Fx:=⟨16,tab,Kn.l [k48 N],N,f249,[.v dO,.v I],[.v B],[],none⟩
def ayr:Kn prog:=⟨249,(atd N).S true (Tp N),Fx.u0 (atd N) aC func249⟩
def Rp:Fx:=⟨22,tab,[],N,f168,[.v LU],[.v LU],[⟨5,[(0,.v LU),(3,.v I)],[1,1,0,0,0],[]⟩],none⟩
theorem amW(K ρ):(Rp N).bd K ρ 5=pj.fI N ((Rp N).kc ρ 5):=κ
theorem amX(ρ):(Rp N).kc ((Rp N).cv ρ) 5=pj.l2 N N:=Fx.uL [] (amW N) ρ (pj.l2 N) λn ρ' e d=>by rw[e];rfl
theorem ays(K):(Rp N).top K=pj.b N ((Rp N).kc K 5):=κ
def amY:Kn prog:=⟨168,(Rp N).S false (pj N),Fx.u1 (Rp N) aC func168 [5] (ays N) (by rw[amX];rfl)⟩
def X83:Fx:=⟨9,tab,Kn.l [amY N],N,f83,[.v U],[.v LU],[],none⟩
def k83:Kn prog:=⟨83,(X83 N).S false (F83 N),Fx.u0 (X83 N) aC func83⟩
def X82:Fx:=⟨15,tab,Kn.l [amY N],N,f82,[.v B,.v LU],[.v dj],[],none⟩
def k82:Kn prog:=⟨82,(X82 N).S false (Wk N),Fx.u0 (X82 N) aC func82⟩
def X26:Fx:=⟨15,tab,Kn.l [k83 N,k82 N],N,f26,[.v I],[.v dj],[],none⟩
def AF:Kn prog:=⟨26,(X26 N).S false (kR N),Fx.u0 (X26 N) aC func26⟩
def X52:Fx:=⟨9,tab,Kn.l [k82 N],N,f52,[.v dj],[.v dj],[],none⟩
def k52:Kn prog:=⟨52,(X52 N).S false (X7 N),Fx.u0 (X52 N) aC func52⟩
def ate:Fx:=⟨21,tab,Kn.l [k52 N],N,f152,[.v I,.v I,.v I,.v I,.v dj],[.own tj],[],none⟩
def abJ:Kn prog:=⟨152,(ate N).S false (Dq N),Fx.u0 (ate N) aC func152⟩
def X93:Fx:=⟨13,tab,[],N,f93,[.v LU,.v I],[.v U],[],none⟩
def k93:Kn prog:=⟨93,(X93 N).S true (F93 N),Fx.u0 (X93 N) aC func93⟩
def Vp:Fx:=⟨41,tab,Kn.l [k93 N],N,f85,[.v LU,.v LU],[.own U],[⟨12,[(0,.v LU),(1,.v LU),(5,.own U),(6,.v U),(7,.v I)],[1,1,1,0,1,0,0,1],[9]⟩,⟨9,[(0,.v LU),(1,.v LU),(5,.own U),(6,.v U),(7,.v I)],[1,1,1,0,1,0,0],[]⟩],none⟩
theorem am0(K ρ):(Vp N).bd K ρ 12=wT.OY N ((Vp N).kc ρ 9):=κ
theorem am1(ρ):(Vp N).kc ((Vp N).cv ρ) 12=wT.j6 N ((Vp N).kc ρ 9):=Fx.uJ [] (am0 N) ρ
theorem atf(K ρ):(Vp N).bd K ρ 9=wT.dL N ((Vp N).kc K 12) ((Vp N).kc ρ 9):=κ
theorem atg(ρ):(Vp N).kc ((Vp N).cv ρ) 9=wT.l4 N N:=Fx.uL [12] (atf N) ρ (wT.l4 N) λn ρ' e d=>by rw[am1,e];rfl
theorem h85(K):(Vp N).top K=wT.b N ((Vp N).kc K 9):=κ
def k85:Kn prog:=⟨85,(Vp N).S false (wT N),Fx.u1 (Vp N) aC func85 [9] (h85 N) (by rw[atg];rfl)⟩
def X86:Fx:=⟨41,tab,[],N,f86,[.v LU,.v LU],[.v I],[⟨13,[(0,.v LU),(1,.v LU),(5,.v I)],[1,1,0,1,0,0],[]⟩],none⟩
theorem am2(K ρ):(X86 N).bd K ρ 13=E0.u7 N ((X86 N).kc ρ 13):=κ
theorem am3(ρ):(X86 N).kc ((X86 N).cv ρ) 13=E0.l6 N N:=Fx.uL [] (am2 N) ρ (E0.l6 N) λn ρ' e d=>by rw[e];rfl
theorem h86(K):(X86 N).top K=E0.b N ((X86 N).kc K 13):=κ
def k86:Kn prog:=⟨86,(X86 N).S true (E0 N),Fx.u1 (X86 N) aC func86 [13] (h86 N) (by rw[am3];rfl)⟩
def X87:Fx:=⟨37,tab,Kn.l [k93 N],N,f87,[.v LU,.v LU],[.own U],[⟨9,[(0,.v LU),(1,.v LU),(5,.own U),(6,.v U),(7,.v I)],[1,1,1,0,1,0,0],[]⟩],none⟩
theorem ath(K ρ):(X87 N).bd K ρ 9=FH.dL N ((X87 N).kc ρ 9):=κ
theorem ati(ρ):(X87 N).kc ((X87 N).cv ρ) 9=FH.l4 N N:=Fx.uL [] (ath N) ρ (FH.l4 N) λn ρ' e d=>by rw[e];rfl
theorem h87(K):(X87 N).top K=FH.b N ((X87 N).kc K 9):=κ
def k87:Kn prog:=⟨87,(X87 N).S false (FH N),Fx.u1 (X87 N) aC func87 [9] (h87 N) (by rw[ati];rfl)⟩
def X28:Fx:=⟨40,tab,Kn.l [k85 N,k82 N,k86 N,k87 N],N,f28,[.v dj,.v dj],[.v dj],[],none⟩
def Sf:Kn prog:=⟨28,(X28 N).S false (Ak N),Fx.u0 (X28 N) aC func28⟩
def atj:Fx:=⟨28,tab,Kn.l [k93 N],N,f150,[.v dj],[.v I,.v B],[],none⟩
def I6:Kn prog:=⟨150,(atj N).S true (yd N),Fx.u0 (atj N) aC func150⟩
def atk:Fx:=⟨18,tab,Kn.l [I6 N],N,f258,[.v dj],[.v I,.v B],[],none⟩
def atl:Kn prog:=⟨258,(atk N).S true (SU N),Fx.u0 (atk N) aC func258⟩
def lG:Fx:=⟨106,tab,Kn.l [AF N,Sf N,atl N],N,f215,[.v cS,.v cS],[.own kf,.v B],[⟨31,[(0,.v cS),(1,.v cS),(6,.own kf),(7,.v I),(8,.v I),(9,.v I),(10,.v I),(11,.v B),(12,.obj dj),(13,.v I)],[1,1,1,0,1,0,0,1,0,0,1,0,0,1,0,0,1,1,1,0,1,0,0],[9,15]⟩,⟨26,[(0,.v cS),(1,.v cS),(6,.own kf),(7,.v I),(8,.v I),(9,.v I),(10,.v I),(11,.v B)],[1,1,1,0,1,0,0,1,0,0,1,0,0,1,0,0,1,1],[9,15]⟩,⟨15,[(0,.v cS),(1,.v cS),(6,.own kf),(7,.v I),(8,.v I),(9,.v I)],[1,1,1,0,1,0,0,1,0,0,1,0,0],[9]⟩,⟨9,[(0,.v cS),(1,.v cS),(6,.own kf),(7,.v I),(8,.v I)],[1,1,1,0,1,0,0],[]⟩],none⟩
theorem afB(K ρ):(lG N).bd K ρ 31=cQ.JP N ((lG N).kc ρ 9) ((lG N).kc ρ 15) ((lG N).kc ρ 31):=κ
theorem afC(ρ):(lG N).kc ((lG N).cv ρ) 31=cQ.KC N ((lG N).kc ρ 9) ((lG N).kc ρ 15) N:=Fx.uL [] (afB N) ρ (cQ.KC N ((lG N).kc ρ 9) ((lG N).kc ρ 15)) λn ρ' e d=>by rw[e,d 9 rfl,d 15 rfl];rfl
theorem afD(K ρ):(lG N).bd K ρ 26=cQ.Mn N ((lG N).kc K 31) ((lG N).kc ρ 9) ((lG N).kc ρ 15):=κ
theorem afE(ρ):(lG N).kc ((lG N).cv ρ) 26=cQ.UN N ((lG N).kc ρ 9) ((lG N).kc ρ 15):=Fx.uJ [31] (afD N) ρ (by rw[afC];rfl)
theorem afF(K ρ):(lG N).bd K ρ 15=cQ.mK N ((lG N).kc K 26) ((lG N).kc ρ 9) ((lG N).kc ρ 15):=κ
theorem afG(ρ):(lG N).kc ((lG N).cv ρ) 15=cQ.l7 N ((lG N).kc ρ 9) N:=Fx.uL [26,31] (afF N) ρ (cQ.l7 N ((lG N).kc ρ 9)) λn ρ' e d=>by rw[afE,e,d 9 rfl];rfl
theorem am4(K ρ):(lG N).bd K ρ 9=cQ.dL N ((lG N).kc K 15) ((lG N).kc ρ 9):=κ
theorem am5(ρ):(lG N).kc ((lG N).cv ρ) 9=cQ.l4 N N:=Fx.uL [15] (am4 N) ρ (cQ.l4 N) λn ρ' e d=>by rw[afG,e];rfl
theorem ayt(K):(lG N).top K=cQ.b N ((lG N).kc K 9):=κ
def ayu:Kn prog:=⟨215,(lG N).S false (cQ N),Fx.u1 (lG N) aC func215 [9] (ayt N) (by rw[am5];rfl)⟩
def Rq:Fx:=⟨53,tab,Kn.l [Sf N,AF N,I6 N],N,f259,[.v I,.v I,.v I,.v nB],[.v I,.v B],[⟨7,[(0,.v I),(1,.v I),(2,.v I),(3,.v nB),(10,.obj dj),(11,.v B),(12,.v I)],[1,1,0,1,0,0],[]⟩],none⟩
theorem am6(K ρ):(Rq N).bd K ρ 7=oE.m3 N ((Rq N).kc ρ 7):=κ
theorem am7(ρ):(Rq N).kc ((Rq N).cv ρ) 7=oE.l3 N N:=Fx.uL [] (am6 N) ρ (oE.l3 N) λn ρ' e d=>by rw[e];rfl
theorem ayv(K):(Rq N).top K=oE.b N ((Rq N).kc K 7):=κ
def ayw:Kn prog:=⟨259,(Rq N).S true (oE N),Fx.u1 (Rq N) aC func259 [7] (ayv N) (by rw[am7];rfl)⟩
def rK:Fx:=⟨69,tab,Kn.l [ayw N],N,f216,[.v cS,.v nB],[.own kf,.v B],[⟨26,[(0,.v cS),(1,.v nB),(6,.own kf),(7,.v I),(8,.v I),(9,.v I),(10,.v I)],[1,1,1,0,1,0,0,1,0,0,1,0,0,1,0,0,1,1],[9,15]⟩,⟨15,[(0,.v cS),(1,.v nB),(6,.own kf),(7,.v I),(8,.v I),(9,.v I)],[1,1,1,0,1,0,0,1,0,0,1,0,0],[9]⟩,⟨9,[(0,.v cS),(1,.v nB),(6,.own kf),(7,.v I),(8,.v I)],[1,1,1,0,1,0,0],[]⟩],none⟩
theorem afH(K ρ):(rK N).bd K ρ 26=dQ.Mn N ((rK N).kc ρ 9) ((rK N).kc ρ 15):=κ
theorem afI(ρ):(rK N).kc ((rK N).cv ρ) 26=dQ.UN N ((rK N).kc ρ 9) ((rK N).kc ρ 15):=Fx.uJ [] (afH N) ρ
theorem afJ(K ρ):(rK N).bd K ρ 15=dQ.mK N ((rK N).kc K 26) ((rK N).kc ρ 9) ((rK N).kc ρ 15):=κ
theorem afK(ρ):(rK N).kc ((rK N).cv ρ) 15=dQ.l7 N ((rK N).kc ρ 9) N:=Fx.uL [26] (afJ N) ρ (dQ.l7 N ((rK N).kc ρ 9)) λn ρ' e d=>by rw[afI,e,d 9 rfl];rfl
theorem am8(K ρ):(rK N).bd K ρ 9=dQ.dL N ((rK N).kc K 15) ((rK N).kc ρ 9):=κ
theorem am9(ρ):(rK N).kc ((rK N).cv ρ) 9=dQ.l4 N N:=Fx.uL [15] (am8 N) ρ (dQ.l4 N) λn ρ' e d=>by rw[afK,e];rfl
theorem ayx(K):(rK N).top K=dQ.b N ((rK N).kc K 9):=κ
def ayy:Kn prog:=⟨216,(rK N).S false (dQ N),Fx.u1 (rK N) aC func216 [9] (ayx N) (by rw[am9];rfl)⟩
def atm:Fx:=⟨36,tab,Kn.l [ayu N,ayy N],N,f154,[.v aL,.v cS,.v nB],[.v aL,.v I],[],none⟩
def Rr:Kn prog:=⟨154,(atm N).S false (zB N),Fx.u0 (atm N) aC func154⟩
def atn:Fx:=⟨34,tab,Kn.l [AF N,abJ N,Rr N],N,f250,[.v dO,.v I,.v I,.v I,.v I,.v I],[.v dO,.v kf],[],none⟩
def ayz:Kn prog:=⟨250,(atn N).S false (Qf N),Fx.u0 (atn N) aC func250⟩
def Rs:Fx:=⟨33,tab,Kn.l [k84 N,AF N,Sf N],N,f117,[.v cS,.v I],[.v dj],[⟨11,[(0,.v cS),(1,.v I),(4,.obj dj),(5,.obj dj),(6,.v I)],[1,1,1,0,1,0,0],[]⟩],none⟩
theorem afL(K ρ):(Rs N).bd K ρ 11=qk.dU N ((Rs N).kc ρ 11):=κ
theorem afM(ρ):(Rs N).kc ((Rs N).cv ρ) 11=qk.l5 N N:=Fx.uL [] (afL N) ρ (qk.l5 N) λn ρ' e d=>by rw[e];rfl
theorem ayA(K):(Rs N).top K=qk.b N ((Rs N).kc K 11):=κ
def ayB:Kn prog:=⟨117,(Rs N).S false (qk N),Fx.u1 (Rs N) aC func117 [11] (ayA N) (by rw[afM];rfl)⟩
def X44:Fx:=⟨9,tab,[],N,f44,[.v dj],[.v I],[],none⟩
def k44:Kn prog:=⟨44,(X44 N).S true (Uw N),Fx.u0 (X44 N) aC func44⟩
def X43:Fx:=⟨15,tab,Kn.l [ayB N,k44 N,k84 N],N,f43,[.v cS],[.v B],[⟨5,[(0,.v cS),(3,.v I)],[1,0,1,0,0],[]⟩],none⟩
theorem ato(K ρ):(X43 N).bd K ρ 5=E5.fI N ((X43 N).kc ρ 5):=κ
theorem atp(ρ):(X43 N).kc ((X43 N).cv ρ) 5=E5.l2 N N:=Fx.uL [] (ato N) ρ (E5.l2 N) λn ρ' e d=>by rw[e];rfl
theorem h43(K):(X43 N).top K=E5.b N ((X43 N).kc K 5):=κ
def k43:Kn prog:=⟨43,(X43 N).S true (E5 N),Fx.u1 (X43 N) aC func43 [5] (h43 N) (by rw[atp];rfl)⟩
def atq:Fx:=⟨9,tab,[],N,f115,[.v I],[.v B],[],none⟩
def TZ:Kn prog:=⟨115,(atq N).S true (E2 N),Fx.u0 (atq N) aC func115⟩
def atr:Fx:=⟨56,tab,Kn.l [TZ N],N,f185,[.v nw],[.v B],[],none⟩
def afO:Kn prog:=⟨185,(atr N).S true (SM N),Fx.u0 (atr N) aC func185⟩
def Rt:Fx:=⟨37,tab,Kn.l [afO N],N,f113,[.v lF],[.v B],[⟨9,[(0,.v lF),(3,.v I)],[1,1,0,1,0,0],[]⟩],none⟩
theorem ana(K ρ):(Rt N).bd K ρ 9=nQ.dL N ((Rt N).kc ρ 9):=κ
theorem anb(ρ):(Rt N).kc ((Rt N).cv ρ) 9=nQ.l4 N N:=Fx.uL [] (ana N) ρ (nQ.l4 N) λn ρ' e d=>by rw[e];rfl
theorem ayC(K):(Rt N).top K=nQ.b N ((Rt N).kc K 9):=κ
def XY:Kn prog:=⟨113,(Rt N).S true (nQ N),Fx.u1 (Rt N) aC func113 [9] (ayC N) (by rw[anb];rfl)⟩
def X45:Fx:=⟨24,tab,Kn.l [k88 N,AF N,Sf N],N,f45,[.v cS],[.v dj],[⟨11,[(0,.v cS),(2,.obj dj),(3,.obj dj),(4,.v I)],[1,1,1,0,1,0,0],[]⟩],none⟩
theorem anc(K ρ):(X45 N).bd K ρ 11=Eh.dU N ((X45 N).kc ρ 11):=κ
theorem ane(ρ):(X45 N).kc ((X45 N).cv ρ) 11=Eh.l5 N N:=Fx.uL [] (anc N) ρ (Eh.l5 N) λn ρ' e d=>by rw[e];rfl
theorem h45(K):(X45 N).top K=Eh.b N ((X45 N).kc K 11):=κ
def k45:Kn prog:=⟨45,(X45 N).S false (Eh N),Fx.u1 (X45 N) aC func45 [11] (h45 N) (by rw[ane];rfl)⟩
def ats:Fx:=⟨19,tab,Kn.l [k48 N],N,f114,[.v aL,.v I],[.v B],[],none⟩
def att:Kn prog:=⟨114,(ats N).S true (Mi N),Fx.u0 (ats N) aC func114⟩
def X22:Fx:=⟨11,tab,Kn.l [k69 N,k70 N],N,f22,[.v dJ,.v I],[.v I],[],none⟩
def k22:Kn prog:=⟨22,(X22 N).S true (UC N),Fx.u0 (X22 N) aC func22⟩
def I7:Fx:=⟨163,tab,Kn.l [TY N,amR N,k88 N,k43 N,XY N,k45 N,k44 N,att N,k22 N,TZ N],N,f41,[.v aA,.v aL],[.v B],[⟨45,[(2,.obj aA),(3,.obj aL),(9,.v I)],[1,1,1,1,1,1,0,1,0,0],[]⟩,⟨35,[(2,.obj aA),(3,.obj aL),(8,.v I)],[1,1,1,1,1,0,1,0,0],[]⟩,⟨25,[(2,.obj aA),(3,.obj aL),(7,.v I)],[1,1,1,1,0,1,0,0],[]⟩,⟨13,[(2,.obj aA),(3,.obj aL),(5,.v I)],[1,1,1,0,1,0,0],[]⟩],none⟩
theorem ang(K ρ):(I7 N).bd K ρ 45=gG.w8 N ((I7 N).kc ρ 45):=κ
theorem anh(ρ):(I7 N).kc ((I7 N).cv ρ) 45=gG.yk N N:=Fx.uL [] (ang N) ρ (gG.yk N) λn ρ' e d=>by rw[e];rfl
theorem ani(K ρ):(I7 N).bd K ρ 35=gG.E7 N ((I7 N).kc K 45) ((I7 N).kc ρ 35):=κ
theorem anj(ρ):(I7 N).kc ((I7 N).cv ρ) 35=gG.FL N N:=Fx.uL [45] (ani N) ρ (gG.FL N) λn ρ' e d=>by rw[anh,e];rfl
theorem ank(K ρ):(I7 N).bd K ρ 25=gG.mO N ((I7 N).kc K 35) ((I7 N).kc ρ 25):=κ
theorem anl(ρ):(I7 N).kc ((I7 N).cv ρ) 25=gG.nI N N:=Fx.uL [35,45] (ank N) ρ (gG.nI N) λn ρ' e d=>by rw[anj,e];rfl
theorem anm(K ρ):(I7 N).bd K ρ 13=gG.u7 N ((I7 N).kc K 25) ((I7 N).kc ρ 13):=κ
theorem ann(ρ):(I7 N).kc ((I7 N).cv ρ) 13=gG.l6 N N:=Fx.uL [25,35,45] (anm N) ρ (gG.l6 N) λn ρ' e d=>by rw[anl,e];rfl
theorem h41(K):(I7 N).top K=gG.b N ((I7 N).kc K 13):=κ
def Jn:Kn prog:=⟨41,(I7 N).S true (gG N),Fx.u1 (I7 N) aC func41 [13,25,35,45] (h41 N) (by rw[ann];rfl)⟩
def X34:Fx:=⟨9,tab,Kn.l [k52 N,Sf N],N,f34,[.v dj,.v dj],[.v dj],[],none⟩
def k34:Kn prog:=⟨34,(X34 N).S false (SC N),Fx.u0 (X34 N) aC func34⟩
def Ru:Fx:=⟨39,tab,Kn.l [k84 N],N,f148,[.v cS,.v I],[.own kO],[⟨11,[(0,.v cS),(1,.v I),(5,.own kO),(6,.v I)],[1,1,1,0,1,0,0],[]⟩],none⟩
theorem afP(K ρ):(Ru N).bd K ρ 11=mP.dU N ((Ru N).kc ρ 11):=κ
theorem afQ(ρ):(Ru N).kc ((Ru N).cv ρ) 11=mP.l5 N N:=Fx.uL [] (afP N) ρ (mP.l5 N) λn ρ' e d=>by rw[e];rfl
theorem ayD(K):(Ru N).top K=mP.b N ((Ru N).kc K 11):=κ
def XZ:Kn prog:=⟨148,(Ru N).S false (mP N),Fx.u1 (Ru N) aC func148 [11] (ayD N) (by rw[afQ];rfl)⟩
def zF:Fx:=⟨74,tab,[],N,f204,[.v lF,.v I],[.own kf],[⟨15,[(0,.v lF),(1,.v I),(5,.own kf),(6,.v I),(7,.obj kf),(8,.v I)],[1,1,0,1,0,0,1,0,0,1,0,1,0,0],[7]⟩,⟨7,[(0,.v lF),(1,.v I),(5,.own kf),(6,.v I)],[1,1,0,1,0,0],[]⟩],none⟩
theorem afR(K ρ):(zF N).bd K ρ 15=fm.mK N ((zF N).kc ρ 7) ((zF N).kc ρ 15):=κ
theorem afS(ρ):(zF N).kc ((zF N).cv ρ) 15=fm.l7 N ((zF N).kc ρ 7) N:=Fx.uL [] (afR N) ρ (fm.l7 N ((zF N).kc ρ 7)) λn ρ' e d=>by rw[e,d 7 rfl];rfl
theorem anp(K ρ):(zF N).bd K ρ 7=fm.m3 N ((zF N).kc K 15) ((zF N).kc ρ 7):=κ
theorem anq(ρ):(zF N).kc ((zF N).cv ρ) 7=fm.l3 N N:=Fx.uL [15] (anp N) ρ (fm.l3 N) λn ρ' e d=>by rw[afS,e];rfl
theorem ayE(K):(zF N).top K=fm.b N ((zF N).kc K 7):=κ
def anr:Kn prog:=⟨204,(zF N).S false (fm N),Fx.u1 (zF N) aC func204 [7] (ayE N) (by rw[anq];rfl)⟩
def Rv:Fx:=⟨66,tab,Kn.l [TY N],N,f239,[.v aA,.v dJ],[.v B],[⟨9,[(1,.v dJ),(2,.obj aA),(5,.v I)],[1,1,0,1,0,0],[]⟩],none⟩
theorem ans(K ρ):(Rv N).bd K ρ 9=oC.dL N ((Rv N).kc ρ 9):=κ
theorem ant(ρ):(Rv N).kc ((Rv N).cv ρ) 9=oC.l4 N N:=Fx.uL [] (ans N) ρ (oC.l4 N) λn ρ' e d=>by rw[e];rfl
theorem ayF(K):(Rv N).top K=oC.b N ((Rv N).kc K 9):=κ
def afT:Kn prog:=⟨239,(Rv N).S true (oC N),Fx.u1 (Rv N) aC func239 [9] (ayF N) (by rw[ant];rfl)⟩
def Rw:Fx:=⟨79,tab,Kn.l [TY N],N,f240,[.v aA,.v cS],[.v B],[⟨11,[(1,.v cS),(2,.obj aA),(5,.v I),(6,.v I)],[1,1,1,0,1,0,0],[]⟩],none⟩
theorem afU(K ρ):(Rw N).bd K ρ 11=mQ.dU N ((Rw N).kc ρ 11):=κ
theorem afV(ρ):(Rw N).kc ((Rw N).cv ρ) 11=mQ.l5 N N:=Fx.uL [] (afU N) ρ (mQ.l5 N) λn ρ' e d=>by rw[e];rfl
theorem ayG(K):(Rw N).top K=mQ.b N ((Rw N).kc K 11):=κ
def atu:Kn prog:=⟨240,(Rw N).S true (mQ N),Fx.u1 (Rw N) aC func240 [11] (ayG N) (by rw[afV];rfl)⟩
def X33:Fx:=⟨6,tab,Kn.l [k82 N],N,f33,[.v dj],[.v dj],[],none⟩
def k33:Kn prog:=⟨33,(X33 N).S false (Wl N),Fx.u0 (X33 N) aC func33⟩
def X30:Fx:=⟨9,tab,Kn.l [k34 N,k44 N],N,f30,[.v dj,.v dj],[.v I],[],none⟩
def k30:Kn prog:=⟨30,(X30 N).S true (Nu N),Fx.u0 (X30 N) aC func30⟩
def DC:Fx:=⟨96,tab,Kn.l [afT N,atu N,AF N,Sf N,k33 N,k34 N,k30 N],N,f203,[.v aA,.v dJ,.v cS,.v I],[.v dj,.v I],[⟨25,[(2,.v cS),(3,.v I),(8,.obj dj),(10,.obj dj),(11,.obj dj),(12,.obj dj),(14,.v I)],[1,1,1,1,1,0,1,0,0],[]⟩,⟨15,[(1,.v dJ),(2,.v cS),(3,.v I),(8,.obj dj),(10,.obj dj),(11,.obj dj),(12,.obj dj),(13,.v I)],[1,1,1,1,0,1,0,0],[]⟩],none⟩
theorem afW(K ρ):(DC N).bd K ρ 25=gA.mO N ((DC N).kc ρ 25):=κ
theorem afX(ρ):(DC N).kc ((DC N).cv ρ) 25=gA.nI N N:=Fx.uL [] (afW N) ρ (gA.nI N) λn ρ' e d=>by rw[e];rfl
theorem afY(K ρ):(DC N).bd K ρ 15=gA.mK N ((DC N).kc K 25) ((DC N).kc ρ 15):=κ
theorem afZ(ρ):(DC N).kc ((DC N).cv ρ) 15=gA.l7 N N:=Fx.uL [25] (afY N) ρ (gA.l7 N) λn ρ' e d=>by rw[afX,e];rfl
theorem ayH(K):(DC N).top K=gA.b N ((DC N).kc K 15):=κ
def atv:Kn prog:=⟨203,(DC N).S false (gA N),Fx.u1 (DC N) aC func203 [15,25] (ayH N) (by rw[afZ];rfl)⟩
def F4:Fx:=⟨71,tab,Kn.l [k93 N,k82 N],N,f32,[.v dj,.v dj],[.v dj],[⟨18,[(2,.obj dj),(3,.obj dj),(4,.obj dj),(5,.own U),(6,.v I),(7,.v U),(8,.v I)],[1,1,0,1,0,0,1,0,0,1,1,0,0,1],[7,15]⟩,⟨15,[(2,.obj dj),(3,.obj dj),(4,.obj dj),(5,.own U),(6,.v I),(7,.v U),(8,.v I)],[1,1,0,1,0,0,1,0,0,1,1,0,0],[7]⟩,⟨7,[(2,.obj dj),(3,.obj dj),(4,.obj dj),(5,.own U),(6,.v I)],[1,1,0,1,0,0],[]⟩],none⟩
theorem anu(K ρ):(F4 N).bd K ρ 18=kI.JF N ((F4 N).kc ρ 7) ((F4 N).kc ρ 15):=κ
theorem anv(ρ):(F4 N).kc ((F4 N).cv ρ) 18=kI.j9 N ((F4 N).kc ρ 7) ((F4 N).kc ρ 15):=Fx.uJ [] (anu N) ρ
theorem anw(K ρ):(F4 N).bd K ρ 15=kI.mK N ((F4 N).kc K 18) ((F4 N).kc ρ 7) ((F4 N).kc ρ 15):=κ
theorem anx(ρ):(F4 N).kc ((F4 N).cv ρ) 15=kI.l7 N ((F4 N).kc ρ 7) N:=Fx.uL [18] (anw N) ρ (kI.l7 N ((F4 N).kc ρ 7)) λn ρ' e d=>by rw[anv,e,d 7 rfl];rfl
theorem atw(K ρ):(F4 N).bd K ρ 7=kI.m3 N ((F4 N).kc K 15) ((F4 N).kc ρ 7):=κ
theorem atx(ρ):(F4 N).kc ((F4 N).cv ρ) 7=kI.l3 N N:=Fx.uL [15] (atw N) ρ (kI.l3 N) λn ρ' e d=>by rw[anx,e];rfl
theorem h32(K):(F4 N).top K=kI.b N ((F4 N).kc K 7):=κ
def k32:Kn prog:=⟨32,(F4 N).S false (kI N),Fx.u1 (F4 N) aC func32 [7] (h32 N) (by rw[atx];rfl)⟩
def Rx:Fx:=⟨50,tab,Kn.l [afT N,atu N,atv N,AF N,k32 N,Sf N],N,f231,[.v aA,.v dJ,.v cS],[.v dj,.v I],[⟨11,[(1,.v dJ),(2,.v cS),(3,.obj aA),(6,.obj dj),(8,.obj dj),(9,.v I)],[1,1,1,0,1,0,0],[]⟩],none⟩
theorem af0(K ρ):(Rx N).bd K ρ 11=nR.dU N ((Rx N).kc ρ 11):=κ
theorem af1(ρ):(Rx N).kc ((Rx N).cv ρ) 11=nR.l5 N N:=Fx.uL [] (af0 N) ρ (nR.l5 N) λn ρ' e d=>by rw[e];rfl
theorem ayI(K):(Rx N).top K=nR.b N ((Rx N).kc K 11):=κ
def aty:Kn prog:=⟨231,(Rx N).S false (nR N),Fx.u1 (Rx N) aC func231 [11] (ayI N) (by rw[af1];rfl)⟩
def atz:Fx:=⟨31,tab,Kn.l [XZ N,anr N,aty N],N,f180,[.v aA,.v aL,.v I,.v lF],[.v dj],[],none⟩
def anz:Kn prog:=⟨180,(atz N).S false (PZ N),Fx.u0 (atz N) aC func180⟩
def atA:Fx:=⟨63,tab,Kn.l [Jn N,k48 N,k22 N,k29 N,AF N,k34 N,anz N,k30 N,abJ N,Rr N],N,f135,[.v aA,.v aL,.v I,.v I],[.v aL,.v I],[],none⟩
def ayJ:Kn prog:=⟨135,(atA N).S false (Xi N),Fx.u0 (atA N) aC func135⟩
def atB:Fx:=⟨10,tab,Kn.l [k22 N],N,f251,[.v dO,.v I],[.v I],[],none⟩
def atC:Kn prog:=⟨251,(atB N).S true (It N),Fx.u0 (atB N) aC func251⟩
def Ry:Fx:=⟨53,tab,Kn.l [XX N,afu N],N,f252,[.v fp,.v I,.v I],[.own fa,.v I],[⟨17,[(1,.v I),(2,.v I),(10,.own fa),(11,.v I)],[1,1,1,1,0,1,0,0],[]⟩],none⟩
theorem af2(K ρ):(Ry N).bd K ρ 17=oL.Ef N ((Ry N).kc ρ 17):=κ
theorem af3(ρ):(Ry N).kc ((Ry N).cv ρ) 17=oL.l8 N N:=Fx.uL [] (af2 N) ρ (oL.l8 N) λn ρ' e d=>by rw[e];rfl
theorem ayK(K):(Ry N).top K=oL.b N ((Ry N).kc K 17):=κ
def ayL:Kn prog:=⟨252,(Ry N).S false (oL N),Fx.u1 (Ry N) aC func252 [17] (ayK N) (by rw[af3];rfl)⟩
def atD:Fx:=⟨36,tab,Kn.l [afO N,TZ N,AF N,k32 N],N,f136,[.v nw,.v I],[.v dj,.v I],[],none⟩
def ayM:Kn prog:=⟨136,(atD N).S false (adH N),Fx.u0 (atD N) aC func136⟩
def atE:Fx:=⟨104,tab,Kn.l [Jn N,afO N,k48 N,k22 N,XZ N,anr N,atv N,AF N,k30 N,ayM N,k29 N,k34 N,anz N],N,f138,[.v aA,.v aL,.v nw],[.v I],[],none⟩
def atG:Kn prog:=⟨138,(atE N).S true (aam N),Fx.u0 (atE N) aC func138⟩
def atH:Fx:=⟨24,tab,[],N,f268,[.v nw,.v nw],[.v B],[],none⟩
def ayN:Kn prog:=⟨268,(atH N).S true (Xh N),Fx.u0 (atH N) aC func268⟩
def tF:Fx:=⟨72,tab,Kn.l [XY N,ayN N],N,f238,[.v lF,.v I,.v I],[.own nw],[⟨22,[(0,.v lF),(1,.v I),(2,.v I),(7,.own nw),(8,.v I),(9,.v I)],[1,1,1,0,1,0,0,1,0,0,1,1,1],[11]⟩,⟨19,[(0,.v lF),(1,.v I),(2,.v I),(7,.own nw),(8,.v I),(9,.v I)],[1,1,1,0,1,0,0,1,0,0,1,1,0,0,0],[11]⟩,⟨11,[(0,.v lF),(1,.v I),(2,.v I),(7,.own nw),(8,.v I)],[1,1,1,0,1,0,0],[]⟩],none⟩
theorem af4(K ρ):(tF N).bd K ρ 22=ej.ym N ((tF N).kc ρ 11):=κ
theorem af5(ρ):(tF N).kc ((tF N).cv ρ) 22=ej.E9 N ((tF N).kc ρ 11):=Fx.uJ [] (af4 N) ρ
theorem af6(K ρ):(tF N).bd K ρ 19=ej.vd N ((tF N).kc K 22) ((tF N).kc ρ 11) ((tF N).kc ρ 19):=κ
theorem af7(ρ):(tF N).kc ((tF N).cv ρ) 19=ej.l9 N ((tF N).kc ρ 11) N:=Fx.uL [22] (af6 N) ρ (ej.l9 N ((tF N).kc ρ 11)) λn ρ' e d=>by rw[af5,e,d 11 rfl];rfl
theorem af8(K ρ):(tF N).bd K ρ 11=ej.dU N ((tF N).kc K 19) ((tF N).kc ρ 11):=κ
theorem af9(ρ):(tF N).kc ((tF N).cv ρ) 11=ej.l5 N N:=Fx.uL [19,22] (af8 N) ρ (ej.l5 N) λn ρ' e d=>by rw[af7,e];rfl
theorem ayO(K):(tF N).top K=ej.b N ((tF N).kc K 11):=κ
def ayP:Kn prog:=⟨238,(tF N).S false (ej N),Fx.u1 (tF N) aC func238 [11] (ayO N) (by rw[af9];rfl)⟩
def kB:Fx:=⟨174,tab,Kn.l [XY N,afO N,ayP N],N,f202,[.v lF,.v nw],[.own nw,.own qA,.v I,.v I],[⟨49,[(8,.own nw),(9,.v I),(10,.own qA),(16,.own nw),(17,.v I)],[1,1,1,1,1,1,1,0,1,0,0],[]⟩,⟨44,[(8,.own nw),(9,.v I),(10,.own qA)],[1,1,1,1,1,1],[]⟩,⟨37,[(3,.obj nw),(8,.own nw),(9,.v I),(10,.own qA),(11,.own nw),(12,.v I),(13,.v I),(15,.v I)],[1,1,1,1,1,0,1,0,0,1,0,0,1,1,1,1,1,1,1,1,0,0],[15]⟩,⟨30,[(3,.obj nw),(8,.own nw),(9,.v I),(10,.own qA),(11,.own nw),(12,.v I),(13,.v I),(14,.obj qA)],[1,1,1,1,1,0,1,0,0,1,0,0,1,1,1,1,1],[15]⟩,⟨20,[(3,.obj nw),(8,.own nw),(9,.v I),(10,.own qA),(11,.own nw),(12,.v I)],[1,1,1,1,1,0,1,0,0,1,0,0,1],[15]⟩,⟨15,[(3,.obj nw),(8,.own nw),(9,.v I),(10,.own qA),(11,.own nw),(12,.v I)],[1,1,1,1,1,0,1,0,0],[]⟩],none⟩
theorem aga(K ρ):(kB N).bd K ρ 49=cC.P4 N ((kB N).kc ρ 49):=κ
theorem agb(ρ):(kB N).kc ((kB N).cv ρ) 49=cC.Ny N N:=Fx.uL [] (aga N) ρ (cC.Ny N) λn ρ' e d=>by rw[e];rfl
theorem agc(K ρ):(kB N).bd K ρ 44=cC.adP N ((kB N).kc K 49):=κ
theorem agd(ρ):(kB N).kc ((kB N).cv ρ) 44=cC.j22 N:=Fx.uJ [49] (agc N) ρ (by rw[agb];rfl)
theorem age(K ρ):(kB N).bd K ρ 37=cC.Fh N ((kB N).kc ρ 15) ((kB N).kc ρ 37):=κ
theorem agf(ρ):(kB N).kc ((kB N).cv ρ) 37=cC.Ji N ((kB N).kc ρ 15) N:=Fx.uL [44,49] (age N) ρ (cC.Ji N ((kB N).kc ρ 15)) λn ρ' e d=>by rw[e,d 15 rfl];rfl
theorem agh(K ρ):(kB N).bd K ρ 30=cC.xa N ((kB N).kc K 37) ((kB N).kc ρ 15):=κ
theorem agi(ρ):(kB N).kc ((kB N).cv ρ) 30=cC.Dn N ((kB N).kc ρ 15):=Fx.uJ [44,49,37] (agh N) ρ (by rw[agf];rfl)
theorem agj(K ρ):(kB N).bd K ρ 20=cC.Da N ((kB N).kc K 30) ((kB N).kc ρ 15):=κ
theorem agk(ρ):(kB N).kc ((kB N).cv ρ) 20=cC.JN N ((kB N).kc ρ 15):=Fx.uJ [44,49,30,37] (agj N) ρ (by rw[agi];rfl)
theorem agl(K ρ):(kB N).bd K ρ 15=cC.mK N ((kB N).kc K 44) ((kB N).kc K 20) ((kB N).kc ρ 15):=κ
theorem agm(ρ):(kB N).kc ((kB N).cv ρ) 15=cC.l7 N N:=Fx.uL [44,49,20,30,37] (agl N) ρ (cC.l7 N) λn ρ' e d=>by rw[agd,agk,e];rfl
theorem ayQ(K):(kB N).top K=cC.b N ((kB N).kc K 15):=κ
def ayR:Kn prog:=⟨202,(kB N).S false (cC N),Fx.u1 (kB N) aC func202 [15,44,49] (ayQ N) (by rw[agm];rfl)⟩
def atI:Fx:=⟨53,tab,Kn.l [TZ N],N,f177,[.v qA],[.v B],[],none⟩
def atJ:Kn prog:=⟨177,(atI N).S true (ZW N),Fx.u0 (atI N) aC func177⟩
def atK:Fx:=⟨7,tab,[],N,f230,[.v I],[.v I,.v I],[],none⟩
def atL:Kn prog:=⟨230,(atK N).S true (Mr N),Fx.u0 (atK N) aC func230⟩
def atM:Fx:=⟨53,tab,Kn.l [atJ N,TZ N,AF N,k32 N,k44 N,atL N,k52 N],N,f178,[.v qA,.v I],[.own tj,.v I],[],none⟩
def ayS:Kn prog:=⟨178,(atM N).S false (Py N),Fx.u0 (atM N) aC func178⟩
def DD:Fx:=⟨107,tab,Kn.l [Jn N,atJ N,att N,ayS N,Rr N],N,f105,[.v aA,.v aL,.v yQ],[.v aL,.v I],[⟨23,[(2,.v yQ),(3,.obj aA),(4,.obj aL),(6,.obj aL),(9,.own kf),(10,.own tj),(11,.v I)],[1,1,1,1,1,0,1,0,0],[]⟩,⟨9,[(2,.v yQ),(3,.obj aA),(4,.obj aL),(6,.obj aL),(8,.v I)],[1,1,0,1,0,0],[]⟩],none⟩
theorem agn(K ρ):(DD N).bd K ρ 23=fk.yq N ((DD N).kc ρ 23):=κ
theorem ago(ρ):(DD N).kc ((DD N).cv ρ) 23=fk.Ar N N:=Fx.uL [] (agn N) ρ (fk.Ar N) λn ρ' e d=>by rw[e];rfl
theorem anA(K ρ):(DD N).bd K ρ 9=fk.dL N ((DD N).kc K 23) ((DD N).kc ρ 9):=κ
theorem anB(ρ):(DD N).kc ((DD N).cv ρ) 9=fk.l4 N N:=Fx.uL [23] (anA N) ρ (fk.l4 N) λn ρ' e d=>by rw[ago,e];rfl
theorem ayT(K):(DD N).top K=fk.b N ((DD N).kc K 9):=κ
def anC:Kn prog:=⟨105,(DD N).S false (fk N),Fx.u1 (DD N) aC func105 [9,23] (ayT N) (by rw[anB];rfl)⟩
def I8:Fx:=⟨85,tab,Kn.l [atG N,ayR N,anC N],N,f134,[.v aA,.v aL,.v nw],[.v aL,.v yQ,.v I,.v I],[⟨20,[(3,.obj aA),(4,.obj aL),(5,.obj nw),(6,.obj aL),(12,.own nw),(13,.own qA),(14,.v I)],[1,1,1,1,1],[]⟩,⟨14,[(3,.obj aA),(4,.obj aL),(5,.obj nw),(6,.obj aL)],[1,1,1],[]⟩],none⟩
theorem agp(K ρ):(I8 N).bd K ρ 20=ka.Da N:=κ
theorem agq(ρ):(I8 N).kc ((I8 N).cv ρ) 20=ka.JN N:=Fx.uJ [] (agp N) ρ
theorem agr(K ρ):(I8 N).bd K ρ 14=ka.X9 N ((I8 N).kc K 20):=κ
theorem ags(ρ):(I8 N).kc ((I8 N).cv ρ) 14=ka.j7 N:=Fx.uJ [20] (agr N) ρ (by rw[agq];rfl)
theorem ayU(K):(I8 N).top K=ka.b N ((I8 N).kc K 14):=κ
def ayV:Kn prog:=⟨134,(I8 N).S false (ka N),Fx.u1 (I8 N) aC func134 [14,20] (ayU N) (by rw[ags];rfl)⟩
def Rz:Fx:=⟨48,tab,Kn.l [XY N],N,f253,[.v lF,.v I,.v I],[.own nw,.v I],[⟨11,[(0,.v lF),(1,.v I),(2,.v I),(8,.own nw),(9,.v I)],[1,1,1,0,1,0,0],[]⟩],none⟩
theorem agt(K ρ):(Rz N).bd K ρ 11=oN.dU N ((Rz N).kc ρ 11):=κ
theorem agu(ρ):(Rz N).kc ((Rz N).cv ρ) 11=oN.l5 N N:=Fx.uL [] (agt N) ρ (oN.l5 N) λn ρ' e d=>by rw[e];rfl
theorem ayW(K):(Rz N).top K=oN.b N ((Rz N).kc K 11):=κ
def ayX:Kn prog:=⟨253,(Rz N).S false (oN N),Fx.u1 (Rz N) aC func253 [11] (ayW N) (by rw[agu];rfl)⟩
def RA:Fx:=⟨76,tab,Kn.l [k84 N,TZ N,AF N,k34 N,k44 N,atL N,k32 N],N,f179,[.v cS,.v I,.v I,.v I],[.own tj,.v I],[⟨13,[(0,.v cS),(1,.v I),(10,.own tj),(11,.obj dj),(12,.v I)],[1,1,1,1,0,1,0,0],[]⟩],none⟩
theorem agv(K ρ):(RA N).bd K ρ 13=kk.u7 N ((RA N).kc ρ 13):=κ
theorem agw(ρ):(RA N).kc ((RA N).cv ρ) 13=kk.l6 N N:=Fx.uL [] (agv N) ρ (kk.l6 N) λn ρ' e d=>by rw[e];rfl
theorem ayY(K):(RA N).top K=kk.b N ((RA N).kc K 13):=κ
def ayZ:Kn prog:=⟨179,(RA N).S false (kk N),Fx.u1 (RA N) aC func179 [13] (ayY N) (by rw[agw];rfl)⟩
def atN:Fx:=⟨70,tab,Kn.l [Jn N,TZ N,ayZ N,Rr N],N,f106,[.v aA,.v aL,.v I,.v I],[.v aL,.v nB,.v I],[],some (aL,[.iK 4],I,[5,13])⟩
def atO:Kn prog:=⟨106,(atN N).S false (MK N),Fx.u0 (atN N) aC func106⟩
def RC:Fx:=⟨50,tab,[],N,f272,[.v dJ],[.v B],[⟨5,[(0,.v dJ),(3,.v I)],[1,0,1,0,0],[]⟩],none⟩
theorem anD(K ρ):(RC N).bd K ρ 5=rH.fI N ((RC N).kc ρ 5):=κ
theorem anE(ρ):(RC N).kc ((RC N).cv ρ) 5=rH.l2 N N:=Fx.uL [] (anD N) ρ (rH.l2 N) λn ρ' e d=>by rw[e];rfl
theorem ay0(K):(RC N).top K=rH.b N ((RC N).kc K 5):=κ
def atP:Kn prog:=⟨272,(RC N).S true (rH N),Fx.u1 (RC N) aC func272 [5] (ay0 N) (by rw[anE];rfl)⟩
def rL:Fx:=⟨84,tab,Kn.l [atP N,AF N,Sf N,I6 N],N,f254,[.v dJ,.v nB],[.own kO,.v I],[⟨29,[(0,.v dJ),(1,.v nB),(6,.own kO),(7,.v I),(8,.obj dj),(10,.v I)],[1,1,1,0,1,0,0,1,0,0,1,1,0,1,0,0],[11]⟩,⟨19,[(0,.v dJ),(1,.v nB),(6,.own kO),(7,.v I),(8,.obj dj),(9,.v I)],[1,1,1,0,1,0,0,1,0,0,1,0,1,0,0],[11]⟩,⟨11,[(0,.v dJ),(1,.v nB),(6,.own kO),(7,.v I)],[1,1,1,0,1,0,0],[]⟩],none⟩
theorem agx(K ρ):(rL N).bd K ρ 29=fu.H5 N ((rL N).kc ρ 11) ((rL N).kc ρ 29):=κ
theorem agy(ρ):(rL N).kc ((rL N).cv ρ) 29=fu.KR N ((rL N).kc ρ 11) N:=Fx.uL [] (agx N) ρ (fu.KR N ((rL N).kc ρ 11)) λn ρ' e d=>by rw[e,d 11 rfl];rfl
theorem agz(K ρ):(rL N).bd K ρ 19=fu.vd N ((rL N).kc K 29) ((rL N).kc ρ 11) ((rL N).kc ρ 19):=κ
theorem agA(ρ):(rL N).kc ((rL N).cv ρ) 19=fu.l9 N ((rL N).kc ρ 11) N:=Fx.uL [29] (agz N) ρ (fu.l9 N ((rL N).kc ρ 11)) λn ρ' e d=>by rw[agy,e,d 11 rfl];rfl
theorem agB(K ρ):(rL N).bd K ρ 11=fu.dU N ((rL N).kc K 19) ((rL N).kc ρ 11):=κ
theorem agC(ρ):(rL N).kc ((rL N).cv ρ) 11=fu.l5 N N:=Fx.uL [19,29] (agB N) ρ (fu.l5 N) λn ρ' e d=>by rw[agA,e];rfl
theorem ay1(K):(rL N).top K=fu.b N ((rL N).kc K 11):=κ
def ay2:Kn prog:=⟨254,(rL N).S false (fu N),Fx.u1 (rL N) aC func254 [11] (ay1 N) (by rw[agC];rfl)⟩
def atS:Fx:=⟨15,tab,Kn.l [AF N,Sf N,I6 N],N,f255,[.v dO,.v I],[.v I,.v B],[],none⟩
def anF:Kn prog:=⟨255,(atS N).S true (Xu N),Fx.u0 (atS N) aC func255⟩
def atT:Fx:=⟨41,tab,[],N,f281,[.v I,.v I],[.v I,.v B],[],none⟩
def ay3:Kn prog:=⟨281,(atT N).S true (Xf N),Fx.u0 (atT N) aC func281⟩
def RD:Fx:=⟨51,tab,Kn.l [k69 N,k70 N,ay3 N],N,f273,[.v dJ,.v I,.v I],[.own kO,.v I],[⟨23,[(1,.v I),(9,.v I),(11,.own kO),(12,.v I)],[1,1,1,1,1,1,1,0,1,0,0],[]⟩],none⟩
theorem agD(K ρ):(RD N).bd K ρ 23=mS.yq N ((RD N).kc ρ 23):=κ
theorem agE(ρ):(RD N).kc ((RD N).cv ρ) 23=mS.Ar N N:=Fx.uL [] (agD N) ρ (mS.Ar N) λn ρ' e d=>by rw[e];rfl
theorem ay4(K):(RD N).top K=mS.b N ((RD N).kc K 23):=κ
def atU:Kn prog:=⟨273,(RD N).S false (mS N),Fx.u1 (RD N) aC func273 [23] (ay4 N) (by rw[agE];rfl)⟩
def RE:Fx:=⟨33,tab,Kn.l [XX N],N,f182,[.v fp,.v I],[.own I],[⟨11,[(0,.v fp),(1,.v I),(5,.own I),(6,.v I)],[1,1,1,0,1,0,0],[]⟩],none⟩
theorem agF(K ρ):(RE N).bd K ρ 11=mT.dU N ((RE N).kc ρ 11):=κ
theorem agG(ρ):(RE N).kc ((RE N).cv ρ) 11=mT.l5 N N:=Fx.uL [] (agF N) ρ (mT.l5 N) λn ρ' e d=>by rw[e];rfl
theorem ay5(K):(RE N).top K=mT.b N ((RE N).kc K 11):=κ
def ay6:Kn prog:=⟨182,(RE N).S false (mT N),Fx.u1 (RE N) aC func182 [11] (ay5 N) (by rw[agG];rfl)⟩
def zG:Fx:=⟨48,tab,Kn.l [XY N],N,f181,[.v lF,.v LI],[.own nw],[⟨19,[(0,.v lF),(1,.v LI),(5,.own nw),(6,.v I),(7,.v B),(8,.v I)],[1,1,1,0,1,0,0,1,0,0,1,0,1,0,0],[11]⟩,⟨11,[(0,.v lF),(1,.v LI),(5,.own nw),(6,.v I)],[1,1,1,0,1,0,0],[]⟩],none⟩
theorem agH(K ρ):(zG N).bd K ρ 19=eQ.vd N ((zG N).kc ρ 11) ((zG N).kc ρ 19):=κ
theorem agI(ρ):(zG N).kc ((zG N).cv ρ) 19=eQ.l9 N ((zG N).kc ρ 11) N:=Fx.uL [] (agH N) ρ (eQ.l9 N ((zG N).kc ρ 11)) λn ρ' e d=>by rw[e,d 11 rfl];rfl
theorem agJ(K ρ):(zG N).bd K ρ 11=eQ.dU N ((zG N).kc K 19) ((zG N).kc ρ 11):=κ
theorem agK(ρ):(zG N).kc ((zG N).cv ρ) 11=eQ.l5 N N:=Fx.uL [19] (agJ N) ρ (eQ.l5 N) λn ρ' e d=>by rw[agI,e];rfl
theorem ay7(K):(zG N).top K=eQ.b N ((zG N).kc K 11):=κ
def ay8:Kn prog:=⟨181,(zG N).S false (eQ N),Fx.u1 (zG N) aC func181 [11] (ay7 N) (by rw[agK];rfl)⟩
def atV:Fx:=⟨28,tab,Kn.l [Jn N,k22 N,ay6 N,ay8 N],N,f108,[.v aA,.v aL,.v I],[.v aL,.v I],[],none⟩
def atW:Kn prog:=⟨108,(atV N).S false (Fg N),Fx.u0 (atV N) aC func108⟩
def atX:Fx:=⟨41,tab,[],N,f296,[.v fa],[.v B],[],none⟩
def atY:Kn prog:=⟨296,(atX N).S true (ZD N),Fx.u0 (atX N) aC func296⟩
def tG:Fx:=⟨67,tab,Kn.l [atY N],N,f282,[.v fp],[.v B],[⟨19,[(0,.v fp),(3,.v I),(4,.v I)],[1,1,0,1,0,0,1,0,0,1,1,0,0],[9]⟩,⟨16,[(0,.v fp),(3,.v I)],[1,1,0,1,0,0,1,0,0,1],[9]⟩,⟨9,[(0,.v fp),(3,.v I)],[1,1,0,1,0,0],[]⟩],none⟩
theorem agL(K ρ):(tG N).bd K ρ 19=fc.vd N ((tG N).kc ρ 9) ((tG N).kc ρ 19):=κ
theorem agM(ρ):(tG N).kc ((tG N).cv ρ) 19=fc.l9 N ((tG N).kc ρ 9) N:=Fx.uL [] (agL N) ρ (fc.l9 N ((tG N).kc ρ 9)) λn ρ' e d=>by rw[e,d 9 rfl];rfl
theorem agN(K ρ):(tG N).bd K ρ 16=fc.ZO N ((tG N).kc K 19) ((tG N).kc ρ 9):=κ
theorem agO(ρ):(tG N).kc ((tG N).cv ρ) 16=fc.j8 N ((tG N).kc ρ 9):=Fx.uJ [19] (agN N) ρ (by rw[agM];rfl)
theorem anG(K ρ):(tG N).bd K ρ 9=fc.dL N ((tG N).kc K 16) ((tG N).kc ρ 9):=κ
theorem anH(ρ):(tG N).kc ((tG N).cv ρ) 9=fc.l4 N N:=Fx.uL [16,19] (anG N) ρ (fc.l4 N) λn ρ' e d=>by rw[agO,e];rfl
theorem ay9(K):(tG N).top K=fc.b N ((tG N).kc K 9):=κ
def abL:Kn prog:=⟨282,(tG N).S true (fc N),Fx.u1 (tG N) aC func282 [9] (ay9 N) (by rw[anH];rfl)⟩
def RF:Fx:=⟨32,tab,Kn.l [abL N],N,f274,[.v fp,.v I],[.own fa],[⟨11,[(0,.v fp),(1,.v I),(5,.own fa),(6,.v I)],[1,1,1,0,1,0,0],[]⟩],none⟩
theorem agP(K ρ):(RF N).bd K ρ 11=qy.dU N ((RF N).kc ρ 11):=κ
theorem agQ(ρ):(RF N).kc ((RF N).cv ρ) 11=qy.l5 N N:=Fx.uL [] (agP N) ρ (qy.l5 N) λn ρ' e d=>by rw[e];rfl
theorem aza(K):(RF N).top K=qy.b N ((RF N).kc K 11):=κ
def azb:Kn prog:=⟨274,(RF N).S false (qy N),Fx.u1 (RF N) aC func274 [11] (aza N) (by rw[agQ];rfl)⟩
def atZ:Fx:=⟨66,tab,[],N,f275,[.v dO,.v I],[.v B],[],none⟩
def azc:Kn prog:=⟨275,(atZ N).S true (ad2 N),Fx.u0 (atZ N) aC func275⟩
def at1:Fx:=⟨9,tab,Kn.l [k22 N],N,f151,[.v aL,.v I],[.v I],[],none⟩
def agR:Kn prog:=⟨151,(at1 N).S true (ML N),Fx.u0 (at1 N) aC func151⟩
def RG:Fx:=⟨56,tab,Kn.l [afT N,AF N,k33 N,k32 N,Sf N],N,f214,[.v aA,.v dJ,.v B],[.v dj,.v I],[⟨11,[(1,.v dJ),(2,.v B),(3,.obj aA),(6,.obj dj),(8,.obj dj),(9,.v I)],[1,1,1,0,1,0,0],[]⟩],none⟩
theorem agS(K ρ):(RG N).bd K ρ 11=qW.dU N ((RG N).kc ρ 11):=κ
theorem agT(ρ):(RG N).kc ((RG N).cv ρ) 11=qW.l5 N N:=Fx.uL [] (agS N) ρ (qW.l5 N) λn ρ' e d=>by rw[e];rfl
theorem azd(K):(RG N).top K=qW.b N ((RG N).kc K 11):=κ
def at2:Kn prog:=⟨214,(RG N).S false (qW N),Fx.u1 (RG N) aC func214 [11] (azd N) (by rw[agT];rfl)⟩
def at3:Fx:=⟨11,tab,Kn.l [at2 N],N,f316,[.v aA,.v dJ],[.v dj,.v I],[],none⟩
def aze:Kn prog:=⟨316,(at3 N).S false (alB N),Fx.u0 (at3 N) aC func316⟩
def at4:Fx:=⟨9,tab,Kn.l [k29 N],N,f149,[.v aL,.v I],[.v I],[],none⟩
def agU:Kn prog:=⟨149,(at4 N).S true (Tm N),Fx.u0 (at4 N) aC func149⟩
def at5:Fx:=⟨69,tab,Kn.l [Jn N,k48 N,agR N,XZ N,aze N,agU N,AF N,k30 N],N,f297,[.v aA,.v aL,.v I,.v I,.v I],[.v I],[],none⟩
def azf:Kn prog:=⟨297,(at5 N).S true (adQ N),Fx.u0 (at5 N) aC func297⟩
def RH:Fx:=⟨61,tab,Kn.l [amR N,afu N,k70 N],N,f298,[.v dJ,.v fp,.v I,.v I],[.own fa,.v I],[⟨27,[(2,.v I),(3,.v I),(13,.own fa),(14,.v I)],[1,1,1,1,1,1,1,1,0,1,0,0],[]⟩],none⟩
theorem agV(K ρ):(RH N).bd K ρ 27=oM.ly N ((RH N).kc ρ 27):=κ
theorem agW(ρ):(RH N).kc ((RH N).cv ρ) 27=oM.my N N:=Fx.uL [] (agV N) ρ (oM.my N) λn ρ' e d=>by rw[e];rfl
theorem azg(K):(RH N).top K=oM.b N ((RH N).kc K 27):=κ
def azh:Kn prog:=⟨298,(RH N).S false (oM N),Fx.u1 (RH N) aC func298 [27] (azg N) (by rw[agW];rfl)⟩
def at6:Fx:=⟨42,tab,Kn.l [azf N,azh N],N,f283,[.v aA,.v aL,.v I,.v I,.v I],[.v aL,.v I],[],none⟩
def azi:Kn prog:=⟨283,(at6 N).S false (Xj N),Fx.u0 (at6 N) aC func283⟩
def at7:Fx:=⟨11,tab,Kn.l [at2 N],N,f147,[.v aA,.v dJ],[.v dj,.v I],[],none⟩
def aua:Kn prog:=⟨147,(at7 N).S false (aaC N),Fx.u0 (at7 N) aC func147⟩
def X60:Fx:=⟨55,tab,Kn.l [Jn N,k48 N,XZ N,aua N,agU N,I6 N],N,f60,[.v aA,.v aL,.v I],[.v I,.v I],[],none⟩
def k60:Kn prog:=⟨60,(X60 N).S true (F60 N),Fx.u0 (X60 N) aC func60⟩
def RI:Fx:=⟨76,tab,Kn.l [k84 N],N,f153,[.v cS,.v I,.v I],[.own kf],[⟨11,[(0,.v cS),(1,.v I),(2,.v I),(7,.own kf),(8,.v I)],[1,1,1,0,1,0,0],[]⟩],none⟩
theorem agX(K ρ):(RI N).bd K ρ 11=nS.dU N ((RI N).kc ρ 11):=κ
theorem agY(ρ):(RI N).kc ((RI N).cv ρ) 11=nS.l5 N N:=Fx.uL [] (agX N) ρ (nS.l5 N) λn ρ' e d=>by rw[e];rfl
theorem azj(K):(RI N).top K=nS.b N ((RI N).kc K 11):=κ
def azk:Kn prog:=⟨153,(RI N).S false (nS N),Fx.u1 (RI N) aC func153 [11] (azj N) (by rw[agY];rfl)⟩
def Vq:Fx:=⟨86,tab,Kn.l [Jn N,agR N,k60 N,AF N,abJ N,agU N,k52 N,azk N,Rr N],N,f61,[.v aA,.v aL,.v I],[.v aL,.v I],[⟨30,[(2,.v I),(3,.obj aA),(4,.obj aL),(6,.obj aL),(8,.own kf),(9,.own tj),(10,.v I),(11,.obj fa)],[1,1,1,1,1,0,1,0,0,1,0,0,1,1,1],[17]⟩,⟨17,[(2,.v I),(3,.obj aA),(4,.obj aL),(6,.obj aL),(8,.own kf),(9,.own tj),(10,.v I)],[1,1,1,1,1,0,1,0,0],[]⟩],none⟩
theorem anI(K ρ):(Vq N).bd K ρ 30=rX.xa N ((Vq N).kc ρ 17):=κ
theorem anJ(ρ):(Vq N).kc ((Vq N).cv ρ) 30=rX.Dn N ((Vq N).kc ρ 17):=Fx.uJ [] (anI N) ρ
theorem anK(K ρ):(Vq N).bd K ρ 17=rX.Ef N ((Vq N).kc K 30) ((Vq N).kc ρ 17):=κ
theorem anL(ρ):(Vq N).kc ((Vq N).cv ρ) 17=rX.l8 N N:=Fx.uL [30] (anK N) ρ (rX.l8 N) λn ρ' e d=>by rw[anJ,e];rfl
theorem h61(K):(Vq N).top K=rX.b N ((Vq N).kc K 17):=κ
def k61:Kn prog:=⟨61,(Vq N).S false (rX N),Fx.u1 (Vq N) aC func61 [17] (h61 N) (by rw[anL];rfl)⟩
def RJ:Fx:=⟨48,tab,Kn.l [Jn N,k27 N,AF N,k32 N,Sf N],N,f299,[.v aA,.v aL],[.own dj,.v I],[⟨11,[(2,.obj aA),(3,.obj aL),(6,.own dj),(7,.v I)],[1,1,1,0,1,0,0],[]⟩],none⟩
theorem agZ(K ρ):(RJ N).bd K ρ 11=sZ.dU N ((RJ N).kc ρ 11):=κ
theorem ag0(ρ):(RJ N).kc ((RJ N).cv ρ) 11=sZ.l5 N N:=Fx.uL [] (agZ N) ρ (sZ.l5 N) λn ρ' e d=>by rw[e];rfl
theorem azl(K):(RJ N).top K=sZ.b N ((RJ N).kc K 11):=κ
def azm:Kn prog:=⟨299,(RJ N).S false (sZ N),Fx.u1 (RJ N) aC func299 [11] (azl N) (by rw[ag0];rfl)⟩
def RK:Fx:=⟨31,tab,Kn.l [TY N],N,f300,[.v aA,.v I],[.own I],[⟨11,[(1,.v I),(2,.obj aA),(5,.own I),(6,.v I)],[1,1,1,0,1,0,0],[]⟩],none⟩
theorem ag1(K ρ):(RK N).bd K ρ 11=qq.dU N ((RK N).kc ρ 11):=κ
theorem ag2(ρ):(RK N).kc ((RK N).cv ρ) 11=qq.l5 N N:=Fx.uL [] (ag1 N) ρ (qq.l5 N) λn ρ' e d=>by rw[e];rfl
theorem azn(K):(RK N).top K=qq.b N ((RK N).kc K 11):=κ
def azo:Kn prog:=⟨300,(RK N).S false (qq N),Fx.u1 (RK N) aC func300 [11] (azn N) (by rw[ag2];rfl)⟩
def RL:Fx:=⟨35,tab,Kn.l [amY N],N,f317,[.v LU],[.v LU,.v U],[⟨9,[(0,.v LU),(4,.own U),(5,.v U),(6,.v I)],[1,1,1,0,1,0,0],[]⟩],none⟩
theorem anM(K ρ):(RL N).bd K ρ 9=qM.dL N ((RL N).kc ρ 9):=κ
theorem anN(ρ):(RL N).kc ((RL N).cv ρ) 9=qM.l4 N N:=Fx.uL [] (anM N) ρ (qM.l4 N) λn ρ' e d=>by rw[e];rfl
theorem azp(K):(RL N).top K=qM.b N ((RL N).kc K 9):=κ
def azq:Kn prog:=⟨317,(RL N).S false (qM N),Fx.u1 (RL N) aC func317 [9] (azp N) (by rw[anN];rfl)⟩
def DE:Fx:=⟨77,tab,Kn.l [azq N,Sf N,AF N,k30 N,k34 N,k44 N,k52 N],N,f301,[.v dj,.v dj],[.v dj,.v dj],[⟨19,[(2,.obj dj),(3,.obj dj),(4,.obj dj),(5,.obj dj),(6,.own U),(10,.obj dj),(11,.obj dj),(12,.v I)],[1,1,1,1,0,1,0,0],[]⟩,⟨7,[(2,.obj dj),(3,.obj dj),(4,.obj dj),(5,.obj dj),(6,.own U),(7,.v LU)],[1,1,0,1,0,0],[]⟩],none⟩
theorem ag3(K ρ):(DE N).bd K ρ 19=jf.vd N ((DE N).kc ρ 19):=κ
theorem ag4(ρ):(DE N).kc ((DE N).cv ρ) 19=jf.l9 N N:=Fx.uL [] (ag3 N) ρ (jf.l9 N) λn ρ' e d=>by rw[e];rfl
theorem anO(K ρ):(DE N).bd K ρ 7=jf.m3 N ((DE N).kc K 19) ((DE N).kc ρ 7):=κ
theorem anP(ρ):(DE N).kc ((DE N).cv ρ) 7=jf.l3 N N:=Fx.uL [19] (anO N) ρ (jf.l3 N) λn ρ' e d=>by rw[ag4,e];rfl
theorem azr(K):(DE N).top K=jf.b N ((DE N).kc K 7):=κ
def aub:Kn prog:=⟨301,(DE N).S false (jf N),Fx.u1 (DE N) aC func301 [7,19] (azr N) (by rw[anP];rfl)⟩
def Cz:Fx:=⟨104,tab,Kn.l [azm N,azo N,k33 N,AF N,k30 N,aub N,I6 N,k44 N],N,f284,[.v aA,.v aL,.v I],[.own fa,.v I],[⟨30,[(2,.v I),(3,.obj aA),(4,.obj aL),(8,.own dj),(10,.own fa),(11,.v I),(12,.own I),(16,.v I)],[1,1,1,1,0,1,0,0,1,0,0,1,1,1,1,1,1],[13]⟩,⟨13,[(2,.v I),(3,.obj aA),(4,.obj aL),(8,.own dj),(10,.own fa),(11,.v I)],[1,1,1,1,0,1,0,0],[]⟩],none⟩
theorem ag5(K ρ):(Cz N).bd K ρ 30=jK.xa N ((Cz N).kc ρ 13):=κ
theorem ag6(ρ):(Cz N).kc ((Cz N).cv ρ) 30=jK.Dn N ((Cz N).kc ρ 13):=Fx.uJ [] (ag5 N) ρ
theorem ag7(K ρ):(Cz N).bd K ρ 13=jK.u7 N ((Cz N).kc K 30) ((Cz N).kc ρ 13):=κ
theorem ag8(ρ):(Cz N).kc ((Cz N).cv ρ) 13=jK.l6 N N:=Fx.uL [30] (ag7 N) ρ (jK.l6 N) λn ρ' e d=>by rw[ag6,e];rfl
theorem azs(K):(Cz N).top K=jK.b N ((Cz N).kc K 13):=κ
def azt:Kn prog:=⟨284,(Cz N).S false (jK N),Fx.u1 (Cz N) aC func284 [13] (azs N) (by rw[ag8];rfl)⟩
def auc:Fx:=⟨41,tab,[],N,f318,[.v fa],[.v B],[],none⟩
def azu:Kn prog:=⟨318,(auc N).S true (adA N),Fx.u0 (auc N) aC func318⟩
def T0:Fx:=⟨113,tab,Kn.l [Jn N,azu N,atG N,anC N],N,f302,[.v aA,.v aL,.v fa,.v I,.v I,.v I],[.v aL,.v fa,.v I],[⟨28,[(4,.v I),(6,.obj aA),(7,.obj aL),(8,.obj fa),(12,.obj aL),(13,.obj fa),(17,.obj qA)],[1,1,1,1,1,1,1,1],[]⟩],none⟩
theorem ag9(K ρ):(T0 N).bd K ρ 28=qU.adI N:=κ
theorem aha(ρ):(T0 N).kc ((T0 N).cv ρ) 28=qU.j14 N:=Fx.uJ [] (ag9 N) ρ
theorem azv(K):(T0 N).top K=qU.b N ((T0 N).kc K 28):=κ
def azw:Kn prog:=⟨302,(T0 N).S false (qU N),Fx.u1 (T0 N) aC func302 [28] (azv N) (by rw[aha];rfl)⟩
def RM:Fx:=⟨77,tab,Kn.l [azw N,afp N],N,f285,[.v aA,.v dO,.v me],[.v dO,.v kf],[⟨11,[(3,.obj aA),(4,.obj dO),(5,.obj me),(6,.obj dO),(7,.obj kf),(8,.own fa),(9,.v B),(10,.v I),(11,.v I)],[1,1,1,1,0,1,0,0],[]⟩],none⟩
theorem ahb(K ρ):(RM N).bd K ρ 11=oP.dU N ((RM N).kc ρ 11):=κ
theorem ahc(ρ):(RM N).kc ((RM N).cv ρ) 11=oP.l5 N N:=Fx.uL [] (ahb N) ρ (oP.l5 N) λn ρ' e d=>by rw[e];rfl
theorem azx(K):(RM N).top K=oP.b N ((RM N).kc K 11):=κ
def azy:Kn prog:=⟨285,(RM N).S false (oP N),Fx.u1 (RM N) aC func285 [11] (azx N) (by rw[ahc];rfl)⟩
def RN:Fx:=⟨28,tab,Kn.l [k44 N,AF N,k32 N,k30 N],N,f303,[.v dj,.v I],[.v I],[⟨9,[(1,.v I),(2,.obj dj),(5,.v I)],[1,1,1,0,0,0],[]⟩],none⟩
theorem anQ(K ρ):(RN N).bd K ρ 9=s4.dL N ((RN N).kc ρ 9):=κ
theorem anR(ρ):(RN N).kc ((RN N).cv ρ) 9=s4.l4 N N:=Fx.uL [] (anQ N) ρ (s4.l4 N) λn ρ' e d=>by rw[e];rfl
theorem azz(K):(RN N).top K=s4.b N ((RN N).kc K 9):=κ
def azA:Kn prog:=⟨303,(RN N).S true (s4 N),Fx.u1 (RN N) aC func303 [9] (azz N) (by rw[anR];rfl)⟩
def RO:Fx:=⟨24,tab,[],N,f329,[.v I,.v LI],[.v B],[⟨9,[(1,.v LI),(5,.v I)],[1,1,0,1,0,0],[]⟩],none⟩
theorem anS(K ρ):(RO N).bd K ρ 9=qS.dL N ((RO N).kc ρ 9):=κ
theorem anT(ρ):(RO N).kc ((RO N).cv ρ) 9=qS.l4 N N:=Fx.uL [] (anS N) ρ (qS.l4 N) λn ρ' e d=>by rw[e];rfl
theorem azB(K):(RO N).top K=qS.b N ((RO N).kc K 9):=κ
def aud:Kn prog:=⟨329,(RO N).S true (qS N),Fx.u1 (RO N) aC func329 [9] (azB N) (by rw[anT];rfl)⟩
def RP:Fx:=⟨19,tab,Kn.l [AF N,Sf N],N,f327,[.v LI],[.v dj],[⟨7,[(0,.v LI),(2,.obj dj),(3,.obj dj),(4,.v I)],[1,1,0,1,0,0],[]⟩],none⟩
theorem anU(K ρ):(RP N).bd K ρ 7=qL.m3 N ((RP N).kc ρ 7):=κ
theorem anV(ρ):(RP N).kc ((RP N).cv ρ) 7=qL.l3 N N:=Fx.uL [] (anU N) ρ (qL.l3 N) λn ρ' e d=>by rw[e];rfl
theorem azC(K):(RP N).top K=qL.b N ((RP N).kc K 7):=κ
def anW:Kn prog:=⟨327,(RP N).S false (qL N),Fx.u1 (RP N) aC func327 [7] (azC N) (by rw[anV];rfl)⟩
def tH:Fx:=⟨48,tab,[],N,f330,[.v LI],[.own I],[⟨16,[(0,.v LI),(3,.own I),(4,.v I),(5,.v I)],[1,1,0,1,0,0,1,0,0,1,1],[7]⟩,⟨13,[(0,.v LI),(3,.own I),(4,.v I),(5,.v I)],[1,1,0,1,0,0,1,0,0,1,0,0,0],[7]⟩,⟨7,[(0,.v LI),(3,.own I),(4,.v I)],[1,1,0,1,0,0],[]⟩],none⟩
theorem ahd(K ρ):(tH N).bd K ρ 16=gj.ZO N ((tH N).kc ρ 7):=κ
theorem ahe(ρ):(tH N).kc ((tH N).cv ρ) 16=gj.j8 N ((tH N).kc ρ 7):=Fx.uJ [] (ahd N) ρ
theorem ahf(K ρ):(tH N).bd K ρ 13=gj.u7 N ((tH N).kc K 16) ((tH N).kc ρ 7) ((tH N).kc ρ 13):=κ
theorem ahg(ρ):(tH N).kc ((tH N).cv ρ) 13=gj.l6 N ((tH N).kc ρ 7) N:=Fx.uL [16] (ahf N) ρ (gj.l6 N ((tH N).kc ρ 7)) λn ρ' e d=>by rw[ahe,e,d 7 rfl];rfl
theorem anX(K ρ):(tH N).bd K ρ 7=gj.m3 N ((tH N).kc K 13) ((tH N).kc ρ 7):=κ
theorem anY(ρ):(tH N).kc ((tH N).cv ρ) 7=gj.l3 N N:=Fx.uL [13,16] (anX N) ρ (gj.l3 N) λn ρ' e d=>by rw[ahg,e];rfl
theorem azD(K):(tH N).top K=gj.b N ((tH N).kc K 7):=κ
def azE:Kn prog:=⟨330,(tH N).S false (gj N),Fx.u1 (tH N) aC func330 [7] (azD N) (by rw[anY];rfl)⟩
def yR:Fx:=⟨112,tab,Kn.l [aud N,anW N,k44 N,I6 N,AF N,k32 N,aub N,azE N],N,f319,[.v I,.v LI],[.own I,.v I],[⟨45,[(9,.own I),(11,.v I),(15,.own I),(16,.v I)],[1,1,1,1,1,1,1,1,1,1,0,1,0,0],[]⟩,⟨29,[(0,.v I),(1,.v LI),(6,.obj dj),(9,.own I),(10,.own I),(11,.v I),(12,.v I)],[1,1,1,1,1,1,1,1,0,1,0,0],[]⟩,⟨12,[(0,.v I),(1,.v LI),(6,.obj dj)],[1,1,1,1],[]⟩],none⟩
theorem ahh(K ρ):(yR N).bd K ρ 45=gy.w8 N ((yR N).kc ρ 45):=κ
theorem ahi(ρ):(yR N).kc ((yR N).cv ρ) 45=gy.yk N N:=Fx.uL [] (ahh N) ρ (gy.yk N) λn ρ' e d=>by rw[e];rfl
theorem ahj(K ρ):(yR N).bd K ρ 29=gy.H5 N ((yR N).kc K 45) ((yR N).kc ρ 29):=κ
theorem ahk(ρ):(yR N).kc ((yR N).cv ρ) 29=gy.KR N N:=Fx.uL [45] (ahj N) ρ (gy.KR N) λn ρ' e d=>by rw[ahi,e];rfl
theorem ahl(K ρ):(yR N).bd K ρ 12=gy.OY N ((yR N).kc K 29):=κ
theorem ahm(ρ):(yR N).kc ((yR N).cv ρ) 12=gy.j6 N:=Fx.uJ [29,45] (ahl N) ρ (by rw[ahk];rfl)
theorem azF(K):(yR N).top K=gy.b N ((yR N).kc K 12):=κ
def anZ:Kn prog:=⟨319,(yR N).S false (gy N),Fx.u1 (yR N) aC func319 [12,29,45] (azF N) (by rw[ahm];rfl)⟩
def RQ:Fx:=⟨33,tab,Kn.l [anZ N],N,f304,[.v I,.v I],[.own I,.v I],[⟨11,[(0,.v I),(1,.v I),(6,.own I),(7,.v I)],[1,1,1,0,1,0,0],[]⟩],none⟩
theorem ahn(K ρ):(RQ N).bd K ρ 11=sV.dU N ((RQ N).kc ρ 11):=κ
theorem aho(ρ):(RQ N).kc ((RQ N).cv ρ) 11=sV.l5 N N:=Fx.uL [] (ahn N) ρ (sV.l5 N) λn ρ' e d=>by rw[e];rfl
theorem azG(K):(RQ N).top K=sV.b N ((RQ N).kc K 11):=κ
def azH:Kn prog:=⟨304,(RQ N).S false (sV N),Fx.u1 (RQ N) aC func304 [11] (azG N) (by rw[aho];rfl)⟩
def gl:Fx:=⟨175,tab,Kn.l [Jn N,XZ N,AF N,k33 N,Sf N,azA N,azH N,aua N,k52 N,I6 N],N,f286,[.v aA,.v aL,.v I],[.own jT,.v I],[⟨64,[(2,.v I),(3,.obj aA),(8,.own kO),(9,.own jT),(10,.v I),(11,.own kO),(14,.v I),(15,.v I),(16,.gn jT [.iK 1] kO),(17,.v I),(19,.own I)],[1,1,1,1,1,0,1,0,0,1,0,0,1,1,1,1,1,0,0,1,0,0,1,0,1,0,0,1,0,0,1,1,1,1],[17,41,49]⟩,⟨58,[(2,.v I),(3,.obj aA),(8,.own kO),(9,.own jT),(10,.v I),(11,.own kO),(14,.v I),(15,.v I),(16,.gn jT [.iK 1] kO),(17,.v I),(18,.v I)],[1,1,1,1,1,0,1,0,0,1,0,0,1,1,1,1,1,0,0,1,0,0,1,0,1,0,0,1,0,0,1,1],[17,41,49]⟩,⟨49,[(2,.v I),(3,.obj aA),(8,.own kO),(9,.own jT),(10,.v I),(11,.own kO),(14,.v I),(15,.v I),(16,.gn jT [.iK 1] kO),(17,.v I)],[1,1,1,1,1,0,1,0,0,1,0,0,1,1,1,1,1,0,0,1,0,0,1,0,1,0,0],[17,41]⟩,⟨41,[(2,.v I),(3,.obj aA),(8,.own kO),(9,.own jT),(10,.v I),(11,.own kO),(14,.v I),(15,.v I)],[1,1,1,1,1,0,1,0,0,1,0,0,1,1,1,1,1,0,0],[17]⟩,⟨27,[(2,.v I),(3,.obj aA),(8,.own kO),(9,.own jT),(10,.v I),(11,.own kO),(12,.obj dj),(13,.v I)],[1,1,1,1,1,0,1,0,0,1,0,0,1,1,0,1,0,0],[17]⟩,⟨17,[(2,.v I),(3,.obj aA),(8,.own kO),(9,.own jT),(10,.v I)],[1,1,1,1,1,0,1,0,0],[]⟩],some (jT,[.iK 1],kO,[16])⟩
theorem ahp(K ρ):(gl N).bd K ρ 64=cr.alD N ((gl N).kc ρ 17) ((gl N).kc ρ 41) ((gl N).kc ρ 49):=κ
theorem ahq(ρ):(gl N).kc ((gl N).cv ρ) 64=cr.j32 N ((gl N).kc ρ 17) ((gl N).kc ρ 41) ((gl N).kc ρ 49):=Fx.uJ [] (ahp N) ρ
theorem ahr(K ρ):(gl N).bd K ρ 58=cr.P9 N ((gl N).kc K 64) ((gl N).kc ρ 17) ((gl N).kc ρ 41) ((gl N).kc ρ 49):=κ
theorem ahs(ρ):(gl N).kc ((gl N).cv ρ) 58=cr.Xn N ((gl N).kc ρ 17) ((gl N).kc ρ 41) ((gl N).kc ρ 49):=Fx.uJ [64] (ahr N) ρ (by rw[ahq];rfl)
theorem aht(K ρ):(gl N).bd K ρ 49=cr.P4 N ((gl N).kc K 58) ((gl N).kc ρ 17) ((gl N).kc ρ 41) ((gl N).kc ρ 49):=κ
theorem ahu(ρ):(gl N).kc ((gl N).cv ρ) 49=cr.Ny N ((gl N).kc ρ 17) ((gl N).kc ρ 41) N:=Fx.uL [58,64] (aht N) ρ (cr.Ny N ((gl N).kc ρ 17) ((gl N).kc ρ 41)) λn ρ' e d=>by rw[ahs,e,d 17 rfl,d 41 rfl];rfl
theorem ahv(K ρ):(gl N).bd K ρ 41=cr.P8 N ((gl N).kc K 49) ((gl N).kc ρ 17) ((gl N).kc ρ 41):=κ
theorem ahw(ρ):(gl N).kc ((gl N).cv ρ) 41=cr.JW N ((gl N).kc ρ 17) N:=Fx.uL [49] (ahv N) ρ (cr.JW N ((gl N).kc ρ 17)) λn ρ' e d=>by rw[ahu,e,d 17 rfl];rfl
theorem ahx(K ρ):(gl N).bd K ρ 27=cr.ly N ((gl N).kc K 41) ((gl N).kc ρ 17) ((gl N).kc ρ 27):=κ
theorem ahy(ρ):(gl N).kc ((gl N).cv ρ) 27=cr.my N ((gl N).kc ρ 17) N:=Fx.uL [41] (ahx N) ρ (cr.my N ((gl N).kc ρ 17)) λn ρ' e d=>by rw[ahw,e,d 17 rfl];rfl
theorem ahz(K ρ):(gl N).bd K ρ 17=cr.Ef N ((gl N).kc K 27) ((gl N).kc ρ 17):=κ
theorem ahA(ρ):(gl N).kc ((gl N).cv ρ) 17=cr.l8 N N:=Fx.uL [27,41] (ahz N) ρ (cr.l8 N) λn ρ' e d=>by rw[ahy,e];rfl
theorem azI(K):(gl N).top K=cr.b N ((gl N).kc K 17):=κ
def azJ:Kn prog:=⟨286,(gl N).S false (cr N),Fx.u1 (gl N) aC func286 [17] (azI N) (by rw[ahA];rfl)⟩
def RS:Fx:=⟨48,tab,Kn.l [Jn N,k29 N],N,f287,[.v aA,.v aL],[.own I,.v I],[⟨11,[(3,.obj aL),(6,.own I),(7,.v I)],[1,1,1,0,1,0,0],[]⟩],none⟩
theorem ahB(K ρ):(RS N).bd K ρ 11=s6.dU N ((RS N).kc ρ 11):=κ
theorem ahC(ρ):(RS N).kc ((RS N).cv ρ) 11=s6.l5 N N:=Fx.uL [] (ahB N) ρ (s6.l5 N) λn ρ' e d=>by rw[e];rfl
theorem azK(K):(RS N).top K=s6.b N ((RS N).kc K 11):=κ
def azL:Kn prog:=⟨287,(RS N).S false (s6 N),Fx.u1 (RS N) aC func287 [11] (azK N) (by rw[ahC];rfl)⟩
def CA:Fx:=⟨99,tab,Kn.l [TY N,afT N],N,f306,[.v aA,.v mU],[.v B],[⟨18,[(1,.v mU),(2,.obj aA),(5,.v I),(6,.obj jT)],[1,1,0,1,0,0,1,0,0,1,1],[9]⟩,⟨9,[(1,.v mU),(2,.obj aA),(5,.v I)],[1,1,0,1,0,0],[]⟩],none⟩
theorem ahD(K ρ):(CA N).bd K ρ 18=jJ.JF N ((CA N).kc ρ 9):=κ
theorem ahE(ρ):(CA N).kc ((CA N).cv ρ) 18=jJ.j9 N ((CA N).kc ρ 9):=Fx.uJ [] (ahD N) ρ
theorem an0(K ρ):(CA N).bd K ρ 9=jJ.dL N ((CA N).kc K 18) ((CA N).kc ρ 9):=κ
theorem an1(ρ):(CA N).kc ((CA N).cv ρ) 9=jJ.l4 N N:=Fx.uL [18] (an0 N) ρ (jJ.l4 N) λn ρ' e d=>by rw[ahE,e];rfl
theorem azM(K):(CA N).top K=jJ.b N ((CA N).kc K 9):=κ
def an2:Kn prog:=⟨306,(CA N).S true (jJ N),Fx.u1 (CA N) aC func306 [9] (azM N) (by rw[an1];rfl)⟩
def RT:Fx:=⟨25,tab,[],N,f320,[.v mU,.v I],[.v jT,.v B],[⟨5,[(0,.v mU),(1,.v I),(4,.obj jT),(6,.v I)],[1,0,1,0,0],[]⟩],none⟩
theorem an3(K ρ):(RT N).bd K ρ 5=rI.fI N ((RT N).kc ρ 5):=κ
theorem an4(ρ):(RT N).kc ((RT N).cv ρ) 5=rI.l2 N N:=Fx.uL [] (an3 N) ρ (rI.l2 N) λn ρ' e d=>by rw[e];rfl
theorem azN(K):(RT N).top K=rI.b N ((RT N).kc K 5):=κ
def aue:Kn prog:=⟨320,(RT N).S false (rI N),Fx.u1 (RT N) aC func320 [5] (azN N) (by rw[an4];rfl)⟩
def rM:Fx:=⟨75,tab,Kn.l [AF N,Sf N,atl N],N,f321,[.v dJ,.v dJ],[.own kO,.v B],[⟨25,[(0,.v dJ),(1,.v dJ),(6,.own kO),(7,.v I),(8,.obj dj),(10,.v I)],[1,1,0,1,0,0,1,0,0,1,1,0,1,0,0],[7]⟩,⟨15,[(0,.v dJ),(1,.v dJ),(6,.own kO),(7,.v I),(8,.obj dj),(9,.v I)],[1,1,0,1,0,0,1,0,0,1,0,1,0,0],[7]⟩,⟨7,[(0,.v dJ),(1,.v dJ),(6,.own kO),(7,.v I)],[1,1,0,1,0,0],[]⟩],none⟩
theorem ahF(K ρ):(rM N).bd K ρ 25=fv.mO N ((rM N).kc ρ 7) ((rM N).kc ρ 25):=κ
theorem ahG(ρ):(rM N).kc ((rM N).cv ρ) 25=fv.nI N ((rM N).kc ρ 7) N:=Fx.uL [] (ahF N) ρ (fv.nI N ((rM N).kc ρ 7)) λn ρ' e d=>by rw[e,d 7 rfl];rfl
theorem ahH(K ρ):(rM N).bd K ρ 15=fv.mK N ((rM N).kc K 25) ((rM N).kc ρ 7) ((rM N).kc ρ 15):=κ
theorem ahI(ρ):(rM N).kc ((rM N).cv ρ) 15=fv.l7 N ((rM N).kc ρ 7) N:=Fx.uL [25] (ahH N) ρ (fv.l7 N ((rM N).kc ρ 7)) λn ρ' e d=>by rw[ahG,e,d 7 rfl];rfl
theorem an5(K ρ):(rM N).bd K ρ 7=fv.m3 N ((rM N).kc K 15) ((rM N).kc ρ 7):=κ
theorem an6(ρ):(rM N).kc ((rM N).cv ρ) 7=fv.l3 N N:=Fx.uL [15,25] (an5 N) ρ (fv.l3 N) λn ρ' e d=>by rw[ahI,e];rfl
theorem azO(K):(rM N).top K=fv.b N ((rM N).kc K 7):=κ
def azP:Kn prog:=⟨321,(rM N).S false (fv N),Fx.u1 (rM N) aC func321 [7] (azO N) (by rw[an6];rfl)⟩
def auf:Fx:=⟨11,tab,Kn.l [XY N,anr N],N,f322,[.v lF,.v I],[.own kf],[],none⟩
def azQ:Kn prog:=⟨322,(auf N).S false (alC N),Fx.u0 (auf N) aC func322⟩
def Fp:Fx:=⟨157,tab,Kn.l [Jn N,an2 N,abL N,atY N,agR N,aue N,abI N,AF N,k32 N,k30 N,XZ N,azP N,azQ N,aty N,agU N,k34 N],N,f305,[.v aA,.v aL,.v mU,.v fp,.v fa],[.v I],[⟨27,[(3,.v fp),(5,.obj aA),(6,.obj aL),(9,.obj fa),(12,.obj jT),(14,.v I),(15,.v I)],[1,1,1,1,1,1,1,1,0,1,0,0],[]⟩,⟨6,[(2,.v mU),(3,.v fp),(5,.obj aA),(6,.obj aL),(9,.obj fa)],[1,1],[]⟩],none⟩
theorem ahJ(K ρ):(Fp N).bd K ρ 27=lY.ly N ((Fp N).kc ρ 27):=κ
theorem ahK(ρ):(Fp N).kc ((Fp N).cv ρ) 27=lY.my N N:=Fx.uL [] (ahJ N) ρ (lY.my N) λn ρ' e d=>by rw[e];rfl
theorem an7(K ρ):(Fp N).bd K ρ 6=lY.j3b N ((Fp N).kc K 27):=κ
theorem an8(ρ):(Fp N).kc ((Fp N).cv ρ) 6=lY.j3 N:=Fx.uJ [27] (an7 N) ρ (by rw[ahK];rfl)
theorem azR(K):(Fp N).top K=lY.b N ((Fp N).kc K 6):=κ
def azS:Kn prog:=⟨305,(Fp N).S true (lY N),Fx.u1 (Fp N) aC func305 [6,27] (azR N) (by rw[an8];rfl)⟩
def aug:Fx:=⟨28,tab,Kn.l [azS N],N,f288,[.v aA,.v aL,.v mU,.v fp,.v fa],[.own fa,.v I],[],none⟩
def azT:Kn prog:=⟨288,(aug N).S false (adS N),Fx.u0 (aug N) aC func288⟩
def RU:Fx:=⟨46,tab,Kn.l [abL N],N,f307,[.v fp,.v I],[.v fa,.v B],[⟨13,[(0,.v fp),(1,.v I),(4,.obj fa),(6,.obj fa),(7,.v B),(8,.v I)],[1,1,1,1,0,1,0,0],[]⟩],none⟩
theorem ahL(K ρ):(RU N).bd K ρ 13=tb.u7 N ((RU N).kc ρ 13):=κ
theorem ahM(ρ):(RU N).kc ((RU N).cv ρ) 13=tb.l6 N N:=Fx.uL [] (ahL N) ρ (tb.l6 N) λn ρ' e d=>by rw[e];rfl
theorem azU(K):(RU N).top K=tb.b N ((RU N).kc K 13):=κ
def azV:Kn prog:=⟨307,(RU N).S true (tb N),Fx.u1 (RU N) aC func307 [13] (azU N) (by rw[ahM];rfl)⟩
def zH:Fx:=⟨158,tab,Kn.l [Jn N,an2 N,abL N,azV N,abI N,agR N,AF N,abJ N,Rr N],N,f289,[.v aA,.v aL,.v mU,.v fp],[.v aL,.own jT,.v I],[⟨45,[(2,.v mU),(3,.v fp),(5,.obj aL),(8,.obj aL),(11,.own kf),(12,.own tj),(13,.own jT),(14,.v I),(15,.obj jT),(16,.obj fa),(18,.v I),(19,.v I)],[1,1,1,1,1,0,1,0,0,1,0,0,1,1,1,1,1,1,1,1,0,1,0,0],[15]⟩,⟨15,[(2,.v mU),(3,.v fp),(5,.obj aL),(8,.obj aL),(11,.own kf),(12,.own tj),(13,.own jT),(14,.v I)],[1,1,1,1,1,0,1,0,0],[]⟩],none⟩
theorem ahN(K ρ):(zH N).bd K ρ 45=gv.w8 N ((zH N).kc ρ 15) ((zH N).kc ρ 45):=κ
theorem ahO(ρ):(zH N).kc ((zH N).cv ρ) 45=gv.yk N ((zH N).kc ρ 15) N:=Fx.uL [] (ahN N) ρ (gv.yk N ((zH N).kc ρ 15)) λn ρ' e d=>by rw[e,d 15 rfl];rfl
theorem ahP(K ρ):(zH N).bd K ρ 15=gv.mK N ((zH N).kc K 45) ((zH N).kc ρ 15):=κ
theorem ahQ(ρ):(zH N).kc ((zH N).cv ρ) 15=gv.l7 N N:=Fx.uL [45] (ahP N) ρ (gv.l7 N) λn ρ' e d=>by rw[ahO,e];rfl
theorem azW(K):(zH N).top K=gv.b N ((zH N).kc K 15):=κ
def azX:Kn prog:=⟨289,(zH N).S false (gv N),Fx.u1 (zH N) aC func289 [15] (azW N) (by rw[ahQ];rfl)⟩
def RV:Fx:=⟨58,tab,[],N,f308,[.v dJ],[.v B],[⟨5,[(0,.v dJ),(3,.v I)],[1,0,1,0,0],[]⟩],none⟩
theorem an9(K ρ):(RV N).bd K ρ 5=qz.fI N ((RV N).kc ρ 5):=κ
theorem aoa(ρ):(RV N).kc ((RV N).cv ρ) 5=qz.l2 N N:=Fx.uL [] (an9 N) ρ (qz.l2 N) λn ρ' e d=>by rw[e];rfl
theorem azY(K):(RV N).top K=qz.b N ((RV N).kc K 5):=κ
def ahR:Kn prog:=⟨308,(RV N).S true (qz N),Fx.u1 (RV N) aC func308 [5] (azY N) (by rw[aoa];rfl)⟩
def RW:Fx:=⟨38,tab,[],N,f309,[.v LI],[.v B],[⟨5,[(0,.v LI),(3,.v I)],[1,0,1,0,0],[]⟩],none⟩
theorem aob(K ρ):(RW N).bd K ρ 5=s7.fI N ((RW N).kc ρ 5):=κ
theorem aoc(ρ):(RW N).kc ((RW N).cv ρ) 5=s7.l2 N N:=Fx.uL [] (aob N) ρ (s7.l2 N) λn ρ' e d=>by rw[e];rfl
theorem azZ(K):(RW N).top K=s7.b N ((RW N).kc K 5):=κ
def az0:Kn prog:=⟨309,(RW N).S true (s7 N),Fx.u1 (RW N) aC func309 [5] (azZ N) (by rw[aoc];rfl)⟩
def DF:Fx:=⟨72,tab,Kn.l [aue N],N,f310,[.v I,.v mU,.v fp],[.v I],[⟨25,[(0,.v I),(1,.v mU),(7,.v I),(12,.v I)],[1,1,1,0,1,0,0],[]⟩,⟨7,[(0,.v I),(1,.v mU),(2,.v fp),(7,.v I),(8,.v I)],[1,1,0,1,0,0],[]⟩],none⟩
theorem ahS(K ρ):(DF N).bd K ρ 25=ko.mO N ((DF N).kc ρ 25):=κ
theorem ahT(ρ):(DF N).kc ((DF N).cv ρ) 25=ko.nI N N:=Fx.uL [] (ahS N) ρ (ko.nI N) λn ρ' e d=>by rw[e];rfl
theorem aod(K ρ):(DF N).bd K ρ 7=ko.m3 N ((DF N).kc K 25) ((DF N).kc ρ 7):=κ
theorem aoe(ρ):(DF N).kc ((DF N).cv ρ) 7=ko.l3 N N:=Fx.uL [25] (aod N) ρ (ko.l3 N) λn ρ' e d=>by rw[ahT,e];rfl
theorem az1(K):(DF N).top K=ko.b N ((DF N).kc K 7):=κ
def az2:Kn prog:=⟨310,(DF N).S true (ko N),Fx.u1 (DF N) aC func310 [7,25] (az1 N) (by rw[aoe];rfl)⟩
def mV:Fx:=⟨104,tab,Kn.l [ahR N,az0 N,an2 N,abL N,az2 N],N,f290,[.v aA,.v dJ,.v LI,.v mU,.v fp],[.own kO,.v I],[⟨37,[(1,.v dJ),(2,.v LI),(3,.v mU),(4,.v fp),(12,.own kO),(13,.v I),(14,.v I),(15,.v B),(18,.v I)],[1,1,1,0,1,0,0,1,0,0,1,1,1,0,1,0,0],[11]⟩,⟨29,[(1,.v dJ),(2,.v LI),(3,.v mU),(4,.v fp),(12,.own kO),(13,.v I),(14,.v I),(15,.v B),(17,.v I)],[1,1,1,0,1,0,0,1,0,0,1,1,0,1,0,0],[11]⟩,⟨19,[(1,.v dJ),(2,.v LI),(3,.v mU),(4,.v fp),(12,.own kO),(13,.v I),(14,.v I),(15,.v B),(16,.v I)],[1,1,1,0,1,0,0,1,0,0,1,0,1,0,0],[11]⟩,⟨11,[(1,.v dJ),(2,.v LI),(3,.v mU),(4,.v fp),(12,.own kO),(13,.v I)],[1,1,1,0,1,0,0],[]⟩],none⟩
theorem ahU(K ρ):(mV N).bd K ρ 37=dR.Fh N ((mV N).kc ρ 11) ((mV N).kc ρ 37):=κ
theorem ahV(ρ):(mV N).kc ((mV N).cv ρ) 37=dR.Ji N ((mV N).kc ρ 11) N:=Fx.uL [] (ahU N) ρ (dR.Ji N ((mV N).kc ρ 11)) λn ρ' e d=>by rw[e,d 11 rfl];rfl
theorem ahW(K ρ):(mV N).bd K ρ 29=dR.H5 N ((mV N).kc K 37) ((mV N).kc ρ 11) ((mV N).kc ρ 29):=κ
theorem ahX(ρ):(mV N).kc ((mV N).cv ρ) 29=dR.KR N ((mV N).kc ρ 11) N:=Fx.uL [37] (ahW N) ρ (dR.KR N ((mV N).kc ρ 11)) λn ρ' e d=>by rw[ahV,e,d 11 rfl];rfl
theorem ahY(K ρ):(mV N).bd K ρ 19=dR.vd N ((mV N).kc K 29) ((mV N).kc ρ 11) ((mV N).kc ρ 19):=κ
theorem ahZ(ρ):(mV N).kc ((mV N).cv ρ) 19=dR.l9 N ((mV N).kc ρ 11) N:=Fx.uL [29,37] (ahY N) ρ (dR.l9 N ((mV N).kc ρ 11)) λn ρ' e d=>by rw[ahX,e,d 11 rfl];rfl
theorem ah0(K ρ):(mV N).bd K ρ 11=dR.dU N ((mV N).kc K 19) ((mV N).kc ρ 11):=κ
theorem ah1(ρ):(mV N).kc ((mV N).cv ρ) 11=dR.l5 N N:=Fx.uL [19,29,37] (ah0 N) ρ (dR.l5 N) λn ρ' e d=>by rw[ahZ,e];rfl
theorem az3(K):(mV N).top K=dR.b N ((mV N).kc K 11):=κ
def az4:Kn prog:=⟨290,(mV N).S false (dR N),Fx.u1 (mV N) aC func290 [11] (az3 N) (by rw[ah1];rfl)⟩
def auh:Fx:=⟨28,tab,Kn.l [k29 N],N,f323,[.own qA,.v aL,.v I,.v I,.v I],[.own qA],[],none⟩
def az5:Kn prog:=⟨323,(auh N).S false (MO N),Fx.u0 (auh N) aC func323⟩
def aui:Fx:=⟨9,tab,[],N,f325,[.v I],[.v B],[],none⟩
def auj:Kn prog:=⟨325,(aui N).S true (aaF N),Fx.u0 (aui N) aC func325⟩
def RX:Fx:=⟨27,tab,Kn.l [ahR N],N,f331,[.v dJ,.v I],[.v I],[⟨9,[(0,.v dJ),(1,.v I),(5,.v I)],[1,1,0,1,0,0],[]⟩],none⟩
theorem aof(K ρ):(RX N).bd K ρ 9=s8.dL N ((RX N).kc ρ 9):=κ
theorem aog(ρ):(RX N).kc ((RX N).cv ρ) 9=s8.l4 N N:=Fx.uL [] (aof N) ρ (s8.l4 N) λn ρ' e d=>by rw[e];rfl
theorem az6(K):(RX N).top K=s8.b N ((RX N).kc K 9):=κ
def az7:Kn prog:=⟨331,(RX N).S true (s8 N),Fx.u1 (RX N) aC func331 [9] (az6 N) (by rw[aog];rfl)⟩
def RY:Fx:=⟨67,tab,Kn.l [Jn N,ahR N,auj N,k29 N,az7 N],N,f324,[.v aA,.v aL,.v dJ,.v I,.v I],[.own I,.v I],[⟨11,[(2,.v dJ),(3,.v I),(4,.v I),(6,.obj aL),(12,.own I),(13,.v I)],[1,1,1,0,1,0,0],[]⟩],none⟩
theorem ah2(K ρ):(RY N).bd K ρ 11=s9.dU N ((RY N).kc ρ 11):=κ
theorem ah3(ρ):(RY N).kc ((RY N).cv ρ) 11=s9.l5 N N:=Fx.uL [] (ah2 N) ρ (s9.l5 N) λn ρ' e d=>by rw[e];rfl
theorem az8(K):(RY N).top K=s9.b N ((RY N).kc K 11):=κ
def az9:Kn prog:=⟨324,(RY N).S false (s9 N),Fx.u1 (RY N) aC func324 [11] (az8 N) (by rw[ah3];rfl)⟩
def nU:Fx:=⟨188,tab,Kn.l [Jn N,ahR N,atP N,k22 N,abI N,az5 N,az9 N,auj N,AF N,k29 N,k32 N,I6 N,k48 N],N,f311,[.v aA,.v aL,.v I,.v dJ,.v dJ],[.own qA,.v I],[⟨33,[(2,.v I),(3,.v dJ),(4,.v dJ),(5,.obj aA),(6,.obj aL),(12,.own qA),(14,.v I),(15,.own I),(17,.v I)],[1,1,1,1,1,1,1,0,1,0,0,1,0,0,1,1,0,0],[25]⟩,⟨61,[(2,.v I),(4,.v dJ),(6,.obj aL),(12,.own qA),(22,.v I)],[1,1,1,1,1,1,1,1,1,0,1,0,0],[]⟩,⟨41,[(2,.v I),(4,.v dJ),(5,.obj aA),(6,.obj aL),(12,.own qA),(18,.v I)],[1,1,1,1,1,1,1,1,0,1,0,0],[]⟩,⟨25,[(2,.v I),(3,.v dJ),(4,.v dJ),(5,.obj aA),(6,.obj aL),(12,.own qA),(14,.v I)],[1,1,1,1,1,1,1,0,1,0,0],[]⟩,⟨18,[(2,.v I),(3,.v dJ),(4,.v dJ),(5,.obj aA),(6,.obj aL),(12,.own qA)],[1,1,1,1,1],[]⟩],none⟩
theorem ah4(K ρ):(nU N).bd K ρ 33=c6.w7 N ((nU N).kc ρ 25) ((nU N).kc ρ 33):=κ
theorem ah5(ρ):(nU N).kc ((nU N).cv ρ) 33=c6.yj N ((nU N).kc ρ 25) N:=Fx.uL [41,61] (ah4 N) ρ (c6.yj N ((nU N).kc ρ 25)) λn ρ' e d=>by rw[e,d 25 rfl];rfl
theorem ah6(K ρ):(nU N).bd K ρ 61=c6.Mo N ((nU N).kc ρ 61):=κ
theorem ah7(ρ):(nU N).kc ((nU N).cv ρ) 61=c6.Pm N N:=Fx.uL [] (ah6 N) ρ (c6.Pm N) λn ρ' e d=>by rw[e];rfl
theorem ah8(K ρ):(nU N).bd K ρ 41=c6.P8 N ((nU N).kc K 61) ((nU N).kc ρ 41):=κ
theorem ah9(ρ):(nU N).kc ((nU N).cv ρ) 41=c6.JW N N:=Fx.uL [61] (ah8 N) ρ (c6.JW N) λn ρ' e d=>by rw[ah7,e];rfl
theorem aia(K ρ):(nU N).bd K ρ 25=c6.mO N ((nU N).kc K 33) ((nU N).kc K 41) ((nU N).kc ρ 25):=κ
theorem aib(ρ):(nU N).kc ((nU N).cv ρ) 25=c6.nI N N:=Fx.uL [41,61,33] (aia N) ρ (c6.nI N) λn ρ' e d=>by rw[ah5,ah9,e];rfl
theorem aic(K ρ):(nU N).bd K ρ 18=c6.JF N ((nU N).kc K 25):=κ
theorem aid(ρ):(nU N).kc ((nU N).cv ρ) 18=c6.j9 N:=Fx.uJ [25,41,61] (aic N) ρ (by rw[aib];rfl)
theorem aAa(K):(nU N).top K=c6.b N ((nU N).kc K 18):=κ
def aAb:Kn prog:=⟨311,(nU N).S false (c6 N),Fx.u1 (nU N) aC func311 [18,25,41,61] (aAa N) (by rw[aid];rfl)⟩
def auk:Fx:=⟨19,tab,Kn.l [Jn N,k29 N],N,f312,[.v aA,.v aL],[.v I,.v I],[],none⟩
def aAc:Kn prog:=⟨312,(auk N).S true (adU N),Fx.u0 (auk N) aC func312⟩
def RZ:Fx:=⟨97,tab,Kn.l [asK N],N,f326,[.v yQ],[.v B],[⟨9,[(0,.v yQ),(3,.v I)],[1,1,0,1,0,0],[]⟩],none⟩
theorem aoh(K ρ):(RZ N).bd K ρ 9=ta.dL N ((RZ N).kc ρ 9):=κ
theorem aoi(ρ):(RZ N).kc ((RZ N).cv ρ) 9=ta.l4 N N:=Fx.uL [] (aoh N) ρ (ta.l4 N) λn ρ' e d=>by rw[e];rfl
theorem aAd(K):(RZ N).top K=ta.b N ((RZ N).kc K 9):=κ
def aAe:Kn prog:=⟨326,(RZ N).S true (ta N),Fx.u1 (RZ N) aC func326 [9] (aAd N) (by rw[aoi];rfl)⟩
def nV:Fx:=⟨106,tab,Kn.l [aAe N,anW N,I6 N,anZ N],N,f313,[.v yQ,.v I],[.own qA,.v I,.v I],[⟨37,[(7,.own qA),(8,.v I),(9,.v I),(10,.v I),(14,.own I),(16,.v I)],[1,1,1,0,1,0,0,1,0,1,1,1,1,1,1,1,0,1,0,0],[11]⟩,⟨22,[(7,.own qA),(8,.v I),(9,.v I),(10,.v I),(11,.own I)],[1,1,1,0,1,0,0,1,0,1,1,1],[11]⟩,⟨17,[(7,.own qA),(8,.v I),(9,.v I),(10,.v I),(11,.own I)],[1,1,1,0,1,0,0,1,0,1,1,0,0,0],[11]⟩,⟨11,[(7,.own qA),(8,.v I),(9,.v I)],[1,1,1,0,1,0,0],[]⟩],none⟩
theorem aie(K ρ):(nV N).bd K ρ 37=dX.Fh N ((nV N).kc ρ 11) ((nV N).kc ρ 37):=κ
theorem aif(ρ):(nV N).kc ((nV N).cv ρ) 37=dX.Ji N ((nV N).kc ρ 11) N:=Fx.uL [] (aie N) ρ (dX.Ji N ((nV N).kc ρ 11)) λn ρ' e d=>by rw[e,d 11 rfl];rfl
theorem aih(K ρ):(nV N).bd K ρ 22=dX.ym N ((nV N).kc K 37) ((nV N).kc ρ 11):=κ
theorem aii(ρ):(nV N).kc ((nV N).cv ρ) 22=dX.E9 N ((nV N).kc ρ 11):=Fx.uJ [37] (aih N) ρ (by rw[aif];rfl)
theorem aij(K ρ):(nV N).bd K ρ 17=dX.Ef N ((nV N).kc K 22) ((nV N).kc ρ 11) ((nV N).kc ρ 17):=κ
theorem aik(ρ):(nV N).kc ((nV N).cv ρ) 17=dX.l8 N ((nV N).kc ρ 11) N:=Fx.uL [22,37] (aij N) ρ (dX.l8 N ((nV N).kc ρ 11)) λn ρ' e d=>by rw[aii,e,d 11 rfl];rfl
theorem ail(K ρ):(nV N).bd K ρ 11=dX.dU N ((nV N).kc K 17) ((nV N).kc ρ 11):=κ
theorem aim(ρ):(nV N).kc ((nV N).cv ρ) 11=dX.l5 N N:=Fx.uL [17,22,37] (ail N) ρ (dX.l5 N) λn ρ' e d=>by rw[aik,e];rfl
theorem aAf(K):(nV N).top K=dX.b N ((nV N).kc K 11):=κ
def aAg:Kn prog:=⟨313,(nV N).S false (dX N),Fx.u1 (nV N) aC func313 [11] (aAf N) (by rw[aim];rfl)⟩
def aul:Fx:=⟨14,tab,Kn.l [Jn N,k29 N],N,f314,[.v aA,.v aL],[.v I,.v I],[],none⟩
def aAh:Kn prog:=⟨314,(aul N).S true (adV N),Fx.u0 (aul N) aC func314⟩
def Fs:Fx:=⟨156,tab,Kn.l [aAb N,aAc N,aAg N,AF N,abJ N,aAh N,abI N,Rr N],N,f291,[.v aA,.v aL,.v I,.v dJ,.v dJ],[.v aL,.v ix,.v I],[⟨52,[(6,.obj aL),(10,.obj aL),(11,.obj ix),(18,.own tj),(19,.gn ix [.iK 2] qA),(21,.v I),(23,.v I),(24,.v I)],[1,1,1,1,1,1,1,1,1,1,1,1,1,1,1],[]⟩,⟨31,[(2,.v I),(5,.obj aA),(6,.obj aL),(10,.obj aL),(11,.obj ix),(13,.own qA),(17,.v I),(18,.own tj),(19,.gn ix [.iK 2] qA),(20,.v I)],[1,1,1,1,1,1,1,1,1,1,0,1,0,0],[]⟩],some (ix,[.iK 2],qA,[19])⟩
theorem ain(K ρ):(Fs N).bd K ρ 52=jc.adX N:=κ
theorem aio(ρ):(Fs N).kc ((Fs N).cv ρ) 52=jc.j26 N:=Fx.uJ [] (ain N) ρ
theorem aip(K ρ):(Fs N).bd K ρ 31=jc.JP N ((Fs N).kc K 52) ((Fs N).kc ρ 31):=κ
theorem aiq(ρ):(Fs N).kc ((Fs N).cv ρ) 31=jc.KC N N:=Fx.uL [52] (aip N) ρ (jc.KC N) λn ρ' e d=>by rw[aio,e];rfl
theorem aAi(K):(Fs N).top K=jc.b N ((Fs N).kc K 31):=κ
def aAj:Kn prog:=⟨291,(Fs N).S false (jc N),Fx.u1 (Fs N) aC func291 [31,52] (aAi N) (by rw[aiq];rfl)⟩
def rN:Fx:=⟨129,tab,Kn.l [aud N,anW N,I6 N,anZ N],N,f328,[.v I,.v LI,.v LI],[.own I,.v I,.v I],[⟨39,[(1,.v LI),(2,.v LI),(11,.own I),(12,.v I),(13,.v I),(17,.own I),(19,.v I)],[1,1,1,1,0,1,0,0,1,0,0,1,1,1,1,1,0,0],[17]⟩,⟨25,[(1,.v LI),(2,.v LI),(11,.own I),(12,.v I),(13,.v I),(14,.own I),(15,.v B),(16,.v I)],[1,1,1,1,0,1,0,0,1,0,0,1,0,1,0,0],[17]⟩,⟨17,[(1,.v LI),(2,.v LI),(11,.own I),(12,.v I),(13,.v I)],[1,1,1,1,0,1,0,0],[]⟩],none⟩
theorem air(K ρ):(rN N).bd K ρ 39=fi.SV N ((rN N).kc ρ 17) ((rN N).kc ρ 39):=κ
theorem ais(ρ):(rN N).kc ((rN N).cv ρ) 39=fi.WO N ((rN N).kc ρ 17) N:=Fx.uL [] (air N) ρ (fi.WO N ((rN N).kc ρ 17)) λn ρ' e d=>by rw[e,d 17 rfl];rfl
theorem ait(K ρ):(rN N).bd K ρ 25=fi.mO N ((rN N).kc K 39) ((rN N).kc ρ 17) ((rN N).kc ρ 25):=κ
theorem aiu(ρ):(rN N).kc ((rN N).cv ρ) 25=fi.nI N ((rN N).kc ρ 17) N:=Fx.uL [39] (ait N) ρ (fi.nI N ((rN N).kc ρ 17)) λn ρ' e d=>by rw[ais,e,d 17 rfl];rfl
theorem aiv(K ρ):(rN N).bd K ρ 17=fi.Ef N ((rN N).kc K 25) ((rN N).kc ρ 17):=κ
theorem aiw(ρ):(rN N).kc ((rN N).cv ρ) 17=fi.l8 N N:=Fx.uL [25,39] (aiv N) ρ (fi.l8 N) λn ρ' e d=>by rw[aiu,e];rfl
theorem aAk(K):(rN N).top K=fi.b N ((rN N).kc K 17):=κ
def aAl:Kn prog:=⟨328,(rN N).S false (fi N),Fx.u1 (rN N) aC func328 [17] (aAk N) (by rw[aiw];rfl)⟩
def DG:Fx:=⟨127,tab,Kn.l [Jn N,k27 N,aAl N],N,f315,[.v aA,.v aL,.v I],[.own kf,.v I],[⟨43,[(2,.v I),(8,.v I),(9,.own I),(13,.own I),(16,.own kf),(17,.v I)],[1,1,1,1,1,1,1,1,1,1,1,0,1,0,0],[]⟩,⟨23,[(2,.v I),(4,.obj aL),(8,.v I),(9,.own I),(10,.own I),(11,.v I)],[1,1,1,1,1,1,1,0,1,0,0],[]⟩],none⟩
theorem aix(K ρ):(DG N).bd K ρ 43=gk.aaG N ((DG N).kc ρ 43):=κ
theorem aiy(ρ):(DG N).kc ((DG N).cv ρ) 43=gk.Xs N N:=Fx.uL [] (aix N) ρ (gk.Xs N) λn ρ' e d=>by rw[e];rfl
theorem aiz(K ρ):(DG N).bd K ρ 23=gk.yq N ((DG N).kc K 43) ((DG N).kc ρ 23):=κ
theorem aiA(ρ):(DG N).kc ((DG N).cv ρ) 23=gk.Ar N N:=Fx.uL [43] (aiz N) ρ (gk.Ar N) λn ρ' e d=>by rw[aiy,e];rfl
theorem aAm(K):(DG N).top K=gk.b N ((DG N).kc K 23):=κ
def aAn:Kn prog:=⟨315,(DG N).S false (gk N),Fx.u1 (DG N) aC func315 [23,43] (aAm N) (by rw[aiA];rfl)⟩
def R1:Fx:=⟨41,tab,Kn.l [Jn N,aAn N,Rr N],N,f292,[.v aA,.v aL],[.v aL,.v I],[⟨11,[(2,.obj aA),(3,.obj aL),(4,.obj aL),(6,.own kf),(7,.v I)],[1,1,1,0,1,0,0],[]⟩],none⟩
theorem aiB(K ρ):(R1 N).bd K ρ 11=oO.dU N ((R1 N).kc ρ 11):=κ
theorem aiC(ρ):(R1 N).kc ((R1 N).cv ρ) 11=oO.l5 N N:=Fx.uL [] (aiB N) ρ (oO.l5 N) λn ρ' e d=>by rw[e];rfl
theorem aAo(K):(R1 N).top K=oO.b N ((R1 N).kc K 11):=κ
def aAp:Kn prog:=⟨292,(R1 N).S false (oO N),Fx.u1 (R1 N) aC func292 [11] (aAo N) (by rw[aiC];rfl)⟩
def R2:Fx:=⟨325,tab,Kn.l [azi N,afp N,k61 N,azt N,azy N,azJ N,anF N,azL N,azT N,azX N,az4 N,aAj N,aAp N,atU N],N,f276,[.v aA,.v dO,.v me],[.v dO,.v kf],[⟨83,[(4,.obj dO),(6,.obj dO),(7,.obj kf),(14,.v mU),(16,.v I),(17,.v I)],[1,1,0,1,0,1,1,1,1,1,1,1,1,1,1,1,1,1,0,1,1,1,1,1,1,0,1,0,0],[]⟩],none⟩
theorem aiD(K ρ):(R2 N).bd K ρ 83=oQ.ad1 N ((R2 N).kc ρ 83):=κ
theorem aiE(ρ):(R2 N).kc ((R2 N).cv ρ) 83=oQ.l41 N N:=Fx.uL [] (aiD N) ρ (oQ.l41 N) λn ρ' e d=>by rw[e];rfl
theorem aAq(K):(R2 N).top K=oQ.b N ((R2 N).kc K 83):=κ
def aAr:Kn prog:=⟨276,(R2 N).S false (oQ N),Fx.u1 (R2 N) aC func276 [83] (aAq N) (by rw[aiE];rfl)⟩
def T1:Fx:=⟨141,tab,Kn.l [atU N,atW N,azb N,afp N,atC N,anF N,azc N,aAr N],N,f256,[.v aA,.v dO,.v me],[.v dO,.v kf],[⟨58,[(3,.obj aA),(4,.obj dO),(5,.obj me),(6,.obj dO),(7,.obj kf)],[1,1,1],[]⟩],none⟩
theorem aiF(K ρ):(T1 N).bd K ρ 58=qX.P9 N:=κ
theorem aiG(ρ):(T1 N).kc ((T1 N).cv ρ) 58=qX.Xn N:=Fx.uJ [] (aiF N) ρ
theorem aAs(K):(T1 N).top K=qX.b N ((T1 N).kc K 58):=κ
def aAt:Kn prog:=⟨256,(T1 N).S false (qX N),Fx.u1 (T1 N) aC func256 [58] (aAs N) (by rw[aiG];rfl)⟩
def aum:Fx:=⟨295,tab,Kn.l [ayk N,afp N,ayq N,ayr N,ayz N,ayJ N,atC N,k29 N,AF N,k52 N,k30 N,ayL N,ayV N,ayX N,atO N,ay2 N,anF N,aAt N],N,f208,[.v aA,.v dO,.v me],[.v dO,.v kf],[],none⟩
def aAu:Kn prog:=⟨208,(aum N).S false (Xw N),Fx.u0 (aum N) aC func208⟩
def aun:Fx:=⟨36,tab,Kn.l [TY N,ayi N,aAu N],N,f143,[.v aA,.v dO,.v me],[.v dO,.v kf],[],none⟩
def auo:Kn prog:=⟨143,(aun N).S false (Tq N),Fx.u0 (aun N) aC func143⟩
def R3:Fx:=⟨48,tab,Kn.l [auo N],N,f257,[.io nA,.lo me],[.v dO,.io nA,.lo me],[⟨3,[(0,.io nA),(1,.own me),(4,.obj dO)],[1,0,0,0],[]⟩],none⟩
theorem aoj(K ρ):(R3 N).bd K ρ 3=rE.l1b N ((R3 N).kc ρ 3):=κ
theorem aok(ρ):(R3 N).kc ((R3 N).cv ρ) 3=rE.l1 N N:=Fx.uL [] (aoj N) ρ (rE.l1 N) λn ρ' e d=>by rw[e];rfl
theorem aAv(K):(R3 N).top K=rE.b N ((R3 N).kc K 3):=κ
def aAw:Kn prog:=⟨257,(R3 N).S false (rE N),Fx.u1 (R3 N) aC func257 [3] (aAv N) (by rw[aok];rfl)⟩
def qG:Fx:=⟨119,tab,Kn.l [k57 N,aAw N,Yb N,k62 N,asZ N],N,f213,[.io dH,.io nA,.own me],[.own me,.io dH,.io nA],[⟨35,[(0,.io dH),(1,.io nA),(2,.own me),(10,.obj dO),(11,.v I),(12,.obj jT),(13,.v I)],[1,1,1,1,0,1,0,0,1,0,0,1,1,0,0],[27]⟩,⟨27,[(0,.io dH),(1,.io nA),(2,.own me),(10,.obj dO),(11,.v I)],[1,1,1,1,0,1,0,0],[]⟩,⟨20,[(0,.io dH),(1,.io nA),(2,.own me)],[1,1],[]⟩,⟨11,[(0,.io dH),(1,.io nA),(2,.own me),(7,.obj dO),(8,.v I)],[1,0,1,0,1,1,1,0,0],[]⟩],none⟩
theorem aiH(K ρ):(qG N).bd K ρ 35=eI.E7 N ((qG N).kc ρ 27) ((qG N).kc ρ 35):=κ
theorem aiI(ρ):(qG N).kc ((qG N).cv ρ) 35=eI.FL N ((qG N).kc ρ 27) N:=Fx.uL [] (aiH N) ρ (eI.FL N ((qG N).kc ρ 27)) λn ρ' e d=>by rw[e,d 27 rfl];rfl
theorem aiJ(K ρ):(qG N).bd K ρ 27=eI.ly N ((qG N).kc K 35) ((qG N).kc ρ 27):=κ
theorem aiK(ρ):(qG N).kc ((qG N).cv ρ) 27=eI.my N N:=Fx.uL [35] (aiJ N) ρ (eI.my N) λn ρ' e d=>by rw[aiI,e];rfl
theorem aiL(K ρ):(qG N).bd K ρ 20=eI.Da N ((qG N).kc K 27):=κ
theorem Vr(ρ):(qG N).kc ((qG N).cv ρ) 20=eI.JN N:=Fx.uJ [27] (aiL N) ρ (by rw[aiK];rfl)
theorem aiM(K ρ):(qG N).bd K ρ 11=eI.dU N ((qG N).kc K 20) ((qG N).kc ρ 11):=κ
theorem aiN(ρ):(qG N).kc ((qG N).cv ρ) 11=eI.l5 N N:=Fx.uL [20,27] (aiM N) ρ (eI.l5 N) λn ρ' e d=>by rw[Vr,e];rfl
theorem aAx(K):(qG N).top K=eI.b N ((qG N).kc K 11) ((qG N).kc K 20):=κ
def aAy:Kn prog:=⟨213,(qG N).S false (eI N),Fx.u1 (qG N) aC func213 [11,20,27] (aAx N) (by rw[aiN,Vr];rfl)⟩
def DH:Fx:=⟨99,tab,Kn.l [asY N,asV N,Yb N,asZ N,k57 N,aAy N],N,f146,[.io dH,.v aA,.v I],[.own me,.io dH],[⟨35,[(0,.io dH),(4,.obj aA),(9,.obj nA),(10,.own me),(13,.v I)],[1,1,1,1,1,1,1,1,1,1,1,1,0,1,0,0],[]⟩,⟨19,[(0,.io dH),(4,.obj aA),(9,.obj nA),(10,.own me),(12,.v I)],[1,1,1,1,1,1,1,1,0,1,0,0],[]⟩],none⟩
theorem aiO(K ρ):(DH N).bd K ρ 35=jU.E7 N ((DH N).kc ρ 35):=κ
theorem aiP(ρ):(DH N).kc ((DH N).cv ρ) 35=jU.FL N N:=Fx.uL [] (aiO N) ρ (jU.FL N) λn ρ' e d=>by rw[e];rfl
theorem aiQ(K ρ):(DH N).bd K ρ 19=jU.vd N ((DH N).kc K 35) ((DH N).kc ρ 19):=κ
theorem aiR(ρ):(DH N).kc ((DH N).cv ρ) 19=jU.l9 N N:=Fx.uL [35] (aiQ N) ρ (jU.l9 N) λn ρ' e d=>by rw[aiP,e];rfl
theorem aAz(K):(DH N).top K=jU.b N ((DH N).kc K 19):=κ
def aAA:Kn prog:=⟨146,(DH N).S false (jU N),Fx.u1 (DH N) aC func146 [19,35] (aAz N) (by rw[aiR];rfl)⟩
def X59:Fx:=⟨38,tab,Kn.l [Yb N,amE N,asV N,aAA N],N,f59,[.io dH,.v aA,.v I],[.own me,.io dH],[⟨11,[(0,.io dH),(4,.obj aA),(7,.own me),(8,.v I)],[1,0,1,0,1,0,1,0,1,0,0],[]⟩],none⟩
theorem aol(K ρ):(X59 N).bd K ρ 11=HF.dU N ((X59 N).kc ρ 11):=κ
theorem aom(ρ):(X59 N).kc ((X59 N).cv ρ) 11=HF.l5 N N:=Fx.uL [] (aol N) ρ (HF.l5 N) λn ρ' e d=>by rw[e];rfl
theorem h59(K):(X59 N).top K=HF.b N ((X59 N).kc K 11):=κ
def k59:Kn prog:=⟨59,(X59 N).S false (HF N),Fx.u1 (X59 N) aC func59 [11] (h59 N) (by rw[aom];rfl)⟩
def X58:Fx:=⟨43,tab,Kn.l [asY N,auo N],N,f58,[.v aA,.v alR],[.v dO,.own kf],[⟨13,[(1,.v alR),(2,.obj aA),(4,.obj dO),(6,.obj dO),(8,.own kf),(9,.v I)],[1,1,1,1,0,1,0,0],[]⟩],none⟩
theorem aon(K ρ):(X58 N).bd K ρ 13=IP.u7 N ((X58 N).kc ρ 13):=κ
theorem aoo(ρ):(X58 N).kc ((X58 N).cv ρ) 13=IP.l6 N N:=Fx.uL [] (aon N) ρ (IP.l6 N) λn ρ' e d=>by rw[e];rfl
theorem h58(K):(X58 N).top K=IP.b N ((X58 N).kc K 13):=κ
def k58:Kn prog:=⟨58,(X58 N).S false (IP N),Fx.u1 (X58 N) aC func58 [13] (h58 N) (by rw[aoo];rfl)⟩
def X18:Fx:=⟨19,tab,Kn.l [k59 N,k58 N],N,f18,[.io dH,.v aA,.v I],[.v dO,.io dH],[],none⟩
def k18:Kn prog:=⟨18,(X18 N).S false (F18 N),Fx.u0 (X18 N) aC func18⟩
def DI:Fx:=⟨75,tab,Kn.l [Yb N,k57 N,k40 N],N,f37,[.io dH,.v aA,.v aL],[.own qA,.io dH],[⟨22,[(0,.io dH),(4,.obj aA),(5,.obj aL),(7,.own qA),(8,.v I),(10,.obj qA)],[1,1,0,1,0,0,1,0,0,1,1,1,1],[7]⟩,⟨18,[(0,.io dH),(4,.obj aA),(5,.obj aL),(7,.own qA),(8,.v I),(10,.obj qA)],[1,1,0,1,0,0,1,0,0,1,1,1],[7]⟩,⟨7,[(0,.io dH),(4,.obj aA),(5,.obj aL),(7,.own qA),(8,.v I)],[1,1,0,1,0,0],[]⟩],none⟩
theorem aCz:sF prog (DI N).E:=Fx.Km (DI N) aC (Kn.all _) κ
theorem aop(K ρ):(DI N).bd K ρ 22=pT.ym N ((DI N).kc ρ 7):=κ
theorem aoq(ρ):(DI N).kc ((DI N).cv ρ) 22=pT.E9 N ((DI N).kc ρ 7):=Fx.uJ [] (aop N) ρ
theorem aor(K ρ):(DI N).bd K ρ 18=pT.JF N ((DI N).kc K 22) ((DI N).kc ρ 7):=κ
theorem aos(ρ):(DI N).kc ((DI N).cv ρ) 18=pT.j9 N ((DI N).kc ρ 7):=Fx.uJ [22] (aor N) ρ (by rw[aoq];rfl)
theorem aup(K ρ):(DI N).bd K ρ 7=pT.m3 N ((DI N).kc K 18) ((DI N).kc ρ 7):=κ
theorem aj4(ρ):(DI N).kc ((DI N).cv ρ) 7=pT.l3 N N:=Fx.uL [18,22] (aup N) ρ (pT.l3 N) λn ρ' e d=>by rw[aos,e];rfl
theorem h37(K):(DI N).top K=pT.b N ((DI N).kc K 7):=κ
theorem aCB: ∀x,No (DI N).E (DI N).fn (DI N).args (DI N).res x=Hh (DI N).args (pT N) x:=Fx.ak2 κ [7] (λK=>κ) (h37 N) (by rw[aj4];rfl)
def k37:Kn prog:=⟨37,(DI N).S false (pT N),Fx.u1 (DI N) aC func37 [7] (h37 N) (by rw[aj4];rfl)⟩
def auq:Fx:=⟨29,tab,Kn.l [Jn N,k48 N,anz N],N,f107,[.v aA,.v aL,.v I],[.v dj,.v I],[],none⟩
def aAB:Kn prog:=⟨107,(auq N).S false (aea N),Fx.u0 (auq N) aC func107⟩
def X94:Fx:=⟨26,tab,[],N,f94,[.v dJ,.v dJ],[.v B],[⟨9,[(0,.v dJ),(1,.v dJ),(5,.v I)],[1,1,0,1,0,0],[]⟩],none⟩
theorem aur(K ρ):(X94 N).bd K ρ 9=Fb.dL N ((X94 N).kc ρ 9):=κ
theorem aus(ρ):(X94 N).kc ((X94 N).cv ρ) 9=Fb.l4 N N:=Fx.uL [] (aur N) ρ (Fb.l4 N) λn ρ' e d=>by rw[e];rfl
theorem h94(K):(X94 N).top K=Fb.b N ((X94 N).kc K 9):=κ
def k94:Kn prog:=⟨94,(X94 N).S true (Fb N),Fx.u1 (X94 N) aC func94 [9] (h94 N) (by rw[aus];rfl)⟩
def X25:Fx:=⟨26,tab,[],N,f25,[.v fp,.v fp],[.v B],[⟨9,[(0,.v fp),(1,.v fp),(5,.v I)],[1,1,0,1,0,0],[]⟩],none⟩
theorem aut(K ρ):(X25 N).bd K ρ 9=Fc.dL N ((X25 N).kc ρ 9):=κ
theorem auu(ρ):(X25 N).kc ((X25 N).cv ρ) 9=Fc.l4 N N:=Fx.uL [] (aut N) ρ (Fc.l4 N) λn ρ' e d=>by rw[e];rfl
theorem h25(K):(X25 N).top K=Fc.b N ((X25 N).kc K 9):=κ
def k25:Kn prog:=⟨25,(X25 N).S true (Fc N),Fx.u1 (X25 N) aC func25 [9] (h25 N) (by rw[auu];rfl)⟩
def X96:Fx:=⟨26,tab,[],N,f96,[.v cS,.v cS],[.v B],[⟨9,[(0,.v cS),(1,.v cS),(5,.v I)],[1,1,0,1,0,0],[]⟩],none⟩
theorem auv(K ρ):(X96 N).bd K ρ 9=Fe.dL N ((X96 N).kc ρ 9):=κ
theorem auw(ρ):(X96 N).kc ((X96 N).cv ρ) 9=Fe.l4 N N:=Fx.uL [] (auv N) ρ (Fe.l4 N) λn ρ' e d=>by rw[e];rfl
theorem h96(K):(X96 N).top K=Fe.b N ((X96 N).kc K 9):=κ
def k96:Kn prog:=⟨96,(X96 N).S true (Fe N),Fx.u1 (X96 N) aC func96 [9] (h96 N) (by rw[auw];rfl)⟩
def X24:Fx:=⟨26,tab,[],N,f24,[.v lF,.v lF],[.v B],[⟨9,[(0,.v lF),(1,.v lF),(5,.v I)],[1,1,0,1,0,0],[]⟩],none⟩
theorem auy(K ρ):(X24 N).bd K ρ 9=Ff.dL N ((X24 N).kc ρ 9):=κ
theorem auz(ρ):(X24 N).kc ((X24 N).cv ρ) 9=Ff.l4 N N:=Fx.uL [] (auy N) ρ (Ff.l4 N) λn ρ' e d=>by rw[e];rfl
theorem h24(K):(X24 N).top K=Ff.b N ((X24 N).kc K 9):=κ
def k24:Kn prog:=⟨24,(X24 N).S true (Ff N),Fx.u1 (X24 N) aC func24 [9] (h24 N) (by rw[auz];rfl)⟩
def X35:Fx:=⟨45,tab,Kn.l [k94 N,k25 N,k95 N,k96 N,k55 N,k24 N],N,f35,[.v aL,.v aL],[.v B],[],none⟩
def k35:Kn prog:=⟨35,(X35 N).S true (F35 N),Fx.u0 (X35 N) aC func35⟩
def auA:Fx:=⟨16,tab,Kn.l [AF N,k82 N,k32 N,k83 N,Sf N],N,f183,[.v eC],[.v dj],[],none⟩
def aAC:Kn prog:=⟨183,(auA N).S false (adB N),Fx.u0 (auA N) aC func183⟩
def auB:Fx:=⟨10,tab,Kn.l [aAC N,k30 N],N,f110,[.v eC,.v dj],[.v B],[],none⟩
def auC:Kn prog:=⟨110,(auB N).S true (aai N),Fx.u0 (auB N) aC func110⟩
def R4:Fx:=⟨55,tab,Kn.l [auC N],N,f109,[.v iz,.v nB],[.v B],[⟨9,[(0,.v iz),(1,.v nB),(5,.v I)],[1,1,0,1,0,0],[]⟩],none⟩
theorem aot(K ρ):(R4 N).bd K ρ 9=qZ.dL N ((R4 N).kc ρ 9):=κ
theorem aou(ρ):(R4 N).kc ((R4 N).cv ρ) 9=qZ.l4 N N:=Fx.uL [] (aot N) ρ (qZ.l4 N) λn ρ' e d=>by rw[e];rfl
theorem aAD(K):(R4 N).top K=qZ.b N ((R4 N).kc K 9):=κ
def aAE:Kn prog:=⟨109,(R4 N).S true (qZ N),Fx.u1 (R4 N) aC func109 [9] (aAD N) (by rw[aou];rfl)⟩
def X39:Fx:=⟨145,tab,Kn.l [k38 N,anC N,k42 N,atO N,k99 N,aAB N,asA N,atW N,k35 N,aAE N,auC N,k23 N,Jn N],N,f39,[.v aA,.v aL,.v yQ,.v I,.v I,.v I,.v I],[.v B],[],none⟩
theorem aCD:sF prog (X39 N).E:=Fx.Km (X39 N) aC (Kn.all _) κ
theorem aCE: ∀x,No (X39 N).E (X39 N).fn (X39 N).args (X39 N).res x=Hh (X39 N).args (F39 N) x:=Fx.acP κ
def k39:Kn prog:=⟨39,(X39 N).S true (F39 N),Fx.u0 (X39 N) aC func39⟩
def X8:Fx:=⟨48,tab,Kn.l [k36 N,k16 N,k17 N,k18 N,k37 N,k40 N,k39 N,k23 N],N,f8,[.v LU,.v I],[.v B],[⟨15,[(1,.v I),(5,.obj dH),(6,.obj aA),(7,.obj aL),(8,.v I)],[1,1,1,1,1,0,1,0,0],[]⟩],none⟩
theorem aAF:sF prog (X8 N).E:=Fx.Km (X8 N) aC (Kn.all _) κ
theorem auD(K ρ):(X8 N).bd K ρ 15=F8.mK N ((X8 N).kc ρ 15):=κ
theorem aj9(ρ):(X8 N).kc ((X8 N).cv ρ) 15=F8.l7 N N:=Fx.uL [] (auD N) ρ (F8.l7 N) λn ρ' e d=>by rw[e];rfl
theorem h8(K):(X8 N).top K=F8.b N ((X8 N).kc K 15):=κ
theorem aAG: ∀x,No (X8 N).E (X8 N).fn (X8 N).args (X8 N).res x=Hh (X8 N).args (F8 N) x:=Fx.ak2 κ [15] (λK=>κ) (h8 N) (by rw[aj9];rfl)
def k8:Kn prog:=⟨8,(X8 N).S true (F8 N),Fx.u1 (X8 N) aC func8 [15] (h8 N) (by rw[aj9];rfl)⟩
end
end VM.F
