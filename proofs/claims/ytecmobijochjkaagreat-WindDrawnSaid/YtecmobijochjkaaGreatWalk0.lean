/- A part of the proof of WindDrawn of layer 21: each function of the program does what its equation says; printed by a program. -/
import Derived.Test.YtecmobijochjkaaGreatText
import Derived.Test.YtecmobijochjkaaGreatVm7
import Derived.Test.YtecmobijochjkaaGreatProg
import Derived.KernelRfl
set_option linter.all false
noncomputable section
namespace VM.F
open Go VM Go.Proofs
set_option maxRecDepth 100000
abbrev I:Ty:= .int .i64
abbrev U:Ty:= .int .u64
abbrev B:Ty:= .bool
abbrev Z:Ty:= .str
abbrev Oc:Ty:= .slice kS
abbrev dk:Ty:= .slice js
abbrev QQ:Ty:= .slice fO
abbrev anc:Ty:= .slice cV
abbrev asl:Ty:= .slice dA
abbrev cM:Ty:= .slice jk
abbrev YO:Ty:= .slice uQ
abbrev eU:Ty:= .slice ej
abbrev jE:Ty:= .slice wZ
abbrev KT:Ty:= .slice sL
abbrev om:Ty:= .slice rA
abbrev o8:Ty:= .slice mJ
abbrev ah8:Ty:= .slice kO
abbrev lz:Ty:= .slice jc
abbrev ane:Ty:= .slice gG
abbrev anf:Ty:= .slice aA
abbrev asm:Ty:= .slice aK
abbrev ak2:Ty:= .slice rr
abbrev aqu:Ty:= .slice dr
abbrev aqv:Ty:= .slice lZ
abbrev LI:Ty:= .slice I
abbrev LU:Ty:= .slice U
def tab:List (Nat×Ty):=[(2,I),(3,I),(4,B),(5,(.int .u8)),(9,Z),(22,LU),(26,eU),(28,aA),(30,dk),(31,eU),(32,cM),(33,cM),(34,LI),(35,o8),(37,aK),(38,eU),(39,lz),(40,eU),(41,LI),(42,dk),(43,dk),(45,rr),(46,KT),(48,gG),(50,dr),(55,I),(63,cV),(67,ej),(76,ej),(78,KT),(85,jk),(87,jk),(89,mJ),(92,jE),(109,sL),(115,dA),(117,cM),(120,ah8),(122,U),(124,cM),(126,fO),(132,wZ),(149,dk),(162,jk),(165,om),(185,cM),(196,js),(200,jk),(204,kO),(214,js),(220,QQ),(238,rA),(254,jk),(266,lZ),(277,(.arr 13 B)),(310,ej),(312,jc),(322,js),(330,ej),(353,anc),(371,js),(379,sL)]
theorem aF:E0 Tryz.prog tab:=⟨κ,κ⟩
section
variable(N:Nat)
abbrev Yh:lO:=uT.S N
abbrev Yi:lO:=yb.S N
theorem Yj:iA Tryz.prog 191 (Yi N):=S9 N Tryz.func191 κ κ κ κ
def ah9:Kn Tryz.prog:=⟨191,Yi N,Yj N⟩
theorem Yk:iA Tryz.prog 217 (Yh N):=Ta N Tryz.func217 κ κ κ κ
def Yl:Kn Tryz.prog:=⟨217,Yh N,Yk N⟩
abbrev Od:lO:=vP (.pair (.int .i64) (.pair (.int .i64) (.pair (.int .i64) (.pair (.int .i64) (.pair (.int .i64) (.pair (.int .i64) .unit)))))) N
def KU.QR:Go.Shelf.Ren:={f:=λi=>0,t:=λi=>cond (Nat.beq i 3) 89 (cond (Nat.beq i 4) 4 35),g:=λ_=>0}
theorem KU.yV:JY Tryz.prog (.pair (.int .i64) (.pair (.int .i64) (.pair (.int .i64) (.pair (.int .i64) (.pair (.int .i64) (.pair (.int .i64) .unit)))))) KU.QR 186 Tryz.f186:=⟨Tryz.func186.trans κ,Tryz.underlying4,Tryz.underlying35,gO (x:= .inl 89) κ,δ,κ⟩
theorem QS:iA Tryz.prog 186 (Od N):=qg KU.yV κ κ N
def Ym:Kn Tryz.prog:=⟨186,Od N,QS N⟩
abbrev Oe:lO:=vP (.pair (.int .i64) (.pair (.int .i64) .unit)) N
def KV.QR:Go.Shelf.Ren:={f:=λi=>0,t:=λi=>cond (Nat.beq i 3) 196 (cond (Nat.beq i 4) 4 30),g:=λ_=>0}
theorem KV.yV:JY Tryz.prog (.pair (.int .i64) (.pair (.int .i64) .unit)) KV.QR 192 Tryz.f192:=⟨Tryz.func192.trans κ,Tryz.underlying4,Tryz.underlying30,gO (x:= .inl 196) κ,δ,κ⟩
theorem QT:iA Tryz.prog 192 (Oe N):=qg KV.yV κ κ N
def Yn:Kn Tryz.prog:=⟨192,Oe N,QT N⟩
abbrev Of:lO:=vP (.pair (.int .i64) (.pair (.int .i64) (.pair (.int .i64) (.pair (.int .i64) .unit)))) N
def KW.QR:Go.Shelf.Ren:={f:=λi=>0,t:=λi=>cond (Nat.beq i 3) 67 (cond (Nat.beq i 4) 4 31),g:=λ_=>0}
theorem KW.yV:JY Tryz.prog (.pair (.int .i64) (.pair (.int .i64) (.pair (.int .i64) (.pair (.int .i64) .unit)))) KW.QR 193 Tryz.f193:=⟨Tryz.func193.trans κ,Tryz.underlying4,Tryz.underlying31,gO (x:= .inl 67) κ,δ,κ⟩
theorem QU:iA Tryz.prog 193 (Of N):=qg KW.yV κ κ N
def Yo:Kn Tryz.prog:=⟨193,Of N,QU N⟩
abbrev Og:lO:=vP (.pair (.int .i64) (.pair (.int .i64) (.pair (.int .i64) .unit))) N
def KX.QR:Go.Shelf.Ren:={f:=λi=>0,t:=λi=>cond (Nat.beq i 3) 85 (cond (Nat.beq i 4) 4 32),g:=λ_=>0}
theorem KX.yV:JY Tryz.prog (.pair (.int .i64) (.pair (.int .i64) (.pair (.int .i64) .unit))) KX.QR 194 Tryz.f194:=⟨Tryz.func194.trans κ,Tryz.underlying4,Tryz.underlying32,gO (x:= .inl 85) κ,δ,κ⟩
theorem QV:iA Tryz.prog 194 (Og N):=qg KX.yV κ κ N
def Oh:Kn Tryz.prog:=⟨194,Og N,QV N⟩
abbrev Oi:lO:=vP (.pair (.int .i64) (.pair (.int .i64) (.pair (.int .i64) .unit))) N
def KY.QR:Go.Shelf.Ren:={f:=λi=>0,t:=λi=>cond (Nat.beq i 3) 87 (cond (Nat.beq i 4) 4 33),g:=λ_=>0}
theorem KY.yV:JY Tryz.prog (.pair (.int .i64) (.pair (.int .i64) (.pair (.int .i64) .unit))) KY.QR 195 Tryz.f195:=⟨Tryz.func195.trans κ,Tryz.underlying4,Tryz.underlying33,gO (x:= .inl 87) κ,δ,κ⟩
theorem QW:iA Tryz.prog 195 (Oi N):=qg KY.yV κ κ N
def Oj:Kn Tryz.prog:=⟨195,Oi N,QW N⟩
abbrev Ol:lO:=vP (.int .i64) N
def KZ.QR:Go.Shelf.Ren:={f:=λi=>0,t:=λi=>cond (Nat.beq i 3) 2 (cond (Nat.beq i 4) 4 34),g:=λ_=>0}
theorem KZ.yV:JY Tryz.prog (.int .i64) KZ.QR 196 Tryz.f196:=⟨Tryz.func196.trans κ,Tryz.underlying4,Tryz.underlying34,gO (x:= .inl 2) κ,δ,κ⟩
theorem QX:iA Tryz.prog 196 (Ol N):=qg KZ.yV κ κ N
def Yp:Kn Tryz.prog:=⟨196,Ol N,QX N⟩
abbrev Om:lO:=lJ (.pair (.int .i64) (.pair (.int .i64) (.pair (.int .i64) .unit))) N
def K0.QR:Go.Shelf.Ren:={f:=λi=>cond (Nat.beq i 29) 260 (cond (Nat.beq i 30) 261 0),t:=λi=>cond (Nat.beq i 24) 33 (cond (Nat.beq i 9) 87 (cond (Nat.beq i 3) 3 (cond (Nat.beq i 4) 4 0))),g:=λ_=>0}
theorem K0.yV:Tb Tryz.prog (.pair (.int .i64) (.pair (.int .i64) (.pair (.int .i64) .unit))) K0.QR 221 Tryz.f221 Tryz.f260:=⟨Tryz.func221.trans κ,Tryz.underlying3,Tryz.underlying4,Tryz.underlying33,gO (x:= .inl 87) κ,δ,κ⟩
theorem QY:iA Tryz.prog 221 (Om N):=E4 K0.yV ⟨Tryz.func260,κ,κ,κ,κ⟩ κ κ N
def Yq:Kn Tryz.prog:=⟨221,Om N,QY N⟩
abbrev On:lO:=lJ (.pair (.int .i64) (.pair (.int .i64) (.pair (.int .i64) .unit))) N
def K1.QR:Go.Shelf.Ren:={f:=λi=>cond (Nat.beq i 29) 262 (cond (Nat.beq i 30) 263 0),t:=λi=>cond (Nat.beq i 24) 32 (cond (Nat.beq i 9) 85 (cond (Nat.beq i 3) 3 (cond (Nat.beq i 4) 4 0))),g:=λ_=>0}
theorem K1.yV:Tb Tryz.prog (.pair (.int .i64) (.pair (.int .i64) (.pair (.int .i64) .unit))) K1.QR 223 Tryz.f223 Tryz.f262:=⟨Tryz.func223.trans κ,Tryz.underlying3,Tryz.underlying4,Tryz.underlying32,gO (x:= .inl 85) κ,δ,κ⟩
theorem QZ:iA Tryz.prog 223 (On N):=E4 K1.yV ⟨Tryz.func262,κ,κ,κ,κ⟩ κ κ N
def Yr:Kn Tryz.prog:=⟨223,On N,QZ N⟩
def X56:Fx:=⟨26,tab,[],N,Tryz.f56,[],[.v aA,.v aK],[],none⟩
theorem awW:sb Tryz.prog (X56 N).E:=Fx.MC (X56 N) aF trivial κ
theorem awX: ∀x,LO (X56 N).E (X56 N).fn (X56 N).args (X56 N).res x=Hg (X56 N).args (F56 N) x:=Fx.Zw κ
def k56:Kn Tryz.prog:=⟨56,(X56 N).S false (F56 N),Fx.u0 (X56 N) aF Tryz.func56⟩
def ang:Fx:=⟨15,tab,[],N,Tryz.f161,[.v I,.v I,.v I],[.v B],[],none⟩
def asn:Kn Tryz.prog:=⟨161,(ang N).S true (Da N),Fx.u0 (ang N) aF Tryz.func161⟩
def X71:Fx:=⟨68,tab,Kn.l [asn N],N,Tryz.f71,[.v aA],[.v B],[⟨9,[(1,.obj aA),(11,.v eU),(12,.v I),(13,.v I)],[1,1,0,1,0,0],[]⟩],none⟩
theorem anh(K ρ):(X71 N).bd K ρ 9=Co.dv N ((X71 N).kc ρ 9):=κ
theorem ani(ρ):(X71 N).kc ((X71 N).ca ρ) 9=Co.l4 N N:=Fx.uL [] (anh N) ρ (Co.l4 N) λn ρ' e d=>by rw[e];rfl
theorem h71(K):(X71 N).top K=Co.b N ((X71 N).kc K 9):=κ
def k71:Kn Tryz.prog:=⟨71,(X71 N).S true (Co N),Fx.u1 (X71 N) aF Tryz.func71 [9] (h71 N) (by rw[ani];rfl)⟩
def Oo:Fx:=⟨46,tab,[],N,Tryz.f155,[.v dk],[.v B],[⟨5,[(0,.v dk),(5,.v dk),(6,.v I),(7,.v I)],[1,0,1,0,0],[]⟩],none⟩
theorem aia(K ρ):(Oo N).bd K ρ 5=oP.gD N ((Oo N).kc ρ 5):=κ
theorem aib(ρ):(Oo N).kc ((Oo N).ca ρ) 5=oP.l2 N N:=Fx.uL [] (aia N) ρ (oP.l2 N) λn ρ' e d=>by rw[e];rfl
theorem aso(K):(Oo N).top K=oP.b N ((Oo N).kc K 5):=κ
def anj:Kn Tryz.prog:=⟨155,(Oo N).S true (oP N),Fx.u1 (Oo N) aF Tryz.func155 [5] (aso N) (by rw[aib];rfl)⟩
def Oq:Fx:=⟨77,tab,[],N,Tryz.f162,[.v eU],[.v B],[⟨7,[(0,.v eU),(3,.obj (.arr 13 B)),(6,.v eU),(7,.v I),(8,.v I)],[1,1,0,1,0,0],[]⟩],none⟩
theorem aic(K ρ):(Oq N).bd K ρ 7=mD.nC N ((Oq N).kc ρ 7):=κ
theorem aid(ρ):(Oq N).kc ((Oq N).ca ρ) 7=mD.l3 N N:=Fx.uL [] (aic N) ρ (mD.l3 N) λn ρ' e d=>by rw[e];rfl
theorem asq(K):(Oq N).top K=mD.b N ((Oq N).kc K 7):=κ
def ank:Kn Tryz.prog:=⟨162,(Oq N).S true (mD N),Fx.u1 (Oq N) aF Tryz.func162 [7] (asq N) (by rw[aid];rfl)⟩
def X63:Fx:=⟨23,tab,Kn.l [anj N],N,Tryz.f63,[.v dk,.v I],[.v I],[⟨9,[(1,.v I),(10,.v dk),(11,.v I),(12,.v I)],[1,1,0,1,0,0],[]⟩],none⟩
theorem anl(K ρ):(X63 N).bd K ρ 9=Ab.dv N ((X63 N).kc ρ 9):=κ
theorem anm(ρ):(X63 N).kc ((X63 N).ca ρ) 9=Ab.l4 N N:=Fx.uL [] (anl N) ρ (Ab.l4 N) λn ρ' e d=>by rw[e];rfl
theorem h63(K):(X63 N).top K=Ab.b N ((X63 N).kc K 9):=κ
def k63:Kn Tryz.prog:=⟨63,(X63 N).S true (Ab N),Fx.u1 (X63 N) aF Tryz.func63 [9] (h63 N) (by rw[anm];rfl)⟩
def X72:Fx:=⟨27,tab,Kn.l [anj N,ank N,k63 N],N,Tryz.f72,[.v dk,.v eU],[.v B],[⟨9,[(0,.v dk),(15,.v eU),(16,.v I),(17,.v I)],[1,1,0,1,0,0],[]⟩],none⟩
theorem ann(K ρ):(X72 N).bd K ρ 9=Dd.dv N ((X72 N).kc ρ 9):=κ
theorem ano(ρ):(X72 N).kc ((X72 N).ca ρ) 9=Dd.l4 N N:=Fx.uL [] (ann N) ρ (Dd.l4 N) λn ρ' e d=>by rw[e];rfl
theorem h72(K):(X72 N).top K=Dd.b N ((X72 N).kc K 9):=κ
def k72:Kn Tryz.prog:=⟨72,(X72 N).S true (Dd N),Fx.u1 (X72 N) aF Tryz.func72 [9] (h72 N) (by rw[ano];rfl)⟩
def anp:Fx:=⟨30,tab,[],N,Tryz.f163,[.v I,.v I],[.v B],[],none⟩
def anq:Kn Tryz.prog:=⟨163,(anp N).S true (PY N),Fx.u0 (anp N) aF Tryz.func163⟩
def anr:Fx:=⟨19,tab,[],N,Tryz.f164,[.v I,.v I,.v jk],[.v I],[],none⟩
def ans:Kn Tryz.prog:=⟨164,(anr N).S true (P0 N),Fx.u0 (anr N) aF Tryz.func164⟩
def X73:Fx:=⟨41,tab,Kn.l [anq N,ans N],N,Tryz.f73,[.v cM],[.v B],[⟨5,[(0,.v cM),(5,.v cM),(6,.v I),(7,.v I)],[1,0,1,0,0],[]⟩],none⟩
theorem ant(K ρ):(X73 N).bd K ρ 5=AT.gD N ((X73 N).kc ρ 5):=κ
theorem anu(ρ):(X73 N).kc ((X73 N).ca ρ) 5=AT.l2 N N:=Fx.uL [] (ant N) ρ (AT.l2 N) λn ρ' e d=>by rw[e];rfl
theorem h73(K):(X73 N).top K=AT.b N ((X73 N).kc K 5):=κ
def k73:Kn Tryz.prog:=⟨73,(X73 N).S true (AT N),Fx.u1 (X73 N) aF Tryz.func73 [5] (h73 N) (by rw[anu];rfl)⟩
def X65:Fx:=⟨8,tab,[],N,Tryz.f65,[.v I],[.v fO],[],none⟩
def k65:Kn Tryz.prog:=⟨65,(X65 N).S true (UP N),Fx.u0 (X65 N) aF Tryz.func65⟩
def Ot:Fx:=⟨51,tab,Kn.l [ah9 N],N,Tryz.f165,[.v QQ],[.v fO,.v B],[⟨7,[(2,.obj fO),(4,.v I),(5,.v U),(6,.v U),(10,.v QQ),(11,.v I),(12,.v I)],[1,1,0,1,0,0],[]⟩],none⟩
theorem aif(K ρ):(Ot N).bd K ρ 7=mB.nC N ((Ot N).kc ρ 7):=κ
theorem aih(ρ):(Ot N).kc ((Ot N).ca ρ) 7=mB.l3 N N:=Fx.uL [] (aif N) ρ (mB.l3 N) λn ρ' e d=>by rw[e];rfl
theorem ass(K):(Ot N).top K=mB.b N ((Ot N).kc K 7):=κ
def UD:Kn Tryz.prog:=⟨165,(Ot N).S true (mB N),Fx.u1 (Ot N) aF Tryz.func165 [7] (ass N) (by rw[aih];rfl)⟩
def X75:Fx:=⟨31,tab,Kn.l [k73 N,k65 N,UD N],N,Tryz.f75,[.v cM],[.v fO],[⟨11,[(2,.obj fO),(3,.own fO),(12,.v cM),(13,.v I),(14,.v I)],[1,1,1,0,1,0,0],[]⟩],none⟩
theorem aii(K ρ):(X75 N).bd K ρ 11=Cp.dV N ((X75 N).kc ρ 11):=κ
theorem aij(ρ):(X75 N).kc ((X75 N).ca ρ) 11=Cp.l5 N N:=Fx.uL [] (aii N) ρ (Cp.l5 N) λn ρ' e d=>by rw[e];rfl
theorem h75(K):(X75 N).top K=Cp.b N ((X75 N).kc K 11):=κ
def k75:Kn Tryz.prog:=⟨75,(X75 N).S true (Cp N),Fx.u1 (X75 N) aF Tryz.func75 [11] (h75 N) (by rw[aij];rfl)⟩
def anv:Fx:=⟨27,tab,[],N,Tryz.f132,[.v fO,.v fO],[.v I],[],none⟩
def anw:Kn Tryz.prog:=⟨132,(anv N).S true (V9 N),Fx.u0 (anv N) aF Tryz.func132⟩
def X74:Fx:=⟨6,tab,Kn.l [anw N],N,Tryz.f74,[.v fO],[.v I],[],none⟩
def k74:Kn Tryz.prog:=⟨74,(X74 N).S true (F74 N),Fx.u0 (X74 N) aF Tryz.func74⟩
def anx:Fx:=⟨19,tab,[],N,Tryz.f158,[.v I,.v I],[.v B],[],none⟩
def aik:Kn Tryz.prog:=⟨158,(anx N).S true (P2 N),Fx.u0 (anx N) aF Tryz.func158⟩
def anz:Fx:=⟨5,tab,[],N,Tryz.f218,[.v I],[.v B],[],none⟩
def ail:Kn Tryz.prog:=⟨218,(anz N).S true (P3 N),Fx.u0 (anz N) aF Tryz.func218⟩
def anA:Fx:=⟨19,tab,[],N,Tryz.f219,[.v I,.v I,.v jk],[.v I],[],none⟩
def anB:Kn Tryz.prog:=⟨219,(anA N).S true (To N),Fx.u0 (anA N) aF Tryz.func219⟩
def Ou:Fx:=⟨47,tab,Kn.l [aik N,ail N,anB N],N,Tryz.f157,[.v cM],[.v B],[⟨5,[(0,.v cM),(5,.v cM),(6,.v I),(7,.v I)],[1,0,1,0,0],[]⟩],none⟩
theorem aim(K ρ):(Ou N).bd K ρ 5=m5.gD N ((Ou N).kc ρ 5):=κ
theorem ain(ρ):(Ou N).kc ((Ou N).ca ρ) 5=m5.l2 N N:=Fx.uL [] (aim N) ρ (m5.l2 N) λn ρ' e d=>by rw[e];rfl
theorem ast(K):(Ou N).top K=m5.b N ((Ou N).kc K 5):=κ
def Ys:Kn Tryz.prog:=⟨157,(Ou N).S true (m5 N),Fx.u1 (Ou N) aF Tryz.func157 [5] (ast N) (by rw[ain];rfl)⟩
def Ov:Fx:=⟨37,tab,Kn.l [Ys N,k65 N,UD N],N,Tryz.f166,[.v cM,.v I],[.v fO],[⟨11,[(1,.v I),(4,.obj fO),(5,.own fO),(14,.v cM),(15,.v I),(16,.v I)],[1,1,1,0,1,0,0],[]⟩],none⟩
theorem aa4(K ρ):(Ov N).bd K ρ 11=oR.dV N ((Ov N).kc ρ 11):=κ
theorem aa5(ρ):(Ov N).kc ((Ov N).ca ρ) 11=oR.l5 N N:=Fx.uL [] (aa4 N) ρ (oR.l5 N) λn ρ' e d=>by rw[e];rfl
theorem asu(K):(Ov N).top K=oR.b N ((Ov N).kc K 11):=κ
def asv:Kn Tryz.prog:=⟨166,(Ov N).S true (oR N),Fx.u1 (Ov N) aF Tryz.func166 [11] (asu N) (by rw[aa5];rfl)⟩
def X76:Fx:=⟨15,tab,Kn.l [asv N,k74 N,Ys N],N,Tryz.f76,[.v cM],[.v B],[⟨5,[(0,.v cM),(4,.v I)],[1,0,1,0,0],[]⟩],none⟩
theorem anC(K ρ):(X76 N).bd K ρ 5=De.gD N ((X76 N).kc ρ 5):=κ
theorem anD(ρ):(X76 N).kc ((X76 N).ca ρ) 5=De.l2 N N:=Fx.uL [] (anC N) ρ (De.l2 N) λn ρ' e d=>by rw[e];rfl
theorem h76(K):(X76 N).top K=De.b N ((X76 N).kc K 5):=κ
def k76:Kn Tryz.prog:=⟨76,(X76 N).S true (De N),Fx.u1 (X76 N) aF Tryz.func76 [5] (h76 N) (by rw[anD];rfl)⟩
def anE:Fx:=⟨61,tab,[],N,Tryz.f128,[.v mJ],[.v B],[],none⟩
def asw:Kn Tryz.prog:=⟨128,(anE N).S true (ZN N),Fx.u0 (anE N) aF Tryz.func128⟩
def X77:Fx:=⟨34,tab,Kn.l [asw N],N,Tryz.f77,[.v o8],[.v B],[⟨5,[(0,.v o8),(5,.v o8),(6,.v I),(7,.v I)],[1,0,1,0,0],[]⟩],none⟩
theorem anF(K ρ):(X77 N).bd K ρ 5=Dc.gD N ((X77 N).kc ρ 5):=κ
theorem anG(ρ):(X77 N).kc ((X77 N).ca ρ) 5=Dc.l2 N N:=Fx.uL [] (anF N) ρ (Dc.l2 N) λn ρ' e d=>by rw[e];rfl
theorem h77(K):(X77 N).top K=Dc.b N ((X77 N).kc K 5):=κ
def k77:Kn Tryz.prog:=⟨77,(X77 N).S true (Dc N),Fx.u1 (X77 N) aF Tryz.func77 [5] (h77 N) (by rw[anG];rfl)⟩
def Ow:Fx:=⟨25,tab,Kn.l [ank N],N,Tryz.f124,[.v eU,.v I],[.v ej,.v B],[⟨9,[(1,.v I),(4,.obj ej),(12,.v eU),(13,.v I),(14,.v I)],[1,1,0,1,0,0],[]⟩],none⟩
theorem aio(K ρ):(Ow N).bd K ρ 9=oQ.dv N ((Ow N).kc ρ 9):=κ
theorem aip(ρ):(Ow N).kc ((Ow N).ca ρ) 9=oQ.l4 N N:=Fx.uL [] (aio N) ρ (oQ.l4 N) λn ρ' e d=>by rw[e];rfl
theorem asx(K):(Ow N).top K=oQ.b N ((Ow N).kc K 9):=κ
def asy:Kn Tryz.prog:=⟨124,(Ow N).S true (oQ N),Fx.u1 (Ow N) aF Tryz.func124 [9] (asx N) (by rw[aip];rfl)⟩
def X78:Fx:=⟨15,tab,Kn.l [asy N],N,Tryz.f78,[.v aK,.v I],[.v B],[],none⟩
def k78:Kn Tryz.prog:=⟨78,(X78 N).S true (F78 N),Fx.u0 (X78 N) aF Tryz.func78⟩
def X81:Fx:=⟨9,tab,[],N,Tryz.f81,[.v I],[.v B],[],none⟩
def k81:Kn Tryz.prog:=⟨81,(X81 N).S true (F81 N),Fx.u0 (X81 N) aF Tryz.func81⟩
def X80:Fx:=⟨6,tab,Kn.l [k81 N],N,Tryz.f80,[.v I],[.v B],[],none⟩
def k80:Kn Tryz.prog:=⟨80,(X80 N).S true (F80 N),Fx.u0 (X80 N) aF Tryz.func80⟩
def Ox:Fx:=⟨19,tab,Kn.l [k80 N],N,Tryz.f167,[.v LI,.fn 80 .unit],[.v I],[⟨5,[(0,.v LI),(1,.fn 80 .unit),(7,.v I),(8,.v I)],[1,0,1,0,0],[]⟩],none⟩
theorem aiq(K ρ):(Ox N).bd K ρ 5=rI.gD N ((Ox N).kc ρ 5):=κ
theorem air(ρ):(Ox N).kc ((Ox N).ca ρ) 5=rI.l2 N N:=Fx.uL [] (aiq N) ρ (rI.l2 N) λn ρ' e d=>by rw[e];rfl
theorem asz(K):(Ox N).top K=rI.b N ((Ox N).kc K 5):=κ
def asA:Kn Tryz.prog:=⟨167,(Ox N).S true (rI N),Fx.u1 (Ox N) aF Tryz.func167 [5] (asz N) (by rw[air];rfl)⟩
def X79:Fx:=⟨9,tab,Kn.l [asA N],N,Tryz.f79,[.v LI,.fn 80 .unit],[.v B],[],none⟩
def k79:Kn Tryz.prog:=⟨79,(X79 N).S true (F79 N),Fx.u0 (X79 N) aF Tryz.func79⟩
def Le:Fx:=⟨133,tab,Kn.l [k71 N,k72 N,k73 N,k75 N,k74 N,k76 N,k77 N,k78 N,k63 N,k79 N],N,Tryz.f23,[.v aA,.v aK],[.v B],[⟨45,[(2,.obj aA),(3,.obj aK),(109,.v o8),(110,.v I),(111,.v I)],[1,1,1,1,0,1,0,0],[]⟩,⟨33,[(2,.obj aA),(3,.obj aK),(83,.v cM),(84,.v I),(85,.v I)],[1,1,1,0,1,0,0],[]⟩,⟨9,[(2,.obj aA),(3,.obj aK),(57,.v cM),(58,.v I),(59,.v I)],[1,1,0,1,0,0],[]⟩],none⟩
theorem ais(K ρ):(Le N).bd K ρ 45=lh.vl N ((Le N).kc ρ 45):=κ
theorem ait(ρ):(Le N).kc ((Le N).ca ρ) 45=lh.wF N N:=Fx.uL [] (ais N) ρ (lh.wF N) λn ρ' e d=>by rw[e];rfl
theorem aiu(K ρ):(Le N).bd K ρ 33=lh.vk N ((Le N).kc K 45) ((Le N).kc ρ 33):=κ
theorem aiv(ρ):(Le N).kc ((Le N).ca ρ) 33=lh.wE N N:=Fx.uL [45] (aiu N) ρ (lh.wE N) λn ρ' e d=>by rw[ait,e];rfl
theorem anH(K ρ):(Le N).bd K ρ 9=lh.dv N ((Le N).kc K 33) ((Le N).kc ρ 9):=κ
theorem anI(ρ):(Le N).kc ((Le N).ca ρ) 9=lh.l4 N N:=Fx.uL [33,45] (anH N) ρ (lh.l4 N) λn ρ' e d=>by rw[aiv,e];rfl
theorem h23(K):(Le N).top K=lh.b N ((Le N).kc K 9):=κ
def k23:Kn Tryz.prog:=⟨23,(Le N).S true (lh N),Fx.u1 (Le N) aF Tryz.func23 [9,33,45] (h23 N) (by rw[anI];rfl)⟩
def X64:Fx:=⟨31,tab,Kn.l [k73 N],N,Tryz.f64,[.v cM,.v I,.v I],[.v I],[⟨9,[(1,.v I),(2,.v I),(12,.v cM),(13,.v I),(14,.v I)],[1,1,0,1,0,0],[]⟩],none⟩
theorem anJ(K ρ):(X64 N).bd K ρ 9=Bq.dv N ((X64 N).kc ρ 9):=κ
theorem anK(ρ):(X64 N).kc ((X64 N).ca ρ) 9=Bq.l4 N N:=Fx.uL [] (anJ N) ρ (Bq.l4 N) λn ρ' e d=>by rw[e];rfl
theorem nF(K):(X64 N).top K=Bq.b N ((X64 N).kc K 9):=κ
def k64:Kn Tryz.prog:=⟨64,(X64 N).S true (Bq N),Fx.u1 (X64 N) aF Tryz.func64 [9] (nF N) (by rw[anK];rfl)⟩
def X90:Fx:=⟨31,tab,Kn.l [Ys N],N,Tryz.f90,[.v cM,.v I],[.own js],[⟨11,[(1,.v I),(5,.own js),(11,.v cM),(12,.v I),(13,.v I)],[1,1,1,0,1,0,0],[]⟩],none⟩
theorem aiw(K ρ):(X90 N).bd K ρ 11=Bs.dV N ((X90 N).kc ρ 11):=κ
theorem aix(ρ):(X90 N).kc ((X90 N).ca ρ) 11=Bs.l5 N N:=Fx.uL [] (aiw N) ρ (Bs.l5 N) λn ρ' e d=>by rw[e];rfl
theorem h90(K):(X90 N).top K=Bs.b N ((X90 N).kc K 11):=κ
def k90:Kn Tryz.prog:=⟨90,(X90 N).S false (Bs N),Fx.u1 (X90 N) aF Tryz.func90 [11] (h90 N) (by rw[aix];rfl)⟩
def Oy:Fx:=⟨54,tab,Kn.l [ail N,k71 N],N,Tryz.f198,[.v aA,.v dk],[.v B],[⟨5,[(1,.v dk),(2,.obj aA),(7,.v dk),(8,.v I),(9,.v I)],[1,0,1,0,0],[]⟩],none⟩
theorem aiy(K ρ):(Oy N).bd K ρ 5=pv.gD N ((Oy N).kc ρ 5):=κ
theorem aiz(ρ):(Oy N).kc ((Oy N).ca ρ) 5=pv.l2 N N:=Fx.uL [] (aiy N) ρ (pv.l2 N) λn ρ' e d=>by rw[e];rfl
theorem asB(K):(Oy N).top K=pv.b N ((Oy N).kc K 5):=κ
def asC:Kn Tryz.prog:=⟨198,(Oy N).S true (pv N),Fx.u1 (Oy N) aF Tryz.func198 [5] (asB N) (by rw[aiz];rfl)⟩
def anL:Fx:=⟨10,tab,[],N,Tryz.f225,[.v I],[.v U],[],none⟩
def anM:Kn Tryz.prog:=⟨225,(anL N).S true (Ti N),Fx.u0 (anL N) aF Tryz.func225⟩
def anN:Fx:=⟨5,tab,[],N,Tryz.f171,[.v ej],[.v I],[],none⟩
def asD:Kn Tryz.prog:=⟨171,(anN N).S true (ahE N),Fx.u0 (anN N) aF Tryz.func171⟩
def anO:Fx:=⟨51,tab,[],N,Tryz.f228,[.v U,.v U],[.v U,.v U],[],none⟩
def asE:Kn Tryz.prog:=⟨228,(anO N).S true (ZA N),Fx.u0 (anO N) aF Tryz.func228⟩
def Q0:Fx:=⟨47,tab,Kn.l [Yl N],N,Tryz.f229,[.v B,.v U,.v U],[.v fO,.v B],[⟨14,[(1,.v U),(2,.v U),(6,.obj fO)],[1,1,1],[]⟩],none⟩
theorem aa6(K ρ):(Q0 N).bd K ρ 14=rH.UO N:=κ
theorem aa7(ρ):(Q0 N).kc ((Q0 N).ca ρ) 14=rH.j7 N:=Fx.uJ [] (aa6 N) ρ
theorem asF(K):(Q0 N).top K=rH.b N ((Q0 N).kc K 14):=κ
def asG:Kn Tryz.prog:=⟨229,(Q0 N).S true (rH N),Fx.u1 (Q0 N) aF Tryz.func229 [14] (asF N) (by rw[aa7];rfl)⟩
def anP:Fx:=⟨29,tab,Kn.l [anM N,asE N,asG N],N,Tryz.f176,[.v I,.v I],[.v fO],[],none⟩
def asH:Kn Tryz.prog:=⟨176,(anP N).S true (ZJ N),Fx.u0 (anP N) aF Tryz.func176⟩
def Oz:Fx:=⟨47,tab,Kn.l [asC N,anM N,asD N,asH N,UD N],N,Tryz.f170,[.v aA,.v dk,.fn 171 .unit],[.v fO,.v I],[⟨11,[(2,.fn 171 .unit),(3,.obj aA),(6,.obj fO),(8,.own fO),(18,.v dk),(19,.v I),(20,.v I)],[1,1,1,0,1,0,0],[]⟩],none⟩
theorem aa8(K ρ):(Oz N).bd K ρ 11=px.dV N ((Oz N).kc ρ 11):=κ
theorem aa9(ρ):(Oz N).kc ((Oz N).ca ρ) 11=px.l5 N N:=Fx.uL [] (aa8 N) ρ (px.l5 N) λn ρ' e d=>by rw[e];rfl
theorem asI(K):(Oz N).top K=px.b N ((Oz N).kc K 11):=κ
def asJ:Kn Tryz.prog:=⟨170,(Oz N).S true (px N),Fx.u1 (Oz N) aF Tryz.func170 [11] (asI N) (by rw[aa9];rfl)⟩
def X89:Fx:=⟨11,tab,Kn.l [asJ N],N,Tryz.f89,[.v aA,.v dk],[.v fO,.v I],[],none⟩
def k89:Kn Tryz.prog:=⟨89,(X89 N).S true (F89 N),Fx.u0 (X89 N) aF Tryz.func89⟩
def X91:Fx:=⟨10,tab,Kn.l [k65 N,anw N],N,Tryz.f91,[.v I,.v fO],[.v B],[],none⟩
def k91:Kn Tryz.prog:=⟨91,(X91 N).S true (F91 N),Fx.u0 (X91 N) aF Tryz.func91⟩
def X92:Fx:=⟨14,tab,[],N,Tryz.f92,[.v fO],[.v I,.v B],[],none⟩
def k92:Kn Tryz.prog:=⟨92,(X92 N).S true (F92 N),Fx.u0 (X92 N) aF Tryz.func92⟩
def X31:Fx:=⟨44,tab,Kn.l [k23 N,k78 N,k64 N,k90 N,k89 N,k91 N,k92 N],N,Tryz.f31,[.v aA,.v aK,.v I],[.v I,.v I],[],none⟩
def k31:Kn Tryz.prog:=⟨31,(X31 N).S true (F31 N),Fx.u0 (X31 N) aF Tryz.func31⟩
def anQ:Fx:=⟨52,tab,Kn.l [Yl N],N,Tryz.f156,[.v fO,.v fO],[.v fO,.v B],[],none⟩
def asM:Kn Tryz.prog:=⟨156,(anQ N).S true (ahC N),Fx.u0 (anQ N) aF Tryz.func156⟩
def X66:Fx:=⟨9,tab,Kn.l [asM N],N,Tryz.f66,[.v fO],[.v fO,.v B],[],none⟩
def k66:Kn Tryz.prog:=⟨66,(X66 N).S true (F66 N),Fx.u0 (X66 N) aF Tryz.func66⟩
def X67:Fx:=⟨54,tab,Kn.l [Ys N,aik N,k90 N],N,Tryz.f67,[.v cM,.v I,.v I],[.own jk],[⟨11,[(1,.v I),(2,.v I),(7,.own jk),(30,.own js),(31,.v I),(32,.v I)],[1,1,1,0,1,0,0],[]⟩],none⟩
theorem aiA(K ρ):(X67 N).bd K ρ 11=Cw.dV N ((X67 N).kc ρ 11):=κ
theorem aiB(ρ):(X67 N).kc ((X67 N).ca ρ) 11=Cw.l5 N N:=Fx.uL [] (aiA N) ρ (Cw.l5 N) λn ρ' e d=>by rw[e];rfl
theorem h67(K):(X67 N).top K=Cw.b N ((X67 N).kc K 11):=κ
def k67:Kn Tryz.prog:=⟨67,(X67 N).S false (Cw N),Fx.u1 (X67 N) aF Tryz.func67 [11] (h67 N) (by rw[aiB];rfl)⟩
def anR:Fx:=⟨22,tab,Kn.l [Yn N,Yo N,Oh N,Oj N,Yp N,Ym N],N,Tryz.f126,[.v aK],[.v aK],[],none⟩
def asN:Kn Tryz.prog:=⟨126,(anR N).S false (Z2 N),Fx.u0 (anR N) aF Tryz.func126⟩
def xW:Fx:=⟨42,tab,Kn.l [k65 N,UD N,k74 N],N,Tryz.f220,[.v cM],[.v B],[⟨13,[(0,.v cM),(3,.v I),(4,.own fO),(9,.v I),(12,.v cM),(13,.v I),(14,.v I)],[1,0,1,0,0,1,1,0,0,1,1,0,1,0,0],[5]⟩,⟨5,[(0,.v cM),(9,.v I)],[1,0,1,0,0],[]⟩],none⟩
theorem aba(K ρ):(xW N).bd K ρ 13=gu.ud N ((xW N).kc ρ 5) ((xW N).kc ρ 13):=κ
theorem abb(ρ):(xW N).kc ((xW N).ca ρ) 13=gu.l6 N ((xW N).kc ρ 5) N:=Fx.uL [] (aba N) ρ (gu.l6 N ((xW N).kc ρ 5)) λn ρ' e d=>by rw[e,d 5 rfl];rfl
theorem aiC(K ρ):(xW N).bd K ρ 5=gu.gD N ((xW N).kc K 13) ((xW N).kc ρ 5):=κ
theorem aiD(ρ):(xW N).kc ((xW N).ca ρ) 5=gu.l2 N N:=Fx.uL [13] (aiC N) ρ (gu.l2 N) λn ρ' e d=>by rw[abb,e];rfl
theorem asO(K):(xW N).top K=gu.b N ((xW N).kc K 5):=κ
def asP:Kn Tryz.prog:=⟨220,(xW N).S true (gu N),Fx.u1 (xW N) aF Tryz.func220 [5] (asO N) (by rw[aiD];rfl)⟩
def anS:Fx:=⟨9,tab,[],N,Tryz.f222,[.v cM],[.v cM],[],none⟩
def asQ:Kn Tryz.prog:=⟨222,(anS N).S false (ZT N),Fx.u0 (anS N) aF Tryz.func222⟩
def iN:Fx:=⟨173,tab,Kn.l [Ys N,aik N,ail N,asP N,Oj N,anB N,Yq N,k65 N,UD N,k92 N,asQ N],N,Tryz.f159,[.v cM,.v cM],[.v cM,.v I],[⟨36,[(1,.v cM),(8,.own jk),(10,.obj jk),(11,.v I),(54,.v cM),(55,.v I),(56,.v I)],[1,1,1,1,1,0,1,0,0,1,1,0,0,1,1,1],[27]⟩,⟨33,[(1,.v cM),(8,.own jk),(10,.obj jk),(11,.v I),(54,.v cM),(55,.v I),(56,.v I)],[1,1,1,1,1,0,1,0,0,1,1,0,0,1,1,0,0,0],[27]⟩,⟨55,[(1,.v cM),(12,.own jk),(14,.obj jk),(15,.own fO),(107,.own jk),(108,.v I),(109,.v I),(117,.v cM),(118,.v I),(119,.v I)],[1,1,1,1,1,1,1,0,1,0,0,1,1,0,0,1,1,0,1,0,0],[47]⟩,⟨47,[(1,.v cM),(12,.own jk),(107,.own jk),(108,.v I),(109,.v I)],[1,1,1,1,1,1,1,0,1,0,0],[]⟩,⟨27,[(1,.v cM),(8,.own jk),(54,.v cM),(55,.v I),(56,.v I)],[1,1,1,1,1,0,1,0,0],[]⟩,⟨9,[(0,.v cM),(1,.v cM),(30,.v cM),(31,.v I),(32,.v I)],[1,1,0,1,0,0],[]⟩],none⟩
theorem abc(K ρ):(iN N).bd K ρ 36=cn.ahw N ((iN N).kc ρ 27):=κ
theorem abd(ρ):(iN N).kc ((iN N).ca ρ) 36=cn.j18 N ((iN N).kc ρ 27):=Fx.uJ [47] (abc N) ρ
theorem abe(K ρ):(iN N).bd K ρ 33=cn.vk N ((iN N).kc K 36) ((iN N).kc ρ 27) ((iN N).kc ρ 33):=κ
theorem abf(ρ):(iN N).kc ((iN N).ca ρ) 33=cn.wE N ((iN N).kc ρ 27) N:=Fx.uL [47,36] (abe N) ρ (cn.wE N ((iN N).kc ρ 27)) λn ρ' e d=>by rw[abd,e,d 27 rfl];rfl
theorem abg(K ρ):(iN N).bd K ρ 55=cn.ZU N ((iN N).kc ρ 47) ((iN N).kc ρ 55):=κ
theorem abh(ρ):(iN N).kc ((iN N).ca ρ) 55=cn.l27 N ((iN N).kc ρ 47) N:=Fx.uL [] (abg N) ρ (cn.l27 N ((iN N).kc ρ 47)) λn ρ' e d=>by rw[e,d 47 rfl];rfl
theorem abi(K ρ):(iN N).bd K ρ 47=cn.ZW N ((iN N).kc K 55) ((iN N).kc ρ 47):=κ
theorem abj(ρ):(iN N).kc ((iN N).ca ρ) 47=cn.ZV N N:=Fx.uL [55] (abi N) ρ (cn.ZV N) λn ρ' e d=>by rw[abh,e];rfl
theorem abk(K ρ):(iN N).bd K ρ 27=cn.mE N ((iN N).kc K 33) ((iN N).kc K 47) ((iN N).kc ρ 27):=κ
theorem abl(ρ):(iN N).kc ((iN N).ca ρ) 27=cn.nG N N:=Fx.uL [47,33,36] (abk N) ρ (cn.nG N) λn ρ' e d=>by rw[abf,abj,e];rfl
theorem aiE(K ρ):(iN N).bd K ρ 9=cn.dv N ((iN N).kc K 27) ((iN N).kc ρ 9):=κ
theorem aiF(ρ):(iN N).kc ((iN N).ca ρ) 9=cn.l4 N N:=Fx.uL [27,47] (aiE N) ρ (cn.l4 N) λn ρ' e d=>by rw[abl,e];rfl
theorem asR(K):(iN N).top K=cn.b N ((iN N).kc K 9):=κ
def asS:Kn Tryz.prog:=⟨159,(iN N).S false (cn N),Fx.u1 (iN N) aF Tryz.func159 [9,27,47] (asR N) (by rw[aiF];rfl)⟩
def anT:Fx:=⟨9,tab,[],N,Tryz.f224,[.v cM],[.v cM],[],none⟩
def asT:Kn Tryz.prog:=⟨224,(anT N).S false (ahy N),Fx.u0 (anT N) aF Tryz.func224⟩
def iO:Fx:=⟨185,tab,Kn.l [k73 N,anq N,UD N,k74 N,Oh N,ans N,Yr N,k65 N,k92 N,asT N],N,Tryz.f160,[.v cM,.v jE],[.v cM,.v I],[⟨42,[(1,.v jE),(11,.own jk),(13,.obj wZ),(14,.v I),(68,.v jE),(69,.v I),(70,.v I)],[1,1,1,1,1,1,0,1,0,0,1,1,0,0,1,1,1],[33]⟩,⟨39,[(1,.v jE),(11,.own jk),(13,.obj wZ),(14,.v I),(68,.v jE),(69,.v I),(70,.v I)],[1,1,1,1,1,1,0,1,0,0,1,1,0,0,1,1,0,0,0],[33]⟩,⟨61,[(1,.v jE),(15,.own jk),(17,.obj jk),(18,.own fO),(121,.own jk),(122,.v I),(123,.v I),(131,.v jE),(132,.v I),(133,.v I)],[1,1,1,1,1,1,1,1,0,1,0,0,1,1,0,0,1,1,0,1,0,0],[53]⟩,⟨53,[(1,.v jE),(15,.own jk),(121,.own jk),(122,.v I),(123,.v I)],[1,1,1,1,1,1,1,1,0,1,0,0],[]⟩,⟨33,[(1,.v jE),(11,.own jk),(68,.v jE),(69,.v I),(70,.v I)],[1,1,1,1,1,1,0,1,0,0],[]⟩,⟨11,[(0,.v cM),(1,.v jE),(6,.own fO),(36,.v jE),(37,.v I),(38,.v I)],[1,1,1,0,1,0,0],[]⟩],none⟩
theorem abm(K ρ):(iO N).bd K ρ 42=cq.ahz N ((iO N).kc ρ 33):=κ
theorem abn(ρ):(iO N).kc ((iO N).ca ρ) 42=cq.j21 N ((iO N).kc ρ 33):=Fx.uJ [53] (abm N) ρ
theorem abo(K ρ):(iO N).bd K ρ 39=cq.Qb N ((iO N).kc K 42) ((iO N).kc ρ 33) ((iO N).kc ρ 39):=κ
theorem abp(ρ):(iO N).kc ((iO N).ca ρ) 39=cq.TD N ((iO N).kc ρ 33) N:=Fx.uL [53,42] (abo N) ρ (cq.TD N ((iO N).kc ρ 33)) λn ρ' e d=>by rw[abn,e,d 33 rfl];rfl
theorem abq(K ρ):(iO N).bd K ρ 61=cq.Ke N ((iO N).kc ρ 53) ((iO N).kc ρ 61):=κ
theorem abr(ρ):(iO N).kc ((iO N).ca ρ) 61=cq.MZ N ((iO N).kc ρ 53) N:=Fx.uL [] (abq N) ρ (cq.MZ N ((iO N).kc ρ 53)) λn ρ' e d=>by rw[e,d 53 rfl];rfl
theorem abt(K ρ):(iO N).bd K ρ 53=cq.Z0 N ((iO N).kc K 61) ((iO N).kc ρ 53):=κ
theorem abu(ρ):(iO N).kc ((iO N).ca ρ) 53=cq.ZZ N N:=Fx.uL [61] (abt N) ρ (cq.ZZ N) λn ρ' e d=>by rw[abr,e];rfl
theorem abv(K ρ):(iO N).bd K ρ 33=cq.vk N ((iO N).kc K 39) ((iO N).kc K 53) ((iO N).kc ρ 33):=κ
theorem abw(ρ):(iO N).kc ((iO N).ca ρ) 33=cq.wE N N:=Fx.uL [53,39,42] (abv N) ρ (cq.wE N) λn ρ' e d=>by rw[abp,abu,e];rfl
theorem abx(K ρ):(iO N).bd K ρ 11=cq.dV N ((iO N).kc K 33) ((iO N).kc ρ 11):=κ
theorem aby(ρ):(iO N).kc ((iO N).ca ρ) 11=cq.l5 N N:=Fx.uL [33,53] (abx N) ρ (cq.l5 N) λn ρ' e d=>by rw[abw,e];rfl
theorem asU(K):(iO N).top K=cq.b N ((iO N).kc K 11):=κ
def asV:Kn Tryz.prog:=⟨160,(iO N).S false (cq N),Fx.u1 (iO N) aF Tryz.func160 [11,33,53] (asU N) (by rw[aby];rfl)⟩
def X68:Fx:=⟨37,tab,Kn.l [asN N,asS N,asV N],N,Tryz.f68,[.v aK,.v cM,.v jE],[.v aK,.v I],[],none⟩
def k68:Kn Tryz.prog:=⟨68,(X68 N).S false (F68 N),Fx.u0 (X68 N) aF Tryz.func68⟩
def Sq:Fx:=⟨89,tab,Kn.l [k23 N,k63 N,k31 N,k64 N,k65 N,k66 N,k67 N,k68 N],N,Tryz.f21,[.v aA,.v aK,.v I],[.v aK,.v I],[⟨28,[(2,.v I),(3,.obj aA),(4,.obj aK),(6,.obj aK),(8,.own jk),(9,.own wZ),(11,.obj ej),(12,.v I),(30,.v eU),(31,.v I),(32,.v I)],[1,1,1,1,0,1,0,0,1,1,0,0,1,1,1,1],[17]⟩,⟨17,[(2,.v I),(3,.obj aA),(4,.obj aK),(6,.obj aK),(8,.own jk),(9,.own wZ),(30,.v eU),(31,.v I),(32,.v I)],[1,1,1,1,0,1,0,0],[]⟩],none⟩
theorem aiG(K ρ):(Sq N).bd K ρ 28=sM.Nq N ((Sq N).kc ρ 17):=κ
theorem aiH(ρ):(Sq N).kc ((Sq N).ca ρ) 28=sM.UR N ((Sq N).kc ρ 17):=Fx.uJ [] (aiG N) ρ
theorem aiI(K ρ):(Sq N).bd K ρ 17=sM.xR N ((Sq N).kc K 28) ((Sq N).kc ρ 17):=κ
theorem aiJ(ρ):(Sq N).kc ((Sq N).ca ρ) 17=sM.l8 N N:=Fx.uL [28] (aiI N) ρ (sM.l8 N) λn ρ' e d=>by rw[aiH,e];rfl
theorem h21(K):(Sq N).top K=sM.b N ((Sq N).kc K 17):=κ
def k21:Kn Tryz.prog:=⟨21,(Sq N).S false (sM N),Fx.u1 (Sq N) aF Tryz.func21 [17] (h21 N) (by rw[aiJ];rfl)⟩
def X84:Fx:=⟨78,tab,[],N,Tryz.f84,[.v cM],[.v B],[⟨5,[(0,.v cM),(3,.v I)],[1,0,1,0,0],[]⟩],none⟩
theorem anU(K ρ):(X84 N).bd K ρ 5=yY.gD N ((X84 N).kc ρ 5):=κ
theorem anV(ρ):(X84 N).kc ((X84 N).ca ρ) 5=yY.l2 N N:=Fx.uL [] (anU N) ρ (yY.l2 N) λn ρ' e d=>by rw[e];rfl
theorem h84(K):(X84 N).top K=yY.b N ((X84 N).kc K 5):=κ
def k84:Kn Tryz.prog:=⟨84,(X84 N).S true (yY N),Fx.u1 (X84 N) aF Tryz.func84 [5] (h84 N) (by rw[anV];rfl)⟩
def X27:Fx:=⟨38,tab,Kn.l [k84 N],N,Tryz.f27,[.v cM,.v I,.v I],[.v I],[⟨9,[(0,.v cM),(1,.v I),(2,.v I),(7,.v I)],[1,1,0,1,0,0],[]⟩],none⟩
theorem anW(K ρ):(X27 N).bd K ρ 9=Bo.dv N ((X27 N).kc ρ 9):=κ
theorem anX(ρ):(X27 N).kc ((X27 N).ca ρ) 9=Bo.l4 N N:=Fx.uL [] (anW N) ρ (Bo.l4 N) λn ρ' e d=>by rw[e];rfl
theorem h27(K):(X27 N).top K=Bo.b N ((X27 N).kc K 9):=κ
def k27:Kn Tryz.prog:=⟨27,(X27 N).S true (Bo N),Fx.u1 (X27 N) aF Tryz.func27 [9] (h27 N) (by rw[anX];rfl)⟩
def anY:Fx:=⟨30,tab,[],N,Tryz.f169,[.v I,.v I],[.v B],[],none⟩
def anZ:Kn Tryz.prog:=⟨169,(anY N).S true (PZ N),Fx.u0 (anY N) aF Tryz.func169⟩
def X88:Fx:=⟨74,tab,Kn.l [anZ N],N,Tryz.f88,[.v cM],[.v B],[⟨5,[(0,.v cM),(3,.v I)],[1,0,1,0,0],[]⟩],none⟩
theorem an0(K ρ):(X88 N).bd K ρ 5=Bh.gD N ((X88 N).kc ρ 5):=κ
theorem an1(ρ):(X88 N).kc ((X88 N).ca ρ) 5=Bh.l2 N N:=Fx.uL [] (an0 N) ρ (Bh.l2 N) λn ρ' e d=>by rw[e];rfl
theorem h88(K):(X88 N).top K=Bh.b N ((X88 N).kc K 5):=κ
def k88:Kn Tryz.prog:=⟨88,(X88 N).S true (Bh N),Fx.u1 (X88 N) aF Tryz.func88 [5] (h88 N) (by rw[an1];rfl)⟩
def X29:Fx:=⟨38,tab,Kn.l [k88 N],N,Tryz.f29,[.v cM,.v I,.v I],[.v I],[⟨9,[(0,.v cM),(1,.v I),(2,.v I),(7,.v I)],[1,1,0,1,0,0],[]⟩],none⟩
theorem an2(K ρ):(X29 N).bd K ρ 9=uy.dv N ((X29 N).kc ρ 9):=κ
theorem an3(ρ):(X29 N).kc ((X29 N).ca ρ) 9=uy.l4 N N:=Fx.uL [] (an2 N) ρ (uy.l4 N) λn ρ' e d=>by rw[e];rfl
theorem h29(K):(X29 N).top K=uy.b N ((X29 N).kc K 9):=κ
def Yt:Kn Tryz.prog:=⟨29,(X29 N).S true (uy N),Fx.u1 (X29 N) aF Tryz.func29 [9] (h29 N) (by rw[an3];rfl)⟩
def X15:Fx:=⟨69,tab,Kn.l [k56 N,k31 N,k21 N,k27 N,Yt N],N,Tryz.f15,[],[.v B],[],none⟩
theorem axg:sb Tryz.prog (X15 N).E:=Fx.MC (X15 N) aF (Kn.all _) κ
theorem axh: ∀x,LO (X15 N).E (X15 N).fn (X15 N).args (X15 N).res x=Hg (X15 N).args (F15 N) x:=Fx.Zw κ
def k15:Kn Tryz.prog:=⟨15,(X15 N).S true (F15 N),Fx.u0 (X15 N) aF Tryz.func15⟩
def X16:Fx:=⟨6,tab,[],N,Tryz.f16,[.v LU],[.ptr dA],[],none⟩
def k16:Kn Tryz.prog:=⟨16,(X16 N).S false (F16 N),Fx.u0 (X16 N) aF Tryz.func16⟩
def X62:Fx:=⟨32,tab,[],N,Tryz.f62,[.io dA],[.v U,.io dA],[],none⟩
def k62:Kn Tryz.prog:=⟨62,(X62 N).S false (F62 N),Fx.u0 (X62 N) aF Tryz.func62⟩
def X20:Fx:=⟨11,tab,Kn.l [k62 N],N,Tryz.f20,[.io dA,.v I],[.v I,.io dA],[],none⟩
def US:Kn Tryz.prog:=⟨20,(X20 N).S false (pB N),Fx.u0 (X20 N) aF Tryz.func20⟩
def X57:Fx:=⟨11,tab,Kn.l [US N],N,Tryz.f57,[.io dA,.v I],[.v B,.io dA],[],none⟩
def k57:Kn Tryz.prog:=⟨57,(X57 N).S false (Qr N),Fx.u0 (X57 N) aF Tryz.func57⟩
def X40:Fx:=⟨29,tab,Kn.l [k62 N],N,Tryz.f40,[.io dA],[.v I,.io dA],[],none⟩
def k40:Kn Tryz.prog:=⟨40,(X40 N).S false (K9 N),Fx.u0 (X40 N) aF Tryz.func40⟩
def Sr:Fx:=⟨71,tab,Kn.l [US N,k57 N,k40 N],N,Tryz.f17,[.io dA],[.v aA,.io dA],[⟨16,[(0,.io dA),(2,.obj aA),(3,.ga aA [.kq 0] ej),(4,.v I),(5,.obj ej)],[1,1,0,1,0,0,1,0,0,1,1],[7]⟩,⟨7,[(0,.io dA),(2,.obj aA),(3,.ga aA [.kq 0] ej),(4,.v I)],[1,1,0,1,0,0],[]⟩],some (aA,[.kq 0],ej,[3])⟩
theorem aiL(K ρ):(Sr N).bd K ρ 16=uN.Wu N ((Sr N).kc ρ 7):=κ
theorem aiM(ρ):(Sr N).kc ((Sr N).ca ρ) 16=uN.j8 N ((Sr N).kc ρ 7):=Fx.uJ [] (aiL N) ρ
theorem an4(K ρ):(Sr N).bd K ρ 7=uN.nC N ((Sr N).kc K 16) ((Sr N).kc ρ 7):=κ
theorem an5(ρ):(Sr N).kc ((Sr N).ca ρ) 7=uN.l3 N N:=Fx.uL [16] (an4 N) ρ (uN.l3 N) λn ρ' e d=>by rw[aiM,e];rfl
theorem h17(K):(Sr N).top K=uN.b N ((Sr N).kc K 7):=κ
def k17:Kn Tryz.prog:=⟨17,(Sr N).S false (uN N),Fx.u1 (Sr N) aF Tryz.func17 [7] (h17 N) (by rw[an5];rfl)⟩
def an6:Fx:=⟨30,tab,Kn.l [US N,k57 N,k40 N],N,Tryz.f209,[.io dA,.v aA,.v I],[.v kO,.io dA],[],none⟩
def aiN:Kn Tryz.prog:=⟨209,(an6 N).S false (TT N),Fx.u0 (an6 N) aF Tryz.func209⟩
def an7:Fx:=⟨48,tab,Kn.l [US N,k57 N,k40 N],N,Tryz.f210,[.io dA,.v aA],[.v kO,.io dA],[],none⟩
def an8:Kn Tryz.prog:=⟨210,(an7 N).S false (W2 N),Fx.u0 (an7 N) aF Tryz.func210⟩
def an9:Fx:=⟨133,tab,Kn.l [US N,k40 N,aiN N,an8 N],N,Tryz.f144,[.io dA,.v aA],[.v kO,.io dA],[],none⟩
def aiO:Kn Tryz.prog:=⟨144,(an9 N).S false (TU N),Fx.u0 (an9 N) aF Tryz.func144⟩
def vo:Fx:=⟨62,tab,Kn.l [k57 N,US N],N,Tryz.f211,[.io dA,.v aA],[.own kO,.io dA],[⟨27,[(0,.io dA),(5,.own kO),(8,.v I)],[1,1,1,1,0,1,0,0],[]⟩,⟨19,[(0,.io dA),(5,.own kO),(7,.v I)],[1,1,1,0,1,0,0],[]⟩,⟨7,[(0,.io dA),(5,.own kO),(6,.v I)],[1,1,0,1,0,0],[]⟩],none⟩
theorem abA(K ρ):(vo N).bd K ρ 27=fN.mE N ((vo N).kc ρ 27):=κ
theorem abB(ρ):(vo N).kc ((vo N).ca ρ) 27=fN.nG N N:=Fx.uL [] (abA N) ρ (fN.nG N) λn ρ' e d=>by rw[e];rfl
theorem abC(K ρ):(vo N).bd K ρ 19=fN.xp N ((vo N).kc K 27) ((vo N).kc ρ 19):=κ
theorem abD(ρ):(vo N).kc ((vo N).ca ρ) 19=fN.l9 N N:=Fx.uL [27] (abC N) ρ (fN.l9 N) λn ρ' e d=>by rw[abB,e];rfl
theorem aiP(K ρ):(vo N).bd K ρ 7=fN.nC N ((vo N).kc K 19) ((vo N).kc ρ 7):=κ
theorem aiQ(ρ):(vo N).kc ((vo N).ca ρ) 7=fN.l3 N N:=Fx.uL [19,27] (aiP N) ρ (fN.l3 N) λn ρ' e d=>by rw[abD,e];rfl
theorem asZ(K):(vo N).top K=fN.b N ((vo N).kc K 7):=κ
def as0:Kn Tryz.prog:=⟨211,(vo N).S false (fN N),Fx.u1 (vo N) aF Tryz.func211 [7,19,27] (asZ N) (by rw[aiQ];rfl)⟩
def OA:Fx:=⟨50,tab,Kn.l [as0 N,US N,aiO N,aiN N,an8 N],N,Tryz.f145,[.io dA,.v aA,.v I],[.own kO,.io dA],[⟨7,[(0,.io dA),(4,.obj aA),(7,.own kO),(8,.v I)],[1,1,0,1,0,0],[]⟩],none⟩
theorem aiR(K ρ):(OA N).bd K ρ 7=pD.nC N ((OA N).kc ρ 7):=κ
theorem aiS(ρ):(OA N).kc ((OA N).ca ρ) 7=pD.l3 N N:=Fx.uL [] (aiR N) ρ (pD.l3 N) λn ρ' e d=>by rw[e];rfl
theorem as2(K):(OA N).top K=pD.b N ((OA N).kc K 7):=κ
def aoa:Kn Tryz.prog:=⟨145,(OA N).S false (pD N),Fx.u1 (OA N) aF Tryz.func145 [7] (as2 N) (by rw[aiS];rfl)⟩
def aob:Fx:=⟨15,tab,[],N,Tryz.f184,[.v I,.v I,.v I],[.v B],[],none⟩
def as3:Kn Tryz.prog:=⟨184,(aob N).S true (Hj N),Fx.u0 (aob N) aF Tryz.func184⟩
def OB:Fx:=⟨77,tab,Kn.l [as3 N],N,Tryz.f111,[.v aA],[.v B],[⟨9,[(1,.obj aA),(3,.v I)],[1,1,0,1,0,0],[]⟩],none⟩
theorem aiT(K ρ):(OB N).bd K ρ 9=lR.dv N ((OB N).kc ρ 9):=κ
theorem aiU(ρ):(OB N).kc ((OB N).ca ρ) 9=lR.l4 N N:=Fx.uL [] (aiT N) ρ (lR.l4 N) λn ρ' e d=>by rw[e];rfl
theorem as4(K):(OB N).top K=lR.b N ((OB N).kc K 9):=κ
def Q1:Kn Tryz.prog:=⟨111,(OB N).S true (lR N),Fx.u1 (OB N) aF Tryz.func111 [9] (as4 N) (by rw[aiU];rfl)⟩
def Dx:Fx:=⟨41,tab,Kn.l [Q1 N],N,Tryz.f206,[.v aA],[.v aK,.v I],[⟨15,[(1,.obj aA),(2,.obj aK),(4,.ga aK [.kq 4] I),(5,.v I)],[1,1,1,1,0,1,0,0],[]⟩,⟨12,[(1,.obj aA),(2,.obj aK),(4,.ga aK [.kq 4] I)],[1,1,1,1],[]⟩],some (aK,[.kq 4],I,[4])⟩
theorem abE(K ρ):(Dx N).bd K ρ 15=ia.pj N ((Dx N).kc ρ 15):=κ
theorem abF(ρ):(Dx N).kc ((Dx N).ca ρ) 15=ia.l7 N N:=Fx.uL [] (abE N) ρ (ia.l7 N) λn ρ' e d=>by rw[e];rfl
theorem abG(K ρ):(Dx N).bd K ρ 12=ia.Tj N ((Dx N).kc K 15):=κ
theorem abH(ρ):(Dx N).kc ((Dx N).ca ρ) 12=ia.j6 N:=Fx.uJ [15] (abG N) ρ (by rw[abF];rfl)
theorem as5(K):(Dx N).top K=ia.b N ((Dx N).kc K 12):=κ
def as6:Kn Tryz.prog:=⟨206,(Dx N).S false (ia N),Fx.u1 (Dx N) aF Tryz.func206 [12,15] (as5 N) (by rw[abH];rfl)⟩
def aoc:Fx:=⟨17,tab,Kn.l [as6 N],N,Tryz.f142,[.v aA],[.v dr,.v I],[],none⟩
def aod:Kn Tryz.prog:=⟨142,(aoc N).S false (XP N),Fx.u0 (aoc N) aF Tryz.func142⟩
def OC:Fx:=⟨33,tab,Kn.l [US N,k57 N,aiN N,aiO N],N,Tryz.f212,[.io dA,.v aA],[.own kO,.io dA],[⟨7,[(0,.io dA),(3,.obj aA),(5,.own kO),(6,.v I)],[1,1,0,1,0,0],[]⟩],none⟩
theorem aiV(K ρ):(OC N).bd K ρ 7=nq.nC N ((OC N).kc ρ 7):=κ
theorem aiW(ρ):(OC N).kc ((OC N).ca ρ) 7=nq.l3 N N:=Fx.uL [] (aiV N) ρ (nq.l3 N) λn ρ' e d=>by rw[e];rfl
theorem as7(K):(OC N).top K=nq.b N ((OC N).kc K 7):=κ
def aoe:Kn Tryz.prog:=⟨212,(OC N).S false (nq N),Fx.u1 (OC N) aF Tryz.func212 [7] (as7 N) (by rw[aiW];rfl)⟩
def aof:Fx:=⟨9,tab,[],N,Tryz.f241,[.v I],[.v B],[],none⟩
def as8:Kn Tryz.prog:=⟨241,(aof N).S true (ahP N),Fx.u0 (aof N) aF Tryz.func241⟩
def aog:Fx:=⟨32,tab,[],N,Tryz.f242,[.v I],[.v Z],[],none⟩
def as9:Kn Tryz.prog:=⟨242,(aog N).S true (aan N),Fx.u0 (aog N) aF Tryz.func242⟩
def aoh:Fx:=⟨12,tab,[],N,Tryz.f269,[.v I],[.v I,.v I],[],none⟩
def ata:Kn Tryz.prog:=⟨269,(aoh N).S true (ahN N),Fx.u0 (aoh N) aF Tryz.func269⟩
def aoi:Fx:=⟨6,tab,[],N,Tryz.f270,[.v I],[.v I,.v I],[],none⟩
def atb:Kn Tryz.prog:=⟨270,(aoi N).S true (ahO N),Fx.u0 (aoi N) aF Tryz.func270⟩
def aoj:Fx:=⟨27,tab,Kn.l [ata N,atb N],N,Tryz.f243,[.v I,.v (.int .u8)],[.v I,.v I],[],none⟩
def atc:Kn Tryz.prog:=⟨243,(aoj N).S true (aao N),Fx.u0 (aoj N) aF Tryz.func243⟩
def aok:Fx:=⟨32,tab,[],N,Tryz.f244,[.v kO,.v (.int .u8)],[.v I],[],none⟩
def atd:Kn Tryz.prog:=⟨244,(aok N).S true (aap N),Fx.u0 (aok N) aF Tryz.func244⟩
def aol:Fx:=⟨35,tab,[],N,Tryz.f245,[.v kO,.v (.int .u8),.v I],[.v kO],[],none⟩
def ate:Kn Tryz.prog:=⟨245,(aol N).S true (aaq N),Fx.u0 (aol N) aF Tryz.func245⟩
def OD:Fx:=⟨56,tab,Kn.l [as8 N,as9 N,atc N,atd N,ate N],N,Tryz.f207,[.v kO],[.v B],[⟨13,[(1,.obj kO),(3,.v Z),(4,.obj kO),(5,.v I)],[1,1,1,1,0,1,0,0],[]⟩],none⟩
theorem abI(K ρ):(OD N).bd K ρ 13=ra.ud N ((OD N).kc ρ 13):=κ
theorem abJ(ρ):(OD N).kc ((OD N).ca ρ) 13=ra.l6 N N:=Fx.uL [] (abI N) ρ (ra.l6 N) λn ρ' e d=>by rw[e];rfl
theorem atf(K):(OD N).top K=ra.b N ((OD N).kc K 13):=κ
def atg:Kn Tryz.prog:=⟨207,(OD N).S true (ra N),Fx.u1 (OD N) aF Tryz.func207 [13] (atf N) (by rw[abJ];rfl)⟩
def X69:Fx:=⟨58,tab,[],N,Tryz.f69,[.v dk],[.v B],[⟨5,[(0,.v dk),(3,.v I)],[1,0,1,0,0],[]⟩],none⟩
theorem aom(K ρ):(X69 N).bd K ρ 5=AS.gD N ((X69 N).kc ρ 5):=κ
theorem aon(ρ):(X69 N).kc ((X69 N).ca ρ) 5=AS.l2 N N:=Fx.uL [] (aom N) ρ (AS.l2 N) λn ρ' e d=>by rw[e];rfl
theorem h69(K):(X69 N).top K=AS.b N ((X69 N).kc K 5):=κ
def k69:Kn Tryz.prog:=⟨69,(X69 N).S true (AS N),Fx.u1 (X69 N) aF Tryz.func69 [5] (h69 N) (by rw[aon];rfl)⟩
def X70:Fx:=⟨24,tab,[],N,Tryz.f70,[.v dk,.v I],[.v I],[⟨5,[(0,.v dk),(1,.v I),(5,.v I)],[1,0,1,0,0],[]⟩],none⟩
theorem aoo(K ρ):(X70 N).bd K ρ 5=yZ.gD N ((X70 N).kc ρ 5):=κ
theorem aop(ρ):(X70 N).kc ((X70 N).ca ρ) 5=yZ.l2 N N:=Fx.uL [] (aoo N) ρ (yZ.l2 N) λn ρ' e d=>by rw[e];rfl
theorem h70(K):(X70 N).top K=yZ.b N ((X70 N).kc K 5):=κ
def k70:Kn Tryz.prog:=⟨70,(X70 N).S true (yZ N),Fx.u1 (X70 N) aF Tryz.func70 [5] (h70 N) (by rw[aop];rfl)⟩
def Dy:Fx:=⟨53,tab,Kn.l [k69 N,k70 N],N,Tryz.f246,[.v dk,.v I],[.own js,.v I],[⟨18,[(0,.v dk),(1,.v I),(6,.own js),(7,.v I)],[1,1,1,1,1,1],[]⟩,⟨15,[(0,.v dk),(1,.v I),(6,.own js),(7,.v I)],[1,1,1,1,1,0,0,0],[]⟩],none⟩
theorem abK(K ρ):(Dy N).bd K ρ 18=hZ.MP N:=κ
theorem abL(ρ):(Dy N).kc ((Dy N).ca ρ) 18=hZ.j9 N:=Fx.uJ [] (abK N) ρ
theorem abM(K ρ):(Dy N).bd K ρ 15=hZ.pj N ((Dy N).kc K 18) ((Dy N).kc ρ 15):=κ
theorem abN(ρ):(Dy N).kc ((Dy N).ca ρ) 15=hZ.l7 N N:=Fx.uL [18] (abM N) ρ (hZ.l7 N) λn ρ' e d=>by rw[abL,e];rfl
theorem ath(K):(Dy N).top K=hZ.b N ((Dy N).kc K 15):=κ
def ati:Kn Tryz.prog:=⟨246,(Dy N).S false (hZ N),Fx.u1 (Dy N) aF Tryz.func246 [15,18] (ath N) (by rw[abN];rfl)⟩
def aoq:Fx:=⟨5,tab,[],N,Tryz.f247,[.v I],[.v jk],[],none⟩
def abO:Kn Tryz.prog:=⟨247,(aoq N).S true (fm N),Fx.u0 (aoq N) aF Tryz.func247⟩
def rN:Fx:=⟨95,tab,[],N,Tryz.f120,[.v eU],[.v B],[⟨17,[(0,.v eU),(3,.v I),(4,.obj ej),(5,.v I)],[1,0,1,0,0,1,0,0,1,1,1,0,0],[5]⟩,⟨14,[(0,.v eU),(3,.v I),(4,.obj ej)],[1,0,1,0,0,1,0,0,1,1],[5]⟩,⟨5,[(0,.v eU),(3,.v I)],[1,0,1,0,0],[]⟩],none⟩
theorem abP(K ρ):(rN N).bd K ρ 17=eu.xR N ((rN N).kc ρ 5) ((rN N).kc ρ 17):=κ
theorem abQ(ρ):(rN N).kc ((rN N).ca ρ) 17=eu.l8 N ((rN N).kc ρ 5) N:=Fx.uL [] (abP N) ρ (eu.l8 N ((rN N).kc ρ 5)) λn ρ' e d=>by rw[e,d 5 rfl];rfl
theorem abR(K ρ):(rN N).bd K ρ 14=eu.UO N ((rN N).kc K 17) ((rN N).kc ρ 5):=κ
theorem abS(ρ):(rN N).kc ((rN N).ca ρ) 14=eu.j7 N ((rN N).kc ρ 5):=Fx.uJ [17] (abR N) ρ (by rw[abQ];rfl)
theorem aiX(K ρ):(rN N).bd K ρ 5=eu.gD N ((rN N).kc K 14) ((rN N).kc ρ 5):=κ
theorem aiY(ρ):(rN N).kc ((rN N).ca ρ) 5=eu.l2 N N:=Fx.uL [14,17] (aiX N) ρ (eu.l2 N) λn ρ' e d=>by rw[abS,e];rfl
theorem atj(K):(rN N).top K=eu.b N ((rN N).kc K 5):=κ
def UE:Kn Tryz.prog:=⟨120,(rN N).S true (eu N),Fx.u1 (rN N) aF Tryz.func120 [5] (atj N) (by rw[aiY];rfl)⟩
def OE:Fx:=⟨28,tab,Kn.l [k69 N,UE N,k70 N],N,Tryz.f112,[.v dk,.v eU],[.v B],[⟨9,[(0,.v dk),(1,.v eU),(5,.v I)],[1,1,0,1,0,0],[]⟩],none⟩
theorem aiZ(K ρ):(OE N).bd K ρ 9=nY.dv N ((OE N).kc ρ 9):=κ
theorem ai0(ρ):(OE N).kc ((OE N).ca ρ) 9=nY.l4 N N:=Fx.uL [] (aiZ N) ρ (nY.l4 N) λn ρ' e d=>by rw[e];rfl
theorem atk(K):(OE N).top K=nY.b N ((OE N).kc K 9):=κ
def ai1:Kn Tryz.prog:=⟨112,(OE N).S true (nY N),Fx.u1 (OE N) aF Tryz.func112 [9] (atk N) (by rw[ai0];rfl)⟩
def OF:Fx:=⟨25,tab,[],N,Tryz.f121,[.v eU,.v I],[.v ej,.v B],[⟨5,[(0,.v eU),(1,.v I),(4,.obj ej),(6,.v I)],[1,0,1,0,0],[]⟩],none⟩
theorem ai2(K ρ):(OF N).bd K ρ 5=nE.gD N ((OF N).kc ρ 5):=κ
theorem ai3(ρ):(OF N).kc ((OF N).ca ρ) 5=nE.l2 N N:=Fx.uL [] (ai2 N) ρ (nE.l2 N) λn ρ' e d=>by rw[e];rfl
theorem atl(K):(OF N).top K=nE.b N ((OF N).kc K 5):=κ
def abT:Kn Tryz.prog:=⟨121,(OF N).S true (nE N),Fx.u1 (OF N) aF Tryz.func121 [5] (atl N) (by rw[ai3];rfl)⟩
def OG:Fx:=⟨35,tab,Kn.l [UE N],N,Tryz.f271,[.v eU,.v I],[.v I],[⟨9,[(0,.v eU),(1,.v I),(5,.v I)],[1,1,0,1,0,0],[]⟩],none⟩
theorem ai4(K ρ):(OG N).bd K ρ 9=lU.dv N ((OG N).kc ρ 9):=κ
theorem ai5(ρ):(OG N).kc ((OG N).ca ρ) 9=lU.l4 N N:=Fx.uL [] (ai4 N) ρ (lU.l4 N) λn ρ' e d=>by rw[e];rfl
theorem atm(K):(OG N).top K=lU.b N ((OG N).kc K 9):=κ
def Yu:Kn Tryz.prog:=⟨271,(OG N).S true (lU N),Fx.u1 (OG N) aF Tryz.func271 [9] (atm N) (by rw[ai5];rfl)⟩
def xX:Fx:=⟨81,tab,Kn.l [ai1 N,UE N,k70 N,abT N,Yu N],N,Tryz.f248,[.v dk,.v eU,.v ej],[.own ej,.v I],[⟨30,[(1,.v eU),(5,.obj ej),(11,.own ej),(12,.v I)],[1,1,1,1,1,1,1,1,1],[]⟩,⟨27,[(1,.v eU),(5,.obj ej),(11,.own ej),(12,.v I)],[1,1,1,1,1,1,1,1,0,0,0],[]⟩,⟨22,[(1,.v eU),(5,.obj ej)],[1,1,1,1,1,1],[]⟩],none⟩
theorem abU(K ρ):(xX N).bd K ρ 30=fa.uI N:=κ
theorem abV(ρ):(xX N).kc ((xX N).ca ρ) 30=fa.AU N:=Fx.uJ [] (abU N) ρ
theorem abW(K ρ):(xX N).bd K ρ 27=fa.mE N ((xX N).kc K 30) ((xX N).kc ρ 27):=κ
theorem abX(ρ):(xX N).kc ((xX N).ca ρ) 27=fa.nG N N:=Fx.uL [30] (abW N) ρ (fa.nG N) λn ρ' e d=>by rw[abV,e];rfl
theorem abY(K ρ):(xX N).bd K ρ 22=fa.BB N ((xX N).kc K 27):=κ
theorem abZ(ρ):(xX N).kc ((xX N).ca ρ) 22=fa.IX N:=Fx.uJ [27,30] (abY N) ρ (by rw[abX];rfl)
theorem atn(K):(xX N).top K=fa.b N ((xX N).kc K 22):=κ
def ato:Kn Tryz.prog:=⟨248,(xX N).S false (fa N),Fx.u1 (xX N) aF Tryz.func248 [22,27,30] (atn N) (by rw[abZ];rfl)⟩
def X48:Fx:=⟨15,tab,Kn.l [UE N,abT N],N,Tryz.f48,[.v eU,.v I],[.v ej,.v B],[],none⟩
def k48:Kn Tryz.prog:=⟨48,(X48 N).S true (UQ N),Fx.u0 (X48 N) aF Tryz.func48⟩
def aor:Fx:=⟨16,tab,Kn.l [k48 N],N,Tryz.f249,[.v dr,.v I],[.v B],[],none⟩
def atp:Kn Tryz.prog:=⟨249,(aor N).S true (Qy N),Fx.u0 (aor N) aF Tryz.func249⟩
def OH:Fx:=⟨22,tab,[],N,Tryz.f168,[.v LU],[.v LU],[⟨5,[(0,.v LU),(3,.v I)],[1,1,0,0,0],[]⟩],none⟩
theorem ai7(K ρ):(OH N).bd K ρ 5=nU.gD N ((OH N).kc ρ 5):=κ
theorem ai8(ρ):(OH N).kc ((OH N).ca ρ) 5=nU.l2 N N:=Fx.uL [] (ai7 N) ρ (nU.l2 N) λn ρ' e d=>by rw[e];rfl
theorem atq(K):(OH N).top K=nU.b N ((OH N).kc K 5):=κ
def ai9:Kn Tryz.prog:=⟨168,(OH N).S false (nU N),Fx.u1 (OH N) aF Tryz.func168 [5] (atq N) (by rw[ai8];rfl)⟩
def X83:Fx:=⟨9,tab,Kn.l [ai9 N],N,Tryz.f83,[.v U],[.v LU],[],none⟩
def k83:Kn Tryz.prog:=⟨83,(X83 N).S false (F83 N),Fx.u0 (X83 N) aF Tryz.func83⟩
def X82:Fx:=⟨15,tab,Kn.l [ai9 N],N,Tryz.f82,[.v B,.v LU],[.v cV],[],none⟩
def k82:Kn Tryz.prog:=⟨82,(X82 N).S false (V3 N),Fx.u0 (X82 N) aF Tryz.func82⟩
def X26:Fx:=⟨15,tab,Kn.l [k83 N,k82 N],N,Tryz.f26,[.v I],[.v cV],[],none⟩
def y4:Kn Tryz.prog:=⟨26,(X26 N).S false (jN N),Fx.u0 (X26 N) aF Tryz.func26⟩
def X52:Fx:=⟨9,tab,Kn.l [k82 N],N,Tryz.f52,[.v cV],[.v cV],[],none⟩
def k52:Kn Tryz.prog:=⟨52,(X52 N).S false (Tk N),Fx.u0 (X52 N) aF Tryz.func52⟩
def aot:Fx:=⟨21,tab,Kn.l [k52 N],N,Tryz.f152,[.v I,.v I,.v I,.v I,.v cV],[.own rA],[],none⟩
def Yv:Kn Tryz.prog:=⟨152,(aot N).S false (xU N),Fx.u0 (aot N) aF Tryz.func152⟩
def X93:Fx:=⟨13,tab,[],N,Tryz.f93,[.v LU,.v I],[.v U],[],none⟩
def k93:Kn Tryz.prog:=⟨93,(X93 N).S true (ZB N),Fx.u0 (X93 N) aF Tryz.func93⟩
def Ss:Fx:=⟨41,tab,Kn.l [k93 N],N,Tryz.f85,[.v LU,.v LU],[.own U],[⟨12,[(0,.v LU),(1,.v LU),(5,.own U),(6,.v U),(7,.v I)],[1,1,1,0,1,0,0,1],[9]⟩,⟨9,[(0,.v LU),(1,.v LU),(5,.own U),(6,.v U),(7,.v I)],[1,1,1,0,1,0,0],[]⟩],none⟩
theorem ajb(K ρ):(Ss N).bd K ρ 12=u2.Tj N ((Ss N).kc ρ 9):=κ
theorem ajc(ρ):(Ss N).kc ((Ss N).ca ρ) 12=u2.j6 N ((Ss N).kc ρ 9):=Fx.uJ [] (ajb N) ρ
theorem aou(K ρ):(Ss N).bd K ρ 9=u2.dv N ((Ss N).kc K 12) ((Ss N).kc ρ 9):=κ
theorem aov(ρ):(Ss N).kc ((Ss N).ca ρ) 9=u2.l4 N N:=Fx.uL [12] (aou N) ρ (u2.l4 N) λn ρ' e d=>by rw[ajc,e];rfl
theorem h85(K):(Ss N).top K=u2.b N ((Ss N).kc K 9):=κ
def k85:Kn Tryz.prog:=⟨85,(Ss N).S false (u2 N),Fx.u1 (Ss N) aF Tryz.func85 [9] (h85 N) (by rw[aov];rfl)⟩
def X86:Fx:=⟨41,tab,[],N,Tryz.f86,[.v LU,.v LU],[.v I],[⟨13,[(0,.v LU),(1,.v LU),(5,.v I)],[1,1,0,1,0,0],[]⟩],none⟩
theorem ajd(K ρ):(X86 N).bd K ρ 13=C9.ud N ((X86 N).kc ρ 13):=κ
theorem aje(ρ):(X86 N).kc ((X86 N).ca ρ) 13=C9.l6 N N:=Fx.uL [] (ajd N) ρ (C9.l6 N) λn ρ' e d=>by rw[e];rfl
theorem h86(K):(X86 N).top K=C9.b N ((X86 N).kc K 13):=κ
def k86:Kn Tryz.prog:=⟨86,(X86 N).S true (C9 N),Fx.u1 (X86 N) aF Tryz.func86 [13] (h86 N) (by rw[aje];rfl)⟩
def X87:Fx:=⟨37,tab,Kn.l [k93 N],N,Tryz.f87,[.v LU,.v LU],[.own U],[⟨9,[(0,.v LU),(1,.v LU),(5,.own U),(6,.v U),(7,.v I)],[1,1,1,0,1,0,0],[]⟩],none⟩
theorem aow(K ρ):(X87 N).bd K ρ 9=DI.dv N ((X87 N).kc ρ 9):=κ
theorem aox(ρ):(X87 N).kc ((X87 N).ca ρ) 9=DI.l4 N N:=Fx.uL [] (aow N) ρ (DI.l4 N) λn ρ' e d=>by rw[e];rfl
theorem h87(K):(X87 N).top K=DI.b N ((X87 N).kc K 9):=κ
def k87:Kn Tryz.prog:=⟨87,(X87 N).S false (DI N),Fx.u1 (X87 N) aF Tryz.func87 [9] (h87 N) (by rw[aox];rfl)⟩
def X28:Fx:=⟨40,tab,Kn.l [k85 N,k82 N,k86 N,k87 N],N,Tryz.f28,[.v cV,.v cV],[.v cV],[],none⟩
def Q2:Kn Tryz.prog:=⟨28,(X28 N).S false (yX N),Fx.u0 (X28 N) aF Tryz.func28⟩
def aoy:Fx:=⟨28,tab,Kn.l [k93 N],N,Tryz.f150,[.v cV],[.v I,.v B],[],none⟩
def Gx:Kn Tryz.prog:=⟨150,(aoy N).S true (wo N),Fx.u0 (aoy N) aF Tryz.func150⟩
def aoz:Fx:=⟨18,tab,Kn.l [Gx N],N,Tryz.f258,[.v cV],[.v I,.v B],[],none⟩
def aoA:Kn Tryz.prog:=⟨258,(aoz N).S true (Qa N),Fx.u0 (aoz N) aF Tryz.func258⟩
def kp:Fx:=⟨106,tab,Kn.l [y4 N,Q2 N,aoA N],N,Tryz.f215,[.v cM,.v cM],[.own jk,.v B],[⟨31,[(0,.v cM),(1,.v cM),(6,.own jk),(7,.v I),(8,.v I),(9,.v I),(10,.v I),(11,.v B),(12,.obj cV),(13,.v I)],[1,1,1,0,1,0,0,1,0,0,1,0,0,1,0,0,1,1,1,0,1,0,0],[9,15]⟩,⟨26,[(0,.v cM),(1,.v cM),(6,.own jk),(7,.v I),(8,.v I),(9,.v I),(10,.v I),(11,.v B)],[1,1,1,0,1,0,0,1,0,0,1,0,0,1,0,0,1,1],[9,15]⟩,⟨15,[(0,.v cM),(1,.v cM),(6,.own jk),(7,.v I),(8,.v I),(9,.v I)],[1,1,1,0,1,0,0,1,0,0,1,0,0],[9]⟩,⟨9,[(0,.v cM),(1,.v cM),(6,.own jk),(7,.v I),(8,.v I)],[1,1,1,0,1,0,0],[]⟩],none⟩
theorem ab0(K ρ):(kp N).bd K ρ 31=ct.Hp N ((kp N).kc ρ 9) ((kp N).kc ρ 15) ((kp N).kc ρ 31):=κ
theorem ab1(ρ):(kp N).kc ((kp N).ca ρ) 31=ct.Ir N ((kp N).kc ρ 9) ((kp N).kc ρ 15) N:=Fx.uL [] (ab0 N) ρ (ct.Ir N ((kp N).kc ρ 9) ((kp N).kc ρ 15)) λn ρ' e d=>by rw[e,d 9 rfl,d 15 rfl];rfl
theorem ab2(K ρ):(kp N).bd K ρ 26=ct.Kb N ((kp N).kc K 31) ((kp N).kc ρ 9) ((kp N).kc ρ 15):=κ
theorem ab3(ρ):(kp N).kc ((kp N).ca ρ) 26=ct.RS N ((kp N).kc ρ 9) ((kp N).kc ρ 15):=Fx.uJ [31] (ab2 N) ρ (by rw[ab1];rfl)
theorem ab4(K ρ):(kp N).bd K ρ 15=ct.pj N ((kp N).kc K 26) ((kp N).kc ρ 9) ((kp N).kc ρ 15):=κ
theorem ab5(ρ):(kp N).kc ((kp N).ca ρ) 15=ct.l7 N ((kp N).kc ρ 9) N:=Fx.uL [26,31] (ab4 N) ρ (ct.l7 N ((kp N).kc ρ 9)) λn ρ' e d=>by rw[ab3,e,d 9 rfl];rfl
theorem ajf(K ρ):(kp N).bd K ρ 9=ct.dv N ((kp N).kc K 15) ((kp N).kc ρ 9):=κ
theorem ajg(ρ):(kp N).kc ((kp N).ca ρ) 9=ct.l4 N N:=Fx.uL [15] (ajf N) ρ (ct.l4 N) λn ρ' e d=>by rw[ab5,e];rfl
theorem atr(K):(kp N).top K=ct.b N ((kp N).kc K 9):=κ
def ats:Kn Tryz.prog:=⟨215,(kp N).S false (ct N),Fx.u1 (kp N) aF Tryz.func215 [9] (atr N) (by rw[ajg];rfl)⟩
def OI:Fx:=⟨53,tab,Kn.l [Q2 N,y4 N,Gx N],N,Tryz.f259,[.v I,.v I,.v I,.v om],[.v I,.v B],[⟨7,[(0,.v I),(1,.v I),(2,.v I),(3,.v om),(10,.obj cV),(11,.v B),(12,.v I)],[1,1,0,1,0,0],[]⟩],none⟩
theorem ajh(K ρ):(OI N).bd K ρ 7=nh.nC N ((OI N).kc ρ 7):=κ
theorem aji(ρ):(OI N).kc ((OI N).ca ρ) 7=nh.l3 N N:=Fx.uL [] (ajh N) ρ (nh.l3 N) λn ρ' e d=>by rw[e];rfl
theorem att(K):(OI N).top K=nh.b N ((OI N).kc K 7):=κ
def atu:Kn Tryz.prog:=⟨259,(OI N).S true (nh N),Fx.u1 (OI N) aF Tryz.func259 [7] (att N) (by rw[aji];rfl)⟩
def p9:Fx:=⟨69,tab,Kn.l [atu N],N,Tryz.f216,[.v cM,.v om],[.own jk,.v B],[⟨26,[(0,.v cM),(1,.v om),(6,.own jk),(7,.v I),(8,.v I),(9,.v I),(10,.v I)],[1,1,1,0,1,0,0,1,0,0,1,0,0,1,0,0,1,1],[9,15]⟩,⟨15,[(0,.v cM),(1,.v om),(6,.own jk),(7,.v I),(8,.v I),(9,.v I)],[1,1,1,0,1,0,0,1,0,0,1,0,0],[9]⟩,⟨9,[(0,.v cM),(1,.v om),(6,.own jk),(7,.v I),(8,.v I)],[1,1,1,0,1,0,0],[]⟩],none⟩
theorem ab6(K ρ):(p9 N).bd K ρ 26=dt.Kb N ((p9 N).kc ρ 9) ((p9 N).kc ρ 15):=κ
theorem ab7(ρ):(p9 N).kc ((p9 N).ca ρ) 26=dt.RS N ((p9 N).kc ρ 9) ((p9 N).kc ρ 15):=Fx.uJ [] (ab6 N) ρ
theorem ab8(K ρ):(p9 N).bd K ρ 15=dt.pj N ((p9 N).kc K 26) ((p9 N).kc ρ 9) ((p9 N).kc ρ 15):=κ
theorem ab9(ρ):(p9 N).kc ((p9 N).ca ρ) 15=dt.l7 N ((p9 N).kc ρ 9) N:=Fx.uL [26] (ab8 N) ρ (dt.l7 N ((p9 N).kc ρ 9)) λn ρ' e d=>by rw[ab7,e,d 9 rfl];rfl
theorem ajj(K ρ):(p9 N).bd K ρ 9=dt.dv N ((p9 N).kc K 15) ((p9 N).kc ρ 9):=κ
theorem ajk(ρ):(p9 N).kc ((p9 N).ca ρ) 9=dt.l4 N N:=Fx.uL [15] (ajj N) ρ (dt.l4 N) λn ρ' e d=>by rw[ab9,e];rfl
theorem atv(K):(p9 N).top K=dt.b N ((p9 N).kc K 9):=κ
def atw:Kn Tryz.prog:=⟨216,(p9 N).S false (dt N),Fx.u1 (p9 N) aF Tryz.func216 [9] (atv N) (by rw[ajk];rfl)⟩
def aoB:Fx:=⟨36,tab,Kn.l [ats N,atw N],N,Tryz.f154,[.v aK,.v cM,.v om],[.v aK,.v I],[],none⟩
def OJ:Kn Tryz.prog:=⟨154,(aoB N).S false (xT N),Fx.u0 (aoB N) aF Tryz.func154⟩
def aoC:Fx:=⟨34,tab,Kn.l [y4 N,Yv N,OJ N],N,Tryz.f250,[.v dr,.v I,.v I,.v I,.v I,.v I],[.v dr,.v jk],[],none⟩
def atx:Kn Tryz.prog:=⟨250,(aoC N).S false (NG N),Fx.u0 (aoC N) aF Tryz.func250⟩
def OK:Fx:=⟨33,tab,Kn.l [k84 N,y4 N,Q2 N],N,Tryz.f117,[.v cM,.v I],[.v cV],[⟨11,[(0,.v cM),(1,.v I),(4,.obj cV),(5,.obj cV),(6,.v I)],[1,1,1,0,1,0,0],[]⟩],none⟩
theorem aca(K ρ):(OK N).bd K ρ 11=oS.dV N ((OK N).kc ρ 11):=κ
theorem acb(ρ):(OK N).kc ((OK N).ca ρ) 11=oS.l5 N N:=Fx.uL [] (aca N) ρ (oS.l5 N) λn ρ' e d=>by rw[e];rfl
theorem aty(K):(OK N).top K=oS.b N ((OK N).kc K 11):=κ
def atz:Kn Tryz.prog:=⟨117,(OK N).S false (oS N),Fx.u1 (OK N) aF Tryz.func117 [11] (aty N) (by rw[acb];rfl)⟩
def X44:Fx:=⟨9,tab,[],N,Tryz.f44,[.v cV],[.v I],[],none⟩
def k44:Kn Tryz.prog:=⟨44,(X44 N).S true (RA N),Fx.u0 (X44 N) aF Tryz.func44⟩
def X43:Fx:=⟨15,tab,Kn.l [atz N,k44 N,k84 N],N,Tryz.f43,[.v cM],[.v B],[⟨5,[(0,.v cM),(3,.v I)],[1,0,1,0,0],[]⟩],none⟩
theorem aoD(K ρ):(X43 N).bd K ρ 5=Df.gD N ((X43 N).kc ρ 5):=κ
theorem aoE(ρ):(X43 N).kc ((X43 N).ca ρ) 5=Df.l2 N N:=Fx.uL [] (aoD N) ρ (Df.l2 N) λn ρ' e d=>by rw[e];rfl
theorem h43(K):(X43 N).top K=Df.b N ((X43 N).kc K 5):=κ
def k43:Kn Tryz.prog:=⟨43,(X43 N).S true (Df N),Fx.u1 (X43 N) aF Tryz.func43 [5] (h43 N) (by rw[aoE];rfl)⟩
def aoF:Fx:=⟨9,tab,[],N,Tryz.f115,[.v I],[.v B],[],none⟩
def Q3:Kn Tryz.prog:=⟨115,(aoF N).S true (Db N),Fx.u0 (aoF N) aF Tryz.func115⟩
def aoG:Fx:=⟨56,tab,Kn.l [Q3 N],N,Tryz.f185,[.v mJ],[.v B],[],none⟩
def ace:Kn Tryz.prog:=⟨185,(aoG N).S true (P4 N),Fx.u0 (aoG N) aF Tryz.func185⟩
def OL:Fx:=⟨37,tab,Kn.l [ace N],N,Tryz.f113,[.v o8],[.v B],[⟨9,[(0,.v o8),(3,.v I)],[1,1,0,1,0,0],[]⟩],none⟩
theorem ajl(K ρ):(OL N).bd K ρ 9=mC.dv N ((OL N).kc ρ 9):=κ
theorem ajm(ρ):(OL N).kc ((OL N).ca ρ) 9=mC.l4 N N:=Fx.uL [] (ajl N) ρ (mC.l4 N) λn ρ' e d=>by rw[e];rfl
theorem atA(K):(OL N).top K=mC.b N ((OL N).kc K 9):=κ
def UF:Kn Tryz.prog:=⟨113,(OL N).S true (mC N),Fx.u1 (OL N) aF Tryz.func113 [9] (atA N) (by rw[ajm];rfl)⟩
def X45:Fx:=⟨24,tab,Kn.l [k88 N,y4 N,Q2 N],N,Tryz.f45,[.v cM],[.v cV],[⟨11,[(0,.v cM),(2,.obj cV),(3,.obj cV),(4,.v I)],[1,1,1,0,1,0,0],[]⟩],none⟩
theorem ajn(K ρ):(X45 N).bd K ρ 11=Cr.dV N ((X45 N).kc ρ 11):=κ
theorem ajo(ρ):(X45 N).kc ((X45 N).ca ρ) 11=Cr.l5 N N:=Fx.uL [] (ajn N) ρ (Cr.l5 N) λn ρ' e d=>by rw[e];rfl
theorem h45(K):(X45 N).top K=Cr.b N ((X45 N).kc K 11):=κ
def k45:Kn Tryz.prog:=⟨45,(X45 N).S false (Cr N),Fx.u1 (X45 N) aF Tryz.func45 [11] (h45 N) (by rw[ajo];rfl)⟩
def aoH:Fx:=⟨19,tab,Kn.l [k48 N],N,Tryz.f114,[.v aK,.v I],[.v B],[],none⟩
def aoI:Kn Tryz.prog:=⟨114,(aoH N).S true (J8 N),Fx.u0 (aoH N) aF Tryz.func114⟩
def X22:Fx:=⟨11,tab,Kn.l [k69 N,k70 N],N,Tryz.f22,[.v dk,.v I],[.v I],[],none⟩
def k22:Kn Tryz.prog:=⟨22,(X22 N).S true (RH N),Fx.u0 (X22 N) aF Tryz.func22⟩
def Gy:Fx:=⟨163,tab,Kn.l [Q1 N,ai1 N,k88 N,k43 N,UF N,k45 N,k44 N,aoI N,k22 N,Q3 N],N,Tryz.f41,[.v aA,.v aK],[.v B],[⟨45,[(2,.obj aA),(3,.obj aK),(9,.v I)],[1,1,1,1,1,1,0,1,0,0],[]⟩,⟨35,[(2,.obj aA),(3,.obj aK),(8,.v I)],[1,1,1,1,1,0,1,0,0],[]⟩,⟨25,[(2,.obj aA),(3,.obj aK),(7,.v I)],[1,1,1,1,0,1,0,0],[]⟩,⟨13,[(2,.obj aA),(3,.obj aK),(5,.v I)],[1,1,1,0,1,0,0],[]⟩],none⟩
theorem ajq(K ρ):(Gy N).bd K ρ 45=fW.vl N ((Gy N).kc ρ 45):=κ
theorem ajr(ρ):(Gy N).kc ((Gy N).ca ρ) 45=fW.wF N N:=Fx.uL [] (ajq N) ρ (fW.wF N) λn ρ' e d=>by rw[e];rfl
theorem ajs(K ρ):(Gy N).bd K ρ 35=fW.Dh N ((Gy N).kc K 45) ((Gy N).kc ρ 35):=κ
theorem ajt(ρ):(Gy N).kc ((Gy N).ca ρ) 35=fW.DN N N:=Fx.uL [45] (ajs N) ρ (fW.DN N) λn ρ' e d=>by rw[ajr,e];rfl
theorem aju(K ρ):(Gy N).bd K ρ 25=fW.pt N ((Gy N).kc K 35) ((Gy N).kc ρ 25):=κ
theorem ajv(ρ):(Gy N).kc ((Gy N).ca ρ) 25=fW.pX N N:=Fx.uL [35,45] (aju N) ρ (fW.pX N) λn ρ' e d=>by rw[ajt,e];rfl
theorem ajw(K ρ):(Gy N).bd K ρ 13=fW.ud N ((Gy N).kc K 25) ((Gy N).kc ρ 13):=κ
theorem ajx(ρ):(Gy N).kc ((Gy N).ca ρ) 13=fW.l6 N N:=Fx.uL [25,35,45] (ajw N) ρ (fW.l6 N) λn ρ' e d=>by rw[ajv,e];rfl
theorem h41(K):(Gy N).top K=fW.b N ((Gy N).kc K 13):=κ
def Jo:Kn Tryz.prog:=⟨41,(Gy N).S true (fW N),Fx.u1 (Gy N) aF Tryz.func41 [13,25,35,45] (h41 N) (by rw[ajx];rfl)⟩
def X34:Fx:=⟨9,tab,Kn.l [k52 N,Q2 N],N,Tryz.f34,[.v cV,.v cV],[.v cV],[],none⟩
def k34:Kn Tryz.prog:=⟨34,(X34 N).S false (Rz N),Fx.u0 (X34 N) aF Tryz.func34⟩
def OM:Fx:=⟨39,tab,Kn.l [k84 N],N,Tryz.f148,[.v cM,.v I],[.own js],[⟨11,[(0,.v cM),(1,.v I),(5,.own js),(6,.v I)],[1,1,1,0,1,0,0],[]⟩],none⟩
theorem acf(K ρ):(OM N).bd K ρ 11=lj.dV N ((OM N).kc ρ 11):=κ
theorem acg(ρ):(OM N).kc ((OM N).ca ρ) 11=lj.l5 N N:=Fx.uL [] (acf N) ρ (lj.l5 N) λn ρ' e d=>by rw[e];rfl
theorem atB(K):(OM N).top K=lj.b N ((OM N).kc K 11):=κ
def UG:Kn Tryz.prog:=⟨148,(OM N).S false (lj N),Fx.u1 (OM N) aF Tryz.func148 [11] (atB N) (by rw[acg];rfl)⟩
def xY:Fx:=⟨74,tab,[],N,Tryz.f204,[.v o8,.v I],[.own jk],[⟨15,[(0,.v o8),(1,.v I),(5,.own jk),(6,.v I),(7,.obj jk),(8,.v I)],[1,1,0,1,0,0,1,0,0,1,0,1,0,0],[7]⟩,⟨7,[(0,.v o8),(1,.v I),(5,.own jk),(6,.v I)],[1,1,0,1,0,0],[]⟩],none⟩
theorem ach(K ρ):(xY N).bd K ρ 15=gV.pj N ((xY N).kc ρ 7) ((xY N).kc ρ 15):=κ
theorem aci(ρ):(xY N).kc ((xY N).ca ρ) 15=gV.l7 N ((xY N).kc ρ 7) N:=Fx.uL [] (ach N) ρ (gV.l7 N ((xY N).kc ρ 7)) λn ρ' e d=>by rw[e,d 7 rfl];rfl
theorem ajz(K ρ):(xY N).bd K ρ 7=gV.nC N ((xY N).kc K 15) ((xY N).kc ρ 7):=κ
theorem ajA(ρ):(xY N).kc ((xY N).ca ρ) 7=gV.l3 N N:=Fx.uL [15] (ajz N) ρ (gV.l3 N) λn ρ' e d=>by rw[aci,e];rfl
theorem atC(K):(xY N).top K=gV.b N ((xY N).kc K 7):=κ
def ajB:Kn Tryz.prog:=⟨204,(xY N).S false (gV N),Fx.u1 (xY N) aF Tryz.func204 [7] (atC N) (by rw[ajA];rfl)⟩
def ON:Fx:=⟨66,tab,Kn.l [Q1 N],N,Tryz.f239,[.v aA,.v dk],[.v B],[⟨9,[(1,.v dk),(2,.obj aA),(5,.v I)],[1,1,0,1,0,0],[]⟩],none⟩
theorem ajC(K ρ):(ON N).bd K ρ 9=nc.dv N ((ON N).kc ρ 9):=κ
theorem ajD(ρ):(ON N).kc ((ON N).ca ρ) 9=nc.l4 N N:=Fx.uL [] (ajC N) ρ (nc.l4 N) λn ρ' e d=>by rw[e];rfl
theorem atD(K):(ON N).top K=nc.b N ((ON N).kc K 9):=κ
def acj:Kn Tryz.prog:=⟨239,(ON N).S true (nc N),Fx.u1 (ON N) aF Tryz.func239 [9] (atD N) (by rw[ajD];rfl)⟩
def OO:Fx:=⟨79,tab,Kn.l [Q1 N],N,Tryz.f240,[.v aA,.v cM],[.v B],[⟨11,[(1,.v cM),(2,.obj aA),(5,.v I),(6,.v I)],[1,1,1,0,1,0,0],[]⟩],none⟩
theorem ack(K ρ):(OO N).bd K ρ 11=p3.dV N ((OO N).kc ρ 11):=κ
theorem acm(ρ):(OO N).kc ((OO N).ca ρ) 11=p3.l5 N N:=Fx.uL [] (ack N) ρ (p3.l5 N) λn ρ' e d=>by rw[e];rfl
theorem atE(K):(OO N).top K=p3.b N ((OO N).kc K 11):=κ
def aoJ:Kn Tryz.prog:=⟨240,(OO N).S true (p3 N),Fx.u1 (OO N) aF Tryz.func240 [11] (atE N) (by rw[acm];rfl)⟩
def X33:Fx:=⟨6,tab,Kn.l [k82 N],N,Tryz.f33,[.v cV],[.v cV],[],none⟩
def k33:Kn Tryz.prog:=⟨33,(X33 N).S false (V4 N),Fx.u0 (X33 N) aF Tryz.func33⟩
def X30:Fx:=⟨9,tab,Kn.l [k34 N,k44 N],N,Tryz.f30,[.v cV,.v cV],[.v I],[],none⟩
def k30:Kn Tryz.prog:=⟨30,(X30 N).S true (Pv N),Fx.u0 (X30 N) aF Tryz.func30⟩
def BP:Fx:=⟨96,tab,Kn.l [acj N,aoJ N,y4 N,Q2 N,k33 N,k34 N,k30 N],N,Tryz.f203,[.v aA,.v dk,.v cM,.v I],[.v cV,.v I],[⟨25,[(2,.v cM),(3,.v I),(8,.obj cV),(10,.obj cV),(11,.obj cV),(12,.obj cV),(14,.v I)],[1,1,1,1,1,0,1,0,0],[]⟩,⟨15,[(1,.v dk),(2,.v cM),(3,.v I),(8,.obj cV),(10,.obj cV),(11,.obj cV),(12,.obj cV),(13,.v I)],[1,1,1,1,0,1,0,0],[]⟩],none⟩
theorem aco(K ρ):(BP N).bd K ρ 25=ja.pt N ((BP N).kc ρ 25):=κ
theorem acp(ρ):(BP N).kc ((BP N).ca ρ) 25=ja.pX N N:=Fx.uL [] (aco N) ρ (ja.pX N) λn ρ' e d=>by rw[e];rfl
theorem acq(K ρ):(BP N).bd K ρ 15=ja.pj N ((BP N).kc K 25) ((BP N).kc ρ 15):=κ
theorem acr(ρ):(BP N).kc ((BP N).ca ρ) 15=ja.l7 N N:=Fx.uL [25] (acq N) ρ (ja.l7 N) λn ρ' e d=>by rw[acp,e];rfl
theorem atG(K):(BP N).top K=ja.b N ((BP N).kc K 15):=κ
def aoK:Kn Tryz.prog:=⟨203,(BP N).S false (ja N),Fx.u1 (BP N) aF Tryz.func203 [15,25] (atG N) (by rw[acr];rfl)⟩
def D0:Fx:=⟨71,tab,Kn.l [k93 N,k82 N],N,Tryz.f32,[.v cV,.v cV],[.v cV],[⟨18,[(2,.obj cV),(3,.obj cV),(4,.obj cV),(5,.own U),(6,.v I),(7,.v U),(8,.v I)],[1,1,0,1,0,0,1,0,0,1,1,0,0,1],[7,15]⟩,⟨15,[(2,.obj cV),(3,.obj cV),(4,.obj cV),(5,.own U),(6,.v I),(7,.v U),(8,.v I)],[1,1,0,1,0,0,1,0,0,1,1,0,0],[7]⟩,⟨7,[(2,.obj cV),(3,.obj cV),(4,.obj cV),(5,.own U),(6,.v I)],[1,1,0,1,0,0],[]⟩],none⟩
theorem ajE(K ρ):(D0 N).bd K ρ 18=jJ.MP N ((D0 N).kc ρ 7) ((D0 N).kc ρ 15):=κ
theorem ajF(ρ):(D0 N).kc ((D0 N).ca ρ) 18=jJ.j9 N ((D0 N).kc ρ 7) ((D0 N).kc ρ 15):=Fx.uJ [] (ajE N) ρ
theorem ajG(K ρ):(D0 N).bd K ρ 15=jJ.pj N ((D0 N).kc K 18) ((D0 N).kc ρ 7) ((D0 N).kc ρ 15):=κ
theorem ajH(ρ):(D0 N).kc ((D0 N).ca ρ) 15=jJ.l7 N ((D0 N).kc ρ 7) N:=Fx.uL [18] (ajG N) ρ (jJ.l7 N ((D0 N).kc ρ 7)) λn ρ' e d=>by rw[ajF,e,d 7 rfl];rfl
theorem aoL(K ρ):(D0 N).bd K ρ 7=jJ.nC N ((D0 N).kc K 15) ((D0 N).kc ρ 7):=κ
theorem aoM(ρ):(D0 N).kc ((D0 N).ca ρ) 7=jJ.l3 N N:=Fx.uL [15] (aoL N) ρ (jJ.l3 N) λn ρ' e d=>by rw[ajH,e];rfl
theorem h32(K):(D0 N).top K=jJ.b N ((D0 N).kc K 7):=κ
def YP:Kn Tryz.prog:=⟨32,(D0 N).S false (jJ N),Fx.u1 (D0 N) aF Tryz.func32 [7] (h32 N) (by rw[aoM];rfl)⟩
def OP:Fx:=⟨50,tab,Kn.l [acj N,aoJ N,aoK N,y4 N,YP N,Q2 N],N,Tryz.f231,[.v aA,.v dk,.v cM],[.v cV,.v I],[⟨11,[(1,.v dk),(2,.v cM),(3,.obj aA),(6,.obj cV),(8,.obj cV),(9,.v I)],[1,1,1,0,1,0,0],[]⟩],none⟩
theorem acs(K ρ):(OP N).bd K ρ 11=p4.dV N ((OP N).kc ρ 11):=κ
theorem acu(ρ):(OP N).kc ((OP N).ca ρ) 11=p4.l5 N N:=Fx.uL [] (acs N) ρ (p4.l5 N) λn ρ' e d=>by rw[e];rfl
theorem atH(K):(OP N).top K=p4.b N ((OP N).kc K 11):=κ
def aoN:Kn Tryz.prog:=⟨231,(OP N).S false (p4 N),Fx.u1 (OP N) aF Tryz.func231 [11] (atH N) (by rw[acu];rfl)⟩
def aoO:Fx:=⟨31,tab,Kn.l [UG N,ajB N,aoN N],N,Tryz.f180,[.v aA,.v aK,.v I,.v o8],[.v cV],[],none⟩
def aoP:Kn Tryz.prog:=⟨180,(aoO N).S false (WY N),Fx.u0 (aoO N) aF Tryz.func180⟩
def aoQ:Fx:=⟨63,tab,Kn.l [Jo N,k48 N,k22 N,Yt N,y4 N,k34 N,aoP N,k30 N,Yv N,OJ N],N,Tryz.f135,[.v aA,.v aK,.v I,.v I],[.v aK,.v I],[],none⟩
def atI:Kn Tryz.prog:=⟨135,(aoQ N).S false (T1 N),Fx.u0 (aoQ N) aF Tryz.func135⟩
def aoR:Fx:=⟨10,tab,Kn.l [k22 N],N,Tryz.f251,[.v dr,.v I],[.v I],[],none⟩
def aoS:Kn Tryz.prog:=⟨251,(aoR N).S true (F1 N),Fx.u0 (aoR N) aF Tryz.func251⟩
def OQ:Fx:=⟨53,tab,Kn.l [UE N,abT N],N,Tryz.f252,[.v eU,.v I,.v I],[.own ej,.v I],[⟨17,[(1,.v I),(2,.v I),(10,.own ej),(11,.v I)],[1,1,1,1,0,1,0,0],[]⟩],none⟩
theorem acv(K ρ):(OQ N).bd K ρ 17=nr.xR N ((OQ N).kc ρ 17):=κ
theorem acw(ρ):(OQ N).kc ((OQ N).ca ρ) 17=nr.l8 N N:=Fx.uL [] (acv N) ρ (nr.l8 N) λn ρ' e d=>by rw[e];rfl
theorem atJ(K):(OQ N).top K=nr.b N ((OQ N).kc K 17):=κ
def atK:Kn Tryz.prog:=⟨252,(OQ N).S false (nr N),Fx.u1 (OQ N) aF Tryz.func252 [17] (atJ N) (by rw[acw];rfl)⟩
def aoT:Fx:=⟨36,tab,Kn.l [ace N,Q3 N,y4 N,YP N],N,Tryz.f136,[.v mJ,.v I],[.v cV,.v I],[],none⟩
def atL:Kn Tryz.prog:=⟨136,(aoT N).S false (aam N),Fx.u0 (aoT N) aF Tryz.func136⟩
def aoU:Fx:=⟨104,tab,Kn.l [Jo N,ace N,k48 N,k22 N,UG N,ajB N,aoK N,y4 N,k30 N,atL N,Yt N,k34 N,aoP N],N,Tryz.f138,[.v aA,.v aK,.v mJ],[.v I],[],none⟩
def aoV:Kn Tryz.prog:=⟨138,(aoU N).S true (WZ N),Fx.u0 (aoU N) aF Tryz.func138⟩
def aoW:Fx:=⟨24,tab,[],N,Tryz.f268,[.v mJ,.v mJ],[.v B],[],none⟩
def atM:Kn Tryz.prog:=⟨268,(aoW N).S true (TZ N),Fx.u0 (aoW N) aF Tryz.func268⟩
def rO:Fx:=⟨72,tab,Kn.l [UF N,atM N],N,Tryz.f238,[.v o8,.v I,.v I],[.own mJ],[⟨22,[(0,.v o8),(1,.v I),(2,.v I),(7,.own mJ),(8,.v I),(9,.v I)],[1,1,1,0,1,0,0,1,0,0,1,1,1],[11]⟩,⟨19,[(0,.v o8),(1,.v I),(2,.v I),(7,.own mJ),(8,.v I),(9,.v I)],[1,1,1,0,1,0,0,1,0,0,1,1,0,0,0],[11]⟩,⟨11,[(0,.v o8),(1,.v I),(2,.v I),(7,.own mJ),(8,.v I)],[1,1,1,0,1,0,0],[]⟩],none⟩
theorem acx(K ρ):(rO N).bd K ρ 22=dI.BB N ((rO N).kc ρ 11):=κ
theorem acy(ρ):(rO N).kc ((rO N).ca ρ) 22=dI.IX N ((rO N).kc ρ 11):=Fx.uJ [] (acx N) ρ
theorem acz(K ρ):(rO N).bd K ρ 19=dI.xp N ((rO N).kc K 22) ((rO N).kc ρ 11) ((rO N).kc ρ 19):=κ
theorem acA(ρ):(rO N).kc ((rO N).ca ρ) 19=dI.l9 N ((rO N).kc ρ 11) N:=Fx.uL [22] (acz N) ρ (dI.l9 N ((rO N).kc ρ 11)) λn ρ' e d=>by rw[acy,e,d 11 rfl];rfl
theorem acB(K ρ):(rO N).bd K ρ 11=dI.dV N ((rO N).kc K 19) ((rO N).kc ρ 11):=κ
theorem acC(ρ):(rO N).kc ((rO N).ca ρ) 11=dI.l5 N N:=Fx.uL [19,22] (acB N) ρ (dI.l5 N) λn ρ' e d=>by rw[acA,e];rfl
theorem atN(K):(rO N).top K=dI.b N ((rO N).kc K 11):=κ
def atO:Kn Tryz.prog:=⟨238,(rO N).S false (dI N),Fx.u1 (rO N) aF Tryz.func238 [11] (atN N) (by rw[acC];rfl)⟩
def jv:Fx:=⟨174,tab,Kn.l [UF N,ace N,atO N],N,Tryz.f202,[.v o8,.v mJ],[.own mJ,.own sL,.v I,.v I],[⟨49,[(8,.own mJ),(9,.v I),(10,.own sL),(16,.own mJ),(17,.v I)],[1,1,1,1,1,1,1,0,1,0,0],[]⟩,⟨44,[(8,.own mJ),(9,.v I),(10,.own sL)],[1,1,1,1,1,1],[]⟩,⟨37,[(3,.obj mJ),(8,.own mJ),(9,.v I),(10,.own sL),(11,.own mJ),(12,.v I),(13,.v I),(15,.v I)],[1,1,1,1,1,0,1,0,0,1,0,0,1,1,1,1,1,1,1,1,0,0],[15]⟩,⟨30,[(3,.obj mJ),(8,.own mJ),(9,.v I),(10,.own sL),(11,.own mJ),(12,.v I),(13,.v I),(14,.obj sL)],[1,1,1,1,1,0,1,0,0,1,0,0,1,1,1,1,1],[15]⟩,⟨20,[(3,.obj mJ),(8,.own mJ),(9,.v I),(10,.own sL),(11,.own mJ),(12,.v I)],[1,1,1,1,1,0,1,0,0,1,0,0,1],[15]⟩,⟨15,[(3,.obj mJ),(8,.own mJ),(9,.v I),(10,.own sL),(11,.own mJ),(12,.v I)],[1,1,1,1,1,0,1,0,0],[]⟩],none⟩
theorem acD(K ρ):(jv N).bd K ρ 49=cf.Nu N ((jv N).kc ρ 49):=κ
theorem acE(ρ):(jv N).kc ((jv N).ca ρ) 49=cf.La N N:=Fx.uL [] (acD N) ρ (cf.La N) λn ρ' e d=>by rw[e];rfl
theorem acF(K ρ):(jv N).bd K ρ 44=cf.aat N ((jv N).kc K 49):=κ
theorem acG(ρ):(jv N).kc ((jv N).ca ρ) 44=cf.j22 N:=Fx.uJ [49] (acF N) ρ (by rw[acE];rfl)
theorem acH(K ρ):(jv N).bd K ρ 37=cf.Dr N ((jv N).kc ρ 15) ((jv N).kc ρ 37):=κ
theorem acI(ρ):(jv N).kc ((jv N).ca ρ) 37=cf.GN N ((jv N).kc ρ 15) N:=Fx.uL [44,49] (acH N) ρ (cf.GN N ((jv N).kc ρ 15)) λn ρ' e d=>by rw[e,d 15 rfl];rfl
theorem acJ(K ρ):(jv N).bd K ρ 30=cf.uI N ((jv N).kc K 37) ((jv N).kc ρ 15):=κ
theorem acK(ρ):(jv N).kc ((jv N).ca ρ) 30=cf.AU N ((jv N).kc ρ 15):=Fx.uJ [44,49,37] (acJ N) ρ (by rw[acI];rfl)
theorem acL(K ρ):(jv N).bd K ρ 20=cf.BC N ((jv N).kc K 30) ((jv N).kc ρ 15):=κ
theorem acM(ρ):(jv N).kc ((jv N).ca ρ) 20=cf.Hy N ((jv N).kc ρ 15):=Fx.uJ [44,49,30,37] (acL N) ρ (by rw[acK];rfl)
theorem acN(K ρ):(jv N).bd K ρ 15=cf.pj N ((jv N).kc K 44) ((jv N).kc K 20) ((jv N).kc ρ 15):=κ
theorem acO(ρ):(jv N).kc ((jv N).ca ρ) 15=cf.l7 N N:=Fx.uL [44,49,20,30,37] (acN N) ρ (cf.l7 N) λn ρ' e d=>by rw[acG,acM,e];rfl
theorem atP(K):(jv N).top K=cf.b N ((jv N).kc K 15):=κ
def atS:Kn Tryz.prog:=⟨202,(jv N).S false (cf N),Fx.u1 (jv N) aF Tryz.func202 [15,44,49] (atP N) (by rw[acO];rfl)⟩
def aoX:Fx:=⟨53,tab,Kn.l [Q3 N],N,Tryz.f177,[.v sL],[.v B],[],none⟩
def aoY:Kn Tryz.prog:=⟨177,(aoX N).S true (WI N),Fx.u0 (aoX N) aF Tryz.func177⟩
def aoZ:Fx:=⟨7,tab,[],N,Tryz.f230,[.v I],[.v I,.v I],[],none⟩
def ao0:Kn Tryz.prog:=⟨230,(aoZ N).S true (Ki N),Fx.u0 (aoZ N) aF Tryz.func230⟩
def ao1:Fx:=⟨53,tab,Kn.l [aoY N,Q3 N,y4 N,YP N,k44 N,ao0 N,k52 N],N,Tryz.f178,[.v sL,.v I],[.own rA,.v I],[],none⟩
def atT:Kn Tryz.prog:=⟨178,(ao1 N).S false (Qk N),Fx.u0 (ao1 N) aF Tryz.func178⟩
def BQ:Fx:=⟨107,tab,Kn.l [Jo N,aoY N,aoI N,atT N,OJ N],N,Tryz.f105,[.v aA,.v aK,.v KT],[.v aK,.v I],[⟨23,[(2,.v KT),(3,.obj aA),(4,.obj aK),(6,.obj aK),(9,.own jk),(10,.own rA),(11,.v I)],[1,1,1,1,1,0,1,0,0],[]⟩,⟨9,[(2,.v KT),(3,.obj aA),(4,.obj aK),(6,.obj aK),(8,.v I)],[1,1,0,1,0,0],[]⟩],none⟩
theorem acP(K ρ):(BQ N).bd K ρ 23=gv.yO N ((BQ N).kc ρ 23):=κ
theorem acQ(ρ):(BQ N).kc ((BQ N).ca ρ) 23=gv.BA N N:=Fx.uL [] (acP N) ρ (gv.BA N) λn ρ' e d=>by rw[e];rfl
theorem ajI(K ρ):(BQ N).bd K ρ 9=gv.dv N ((BQ N).kc K 23) ((BQ N).kc ρ 9):=κ
theorem ajJ(ρ):(BQ N).kc ((BQ N).ca ρ) 9=gv.l4 N N:=Fx.uL [23] (ajI N) ρ (gv.l4 N) λn ρ' e d=>by rw[acQ,e];rfl
theorem atU(K):(BQ N).top K=gv.b N ((BQ N).kc K 9):=κ
def ao2:Kn Tryz.prog:=⟨105,(BQ N).S false (gv N),Fx.u1 (BQ N) aF Tryz.func105 [9,23] (atU N) (by rw[ajJ];rfl)⟩
def Gz:Fx:=⟨85,tab,Kn.l [aoV N,atS N,ao2 N],N,Tryz.f134,[.v aA,.v aK,.v mJ],[.v aK,.v KT,.v I,.v I],[⟨20,[(3,.obj aA),(4,.obj aK),(5,.obj mJ),(6,.obj aK),(12,.own mJ),(13,.own sL),(14,.v I)],[1,1,1,1,1],[]⟩,⟨14,[(3,.obj aA),(4,.obj aK),(5,.obj mJ),(6,.obj aK)],[1,1,1],[]⟩],none⟩
theorem acR(K ρ):(Gz N).bd K ρ 20=jb.BC N:=κ
theorem acS(ρ):(Gz N).kc ((Gz N).ca ρ) 20=jb.Hy N:=Fx.uJ [] (acR N) ρ
theorem acT(K ρ):(Gz N).bd K ρ 14=jb.UO N ((Gz N).kc K 20):=κ
theorem acU(ρ):(Gz N).kc ((Gz N).ca ρ) 14=jb.j7 N:=Fx.uJ [20] (acT N) ρ (by rw[acS];rfl)
theorem atV(K):(Gz N).top K=jb.b N ((Gz N).kc K 14):=κ
def atW:Kn Tryz.prog:=⟨134,(Gz N).S false (jb N),Fx.u1 (Gz N) aF Tryz.func134 [14,20] (atV N) (by rw[acU];rfl)⟩
def OR:Fx:=⟨48,tab,Kn.l [UF N],N,Tryz.f253,[.v o8,.v I,.v I],[.own mJ,.v I],[⟨11,[(0,.v o8),(1,.v I),(2,.v I),(8,.own mJ),(9,.v I)],[1,1,1,0,1,0,0],[]⟩],none⟩
theorem acV(K ρ):(OR N).bd K ρ 11=nu.dV N ((OR N).kc ρ 11):=κ
theorem acW(ρ):(OR N).kc ((OR N).ca ρ) 11=nu.l5 N N:=Fx.uL [] (acV N) ρ (nu.l5 N) λn ρ' e d=>by rw[e];rfl
theorem atX(K):(OR N).top K=nu.b N ((OR N).kc K 11):=κ
def atY:Kn Tryz.prog:=⟨253,(OR N).S false (nu N),Fx.u1 (OR N) aF Tryz.func253 [11] (atX N) (by rw[acW];rfl)⟩
def OS:Fx:=⟨76,tab,Kn.l [k84 N,Q3 N,y4 N,k34 N,k44 N,ao0 N,YP N],N,Tryz.f179,[.v cM,.v I,.v I,.v I],[.own rA,.v I],[⟨13,[(0,.v cM),(1,.v I),(10,.own rA),(11,.obj cV),(12,.v I)],[1,1,1,1,0,1,0,0],[]⟩],none⟩
theorem acX(K ρ):(OS N).bd K ρ 13=nv.ud N ((OS N).kc ρ 13):=κ
theorem acY(ρ):(OS N).kc ((OS N).ca ρ) 13=nv.l6 N N:=Fx.uL [] (acX N) ρ (nv.l6 N) λn ρ' e d=>by rw[e];rfl
theorem atZ(K):(OS N).top K=nv.b N ((OS N).kc K 13):=κ
def at1:Kn Tryz.prog:=⟨179,(OS N).S false (nv N),Fx.u1 (OS N) aF Tryz.func179 [13] (atZ N) (by rw[acY];rfl)⟩
def ao3:Fx:=⟨70,tab,Kn.l [Jo N,Q3 N,at1 N,OJ N],N,Tryz.f106,[.v aA,.v aK,.v I,.v I],[.v aK,.v om,.v I],[],some (aK,[.kq 4],I,[5,13])⟩
def at2:Kn Tryz.prog:=⟨106,(ao3 N).S false (T0 N),Fx.u0 (ao3 N) aF Tryz.func106⟩
def OT:Fx:=⟨50,tab,[],N,Tryz.f272,[.v dk],[.v B],[⟨5,[(0,.v dk),(3,.v I)],[1,0,1,0,0],[]⟩],none⟩
theorem ajK(K ρ):(OT N).bd K ρ 5=p5.gD N ((OT N).kc ρ 5):=κ
theorem ajL(ρ):(OT N).kc ((OT N).ca ρ) 5=p5.l2 N N:=Fx.uL [] (ajK N) ρ (p5.l2 N) λn ρ' e d=>by rw[e];rfl
theorem at3(K):(OT N).top K=p5.b N ((OT N).kc K 5):=κ
def ao4:Kn Tryz.prog:=⟨272,(OT N).S true (p5 N),Fx.u1 (OT N) aF Tryz.func272 [5] (at3 N) (by rw[ajL];rfl)⟩
def qa:Fx:=⟨84,tab,Kn.l [ao4 N,y4 N,Q2 N,Gx N],N,Tryz.f254,[.v dk,.v om],[.own js,.v I],[⟨29,[(0,.v dk),(1,.v om),(6,.own js),(7,.v I),(8,.obj cV),(10,.v I)],[1,1,1,0,1,0,0,1,0,0,1,1,0,1,0,0],[11]⟩,⟨19,[(0,.v dk),(1,.v om),(6,.own js),(7,.v I),(8,.obj cV),(9,.v I)],[1,1,1,0,1,0,0,1,0,0,1,0,1,0,0],[11]⟩,⟨11,[(0,.v dk),(1,.v om),(6,.own js),(7,.v I)],[1,1,1,0,1,0,0],[]⟩],none⟩
theorem acZ(K ρ):(qa N).bd K ρ 29=eL.FL N ((qa N).kc ρ 11) ((qa N).kc ρ 29):=κ
theorem ac0(ρ):(qa N).kc ((qa N).ca ρ) 29=eL.IG N ((qa N).kc ρ 11) N:=Fx.uL [] (acZ N) ρ (eL.IG N ((qa N).kc ρ 11)) λn ρ' e d=>by rw[e,d 11 rfl];rfl
theorem ac1(K ρ):(qa N).bd K ρ 19=eL.xp N ((qa N).kc K 29) ((qa N).kc ρ 11) ((qa N).kc ρ 19):=κ
theorem ac2(ρ):(qa N).kc ((qa N).ca ρ) 19=eL.l9 N ((qa N).kc ρ 11) N:=Fx.uL [29] (ac1 N) ρ (eL.l9 N ((qa N).kc ρ 11)) λn ρ' e d=>by rw[ac0,e,d 11 rfl];rfl
theorem ac3(K ρ):(qa N).bd K ρ 11=eL.dV N ((qa N).kc K 19) ((qa N).kc ρ 11):=κ
theorem ac4(ρ):(qa N).kc ((qa N).ca ρ) 11=eL.l5 N N:=Fx.uL [19,29] (ac3 N) ρ (eL.l5 N) λn ρ' e d=>by rw[ac2,e];rfl
theorem at4(K):(qa N).top K=eL.b N ((qa N).kc K 11):=κ
def at5:Kn Tryz.prog:=⟨254,(qa N).S false (eL N),Fx.u1 (qa N) aF Tryz.func254 [11] (at4 N) (by rw[ac4];rfl)⟩
def ao5:Fx:=⟨15,tab,Kn.l [y4 N,Q2 N,Gx N],N,Tryz.f255,[.v dr,.v I],[.v I,.v B],[],none⟩
def ajM:Kn Tryz.prog:=⟨255,(ao5 N).S true (Ue N),Fx.u0 (ao5 N) aF Tryz.func255⟩
def ao6:Fx:=⟨41,tab,[],N,Tryz.f281,[.v I,.v I],[.v I,.v B],[],none⟩
def at6:Kn Tryz.prog:=⟨281,(ao6 N).S true (TX N),Fx.u0 (ao6 N) aF Tryz.func281⟩
def OU:Fx:=⟨51,tab,Kn.l [k69 N,k70 N,at6 N],N,Tryz.f273,[.v dk,.v I,.v I],[.own js,.v I],[⟨23,[(1,.v I),(9,.v I),(11,.own js),(12,.v I)],[1,1,1,1,1,1,1,0,1,0,0],[]⟩],none⟩
theorem ac5(K ρ):(OU N).bd K ρ 23=lq.yO N ((OU N).kc ρ 23):=κ
theorem ac6(ρ):(OU N).kc ((OU N).ca ρ) 23=lq.BA N N:=Fx.uL [] (ac5 N) ρ (lq.BA N) λn ρ' e d=>by rw[e];rfl
theorem at7(K):(OU N).top K=lq.b N ((OU N).kc K 23):=κ
def ao7:Kn Tryz.prog:=⟨273,(OU N).S false (lq N),Fx.u1 (OU N) aF Tryz.func273 [23] (at7 N) (by rw[ac6];rfl)⟩
def OV:Fx:=⟨33,tab,Kn.l [UE N],N,Tryz.f182,[.v eU,.v I],[.own I],[⟨11,[(0,.v eU),(1,.v I),(5,.own I),(6,.v I)],[1,1,1,0,1,0,0],[]⟩],none⟩
theorem ac7(K ρ):(OV N).bd K ρ 11=rf.dV N ((OV N).kc ρ 11):=κ
theorem ac8(ρ):(OV N).kc ((OV N).ca ρ) 11=rf.l5 N N:=Fx.uL [] (ac7 N) ρ (rf.l5 N) λn ρ' e d=>by rw[e];rfl
theorem aua(K):(OV N).top K=rf.b N ((OV N).kc K 11):=κ
def aub:Kn Tryz.prog:=⟨182,(OV N).S false (rf N),Fx.u1 (OV N) aF Tryz.func182 [11] (aua N) (by rw[ac8];rfl)⟩
def xZ:Fx:=⟨48,tab,Kn.l [UF N],N,Tryz.f181,[.v o8,.v LI],[.own mJ],[⟨19,[(0,.v o8),(1,.v LI),(5,.own mJ),(6,.v I),(7,.v B),(8,.v I)],[1,1,1,0,1,0,0,1,0,0,1,0,1,0,0],[11]⟩,⟨11,[(0,.v o8),(1,.v LI),(5,.own mJ),(6,.v I)],[1,1,1,0,1,0,0],[]⟩],none⟩
theorem ac9(K ρ):(xZ N).bd K ρ 19=fR.xp N ((xZ N).kc ρ 11) ((xZ N).kc ρ 19):=κ
theorem ada(ρ):(xZ N).kc ((xZ N).ca ρ) 19=fR.l9 N ((xZ N).kc ρ 11) N:=Fx.uL [] (ac9 N) ρ (fR.l9 N ((xZ N).kc ρ 11)) λn ρ' e d=>by rw[e,d 11 rfl];rfl
theorem adb(K ρ):(xZ N).bd K ρ 11=fR.dV N ((xZ N).kc K 19) ((xZ N).kc ρ 11):=κ
theorem ade(ρ):(xZ N).kc ((xZ N).ca ρ) 11=fR.l5 N N:=Fx.uL [19] (adb N) ρ (fR.l5 N) λn ρ' e d=>by rw[ada,e];rfl
theorem auc(K):(xZ N).top K=fR.b N ((xZ N).kc K 11):=κ
def aud:Kn Tryz.prog:=⟨181,(xZ N).S false (fR N),Fx.u1 (xZ N) aF Tryz.func181 [11] (auc N) (by rw[ade];rfl)⟩
def ao8:Fx:=⟨28,tab,Kn.l [Jo N,k22 N,aub N,aud N],N,Tryz.f108,[.v aA,.v aK,.v I],[.v aK,.v I],[],none⟩
def aue:Kn Tryz.prog:=⟨108,(ao8 N).S false (Ky N),Fx.u0 (ao8 N) aF Tryz.func108⟩
def ao9:Fx:=⟨41,tab,[],N,Tryz.f296,[.v ej],[.v B],[],none⟩
def apa:Kn Tryz.prog:=⟨296,(ao9 N).S true (We N),Fx.u0 (ao9 N) aF Tryz.func296⟩
def rP:Fx:=⟨67,tab,Kn.l [apa N],N,Tryz.f282,[.v eU],[.v B],[⟨19,[(0,.v eU),(3,.v I),(4,.v I)],[1,1,0,1,0,0,1,0,0,1,1,0,0],[9]⟩,⟨16,[(0,.v eU),(3,.v I)],[1,1,0,1,0,0,1,0,0,1],[9]⟩,⟨9,[(0,.v eU),(3,.v I)],[1,1,0,1,0,0],[]⟩],none⟩
theorem adf(K ρ):(rP N).bd K ρ 19=eA.xp N ((rP N).kc ρ 9) ((rP N).kc ρ 19):=κ
theorem adg(ρ):(rP N).kc ((rP N).ca ρ) 19=eA.l9 N ((rP N).kc ρ 9) N:=Fx.uL [] (adf N) ρ (eA.l9 N ((rP N).kc ρ 9)) λn ρ' e d=>by rw[e,d 9 rfl];rfl
theorem adh(K ρ):(rP N).bd K ρ 16=eA.Wu N ((rP N).kc K 19) ((rP N).kc ρ 9):=κ
theorem adi(ρ):(rP N).kc ((rP N).ca ρ) 16=eA.j8 N ((rP N).kc ρ 9):=Fx.uJ [19] (adh N) ρ (by rw[adg];rfl)
theorem ajN(K ρ):(rP N).bd K ρ 9=eA.dv N ((rP N).kc K 16) ((rP N).kc ρ 9):=κ
theorem ajO(ρ):(rP N).kc ((rP N).ca ρ) 9=eA.l4 N N:=Fx.uL [16,19] (ajN N) ρ (eA.l4 N) λn ρ' e d=>by rw[adi,e];rfl
theorem auf(K):(rP N).top K=eA.b N ((rP N).kc K 9):=κ
def Yw:Kn Tryz.prog:=⟨282,(rP N).S true (eA N),Fx.u1 (rP N) aF Tryz.func282 [9] (auf N) (by rw[ajO];rfl)⟩
def OW:Fx:=⟨32,tab,Kn.l [Yw N],N,Tryz.f274,[.v eU,.v I],[.own ej],[⟨11,[(0,.v eU),(1,.v I),(5,.own ej),(6,.v I)],[1,1,1,0,1,0,0],[]⟩],none⟩
theorem adj(K ρ):(OW N).bd K ρ 11=o4.dV N ((OW N).kc ρ 11):=κ
theorem adk(ρ):(OW N).kc ((OW N).ca ρ) 11=o4.l5 N N:=Fx.uL [] (adj N) ρ (o4.l5 N) λn ρ' e d=>by rw[e];rfl
theorem aug(K):(OW N).top K=o4.b N ((OW N).kc K 11):=κ
def auh:Kn Tryz.prog:=⟨274,(OW N).S false (o4 N),Fx.u1 (OW N) aF Tryz.func274 [11] (aug N) (by rw[adk];rfl)⟩
def apb:Fx:=⟨66,tab,[],N,Tryz.f275,[.v dr,.v I],[.v B],[],none⟩
def aui:Kn Tryz.prog:=⟨275,(apb N).S true (aaF N),Fx.u0 (apb N) aF Tryz.func275⟩
def apc:Fx:=⟨9,tab,Kn.l [k22 N],N,Tryz.f151,[.v aK,.v I],[.v I],[],none⟩
def adl:Kn Tryz.prog:=⟨151,(apc N).S true (Hz N),Fx.u0 (apc N) aF Tryz.func151⟩
def OX:Fx:=⟨56,tab,Kn.l [acj N,y4 N,k33 N,YP N,Q2 N],N,Tryz.f214,[.v aA,.v dk,.v B],[.v cV,.v I],[⟨11,[(1,.v dk),(2,.v B),(3,.obj aA),(6,.obj cV),(8,.obj cV),(9,.v I)],[1,1,1,0,1,0,0],[]⟩],none⟩
theorem adm(K ρ):(OX N).bd K ρ 11=ll.dV N ((OX N).kc ρ 11):=κ
theorem adn(ρ):(OX N).kc ((OX N).ca ρ) 11=ll.l5 N N:=Fx.uL [] (adm N) ρ (ll.l5 N) λn ρ' e d=>by rw[e];rfl
theorem auj(K):(OX N).top K=ll.b N ((OX N).kc K 11):=κ
def apd:Kn Tryz.prog:=⟨214,(OX N).S false (ll N),Fx.u1 (OX N) aF Tryz.func214 [11] (auj N) (by rw[adn];rfl)⟩
def ape:Fx:=⟨11,tab,Kn.l [apd N],N,Tryz.f316,[.v aA,.v dk],[.v cV,.v I],[],none⟩
def auk:Kn Tryz.prog:=⟨316,(ape N).S false (ahS N),Fx.u0 (ape N) aF Tryz.func316⟩
def apf:Fx:=⟨9,tab,Kn.l [Yt N],N,Tryz.f149,[.v aK,.v I],[.v I],[],none⟩
def ado:Kn Tryz.prog:=⟨149,(apf N).S true (Hr N),Fx.u0 (apf N) aF Tryz.func149⟩
def apg:Fx:=⟨69,tab,Kn.l [Jo N,k48 N,adl N,UG N,auk N,ado N,y4 N,k30 N],N,Tryz.f297,[.v aA,.v aK,.v I,.v I,.v I],[.v I],[],none⟩
def aul:Kn Tryz.prog:=⟨297,(apg N).S true (aau N),Fx.u0 (apg N) aF Tryz.func297⟩
def OY:Fx:=⟨61,tab,Kn.l [ai1 N,abT N,k70 N],N,Tryz.f298,[.v dk,.v eU,.v I,.v I],[.own ej,.v I],[⟨27,[(2,.v I),(3,.v I),(13,.own ej),(14,.v I)],[1,1,1,1,1,1,1,1,0,1,0,0],[]⟩],none⟩
theorem adp(K ρ):(OY N).bd K ρ 27=ns.mE N ((OY N).kc ρ 27):=κ
theorem adq(ρ):(OY N).kc ((OY N).ca ρ) 27=ns.nG N N:=Fx.uL [] (adp N) ρ (ns.nG N) λn ρ' e d=>by rw[e];rfl
theorem aum(K):(OY N).top K=ns.b N ((OY N).kc K 27):=κ
def aun:Kn Tryz.prog:=⟨298,(OY N).S false (ns N),Fx.u1 (OY N) aF Tryz.func298 [27] (aum N) (by rw[adq];rfl)⟩
def aph:Fx:=⟨42,tab,Kn.l [aul N,aun N],N,Tryz.f283,[.v aA,.v aK,.v I,.v I,.v I],[.v aK,.v I],[],none⟩
def auo:Kn Tryz.prog:=⟨283,(aph N).S false (T2 N),Fx.u0 (aph N) aF Tryz.func283⟩
def api:Fx:=⟨11,tab,Kn.l [apd N],N,Tryz.f147,[.v aA,.v dk],[.v cV,.v I],[],none⟩
def apj:Kn Tryz.prog:=⟨147,(api N).S false (Qi N),Fx.u0 (api N) aF Tryz.func147⟩
def X60:Fx:=⟨55,tab,Kn.l [Jo N,k48 N,UG N,apj N,ado N,Gx N],N,Tryz.f60,[.v aA,.v aK,.v I],[.v I,.v I],[],none⟩
def k60:Kn Tryz.prog:=⟨60,(X60 N).S true (F60 N),Fx.u0 (X60 N) aF Tryz.func60⟩
def OZ:Fx:=⟨76,tab,Kn.l [k84 N],N,Tryz.f153,[.v cM,.v I,.v I],[.own jk],[⟨11,[(0,.v cM),(1,.v I),(2,.v I),(7,.own jk),(8,.v I)],[1,1,1,0,1,0,0],[]⟩],none⟩
theorem ads(K ρ):(OZ N).bd K ρ 11=iL.dV N ((OZ N).kc ρ 11):=κ
theorem adt(ρ):(OZ N).kc ((OZ N).ca ρ) 11=iL.l5 N N:=Fx.uL [] (ads N) ρ (iL.l5 N) λn ρ' e d=>by rw[e];rfl
theorem aup(K):(OZ N).top K=iL.b N ((OZ N).kc K 11):=κ
def auq:Kn Tryz.prog:=⟨153,(OZ N).S false (iL N),Fx.u1 (OZ N) aF Tryz.func153 [11] (aup N) (by rw[adt];rfl)⟩
def Su:Fx:=⟨86,tab,Kn.l [Jo N,adl N,k60 N,y4 N,Yv N,ado N,k52 N,auq N,OJ N],N,Tryz.f61,[.v aA,.v aK,.v I],[.v aK,.v I],[⟨30,[(2,.v I),(3,.obj aA),(4,.obj aK),(6,.obj aK),(8,.own jk),(9,.own rA),(10,.v I),(11,.obj ej)],[1,1,1,1,1,0,1,0,0,1,0,0,1,1,1],[17]⟩,⟨17,[(2,.v I),(3,.obj aA),(4,.obj aK),(6,.obj aK),(8,.own jk),(9,.own rA),(10,.v I)],[1,1,1,1,1,0,1,0,0],[]⟩],none⟩
theorem ajP(K ρ):(Su N).bd K ρ 30=mF.uI N ((Su N).kc ρ 17):=κ
theorem ajQ(ρ):(Su N).kc ((Su N).ca ρ) 30=mF.AU N ((Su N).kc ρ 17):=Fx.uJ [] (ajP N) ρ
theorem ajR(K ρ):(Su N).bd K ρ 17=mF.xR N ((Su N).kc K 30) ((Su N).kc ρ 17):=κ
theorem ajS(ρ):(Su N).kc ((Su N).ca ρ) 17=mF.l8 N N:=Fx.uL [30] (ajR N) ρ (mF.l8 N) λn ρ' e d=>by rw[ajQ,e];rfl
theorem h61(K):(Su N).top K=mF.b N ((Su N).kc K 17):=κ
def k61:Kn Tryz.prog:=⟨61,(Su N).S false (mF N),Fx.u1 (Su N) aF Tryz.func61 [17] (h61 N) (by rw[ajS];rfl)⟩
def O0:Fx:=⟨48,tab,Kn.l [Jo N,k27 N,y4 N,YP N,Q2 N],N,Tryz.f299,[.v aA,.v aK],[.own cV,.v I],[⟨11,[(2,.obj aA),(3,.obj aK),(6,.own cV),(7,.v I)],[1,1,1,0,1,0,0],[]⟩],none⟩
theorem adu(K ρ):(O0 N).bd K ρ 11=q7.dV N ((O0 N).kc ρ 11):=κ
theorem adv(ρ):(O0 N).kc ((O0 N).ca ρ) 11=q7.l5 N N:=Fx.uL [] (adu N) ρ (q7.l5 N) λn ρ' e d=>by rw[e];rfl
theorem aur(K):(O0 N).top K=q7.b N ((O0 N).kc K 11):=κ
def aus:Kn Tryz.prog:=⟨299,(O0 N).S false (q7 N),Fx.u1 (O0 N) aF Tryz.func299 [11] (aur N) (by rw[adv];rfl)⟩
def O1:Fx:=⟨31,tab,Kn.l [Q1 N],N,Tryz.f300,[.v aA,.v I],[.own I],[⟨11,[(1,.v I),(2,.obj aA),(5,.own I),(6,.v I)],[1,1,1,0,1,0,0],[]⟩],none⟩
theorem adw(K ρ):(O1 N).bd K ρ 11=oV.dV N ((O1 N).kc ρ 11):=κ
theorem adx(ρ):(O1 N).kc ((O1 N).ca ρ) 11=oV.l5 N N:=Fx.uL [] (adw N) ρ (oV.l5 N) λn ρ' e d=>by rw[e];rfl
theorem aut(K):(O1 N).top K=oV.b N ((O1 N).kc K 11):=κ
def auu:Kn Tryz.prog:=⟨300,(O1 N).S false (oV N),Fx.u1 (O1 N) aF Tryz.func300 [11] (aut N) (by rw[adx];rfl)⟩
def O2:Fx:=⟨35,tab,Kn.l [ai9 N],N,Tryz.f317,[.v LU],[.v LU,.v U],[⟨9,[(0,.v LU),(4,.own U),(5,.v U),(6,.v I)],[1,1,1,0,1,0,0],[]⟩],none⟩
theorem ajT(K ρ):(O2 N).bd K ρ 9=pk.dv N ((O2 N).kc ρ 9):=κ
theorem ajU(ρ):(O2 N).kc ((O2 N).ca ρ) 9=pk.l4 N N:=Fx.uL [] (ajT N) ρ (pk.l4 N) λn ρ' e d=>by rw[e];rfl
theorem auv(K):(O2 N).top K=pk.b N ((O2 N).kc K 9):=κ
def auw:Kn Tryz.prog:=⟨317,(O2 N).S false (pk N),Fx.u1 (O2 N) aF Tryz.func317 [9] (auv N) (by rw[ajU];rfl)⟩
def BR:Fx:=⟨77,tab,Kn.l [auw N,Q2 N,y4 N,k30 N,k34 N,k44 N,k52 N],N,Tryz.f301,[.v cV,.v cV],[.v cV,.v cV],[⟨19,[(2,.obj cV),(3,.obj cV),(4,.obj cV),(5,.obj cV),(6,.own U),(10,.obj cV),(11,.obj cV),(12,.v I)],[1,1,1,1,0,1,0,0],[]⟩,⟨7,[(2,.obj cV),(3,.obj cV),(4,.obj cV),(5,.obj cV),(6,.own U),(7,.v LU)],[1,1,0,1,0,0],[]⟩],none⟩
theorem ady(K ρ):(BR N).bd K ρ 19=il.xp N ((BR N).kc ρ 19):=κ
theorem adz(ρ):(BR N).kc ((BR N).ca ρ) 19=il.l9 N N:=Fx.uL [] (ady N) ρ (il.l9 N) λn ρ' e d=>by rw[e];rfl
theorem ajV(K ρ):(BR N).bd K ρ 7=il.nC N ((BR N).kc K 19) ((BR N).kc ρ 7):=κ
theorem ajW(ρ):(BR N).kc ((BR N).ca ρ) 7=il.l3 N N:=Fx.uL [19] (ajV N) ρ (il.l3 N) λn ρ' e d=>by rw[adz,e];rfl
theorem auy(K):(BR N).top K=il.b N ((BR N).kc K 7):=κ
def apk:Kn Tryz.prog:=⟨301,(BR N).S false (il N),Fx.u1 (BR N) aF Tryz.func301 [7,19] (auy N) (by rw[ajW];rfl)⟩
def AP:Fx:=⟨104,tab,Kn.l [aus N,auu N,k33 N,y4 N,k30 N,apk N,Gx N,k44 N],N,Tryz.f284,[.v aA,.v aK,.v I],[.own ej,.v I],[⟨30,[(2,.v I),(3,.obj aA),(4,.obj aK),(8,.own cV),(10,.own ej),(11,.v I),(12,.own I),(16,.v I)],[1,1,1,1,0,1,0,0,1,0,0,1,1,1,1,1,1],[13]⟩,⟨13,[(2,.v I),(3,.obj aA),(4,.obj aK),(8,.own cV),(10,.own ej),(11,.v I)],[1,1,1,1,0,1,0,0],[]⟩],none⟩
theorem adA(K ρ):(AP N).bd K ρ 30=iM.uI N ((AP N).kc ρ 13):=κ
theorem adB(ρ):(AP N).kc ((AP N).ca ρ) 30=iM.AU N ((AP N).kc ρ 13):=Fx.uJ [] (adA N) ρ
theorem adC(K ρ):(AP N).bd K ρ 13=iM.ud N ((AP N).kc K 30) ((AP N).kc ρ 13):=κ
theorem adD(ρ):(AP N).kc ((AP N).ca ρ) 13=iM.l6 N N:=Fx.uL [30] (adC N) ρ (iM.l6 N) λn ρ' e d=>by rw[adB,e];rfl
theorem auz(K):(AP N).top K=iM.b N ((AP N).kc K 13):=κ
def auA:Kn Tryz.prog:=⟨284,(AP N).S false (iM N),Fx.u1 (AP N) aF Tryz.func284 [13] (auz N) (by rw[adD];rfl)⟩
def apl:Fx:=⟨41,tab,[],N,Tryz.f318,[.v ej],[.v B],[],none⟩
def auB:Kn Tryz.prog:=⟨318,(apl N).S true (aaf N),Fx.u0 (apl N) aF Tryz.func318⟩
def Q4:Fx:=⟨113,tab,Kn.l [Jo N,auB N,aoV N,ao2 N],N,Tryz.f302,[.v aA,.v aK,.v ej,.v I,.v I,.v I],[.v aK,.v ej,.v I],[⟨28,[(4,.v I),(6,.obj aA),(7,.obj aK),(8,.obj ej),(12,.obj aK),(13,.obj ej),(17,.obj sL)],[1,1,1,1,1,1,1,1],[]⟩],none⟩
theorem adE(K ρ):(Q4 N).bd K ρ 28=pA.Nq N:=κ
theorem adF(ρ):(Q4 N).kc ((Q4 N).ca ρ) 28=pA.UR N:=Fx.uJ [] (adE N) ρ
theorem auC(K):(Q4 N).top K=pA.b N ((Q4 N).kc K 28):=κ
def auD:Kn Tryz.prog:=⟨302,(Q4 N).S false (pA N),Fx.u1 (Q4 N) aF Tryz.func302 [28] (auC N) (by rw[adF];rfl)⟩
def O3:Fx:=⟨77,tab,Kn.l [auD N,abO N],N,Tryz.f285,[.v aA,.v dr,.v kO],[.v dr,.v jk],[⟨11,[(3,.obj aA),(4,.obj dr),(5,.obj kO),(6,.obj dr),(7,.obj jk),(8,.own ej),(9,.v B),(10,.v I),(11,.v I)],[1,1,1,1,0,1,0,0],[]⟩],none⟩
theorem adG(K ρ):(O3 N).bd K ρ 11=ny.dV N ((O3 N).kc ρ 11):=κ
theorem adH(ρ):(O3 N).kc ((O3 N).ca ρ) 11=ny.l5 N N:=Fx.uL [] (adG N) ρ (ny.l5 N) λn ρ' e d=>by rw[e];rfl
theorem auE(K):(O3 N).top K=ny.b N ((O3 N).kc K 11):=κ
def auF:Kn Tryz.prog:=⟨285,(O3 N).S false (ny N),Fx.u1 (O3 N) aF Tryz.func285 [11] (auE N) (by rw[adH];rfl)⟩
def O4:Fx:=⟨28,tab,Kn.l [k44 N,y4 N,YP N,k30 N],N,Tryz.f303,[.v cV,.v I],[.v I],[⟨9,[(1,.v I),(2,.obj cV),(5,.v I)],[1,1,1,0,0,0],[]⟩],none⟩
theorem ajX(K ρ):(O4 N).bd K ρ 9=ri.dv N ((O4 N).kc ρ 9):=κ
theorem ajY(ρ):(O4 N).kc ((O4 N).ca ρ) 9=ri.l4 N N:=Fx.uL [] (ajX N) ρ (ri.l4 N) λn ρ' e d=>by rw[e];rfl
theorem auG(K):(O4 N).top K=ri.b N ((O4 N).kc K 9):=κ
def auH:Kn Tryz.prog:=⟨303,(O4 N).S true (ri N),Fx.u1 (O4 N) aF Tryz.func303 [9] (auG N) (by rw[ajY];rfl)⟩
def O5:Fx:=⟨24,tab,[],N,Tryz.f329,[.v I,.v LI],[.v B],[⟨9,[(1,.v LI),(5,.v I)],[1,1,0,1,0,0],[]⟩],none⟩
theorem ajZ(K ρ):(O5 N).bd K ρ 9=py.dv N ((O5 N).kc ρ 9):=κ
theorem aj0(ρ):(O5 N).kc ((O5 N).ca ρ) 9=py.l4 N N:=Fx.uL [] (ajZ N) ρ (py.l4 N) λn ρ' e d=>by rw[e];rfl
theorem auI(K):(O5 N).top K=py.b N ((O5 N).kc K 9):=κ
def apm:Kn Tryz.prog:=⟨329,(O5 N).S true (py N),Fx.u1 (O5 N) aF Tryz.func329 [9] (auI N) (by rw[aj0];rfl)⟩
def O6:Fx:=⟨19,tab,Kn.l [y4 N,Q2 N],N,Tryz.f327,[.v LI],[.v cV],[⟨7,[(0,.v LI),(2,.obj cV),(3,.obj cV),(4,.v I)],[1,1,0,1,0,0],[]⟩],none⟩
theorem aj1(K ρ):(O6 N).bd K ρ 7=ph.nC N ((O6 N).kc ρ 7):=κ
theorem aj2(ρ):(O6 N).kc ((O6 N).ca ρ) 7=ph.l3 N N:=Fx.uL [] (aj1 N) ρ (ph.l3 N) λn ρ' e d=>by rw[e];rfl
theorem auJ(K):(O6 N).top K=ph.b N ((O6 N).kc K 7):=κ
def aj3:Kn Tryz.prog:=⟨327,(O6 N).S false (ph N),Fx.u1 (O6 N) aF Tryz.func327 [7] (auJ N) (by rw[aj2];rfl)⟩
def rQ:Fx:=⟨48,tab,[],N,Tryz.f330,[.v LI],[.own I],[⟨16,[(0,.v LI),(3,.own I),(4,.v I),(5,.v I)],[1,1,0,1,0,0,1,0,0,1,1],[7]⟩,⟨13,[(0,.v LI),(3,.own I),(4,.v I),(5,.v I)],[1,1,0,1,0,0,1,0,0,1,0,0,0],[7]⟩,⟨7,[(0,.v LI),(3,.own I),(4,.v I)],[1,1,0,1,0,0],[]⟩],none⟩
theorem adI(K ρ):(rQ N).bd K ρ 16=fy.Wu N ((rQ N).kc ρ 7):=κ
theorem adJ(ρ):(rQ N).kc ((rQ N).ca ρ) 16=fy.j8 N ((rQ N).kc ρ 7):=Fx.uJ [] (adI N) ρ
theorem adK(K ρ):(rQ N).bd K ρ 13=fy.ud N ((rQ N).kc K 16) ((rQ N).kc ρ 7) ((rQ N).kc ρ 13):=κ
theorem adL(ρ):(rQ N).kc ((rQ N).ca ρ) 13=fy.l6 N ((rQ N).kc ρ 7) N:=Fx.uL [16] (adK N) ρ (fy.l6 N ((rQ N).kc ρ 7)) λn ρ' e d=>by rw[adJ,e,d 7 rfl];rfl
theorem aj4(K ρ):(rQ N).bd K ρ 7=fy.nC N ((rQ N).kc K 13) ((rQ N).kc ρ 7):=κ
theorem aj5(ρ):(rQ N).kc ((rQ N).ca ρ) 7=fy.l3 N N:=Fx.uL [13,16] (aj4 N) ρ (fy.l3 N) λn ρ' e d=>by rw[adL,e];rfl
theorem auK(K):(rQ N).top K=fy.b N ((rQ N).kc K 7):=κ
def auL:Kn Tryz.prog:=⟨330,(rQ N).S false (fy N),Fx.u1 (rQ N) aF Tryz.func330 [7] (auK N) (by rw[aj5];rfl)⟩
def xb:Fx:=⟨112,tab,Kn.l [apm N,aj3 N,k44 N,Gx N,y4 N,YP N,apk N,auL N],N,Tryz.f319,[.v I,.v LI],[.own I,.v I],[⟨45,[(9,.own I),(11,.v I),(15,.own I),(16,.v I)],[1,1,1,1,1,1,1,1,1,1,0,1,0,0],[]⟩,⟨29,[(0,.v I),(1,.v LI),(6,.obj cV),(9,.own I),(10,.own I),(11,.v I),(12,.v I)],[1,1,1,1,1,1,1,1,0,1,0,0],[]⟩,⟨12,[(0,.v I),(1,.v LI),(6,.obj cV)],[1,1,1,1],[]⟩],none⟩
theorem adM(K ρ):(xb N).bd K ρ 45=fL.vl N ((xb N).kc ρ 45):=κ
theorem adN(ρ):(xb N).kc ((xb N).ca ρ) 45=fL.wF N N:=Fx.uL [] (adM N) ρ (fL.wF N) λn ρ' e d=>by rw[e];rfl
theorem adO(K ρ):(xb N).bd K ρ 29=fL.FL N ((xb N).kc K 45) ((xb N).kc ρ 29):=κ
theorem adP(ρ):(xb N).kc ((xb N).ca ρ) 29=fL.IG N N:=Fx.uL [45] (adO N) ρ (fL.IG N) λn ρ' e d=>by rw[adN,e];rfl
theorem adQ(K ρ):(xb N).bd K ρ 12=fL.Tj N ((xb N).kc K 29):=κ
theorem adR(ρ):(xb N).kc ((xb N).ca ρ) 12=fL.j6 N:=Fx.uJ [29,45] (adQ N) ρ (by rw[adP];rfl)
theorem auM(K):(xb N).top K=fL.b N ((xb N).kc K 12):=κ
def aj6:Kn Tryz.prog:=⟨319,(xb N).S false (fL N),Fx.u1 (xb N) aF Tryz.func319 [12,29,45] (auM N) (by rw[adR];rfl)⟩
def O7:Fx:=⟨33,tab,Kn.l [aj6 N],N,Tryz.f304,[.v I,.v I],[.own I,.v I],[⟨11,[(0,.v I),(1,.v I),(6,.own I),(7,.v I)],[1,1,1,0,1,0,0],[]⟩],none⟩
theorem adS(K ρ):(O7 N).bd K ρ 11=q4.dV N ((O7 N).kc ρ 11):=κ
theorem adT(ρ):(O7 N).kc ((O7 N).ca ρ) 11=q4.l5 N N:=Fx.uL [] (adS N) ρ (q4.l5 N) λn ρ' e d=>by rw[e];rfl
theorem auN(K):(O7 N).top K=q4.b N ((O7 N).kc K 11):=κ
def auO:Kn Tryz.prog:=⟨304,(O7 N).S false (q4 N),Fx.u1 (O7 N) aF Tryz.func304 [11] (auN N) (by rw[adT];rfl)⟩
def fB:Fx:=⟨175,tab,Kn.l [Jo N,UG N,y4 N,k33 N,Q2 N,auH N,auO N,apj N,k52 N,Gx N],N,Tryz.f286,[.v aA,.v aK,.v I],[.own jc,.v I],[⟨64,[(2,.v I),(3,.obj aA),(8,.own js),(9,.own jc),(10,.v I),(11,.own js),(14,.v I),(15,.v I),(16,.ga jc [.kq 1] js),(17,.v I),(19,.own I)],[1,1,1,1,1,0,1,0,0,1,0,0,1,1,1,1,1,0,0,1,0,0,1,0,1,0,0,1,0,0,1,1,1,1],[17,41,49]⟩,⟨58,[(2,.v I),(3,.obj aA),(8,.own js),(9,.own jc),(10,.v I),(11,.own js),(14,.v I),(15,.v I),(16,.ga jc [.kq 1] js),(17,.v I),(18,.v I)],[1,1,1,1,1,0,1,0,0,1,0,0,1,1,1,1,1,0,0,1,0,0,1,0,1,0,0,1,0,0,1,1],[17,41,49]⟩,⟨49,[(2,.v I),(3,.obj aA),(8,.own js),(9,.own jc),(10,.v I),(11,.own js),(14,.v I),(15,.v I),(16,.ga jc [.kq 1] js),(17,.v I)],[1,1,1,1,1,0,1,0,0,1,0,0,1,1,1,1,1,0,0,1,0,0,1,0,1,0,0],[17,41]⟩,⟨41,[(2,.v I),(3,.obj aA),(8,.own js),(9,.own jc),(10,.v I),(11,.own js),(14,.v I),(15,.v I)],[1,1,1,1,1,0,1,0,0,1,0,0,1,1,1,1,1,0,0],[17]⟩,⟨27,[(2,.v I),(3,.obj aA),(8,.own js),(9,.own jc),(10,.v I),(11,.own js),(12,.obj cV),(13,.v I)],[1,1,1,1,1,0,1,0,0,1,0,0,1,1,0,1,0,0],[17]⟩,⟨17,[(2,.v I),(3,.obj aA),(8,.own js),(9,.own jc),(10,.v I)],[1,1,1,1,1,0,1,0,0],[]⟩],some (jc,[.kq 1],js,[16])⟩
theorem adU(K ρ):(fB N).bd K ρ 64=bR.ahU N ((fB N).kc ρ 17) ((fB N).kc ρ 41) ((fB N).kc ρ 49):=κ
theorem adV(ρ):(fB N).kc ((fB N).ca ρ) 64=bR.j32 N ((fB N).kc ρ 17) ((fB N).kc ρ 41) ((fB N).kc ρ 49):=Fx.uJ [] (adU N) ρ
theorem adW(K ρ):(fB N).bd K ρ 58=bR.Nz N ((fB N).kc K 64) ((fB N).kc ρ 17) ((fB N).kc ρ 41) ((fB N).kc ρ 49):=κ
theorem adX(ρ):(fB N).kc ((fB N).ca ρ) 58=bR.T7 N ((fB N).kc ρ 17) ((fB N).kc ρ 41) ((fB N).kc ρ 49):=Fx.uJ [64] (adW N) ρ (by rw[adV];rfl)
theorem adY(K ρ):(fB N).bd K ρ 49=bR.Nu N ((fB N).kc K 58) ((fB N).kc ρ 17) ((fB N).kc ρ 41) ((fB N).kc ρ 49):=κ
theorem adZ(ρ):(fB N).kc ((fB N).ca ρ) 49=bR.La N ((fB N).kc ρ 17) ((fB N).kc ρ 41) N:=Fx.uL [58,64] (adY N) ρ (bR.La N ((fB N).kc ρ 17) ((fB N).kc ρ 41)) λn ρ' e d=>by rw[adX,e,d 17 rfl,d 41 rfl];rfl
theorem ad0(K ρ):(fB N).bd K ρ 41=bR.Ny N ((fB N).kc K 49) ((fB N).kc ρ 17) ((fB N).kc ρ 41):=κ
theorem ad1(ρ):(fB N).kc ((fB N).ca ρ) 41=bR.HA N ((fB N).kc ρ 17) N:=Fx.uL [49] (ad0 N) ρ (bR.HA N ((fB N).kc ρ 17)) λn ρ' e d=>by rw[adZ,e,d 17 rfl];rfl
theorem ad2(K ρ):(fB N).bd K ρ 27=bR.mE N ((fB N).kc K 41) ((fB N).kc ρ 17) ((fB N).kc ρ 27):=κ
theorem ad3(ρ):(fB N).kc ((fB N).ca ρ) 27=bR.nG N ((fB N).kc ρ 17) N:=Fx.uL [41] (ad2 N) ρ (bR.nG N ((fB N).kc ρ 17)) λn ρ' e d=>by rw[ad1,e,d 17 rfl];rfl
theorem ad4(K ρ):(fB N).bd K ρ 17=bR.xR N ((fB N).kc K 27) ((fB N).kc ρ 17):=κ
theorem ad5(ρ):(fB N).kc ((fB N).ca ρ) 17=bR.l8 N N:=Fx.uL [27,41] (ad4 N) ρ (bR.l8 N) λn ρ' e d=>by rw[ad3,e];rfl
theorem auP(K):(fB N).top K=bR.b N ((fB N).kc K 17):=κ
def auQ:Kn Tryz.prog:=⟨286,(fB N).S false (bR N),Fx.u1 (fB N) aF Tryz.func286 [17] (auP N) (by rw[ad5];rfl)⟩
def O8:Fx:=⟨48,tab,Kn.l [Jo N,Yt N],N,Tryz.f287,[.v aA,.v aK],[.own I,.v I],[⟨11,[(3,.obj aK),(6,.own I),(7,.v I)],[1,1,1,0,1,0,0],[]⟩],none⟩
theorem ad6(K ρ):(O8 N).bd K ρ 11=rj.dV N ((O8 N).kc ρ 11):=κ
theorem ad7(ρ):(O8 N).kc ((O8 N).ca ρ) 11=rj.l5 N N:=Fx.uL [] (ad6 N) ρ (rj.l5 N) λn ρ' e d=>by rw[e];rfl
theorem auR(K):(O8 N).top K=rj.b N ((O8 N).kc K 11):=κ
def auS:Kn Tryz.prog:=⟨287,(O8 N).S false (rj N),Fx.u1 (O8 N) aF Tryz.func287 [11] (auR N) (by rw[ad7];rfl)⟩
def AQ:Fx:=⟨99,tab,Kn.l [Q1 N,acj N],N,Tryz.f306,[.v aA,.v lz],[.v B],[⟨18,[(1,.v lz),(2,.obj aA),(5,.v I),(6,.obj jc)],[1,1,0,1,0,0,1,0,0,1,1],[9]⟩,⟨9,[(1,.v lz),(2,.obj aA),(5,.v I)],[1,1,0,1,0,0],[]⟩],none⟩
theorem ad8(K ρ):(AQ N).bd K ρ 18=iK.MP N ((AQ N).kc ρ 9):=κ
theorem ad9(ρ):(AQ N).kc ((AQ N).ca ρ) 18=iK.j9 N ((AQ N).kc ρ 9):=Fx.uJ [] (ad8 N) ρ
theorem aj7(K ρ):(AQ N).bd K ρ 9=iK.dv N ((AQ N).kc K 18) ((AQ N).kc ρ 9):=κ
theorem aj8(ρ):(AQ N).kc ((AQ N).ca ρ) 9=iK.l4 N N:=Fx.uL [18] (aj7 N) ρ (iK.l4 N) λn ρ' e d=>by rw[ad9,e];rfl
theorem auT(K):(AQ N).top K=iK.b N ((AQ N).kc K 9):=κ
def aj9:Kn Tryz.prog:=⟨306,(AQ N).S true (iK N),Fx.u1 (AQ N) aF Tryz.func306 [9] (auT N) (by rw[aj8];rfl)⟩
def O9:Fx:=⟨25,tab,[],N,Tryz.f320,[.v lz,.v I],[.v jc,.v B],[⟨5,[(0,.v lz),(1,.v I),(4,.obj jc),(6,.v I)],[1,0,1,0,0],[]⟩],none⟩
theorem aka(K ρ):(O9 N).bd K ρ 5=p6.gD N ((O9 N).kc ρ 5):=κ
theorem akb(ρ):(O9 N).kc ((O9 N).ca ρ) 5=p6.l2 N N:=Fx.uL [] (aka N) ρ (p6.l2 N) λn ρ' e d=>by rw[e];rfl
theorem auU(K):(O9 N).top K=p6.b N ((O9 N).kc K 5):=κ
def apn:Kn Tryz.prog:=⟨320,(O9 N).S false (p6 N),Fx.u1 (O9 N) aF Tryz.func320 [5] (auU N) (by rw[akb];rfl)⟩
def qb:Fx:=⟨75,tab,Kn.l [y4 N,Q2 N,aoA N],N,Tryz.f321,[.v dk,.v dk],[.own js,.v B],[⟨25,[(0,.v dk),(1,.v dk),(6,.own js),(7,.v I),(8,.obj cV),(10,.v I)],[1,1,0,1,0,0,1,0,0,1,1,0,1,0,0],[7]⟩,⟨15,[(0,.v dk),(1,.v dk),(6,.own js),(7,.v I),(8,.obj cV),(9,.v I)],[1,1,0,1,0,0,1,0,0,1,0,1,0,0],[7]⟩,⟨7,[(0,.v dk),(1,.v dk),(6,.own js),(7,.v I)],[1,1,0,1,0,0],[]⟩],none⟩
theorem aea(K ρ):(qb N).bd K ρ 25=eM.pt N ((qb N).kc ρ 7) ((qb N).kc ρ 25):=κ
theorem aeb(ρ):(qb N).kc ((qb N).ca ρ) 25=eM.pX N ((qb N).kc ρ 7) N:=Fx.uL [] (aea N) ρ (eM.pX N ((qb N).kc ρ 7)) λn ρ' e d=>by rw[e,d 7 rfl];rfl
theorem aec(K ρ):(qb N).bd K ρ 15=eM.pj N ((qb N).kc K 25) ((qb N).kc ρ 7) ((qb N).kc ρ 15):=κ
theorem aed(ρ):(qb N).kc ((qb N).ca ρ) 15=eM.l7 N ((qb N).kc ρ 7) N:=Fx.uL [25] (aec N) ρ (eM.l7 N ((qb N).kc ρ 7)) λn ρ' e d=>by rw[aeb,e,d 7 rfl];rfl
theorem akc(K ρ):(qb N).bd K ρ 7=eM.nC N ((qb N).kc K 15) ((qb N).kc ρ 7):=κ
theorem akd(ρ):(qb N).kc ((qb N).ca ρ) 7=eM.l3 N N:=Fx.uL [15,25] (akc N) ρ (eM.l3 N) λn ρ' e d=>by rw[aed,e];rfl
theorem auV(K):(qb N).top K=eM.b N ((qb N).kc K 7):=κ
def auW:Kn Tryz.prog:=⟨321,(qb N).S false (eM N),Fx.u1 (qb N) aF Tryz.func321 [7] (auV N) (by rw[akd];rfl)⟩
def apo:Fx:=⟨11,tab,Kn.l [UF N,ajB N],N,Tryz.f322,[.v o8,.v I],[.own jk],[],none⟩
def auX:Kn Tryz.prog:=⟨322,(apo N).S false (ahT N),Fx.u0 (apo N) aF Tryz.func322⟩
def Dz:Fx:=⟨157,tab,Kn.l [Jo N,aj9 N,Yw N,apa N,adl N,apn N,Yu N,y4 N,YP N,k30 N,UG N,auW N,auX N,aoN N,ado N,k34 N],N,Tryz.f305,[.v aA,.v aK,.v lz,.v eU,.v ej],[.v I],[⟨27,[(3,.v eU),(5,.obj aA),(6,.obj aK),(9,.obj ej),(12,.obj jc),(14,.v I),(15,.v I)],[1,1,1,1,1,1,1,1,0,1,0,0],[]⟩,⟨6,[(2,.v lz),(3,.v eU),(5,.obj aA),(6,.obj aK),(9,.obj ej)],[1,1],[]⟩],none⟩
theorem aee(K ρ):(Dz N).bd K ρ 27=kJ.mE N ((Dz N).kc ρ 27):=κ
theorem aef(ρ):(Dz N).kc ((Dz N).ca ρ) 27=kJ.nG N N:=Fx.uL [] (aee N) ρ (kJ.nG N) λn ρ' e d=>by rw[e];rfl
theorem ake(K ρ):(Dz N).bd K ρ 6=kJ.j3b N ((Dz N).kc K 27):=κ
theorem akf(ρ):(Dz N).kc ((Dz N).ca ρ) 6=kJ.j3 N:=Fx.uJ [27] (ake N) ρ (by rw[aef];rfl)
theorem auY(K):(Dz N).top K=kJ.b N ((Dz N).kc K 6):=κ
def auZ:Kn Tryz.prog:=⟨305,(Dz N).S true (kJ N),Fx.u1 (Dz N) aF Tryz.func305 [6,27] (auY N) (by rw[akf];rfl)⟩
def apq:Fx:=⟨28,tab,Kn.l [auZ N],N,Tryz.f288,[.v aA,.v aK,.v lz,.v eU,.v ej],[.own ej,.v I],[],none⟩
def au0:Kn Tryz.prog:=⟨288,(apq N).S false (aaw N),Fx.u0 (apq N) aF Tryz.func288⟩
def Pb:Fx:=⟨46,tab,Kn.l [Yw N],N,Tryz.f307,[.v eU,.v I],[.v ej,.v B],[⟨13,[(0,.v eU),(1,.v I),(4,.obj ej),(6,.obj ej),(7,.v B),(8,.v I)],[1,1,1,1,0,1,0,0],[]⟩],none⟩
theorem aeg(K ρ):(Pb N).bd K ρ 13=rq.ud N ((Pb N).kc ρ 13):=κ
theorem aeh(ρ):(Pb N).kc ((Pb N).ca ρ) 13=rq.l6 N N:=Fx.uL [] (aeg N) ρ (rq.l6 N) λn ρ' e d=>by rw[e];rfl
theorem au1(K):(Pb N).top K=rq.b N ((Pb N).kc K 13):=κ
def au2:Kn Tryz.prog:=⟨307,(Pb N).S true (rq N),Fx.u1 (Pb N) aF Tryz.func307 [13] (au1 N) (by rw[aeh];rfl)⟩
def ya:Fx:=⟨158,tab,Kn.l [Jo N,aj9 N,Yw N,au2 N,Yu N,adl N,y4 N,Yv N,OJ N],N,Tryz.f289,[.v aA,.v aK,.v lz,.v eU],[.v aK,.own jc,.v I],[⟨45,[(2,.v lz),(3,.v eU),(5,.obj aK),(8,.obj aK),(11,.own jk),(12,.own rA),(13,.own jc),(14,.v I),(15,.obj jc),(16,.obj ej),(18,.v I),(19,.v I)],[1,1,1,1,1,0,1,0,0,1,0,0,1,1,1,1,1,1,1,1,0,1,0,0],[15]⟩,⟨15,[(2,.v lz),(3,.v eU),(5,.obj aK),(8,.obj aK),(11,.own jk),(12,.own rA),(13,.own jc),(14,.v I)],[1,1,1,1,1,0,1,0,0],[]⟩],none⟩
theorem aei(K ρ):(ya N).bd K ρ 45=fG.vl N ((ya N).kc ρ 15) ((ya N).kc ρ 45):=κ
theorem aej(ρ):(ya N).kc ((ya N).ca ρ) 45=fG.wF N ((ya N).kc ρ 15) N:=Fx.uL [] (aei N) ρ (fG.wF N ((ya N).kc ρ 15)) λn ρ' e d=>by rw[e,d 15 rfl];rfl
theorem aek(K ρ):(ya N).bd K ρ 15=fG.pj N ((ya N).kc K 45) ((ya N).kc ρ 15):=κ
theorem ael(ρ):(ya N).kc ((ya N).ca ρ) 15=fG.l7 N N:=Fx.uL [45] (aek N) ρ (fG.l7 N) λn ρ' e d=>by rw[aej,e];rfl
theorem au3(K):(ya N).top K=fG.b N ((ya N).kc K 15):=κ
def au4:Kn Tryz.prog:=⟨289,(ya N).S false (fG N),Fx.u1 (ya N) aF Tryz.func289 [15] (au3 N) (by rw[ael];rfl)⟩
def Pd:Fx:=⟨58,tab,[],N,Tryz.f308,[.v dk],[.v B],[⟨5,[(0,.v dk),(3,.v I)],[1,0,1,0,0],[]⟩],none⟩
theorem akg(K ρ):(Pd N).bd K ρ 5=o5.gD N ((Pd N).kc ρ 5):=κ
theorem akh(ρ):(Pd N).kc ((Pd N).ca ρ) 5=o5.l2 N N:=Fx.uL [] (akg N) ρ (o5.l2 N) λn ρ' e d=>by rw[e];rfl
theorem au5(K):(Pd N).top K=o5.b N ((Pd N).kc K 5):=κ
def aem:Kn Tryz.prog:=⟨308,(Pd N).S true (o5 N),Fx.u1 (Pd N) aF Tryz.func308 [5] (au5 N) (by rw[akh];rfl)⟩
def Pe:Fx:=⟨38,tab,[],N,Tryz.f309,[.v LI],[.v B],[⟨5,[(0,.v LI),(3,.v I)],[1,0,1,0,0],[]⟩],none⟩
theorem aki(K ρ):(Pe N).bd K ρ 5=rl.gD N ((Pe N).kc ρ 5):=κ
theorem akj(ρ):(Pe N).kc ((Pe N).ca ρ) 5=rl.l2 N N:=Fx.uL [] (aki N) ρ (rl.l2 N) λn ρ' e d=>by rw[e];rfl
theorem au6(K):(Pe N).top K=rl.b N ((Pe N).kc K 5):=κ
def au7:Kn Tryz.prog:=⟨309,(Pe N).S true (rl N),Fx.u1 (Pe N) aF Tryz.func309 [5] (au6 N) (by rw[akj];rfl)⟩
def BS:Fx:=⟨72,tab,Kn.l [apn N],N,Tryz.f310,[.v I,.v lz,.v eU],[.v I],[⟨25,[(0,.v I),(1,.v lz),(7,.v I),(12,.v I)],[1,1,1,0,1,0,0],[]⟩,⟨7,[(0,.v I),(1,.v lz),(2,.v eU),(7,.v I),(8,.v I)],[1,1,0,1,0,0],[]⟩],none⟩
theorem aen(K ρ):(BS N).bd K ρ 25=jl.pt N ((BS N).kc ρ 25):=κ
theorem aeo(ρ):(BS N).kc ((BS N).ca ρ) 25=jl.pX N N:=Fx.uL [] (aen N) ρ (jl.pX N) λn ρ' e d=>by rw[e];rfl
theorem akk(K ρ):(BS N).bd K ρ 7=jl.nC N ((BS N).kc K 25) ((BS N).kc ρ 7):=κ
theorem akl(ρ):(BS N).kc ((BS N).ca ρ) 7=jl.l3 N N:=Fx.uL [25] (akk N) ρ (jl.l3 N) λn ρ' e d=>by rw[aeo,e];rfl
theorem au8(K):(BS N).top K=jl.b N ((BS N).kc K 7):=κ
def au9:Kn Tryz.prog:=⟨310,(BS N).S true (jl N),Fx.u1 (BS N) aF Tryz.func310 [7,25] (au8 N) (by rw[akl];rfl)⟩
def lA:Fx:=⟨104,tab,Kn.l [aem N,au7 N,aj9 N,Yw N,au9 N],N,Tryz.f290,[.v aA,.v dk,.v LI,.v lz,.v eU],[.own js,.v I],[⟨37,[(1,.v dk),(2,.v LI),(3,.v lz),(4,.v eU),(12,.own js),(13,.v I),(14,.v I),(15,.v B),(18,.v I)],[1,1,1,0,1,0,0,1,0,0,1,1,1,0,1,0,0],[11]⟩,⟨29,[(1,.v dk),(2,.v LI),(3,.v lz),(4,.v eU),(12,.own js),(13,.v I),(14,.v I),(15,.v B),(17,.v I)],[1,1,1,0,1,0,0,1,0,0,1,1,0,1,0,0],[11]⟩,⟨19,[(1,.v dk),(2,.v LI),(3,.v lz),(4,.v eU),(12,.own js),(13,.v I),(14,.v I),(15,.v B),(16,.v I)],[1,1,1,0,1,0,0,1,0,0,1,0,1,0,0],[11]⟩,⟨11,[(1,.v dk),(2,.v LI),(3,.v lz),(4,.v eU),(12,.own js),(13,.v I)],[1,1,1,0,1,0,0],[]⟩],none⟩
theorem aep(K ρ):(lA N).bd K ρ 37=du.Dr N ((lA N).kc ρ 11) ((lA N).kc ρ 37):=κ
theorem aeq(ρ):(lA N).kc ((lA N).ca ρ) 37=du.GN N ((lA N).kc ρ 11) N:=Fx.uL [] (aep N) ρ (du.GN N ((lA N).kc ρ 11)) λn ρ' e d=>by rw[e,d 11 rfl];rfl
theorem aer(K ρ):(lA N).bd K ρ 29=du.FL N ((lA N).kc K 37) ((lA N).kc ρ 11) ((lA N).kc ρ 29):=κ
theorem aes(ρ):(lA N).kc ((lA N).ca ρ) 29=du.IG N ((lA N).kc ρ 11) N:=Fx.uL [37] (aer N) ρ (du.IG N ((lA N).kc ρ 11)) λn ρ' e d=>by rw[aeq,e,d 11 rfl];rfl
theorem aet(K ρ):(lA N).bd K ρ 19=du.xp N ((lA N).kc K 29) ((lA N).kc ρ 11) ((lA N).kc ρ 19):=κ
theorem aeu(ρ):(lA N).kc ((lA N).ca ρ) 19=du.l9 N ((lA N).kc ρ 11) N:=Fx.uL [29,37] (aet N) ρ (du.l9 N ((lA N).kc ρ 11)) λn ρ' e d=>by rw[aes,e,d 11 rfl];rfl
theorem aev(K ρ):(lA N).bd K ρ 11=du.dV N ((lA N).kc K 19) ((lA N).kc ρ 11):=κ
theorem aew(ρ):(lA N).kc ((lA N).ca ρ) 11=du.l5 N N:=Fx.uL [19,29,37] (aev N) ρ (du.l5 N) λn ρ' e d=>by rw[aeu,e];rfl
theorem ava(K):(lA N).top K=du.b N ((lA N).kc K 11):=κ
def avb:Kn Tryz.prog:=⟨290,(lA N).S false (du N),Fx.u1 (lA N) aF Tryz.func290 [11] (ava N) (by rw[aew];rfl)⟩
def apr:Fx:=⟨28,tab,Kn.l [Yt N],N,Tryz.f323,[.own sL,.v aK,.v I,.v I,.v I],[.own sL],[],none⟩
def avc:Kn Tryz.prog:=⟨323,(apr N).S false (KB N),Fx.u0 (apr N) aF Tryz.func323⟩
def aps:Fx:=⟨9,tab,[],N,Tryz.f325,[.v I],[.v B],[],none⟩
def apt:Kn Tryz.prog:=⟨325,(aps N).S true (Xi N),Fx.u0 (aps N) aF Tryz.func325⟩
def Pf:Fx:=⟨27,tab,Kn.l [aem N],N,Tryz.f331,[.v dk,.v I],[.v I],[⟨9,[(0,.v dk),(1,.v I),(5,.v I)],[1,1,0,1,0,0],[]⟩],none⟩
theorem akm(K ρ):(Pf N).bd K ρ 9=rm.dv N ((Pf N).kc ρ 9):=κ
theorem akn(ρ):(Pf N).kc ((Pf N).ca ρ) 9=rm.l4 N N:=Fx.uL [] (akm N) ρ (rm.l4 N) λn ρ' e d=>by rw[e];rfl
theorem avd(K):(Pf N).top K=rm.b N ((Pf N).kc K 9):=κ
def ave:Kn Tryz.prog:=⟨331,(Pf N).S true (rm N),Fx.u1 (Pf N) aF Tryz.func331 [9] (avd N) (by rw[akn];rfl)⟩
def Pg:Fx:=⟨67,tab,Kn.l [Jo N,aem N,apt N,Yt N,ave N],N,Tryz.f324,[.v aA,.v aK,.v dk,.v I,.v I],[.own I,.v I],[⟨11,[(2,.v dk),(3,.v I),(4,.v I),(6,.obj aK),(12,.own I),(13,.v I)],[1,1,1,0,1,0,0],[]⟩],none⟩
theorem aex(K ρ):(Pg N).bd K ρ 11=rn.dV N ((Pg N).kc ρ 11):=κ
theorem aey(ρ):(Pg N).kc ((Pg N).ca ρ) 11=rn.l5 N N:=Fx.uL [] (aex N) ρ (rn.l5 N) λn ρ' e d=>by rw[e];rfl
theorem avf(K):(Pg N).top K=rn.b N ((Pg N).kc K 11):=κ
def avg:Kn Tryz.prog:=⟨324,(Pg N).S false (rn N),Fx.u1 (Pg N) aF Tryz.func324 [11] (avf N) (by rw[aey];rfl)⟩
def mH:Fx:=⟨188,tab,Kn.l [Jo N,aem N,ao4 N,k22 N,Yu N,avc N,avg N,apt N,y4 N,Yt N,YP N,Gx N,k48 N],N,Tryz.f311,[.v aA,.v aK,.v I,.v dk,.v dk],[.own sL,.v I],[⟨33,[(2,.v I),(3,.v dk),(4,.v dk),(5,.obj aA),(6,.obj aK),(12,.own sL),(14,.v I),(15,.own I),(17,.v I)],[1,1,1,1,1,1,1,0,1,0,0,1,0,0,1,1,0,0],[25]⟩,⟨61,[(2,.v I),(4,.v dk),(6,.obj aK),(12,.own sL),(22,.v I)],[1,1,1,1,1,1,1,1,1,0,1,0,0],[]⟩,⟨41,[(2,.v I),(4,.v dk),(5,.obj aA),(6,.obj aK),(12,.own sL),(18,.v I)],[1,1,1,1,1,1,1,1,0,1,0,0],[]⟩,⟨25,[(2,.v I),(3,.v dk),(4,.v dk),(5,.obj aA),(6,.obj aK),(12,.own sL),(14,.v I)],[1,1,1,1,1,1,1,0,1,0,0],[]⟩,⟨18,[(2,.v I),(3,.v dk),(4,.v dk),(5,.obj aA),(6,.obj aK),(12,.own sL)],[1,1,1,1,1],[]⟩],none⟩
theorem aez(K ρ):(mH N).bd K ρ 33=cH.vk N ((mH N).kc ρ 25) ((mH N).kc ρ 33):=κ
theorem aeA(ρ):(mH N).kc ((mH N).ca ρ) 33=cH.wE N ((mH N).kc ρ 25) N:=Fx.uL [41,61] (aez N) ρ (cH.wE N ((mH N).kc ρ 25)) λn ρ' e d=>by rw[e,d 25 rfl];rfl
theorem aeB(K ρ):(mH N).bd K ρ 61=cH.Ke N ((mH N).kc ρ 61):=κ
theorem aeC(ρ):(mH N).kc ((mH N).ca ρ) 61=cH.MZ N N:=Fx.uL [] (aeB N) ρ (cH.MZ N) λn ρ' e d=>by rw[e];rfl
theorem aeD(K ρ):(mH N).bd K ρ 41=cH.Ny N ((mH N).kc K 61) ((mH N).kc ρ 41):=κ
theorem aeE(ρ):(mH N).kc ((mH N).ca ρ) 41=cH.HA N N:=Fx.uL [61] (aeD N) ρ (cH.HA N) λn ρ' e d=>by rw[aeC,e];rfl
theorem aeF(K ρ):(mH N).bd K ρ 25=cH.pt N ((mH N).kc K 33) ((mH N).kc K 41) ((mH N).kc ρ 25):=κ
theorem aeG(ρ):(mH N).kc ((mH N).ca ρ) 25=cH.pX N N:=Fx.uL [41,61,33] (aeF N) ρ (cH.pX N) λn ρ' e d=>by rw[aeA,aeE,e];rfl
theorem aeH(K ρ):(mH N).bd K ρ 18=cH.MP N ((mH N).kc K 25):=κ
theorem aeI(ρ):(mH N).kc ((mH N).ca ρ) 18=cH.j9 N:=Fx.uJ [25,41,61] (aeH N) ρ (by rw[aeG];rfl)
theorem avh(K):(mH N).top K=cH.b N ((mH N).kc K 18):=κ
def avi:Kn Tryz.prog:=⟨311,(mH N).S false (cH N),Fx.u1 (mH N) aF Tryz.func311 [18,25,41,61] (avh N) (by rw[aeI];rfl)⟩
def apu:Fx:=⟨19,tab,Kn.l [Jo N,Yt N],N,Tryz.f312,[.v aA,.v aK],[.v I,.v I],[],none⟩
def avj:Kn Tryz.prog:=⟨312,(apu N).S true (aay N),Fx.u0 (apu N) aF Tryz.func312⟩
def Ph:Fx:=⟨97,tab,Kn.l [anZ N],N,Tryz.f326,[.v KT],[.v B],[⟨9,[(0,.v KT),(3,.v I)],[1,1,0,1,0,0],[]⟩],none⟩
theorem ako(K ρ):(Ph N).bd K ρ 9=rp.dv N ((Ph N).kc ρ 9):=κ
theorem akp(ρ):(Ph N).kc ((Ph N).ca ρ) 9=rp.l4 N N:=Fx.uL [] (ako N) ρ (rp.l4 N) λn ρ' e d=>by rw[e];rfl
theorem avk(K):(Ph N).top K=rp.b N ((Ph N).kc K 9):=κ
def avl:Kn Tryz.prog:=⟨326,(Ph N).S true (rp N),Fx.u1 (Ph N) aF Tryz.func326 [9] (avk N) (by rw[akp];rfl)⟩
def mI:Fx:=⟨106,tab,Kn.l [avl N,aj3 N,Gx N,aj6 N],N,Tryz.f313,[.v KT,.v I],[.own sL,.v I,.v I],[⟨37,[(7,.own sL),(8,.v I),(9,.v I),(10,.v I),(14,.own I),(16,.v I)],[1,1,1,0,1,0,0,1,0,1,1,1,1,1,1,1,0,1,0,0],[11]⟩,⟨22,[(7,.own sL),(8,.v I),(9,.v I),(10,.v I),(11,.own I)],[1,1,1,0,1,0,0,1,0,1,1,1],[11]⟩,⟨17,[(7,.own sL),(8,.v I),(9,.v I),(10,.v I),(11,.own I)],[1,1,1,0,1,0,0,1,0,1,1,0,0,0],[11]⟩,⟨11,[(7,.own sL),(8,.v I),(9,.v I)],[1,1,1,0,1,0,0],[]⟩],none⟩
theorem aeJ(K ρ):(mI N).bd K ρ 37=dB.Dr N ((mI N).kc ρ 11) ((mI N).kc ρ 37):=κ
theorem aeK(ρ):(mI N).kc ((mI N).ca ρ) 37=dB.GN N ((mI N).kc ρ 11) N:=Fx.uL [] (aeJ N) ρ (dB.GN N ((mI N).kc ρ 11)) λn ρ' e d=>by rw[e,d 11 rfl];rfl
theorem aeL(K ρ):(mI N).bd K ρ 22=dB.BB N ((mI N).kc K 37) ((mI N).kc ρ 11):=κ
theorem aeM(ρ):(mI N).kc ((mI N).ca ρ) 22=dB.IX N ((mI N).kc ρ 11):=Fx.uJ [37] (aeL N) ρ (by rw[aeK];rfl)
theorem aeN(K ρ):(mI N).bd K ρ 17=dB.xR N ((mI N).kc K 22) ((mI N).kc ρ 11) ((mI N).kc ρ 17):=κ
theorem aeO(ρ):(mI N).kc ((mI N).ca ρ) 17=dB.l8 N ((mI N).kc ρ 11) N:=Fx.uL [22,37] (aeN N) ρ (dB.l8 N ((mI N).kc ρ 11)) λn ρ' e d=>by rw[aeM,e,d 11 rfl];rfl
theorem aeP(K ρ):(mI N).bd K ρ 11=dB.dV N ((mI N).kc K 17) ((mI N).kc ρ 11):=κ
theorem aeQ(ρ):(mI N).kc ((mI N).ca ρ) 11=dB.l5 N N:=Fx.uL [17,22,37] (aeP N) ρ (dB.l5 N) λn ρ' e d=>by rw[aeO,e];rfl
theorem avm(K):(mI N).top K=dB.b N ((mI N).kc K 11):=κ
def avn:Kn Tryz.prog:=⟨313,(mI N).S false (dB N),Fx.u1 (mI N) aF Tryz.func313 [11] (avm N) (by rw[aeQ];rfl)⟩
def apv:Fx:=⟨14,tab,Kn.l [Jo N,Yt N],N,Tryz.f314,[.v aA,.v aK],[.v I,.v I],[],none⟩
def avo:Kn Tryz.prog:=⟨314,(apv N).S true (aaz N),Fx.u0 (apv N) aF Tryz.func314⟩
def DA:Fx:=⟨156,tab,Kn.l [avi N,avj N,avn N,y4 N,Yv N,avo N,Yu N,OJ N],N,Tryz.f291,[.v aA,.v aK,.v I,.v dk,.v dk],[.v aK,.v gG,.v I],[⟨52,[(6,.obj aK),(10,.obj aK),(11,.obj gG),(18,.own rA),(19,.ga gG [.kq 2] sL),(21,.v I),(23,.v I),(24,.v I)],[1,1,1,1,1,1,1,1,1,1,1,1,1,1,1],[]⟩,⟨31,[(2,.v I),(5,.obj aA),(6,.obj aK),(10,.obj aK),(11,.obj gG),(13,.own sL),(17,.v I),(18,.own rA),(19,.ga gG [.kq 2] sL),(20,.v I)],[1,1,1,1,1,1,1,1,1,1,0,1,0,0],[]⟩],some (gG,[.kq 2],sL,[19])⟩
theorem aeR(K ρ):(DA N).bd K ρ 52=ib.aaB N:=κ
theorem aeS(ρ):(DA N).kc ((DA N).ca ρ) 52=ib.j26 N:=Fx.uJ [] (aeR N) ρ
theorem aeT(K ρ):(DA N).bd K ρ 31=ib.Hp N ((DA N).kc K 52) ((DA N).kc ρ 31):=κ
theorem aeU(ρ):(DA N).kc ((DA N).ca ρ) 31=ib.Ir N N:=Fx.uL [52] (aeT N) ρ (ib.Ir N) λn ρ' e d=>by rw[aeS,e];rfl
theorem avp(K):(DA N).top K=ib.b N ((DA N).kc K 31):=κ
def avq:Kn Tryz.prog:=⟨291,(DA N).S false (ib N),Fx.u1 (DA N) aF Tryz.func291 [31,52] (avp N) (by rw[aeU];rfl)⟩
def qc:Fx:=⟨129,tab,Kn.l [apm N,aj3 N,Gx N,aj6 N],N,Tryz.f328,[.v I,.v LI,.v LI],[.own I,.v I,.v I],[⟨39,[(1,.v LI),(2,.v LI),(11,.own I),(12,.v I),(13,.v I),(17,.own I),(19,.v I)],[1,1,1,1,0,1,0,0,1,0,0,1,1,1,1,1,0,0],[17]⟩,⟨25,[(1,.v LI),(2,.v LI),(11,.own I),(12,.v I),(13,.v I),(14,.own I),(15,.v B),(16,.v I)],[1,1,1,1,0,1,0,0,1,0,0,1,0,1,0,0],[17]⟩,⟨17,[(1,.v LI),(2,.v LI),(11,.own I),(12,.v I),(13,.v I)],[1,1,1,1,0,1,0,0],[]⟩],none⟩
theorem aeV(K ρ):(qc N).bd K ρ 39=eH.Qb N ((qc N).kc ρ 17) ((qc N).kc ρ 39):=κ
theorem aeW(ρ):(qc N).kc ((qc N).ca ρ) 39=eH.TD N ((qc N).kc ρ 17) N:=Fx.uL [] (aeV N) ρ (eH.TD N ((qc N).kc ρ 17)) λn ρ' e d=>by rw[e,d 17 rfl];rfl
theorem aeX(K ρ):(qc N).bd K ρ 25=eH.pt N ((qc N).kc K 39) ((qc N).kc ρ 17) ((qc N).kc ρ 25):=κ
theorem aeY(ρ):(qc N).kc ((qc N).ca ρ) 25=eH.pX N ((qc N).kc ρ 17) N:=Fx.uL [39] (aeX N) ρ (eH.pX N ((qc N).kc ρ 17)) λn ρ' e d=>by rw[aeW,e,d 17 rfl];rfl
theorem aeZ(K ρ):(qc N).bd K ρ 17=eH.xR N ((qc N).kc K 25) ((qc N).kc ρ 17):=κ
theorem ae0(ρ):(qc N).kc ((qc N).ca ρ) 17=eH.l8 N N:=Fx.uL [25,39] (aeZ N) ρ (eH.l8 N) λn ρ' e d=>by rw[aeY,e];rfl
theorem avr(K):(qc N).top K=eH.b N ((qc N).kc K 17):=κ
def avs:Kn Tryz.prog:=⟨328,(qc N).S false (eH N),Fx.u1 (qc N) aF Tryz.func328 [17] (avr N) (by rw[ae0];rfl)⟩
def BT:Fx:=⟨127,tab,Kn.l [Jo N,k27 N,avs N],N,Tryz.f315,[.v aA,.v aK,.v I],[.own jk,.v I],[⟨43,[(2,.v I),(8,.v I),(9,.own I),(13,.own I),(16,.own jk),(17,.v I)],[1,1,1,1,1,1,1,1,1,1,1,0,1,0,0],[]⟩,⟨23,[(2,.v I),(4,.obj aK),(8,.v I),(9,.own I),(10,.own I),(11,.v I)],[1,1,1,1,1,1,1,0,1,0,0],[]⟩],none⟩
theorem ae1(K ρ):(BT N).bd K ρ 43=fA.Xj N ((BT N).kc ρ 43):=κ
theorem ae2(ρ):(BT N).kc ((BT N).ca ρ) 43=fA.Uc N N:=Fx.uL [] (ae1 N) ρ (fA.Uc N) λn ρ' e d=>by rw[e];rfl
theorem ae3(K ρ):(BT N).bd K ρ 23=fA.yO N ((BT N).kc K 43) ((BT N).kc ρ 23):=κ
theorem ae4(ρ):(BT N).kc ((BT N).ca ρ) 23=fA.BA N N:=Fx.uL [43] (ae3 N) ρ (fA.BA N) λn ρ' e d=>by rw[ae2,e];rfl
theorem avt(K):(BT N).top K=fA.b N ((BT N).kc K 23):=κ
def avu:Kn Tryz.prog:=⟨315,(BT N).S false (fA N),Fx.u1 (BT N) aF Tryz.func315 [23,43] (avt N) (by rw[ae4];rfl)⟩
def Pj:Fx:=⟨41,tab,Kn.l [Jo N,avu N,OJ N],N,Tryz.f292,[.v aA,.v aK],[.v aK,.v I],[⟨11,[(2,.obj aA),(3,.obj aK),(4,.obj aK),(6,.own jk),(7,.v I)],[1,1,1,0,1,0,0],[]⟩],none⟩
theorem ae5(K ρ):(Pj N).bd K ρ 11=nw.dV N ((Pj N).kc ρ 11):=κ
theorem ae6(ρ):(Pj N).kc ((Pj N).ca ρ) 11=nw.l5 N N:=Fx.uL [] (ae5 N) ρ (nw.l5 N) λn ρ' e d=>by rw[e];rfl
theorem avv(K):(Pj N).top K=nw.b N ((Pj N).kc K 11):=κ
def avw:Kn Tryz.prog:=⟨292,(Pj N).S false (nw N),Fx.u1 (Pj N) aF Tryz.func292 [11] (avv N) (by rw[ae6];rfl)⟩
def Pk:Fx:=⟨325,tab,Kn.l [auo N,abO N,k61 N,auA N,auF N,auQ N,ajM N,auS N,au0 N,au4 N,avb N,avq N,avw N,ao7 N],N,Tryz.f276,[.v aA,.v dr,.v kO],[.v dr,.v jk],[⟨83,[(4,.obj dr),(6,.obj dr),(7,.obj jk),(14,.v lz),(16,.v I),(17,.v I)],[1,1,0,1,0,1,1,1,1,1,1,1,1,1,1,1,1,1,0,1,1,1,1,1,1,0,1,0,0],[]⟩],none⟩
theorem ae7(K ρ):(Pk N).bd K ρ 83=nz.aaE N ((Pk N).kc ρ 83):=κ
theorem ae8(ρ):(Pk N).kc ((Pk N).ca ρ) 83=nz.l41 N N:=Fx.uL [] (ae7 N) ρ (nz.l41 N) λn ρ' e d=>by rw[e];rfl
theorem avx(K):(Pk N).top K=nz.b N ((Pk N).kc K 83):=κ
def avy:Kn Tryz.prog:=⟨276,(Pk N).S false (nz N),Fx.u1 (Pk N) aF Tryz.func276 [83] (avx N) (by rw[ae8];rfl)⟩
def Q5:Fx:=⟨141,tab,Kn.l [ao7 N,aue N,auh N,abO N,aoS N,ajM N,aui N,avy N],N,Tryz.f256,[.v aA,.v dr,.v kO],[.v dr,.v jk],[⟨58,[(3,.obj aA),(4,.obj dr),(5,.obj kO),(6,.obj dr),(7,.obj jk)],[1,1,1],[]⟩],none⟩
theorem ae9(K ρ):(Q5 N).bd K ρ 58=pE.Nz N:=κ
theorem afa(ρ):(Q5 N).kc ((Q5 N).ca ρ) 58=pE.T7 N:=Fx.uJ [] (ae9 N) ρ
theorem avz(K):(Q5 N).top K=pE.b N ((Q5 N).kc K 58):=κ
def avA:Kn Tryz.prog:=⟨256,(Q5 N).S false (pE N),Fx.u1 (Q5 N) aF Tryz.func256 [58] (avz N) (by rw[afa];rfl)⟩
def apw:Fx:=⟨295,tab,Kn.l [ati N,abO N,ato N,atp N,atx N,atI N,aoS N,Yt N,y4 N,k52 N,k30 N,atK N,atW N,atY N,at2 N,at5 N,ajM N,avA N],N,Tryz.f208,[.v aA,.v dr,.v kO],[.v dr,.v jk],[],none⟩
def avB:Kn Tryz.prog:=⟨208,(apw N).S false (Ug N),Fx.u0 (apw N) aF Tryz.func208⟩
def apx:Fx:=⟨36,tab,Kn.l [Q1 N,atg N,avB N],N,Tryz.f143,[.v aA,.v dr,.v kO],[.v dr,.v jk],[],none⟩
def apy:Kn Tryz.prog:=⟨143,(apx N).S false (Qz N),Fx.u0 (apx N) aF Tryz.func143⟩
def Pl:Fx:=⟨48,tab,Kn.l [apy N],N,Tryz.f257,[.io lZ,.lo kO],[.v dr,.io lZ,.lo kO],[⟨3,[(0,.io lZ),(1,.own kO),(4,.obj dr)],[1,0,0,0],[]⟩],none⟩
theorem akq(K ρ):(Pl N).bd K ρ 3=p8.l1b N ((Pl N).kc ρ 3):=κ
theorem akr(ρ):(Pl N).kc ((Pl N).ca ρ) 3=p8.l1 N N:=Fx.uL [] (akq N) ρ (p8.l1 N) λn ρ' e d=>by rw[e];rfl
theorem avC(K):(Pl N).top K=p8.b N ((Pl N).kc K 3):=κ
def avD:Kn Tryz.prog:=⟨257,(Pl N).S false (p8 N),Fx.u1 (Pl N) aF Tryz.func257 [3] (avC N) (by rw[akr];rfl)⟩
def o9:Fx:=⟨119,tab,Kn.l [k57 N,avD N,US N,k62 N,aoe N],N,Tryz.f213,[.io dA,.io lZ,.own kO],[.own kO,.io dA,.io lZ],[⟨35,[(0,.io dA),(1,.io lZ),(2,.own kO),(10,.obj dr),(11,.v I),(12,.obj jc),(13,.v I)],[1,1,1,1,0,1,0,0,1,0,0,1,1,0,0],[27]⟩,⟨27,[(0,.io dA),(1,.io lZ),(2,.own kO),(10,.obj dr),(11,.v I)],[1,1,1,1,0,1,0,0],[]⟩,⟨20,[(0,.io dA),(1,.io lZ),(2,.own kO)],[1,1],[]⟩,⟨11,[(0,.io dA),(1,.io lZ),(2,.own kO),(7,.obj dr),(8,.v I)],[1,0,1,0,1,1,1,0,0],[]⟩],none⟩
theorem afb(K ρ):(o9 N).bd K ρ 35=dR.Dh N ((o9 N).kc ρ 27) ((o9 N).kc ρ 35):=κ
theorem afc(ρ):(o9 N).kc ((o9 N).ca ρ) 35=dR.DN N ((o9 N).kc ρ 27) N:=Fx.uL [] (afb N) ρ (dR.DN N ((o9 N).kc ρ 27)) λn ρ' e d=>by rw[e,d 27 rfl];rfl
theorem afd(K ρ):(o9 N).bd K ρ 27=dR.mE N ((o9 N).kc K 35) ((o9 N).kc ρ 27):=κ
theorem afe(ρ):(o9 N).kc ((o9 N).ca ρ) 27=dR.nG N N:=Fx.uL [35] (afd N) ρ (dR.nG N) λn ρ' e d=>by rw[afc,e];rfl
theorem aff(K ρ):(o9 N).bd K ρ 20=dR.BC N ((o9 N).kc K 27):=κ
theorem Sv(ρ):(o9 N).kc ((o9 N).ca ρ) 20=dR.Hy N:=Fx.uJ [27] (aff N) ρ (by rw[afe];rfl)
theorem afg(K ρ):(o9 N).bd K ρ 11=dR.dV N ((o9 N).kc K 20) ((o9 N).kc ρ 11):=κ
theorem afh(ρ):(o9 N).kc ((o9 N).ca ρ) 11=dR.l5 N N:=Fx.uL [20,27] (afg N) ρ (dR.l5 N) λn ρ' e d=>by rw[Sv,e];rfl
theorem avE(K):(o9 N).top K=dR.b N ((o9 N).kc K 11) ((o9 N).kc K 20):=κ
def avF:Kn Tryz.prog:=⟨213,(o9 N).S false (dR N),Fx.u1 (o9 N) aF Tryz.func213 [11,20,27] (avE N) (by rw[afh,Sv];rfl)⟩
def BU:Fx:=⟨99,tab,Kn.l [aod N,aoa N,US N,aoe N,k57 N,avF N],N,Tryz.f146,[.io dA,.v aA,.v I],[.own kO,.io dA],[⟨35,[(0,.io dA),(4,.obj aA),(9,.obj lZ),(10,.own kO),(13,.v I)],[1,1,1,1,1,1,1,1,1,1,1,1,0,1,0,0],[]⟩,⟨19,[(0,.io dA),(4,.obj aA),(9,.obj lZ),(10,.own kO),(12,.v I)],[1,1,1,1,1,1,1,1,0,1,0,0],[]⟩],none⟩
theorem afi(K ρ):(BU N).bd K ρ 35=je.Dh N ((BU N).kc ρ 35):=κ
theorem afj(ρ):(BU N).kc ((BU N).ca ρ) 35=je.DN N N:=Fx.uL [] (afi N) ρ (je.DN N) λn ρ' e d=>by rw[e];rfl
theorem afk(K ρ):(BU N).bd K ρ 19=je.xp N ((BU N).kc K 35) ((BU N).kc ρ 19):=κ
theorem afl(ρ):(BU N).kc ((BU N).ca ρ) 19=je.l9 N N:=Fx.uL [35] (afk N) ρ (je.l9 N) λn ρ' e d=>by rw[afj,e];rfl
theorem avG(K):(BU N).top K=je.b N ((BU N).kc K 19):=κ
def avH:Kn Tryz.prog:=⟨146,(BU N).S false (je N),Fx.u1 (BU N) aF Tryz.func146 [19,35] (avG N) (by rw[afl];rfl)⟩
def X59:Fx:=⟨38,tab,Kn.l [US N,aiO N,aoa N,avH N],N,Tryz.f59,[.io dA,.v aA,.v I],[.own kO,.io dA],[⟨11,[(0,.io dA),(4,.obj aA),(7,.own kO),(8,.v I)],[1,0,1,0,1,0,1,0,1,0,0],[]⟩],none⟩
theorem aks(K ρ):(X59 N).bd K ρ 11=Gh.dV N ((X59 N).kc ρ 11):=κ
theorem akt(ρ):(X59 N).kc ((X59 N).ca ρ) 11=Gh.l5 N N:=Fx.uL [] (aks N) ρ (Gh.l5 N) λn ρ' e d=>by rw[e];rfl
theorem h59(K):(X59 N).top K=Gh.b N ((X59 N).kc K 11):=κ
def k59:Kn Tryz.prog:=⟨59,(X59 N).S false (Gh N),Fx.u1 (X59 N) aF Tryz.func59 [11] (h59 N) (by rw[akt];rfl)⟩
def X58:Fx:=⟨43,tab,Kn.l [aod N,apy N],N,Tryz.f58,[.v aA,.v ah8],[.v dr,.own jk],[⟨13,[(1,.v ah8),(2,.obj aA),(4,.obj dr),(6,.obj dr),(8,.own jk),(9,.v I)],[1,1,1,1,0,1,0,0],[]⟩],none⟩
theorem aku(K ρ):(X58 N).bd K ρ 13=Gg.ud N ((X58 N).kc ρ 13):=κ
theorem akv(ρ):(X58 N).kc ((X58 N).ca ρ) 13=Gg.l6 N N:=Fx.uL [] (aku N) ρ (Gg.l6 N) λn ρ' e d=>by rw[e];rfl
theorem h58(K):(X58 N).top K=Gg.b N ((X58 N).kc K 13):=κ
def k58:Kn Tryz.prog:=⟨58,(X58 N).S false (Gg N),Fx.u1 (X58 N) aF Tryz.func58 [13] (h58 N) (by rw[akv];rfl)⟩
def X18:Fx:=⟨19,tab,Kn.l [k59 N,k58 N],N,Tryz.f18,[.io dA,.v aA,.v I],[.v dr,.io dA],[],none⟩
def k18:Kn Tryz.prog:=⟨18,(X18 N).S false (F18 N),Fx.u0 (X18 N) aF Tryz.func18⟩
def X94:Fx:=⟨26,tab,[],N,Tryz.f94,[.v dk,.v dk],[.v B],[⟨9,[(0,.v dk),(1,.v dk),(5,.v I)],[1,1,0,1,0,0],[]⟩],none⟩
theorem apz(K ρ):(X94 N).bd K ρ 9=Dj.dv N ((X94 N).kc ρ 9):=κ
theorem apA(ρ):(X94 N).kc ((X94 N).ca ρ) 9=Dj.l4 N N:=Fx.uL [] (apz N) ρ (Dj.l4 N) λn ρ' e d=>by rw[e];rfl
theorem h94(K):(X94 N).top K=Dj.b N ((X94 N).kc K 9):=κ
def k94:Kn Tryz.prog:=⟨94,(X94 N).S true (Dj N),Fx.u1 (X94 N) aF Tryz.func94 [9] (h94 N) (by rw[apA];rfl)⟩
def X25:Fx:=⟨26,tab,[],N,Tryz.f25,[.v eU,.v eU],[.v B],[⟨9,[(0,.v eU),(1,.v eU),(5,.v I)],[1,1,0,1,0,0],[]⟩],none⟩
theorem apB(K ρ):(X25 N).bd K ρ 9=Dl.dv N ((X25 N).kc ρ 9):=κ
theorem apC(ρ):(X25 N).kc ((X25 N).ca ρ) 9=Dl.l4 N N:=Fx.uL [] (apB N) ρ (Dl.l4 N) λn ρ' e d=>by rw[e];rfl
theorem h25(K):(X25 N).top K=Dl.b N ((X25 N).kc K 9):=κ
def k25:Kn Tryz.prog:=⟨25,(X25 N).S true (Dl N),Fx.u1 (X25 N) aF Tryz.func25 [9] (h25 N) (by rw[apC];rfl)⟩
def X95:Fx:=⟨26,tab,[],N,Tryz.f95,[.v cM,.v cM],[.v B],[⟨9,[(0,.v cM),(1,.v cM),(5,.v I)],[1,1,0,1,0,0],[]⟩],none⟩
theorem apD(K ρ):(X95 N).bd K ρ 9=Dm.dv N ((X95 N).kc ρ 9):=κ
theorem apE(ρ):(X95 N).kc ((X95 N).ca ρ) 9=Dm.l4 N N:=Fx.uL [] (apD N) ρ (Dm.l4 N) λn ρ' e d=>by rw[e];rfl
theorem h95(K):(X95 N).top K=Dm.b N ((X95 N).kc K 9):=κ
def k95:Kn Tryz.prog:=⟨95,(X95 N).S true (Dm N),Fx.u1 (X95 N) aF Tryz.func95 [9] (h95 N) (by rw[apE];rfl)⟩
def X96:Fx:=⟨26,tab,[],N,Tryz.f96,[.v cM,.v cM],[.v B],[⟨9,[(0,.v cM),(1,.v cM),(5,.v I)],[1,1,0,1,0,0],[]⟩],none⟩
theorem apF(K ρ):(X96 N).bd K ρ 9=Dn.dv N ((X96 N).kc ρ 9):=κ
theorem apG(ρ):(X96 N).kc ((X96 N).ca ρ) 9=Dn.l4 N N:=Fx.uL [] (apF N) ρ (Dn.l4 N) λn ρ' e d=>by rw[e];rfl
theorem h96(K):(X96 N).top K=Dn.b N ((X96 N).kc K 9):=κ
def k96:Kn Tryz.prog:=⟨96,(X96 N).S true (Dn N),Fx.u1 (X96 N) aF Tryz.func96 [9] (h96 N) (by rw[apG];rfl)⟩
def X55:Fx:=⟨26,tab,[],N,Tryz.f55,[.v LI,.v LI],[.v B],[⟨9,[(0,.v LI),(1,.v LI),(5,.v I)],[1,1,0,1,0,0],[]⟩],none⟩
theorem apH(K ρ):(X55 N).bd K ρ 9=Dq.dv N ((X55 N).kc ρ 9):=κ
theorem apI(ρ):(X55 N).kc ((X55 N).ca ρ) 9=Dq.l4 N N:=Fx.uL [] (apH N) ρ (Dq.l4 N) λn ρ' e d=>by rw[e];rfl
theorem h55(K):(X55 N).top K=Dq.b N ((X55 N).kc K 9):=κ
def k55:Kn Tryz.prog:=⟨55,(X55 N).S true (Dq N),Fx.u1 (X55 N) aF Tryz.func55 [9] (h55 N) (by rw[apI];rfl)⟩
def X24:Fx:=⟨26,tab,[],N,Tryz.f24,[.v o8,.v o8],[.v B],[⟨9,[(0,.v o8),(1,.v o8),(5,.v I)],[1,1,0,1,0,0],[]⟩],none⟩
theorem apJ(K ρ):(X24 N).bd K ρ 9=Dp.dv N ((X24 N).kc ρ 9):=κ
theorem apK(ρ):(X24 N).kc ((X24 N).ca ρ) 9=Dp.l4 N N:=Fx.uL [] (apJ N) ρ (Dp.l4 N) λn ρ' e d=>by rw[e];rfl
theorem h24(K):(X24 N).top K=Dp.b N ((X24 N).kc K 9):=κ
def k24:Kn Tryz.prog:=⟨24,(X24 N).S true (Dp N),Fx.u1 (X24 N) aF Tryz.func24 [9] (h24 N) (by rw[apK];rfl)⟩
def X35:Fx:=⟨45,tab,Kn.l [k94 N,k25 N,k95 N,k96 N,k55 N,k24 N],N,Tryz.f35,[.v aK,.v aK],[.v B],[],none⟩
def k35:Kn Tryz.prog:=⟨35,(X35 N).S true (F35 N),Fx.u0 (X35 N) aF Tryz.func35⟩
def X19:Fx:=⟨63,tab,Kn.l [k31 N,k60 N,k21 N,k61 N,k35 N],N,Tryz.f19,[.v aA,.v aK,.v I,.v I],[.v B],[],none⟩
theorem axE:sb Tryz.prog (X19 N).E:=Fx.MC (X19 N) aF (Kn.all _) κ
theorem axF: ∀x,LO (X19 N).E (X19 N).fn (X19 N).args (X19 N).res x=Hg (X19 N).args (F19 N) x:=Fx.Zw κ
def k19:Kn Tryz.prog:=⟨19,(X19 N).S true (F19 N),Fx.u0 (X19 N) aF Tryz.func19⟩
def X3:Fx:=⟨29,tab,Kn.l [k15 N,k16 N,k17 N,k18 N,US N,k19 N],N,Tryz.f3,[.v LU],[.v B],[⟨15,[(3,.obj dA),(4,.obj aA),(5,.obj aK),(6,.v I)],[1,1,1,1,1,0,1,0,0],[]⟩],none⟩
theorem avI:sb Tryz.prog (X3 N).E:=Fx.MC (X3 N) aF (Kn.all _) κ
theorem apL(K ρ):(X3 N).bd K ρ 15=F3.pj N ((X3 N).kc ρ 15):=κ
theorem agv(ρ):(X3 N).kc ((X3 N).ca ρ) 15=F3.l7 N N:=Fx.uL [] (apL N) ρ (F3.l7 N) λn ρ' e d=>by rw[e];rfl
theorem h3(K):(X3 N).top K=F3.b N ((X3 N).kc K 15):=κ
theorem avJ: ∀x,LO (X3 N).E (X3 N).fn (X3 N).args (X3 N).res x=Hg (X3 N).args (F3 N) x:=Fx.al2 κ [15] (λK=>κ) (h3 N) (by rw[agv];rfl)
def k3:Kn Tryz.prog:=⟨3,(X3 N).S true (F3 N),Fx.u1 (X3 N) aF Tryz.func3 [15] (h3 N) (by rw[agv];rfl)⟩
end
end VM.F
