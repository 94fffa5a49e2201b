/- A part of the proof of WindTwice of layer 21: each function of the program does what its equation says; printed by a program. -/
import Derived.Test.YtecmobijochjkaaGreatText
import Derived.Test.YtecmobijochjkaaGreatVm7
import Derived.Test.YtecmobijochjkaaGreatProg
import Derived.KernelRfl
set_option linter.all false
noncomputable section
namespace VM.F
open Go VM Go.Proofs
set_option maxRecDepth 100000
abbrev I:Ty:= .int .i64
abbrev U:Ty:= .int .u64
abbrev B:Ty:= .bool
abbrev Z:Ty:= .str
abbrev OC:Ty:= .slice lh
abbrev dm:Ty:= .slice jC
abbrev Rh:Ty:= .slice fQ
abbrev anE:Ty:= .slice cX
abbrev asM:Ty:= .slice dN
abbrev cN:Ty:= .slice jt
abbrev Zj:Ty:= .slice uZ
abbrev eX:Ty:= .slice eB
abbrev jO:Ty:= .slice w9
abbrev Ld:Ty:= .slice sX
abbrev oF:Ty:= .slice rL
abbrev pn:Ty:= .slice mT
abbrev aiA:Ty:= .slice kX
abbrev lJ:Ty:= .slice jk
abbrev anF:Ty:= .slice gM
abbrev anG:Ty:= .slice aA
abbrev asN:Ty:= .slice aL
abbrev alx:Ty:= .slice rF
abbrev aqT:Ty:= .slice dt
abbrev aqU:Ty:= .slice mv
abbrev LI:Ty:= .slice I
abbrev LU:Ty:= .slice U
def tab:List (Nat×Ty):=[(2,I),(3,I),(4,B),(5,(.int .u8)),(9,Z),(22,LU),(26,eX),(28,aA),(30,dm),(31,eX),(32,cN),(33,cN),(34,LI),(35,pn),(37,aL),(38,eX),(39,lJ),(40,eX),(41,LI),(42,dm),(43,dm),(45,rF),(46,Ld),(48,gM),(50,dt),(55,I),(63,cX),(67,eB),(76,eB),(78,Ld),(85,jt),(87,jt),(89,mT),(92,jO),(109,sX),(115,dN),(117,cN),(120,aiA),(122,U),(124,cN),(126,fQ),(132,w9),(149,dm),(162,jt),(165,oF),(185,cN),(196,jC),(200,jt),(204,kX),(214,jC),(220,Rh),(238,rL),(254,jt),(266,mv),(277,(.arr 13 B)),(310,eB),(312,jk),(322,jC),(330,eB),(353,anE),(371,jC),(379,sX)]
theorem aF:Fe Tryz.prog tab:=⟨κ,κ⟩
section
variable(N:Nat)
abbrev YM:lY:=u7.S N
abbrev YN:lY:=yl.S N
theorem YO:iD Tryz.prog 191 (YN N):=TF N Tryz.func191 κ κ κ κ
def aiB:Kn Tryz.prog:=⟨191,YN N,YO N⟩
theorem YP:iD Tryz.prog 217 (YM N):=TG N Tryz.func217 κ κ κ κ
def YQ:Kn Tryz.prog:=⟨217,YM N,YP N⟩
abbrev OD:lY:=vY (.pair (.int .i64) (.pair (.int .i64) (.pair (.int .i64) (.pair (.int .i64) (.pair (.int .i64) (.pair (.int .i64) .unit)))))) N
def Le.Ri:Go.Shelf.Ren:={f:=λi=>0,t:=λi=>cond (Nat.beq i 3) 89 (cond (Nat.beq i 4) 4 35),g:=λ_=>0}
theorem Le.y9:Kh Tryz.prog (.pair (.int .i64) (.pair (.int .i64) (.pair (.int .i64) (.pair (.int .i64) (.pair (.int .i64) (.pair (.int .i64) .unit)))))) Le.Ri 186 Tryz.f186:=⟨Tryz.func186.trans κ,Tryz.underlying4,Tryz.underlying35,gV (x:= .inl 89) κ,δ,κ⟩
theorem Rj:iD Tryz.prog 186 (OD N):=qn Le.y9 κ κ N
def YR:Kn Tryz.prog:=⟨186,OD N,Rj N⟩
abbrev OE:lY:=vY (.pair (.int .i64) (.pair (.int .i64) .unit)) N
def Lf.Ri:Go.Shelf.Ren:={f:=λi=>0,t:=λi=>cond (Nat.beq i 3) 196 (cond (Nat.beq i 4) 4 30),g:=λ_=>0}
theorem Lf.y9:Kh Tryz.prog (.pair (.int .i64) (.pair (.int .i64) .unit)) Lf.Ri 192 Tryz.f192:=⟨Tryz.func192.trans κ,Tryz.underlying4,Tryz.underlying30,gV (x:= .inl 196) κ,δ,κ⟩
theorem Rk:iD Tryz.prog 192 (OE N):=qn Lf.y9 κ κ N
def YS:Kn Tryz.prog:=⟨192,OE N,Rk N⟩
abbrev OF:lY:=vY (.pair (.int .i64) (.pair (.int .i64) (.pair (.int .i64) (.pair (.int .i64) .unit)))) N
def Lg.Ri:Go.Shelf.Ren:={f:=λi=>0,t:=λi=>cond (Nat.beq i 3) 67 (cond (Nat.beq i 4) 4 31),g:=λ_=>0}
theorem Lg.y9:Kh Tryz.prog (.pair (.int .i64) (.pair (.int .i64) (.pair (.int .i64) (.pair (.int .i64) .unit)))) Lg.Ri 193 Tryz.f193:=⟨Tryz.func193.trans κ,Tryz.underlying4,Tryz.underlying31,gV (x:= .inl 67) κ,δ,κ⟩
theorem Rl:iD Tryz.prog 193 (OF N):=qn Lg.y9 κ κ N
def YT:Kn Tryz.prog:=⟨193,OF N,Rl N⟩
abbrev OG:lY:=vY (.pair (.int .i64) (.pair (.int .i64) (.pair (.int .i64) .unit))) N
def Lh.Ri:Go.Shelf.Ren:={f:=λi=>0,t:=λi=>cond (Nat.beq i 3) 85 (cond (Nat.beq i 4) 4 32),g:=λ_=>0}
theorem Lh.y9:Kh Tryz.prog (.pair (.int .i64) (.pair (.int .i64) (.pair (.int .i64) .unit))) Lh.Ri 194 Tryz.f194:=⟨Tryz.func194.trans κ,Tryz.underlying4,Tryz.underlying32,gV (x:= .inl 85) κ,δ,κ⟩
theorem Rm:iD Tryz.prog 194 (OG N):=qn Lh.y9 κ κ N
def OH:Kn Tryz.prog:=⟨194,OG N,Rm N⟩
abbrev OI:lY:=vY (.pair (.int .i64) (.pair (.int .i64) (.pair (.int .i64) .unit))) N
def Li.Ri:Go.Shelf.Ren:={f:=λi=>0,t:=λi=>cond (Nat.beq i 3) 87 (cond (Nat.beq i 4) 4 33),g:=λ_=>0}
theorem Li.y9:Kh Tryz.prog (.pair (.int .i64) (.pair (.int .i64) (.pair (.int .i64) .unit))) Li.Ri 195 Tryz.f195:=⟨Tryz.func195.trans κ,Tryz.underlying4,Tryz.underlying33,gV (x:= .inl 87) κ,δ,κ⟩
theorem Rn:iD Tryz.prog 195 (OI N):=qn Li.y9 κ κ N
def OJ:Kn Tryz.prog:=⟨195,OI N,Rn N⟩
abbrev OK:lY:=vY (.int .i64) N
def Lj.Ri:Go.Shelf.Ren:={f:=λi=>0,t:=λi=>cond (Nat.beq i 3) 2 (cond (Nat.beq i 4) 4 34),g:=λ_=>0}
theorem Lj.y9:Kh Tryz.prog (.int .i64) Lj.Ri 196 Tryz.f196:=⟨Tryz.func196.trans κ,Tryz.underlying4,Tryz.underlying34,gV (x:= .inl 2) κ,δ,κ⟩
theorem Ro:iD Tryz.prog 196 (OK N):=qn Lj.y9 κ κ N
def YU:Kn Tryz.prog:=⟨196,OK N,Ro N⟩
abbrev OL:lY:=lT (.pair (.int .i64) (.pair (.int .i64) (.pair (.int .i64) .unit))) N
def Lk.Ri:Go.Shelf.Ren:={f:=λi=>cond (Nat.beq i 29) 260 (cond (Nat.beq i 30) 261 0),t:=λi=>cond (Nat.beq i 24) 33 (cond (Nat.beq i 9) 87 (cond (Nat.beq i 3) 3 (cond (Nat.beq i 4) 4 0))),g:=λ_=>0}
theorem Lk.y9:TH Tryz.prog (.pair (.int .i64) (.pair (.int .i64) (.pair (.int .i64) .unit))) Lk.Ri 221 Tryz.f221 Tryz.f260:=⟨Tryz.func221.trans κ,Tryz.underlying3,Tryz.underlying4,Tryz.underlying33,gV (x:= .inl 87) κ,δ,κ⟩
theorem Rp:iD Tryz.prog 221 (OL N):=Fi Lk.y9 ⟨Tryz.func260,κ,κ,κ,κ⟩ κ κ N
def YV:Kn Tryz.prog:=⟨221,OL N,Rp N⟩
abbrev OM:lY:=lT (.pair (.int .i64) (.pair (.int .i64) (.pair (.int .i64) .unit))) N
def Ll.Ri:Go.Shelf.Ren:={f:=λi=>cond (Nat.beq i 29) 262 (cond (Nat.beq i 30) 263 0),t:=λi=>cond (Nat.beq i 24) 32 (cond (Nat.beq i 9) 85 (cond (Nat.beq i 3) 3 (cond (Nat.beq i 4) 4 0))),g:=λ_=>0}
theorem Ll.y9:TH Tryz.prog (.pair (.int .i64) (.pair (.int .i64) (.pair (.int .i64) .unit))) Ll.Ri 223 Tryz.f223 Tryz.f262:=⟨Tryz.func223.trans κ,Tryz.underlying3,Tryz.underlying4,Tryz.underlying32,gV (x:= .inl 85) κ,δ,κ⟩
theorem Rq:iD Tryz.prog 223 (OM N):=Fi Ll.y9 ⟨Tryz.func262,κ,κ,κ,κ⟩ κ κ N
def YW:Kn Tryz.prog:=⟨223,OM N,Rq N⟩
def X56:Fx:=⟨26,tab,[],N,Tryz.f56,[],[.v aA,.v aL],[],none⟩
theorem axl:tv Tryz.prog (X56 N).E:=Fx.RS (X56 N) aF trivial κ
theorem axm: ∀x,PK (X56 N).E (X56 N).fn (X56 N).args (X56 N).res x=Kb (X56 N).args (F56 N) x:=Fx.Z1 κ
def k56:Kn Tryz.prog:=⟨56,(X56 N).S false (F56 N),Fx.u0 (X56 N) aF Tryz.func56⟩
def anH:Fx:=⟨15,tab,[],N,Tryz.f161,[.v I,.v I,.v I],[.v B],[],none⟩
def asO:Kn Tryz.prog:=⟨161,(anH N).S true (Dn N),Fx.u0 (anH N) aF Tryz.func161⟩
def X71:Fx:=⟨68,tab,Kn.l [asO N],N,Tryz.f71,[.v aA],[.v B],[⟨9,[(1,.obj aA),(11,.v eX),(12,.v I),(13,.v I)],[1,1,0,1,0,0],[]⟩],none⟩
theorem anI(K ρ):(X71 N).bd K ρ 9=CC.dw N ((X71 N).kc ρ 9):=κ
theorem anJ(ρ):(X71 N).kc ((X71 N).cf ρ) 9=CC.l4 N N:=Fx.uL [] (anI N) ρ (CC.l4 N) λn ρ' e d=>by rw[e];rfl
theorem h71(K):(X71 N).top K=CC.b N ((X71 N).kc K 9):=κ
def k71:Kn Tryz.prog:=⟨71,(X71 N).S true (CC N),Fx.u1 (X71 N) aF Tryz.func71 [9] (h71 N) (by rw[anJ];rfl)⟩
def ON:Fx:=⟨46,tab,[],N,Tryz.f155,[.v dm],[.v B],[⟨5,[(0,.v dm),(5,.v dm),(6,.v I),(7,.v I)],[1,0,1,0,0],[]⟩],none⟩
theorem aiC(K ρ):(ON N).bd K ρ 5=o5.gJ N ((ON N).kc ρ 5):=κ
theorem aiD(ρ):(ON N).kc ((ON N).cf ρ) 5=o5.l2 N N:=Fx.uL [] (aiC N) ρ (o5.l2 N) λn ρ' e d=>by rw[e];rfl
theorem asP(K):(ON N).top K=o5.b N ((ON N).kc K 5):=κ
def anK:Kn Tryz.prog:=⟨155,(ON N).S true (o5 N),Fx.u1 (ON N) aF Tryz.func155 [5] (asP N) (by rw[aiD];rfl)⟩
def OO:Fx:=⟨77,tab,[],N,Tryz.f162,[.v eX],[.v B],[⟨7,[(0,.v eX),(3,.obj (.arr 13 B)),(6,.v eX),(7,.v I),(8,.v I)],[1,1,0,1,0,0],[]⟩],none⟩
theorem aiE(K ρ):(OO N).bd K ρ 7=mO.nO N ((OO N).kc ρ 7):=κ
theorem aiF(ρ):(OO N).kc ((OO N).cf ρ) 7=mO.l3 N N:=Fx.uL [] (aiE N) ρ (mO.l3 N) λn ρ' e d=>by rw[e];rfl
theorem asQ(K):(OO N).top K=mO.b N ((OO N).kc K 7):=κ
def anL:Kn Tryz.prog:=⟨162,(OO N).S true (mO N),Fx.u1 (OO N) aF Tryz.func162 [7] (asQ N) (by rw[aiF];rfl)⟩
def X63:Fx:=⟨23,tab,Kn.l [anK N],N,Tryz.f63,[.v dm,.v I],[.v I],[⟨9,[(1,.v I),(10,.v dm),(11,.v I),(12,.v I)],[1,1,0,1,0,0],[]⟩],none⟩
theorem anM(K ρ):(X63 N).bd K ρ 9=Al.dw N ((X63 N).kc ρ 9):=κ
theorem anN(ρ):(X63 N).kc ((X63 N).cf ρ) 9=Al.l4 N N:=Fx.uL [] (anM N) ρ (Al.l4 N) λn ρ' e d=>by rw[e];rfl
theorem h63(K):(X63 N).top K=Al.b N ((X63 N).kc K 9):=κ
def k63:Kn Tryz.prog:=⟨63,(X63 N).S true (Al N),Fx.u1 (X63 N) aF Tryz.func63 [9] (h63 N) (by rw[anN];rfl)⟩
def X72:Fx:=⟨27,tab,Kn.l [anK N,anL N,k63 N],N,Tryz.f72,[.v dm,.v eX],[.v B],[⟨9,[(0,.v dm),(15,.v eX),(16,.v I),(17,.v I)],[1,1,0,1,0,0],[]⟩],none⟩
theorem anO(K ρ):(X72 N).bd K ρ 9=Dr.dw N ((X72 N).kc ρ 9):=κ
theorem anP(ρ):(X72 N).kc ((X72 N).cf ρ) 9=Dr.l4 N N:=Fx.uL [] (anO N) ρ (Dr.l4 N) λn ρ' e d=>by rw[e];rfl
theorem h72(K):(X72 N).top K=Dr.b N ((X72 N).kc K 9):=κ
def k72:Kn Tryz.prog:=⟨72,(X72 N).S true (Dr N),Fx.u1 (X72 N) aF Tryz.func72 [9] (h72 N) (by rw[anP];rfl)⟩
def anQ:Fx:=⟨30,tab,[],N,Tryz.f163,[.v I,.v I],[.v B],[],none⟩
def anR:Kn Tryz.prog:=⟨163,(anQ N).S true (Ql N),Fx.u0 (anQ N) aF Tryz.func163⟩
def anS:Fx:=⟨19,tab,[],N,Tryz.f164,[.v I,.v I,.v jt],[.v I],[],none⟩
def anT:Kn Tryz.prog:=⟨164,(anS N).S true (Qn N),Fx.u0 (anS N) aF Tryz.func164⟩
def X73:Fx:=⟨41,tab,Kn.l [anR N,anT N],N,Tryz.f73,[.v cN],[.v B],[⟨5,[(0,.v cN),(5,.v cN),(6,.v I),(7,.v I)],[1,0,1,0,0],[]⟩],none⟩
theorem anU(K ρ):(X73 N).bd K ρ 5=A7.gJ N ((X73 N).kc ρ 5):=κ
theorem anV(ρ):(X73 N).kc ((X73 N).cf ρ) 5=A7.l2 N N:=Fx.uL [] (anU N) ρ (A7.l2 N) λn ρ' e d=>by rw[e];rfl
theorem h73(K):(X73 N).top K=A7.b N ((X73 N).kc K 5):=κ
def k73:Kn Tryz.prog:=⟨73,(X73 N).S true (A7 N),Fx.u1 (X73 N) aF Tryz.func73 [5] (h73 N) (by rw[anV];rfl)⟩
def X65:Fx:=⟨8,tab,[],N,Tryz.f65,[.v I],[.v fQ],[],none⟩
def k65:Kn Tryz.prog:=⟨65,(X65 N).S true (Vn N),Fx.u0 (X65 N) aF Tryz.func65⟩
def OP:Fx:=⟨51,tab,Kn.l [aiB N],N,Tryz.f165,[.v Rh],[.v fQ,.v B],[⟨7,[(2,.obj fQ),(4,.v I),(5,.v U),(6,.v U),(10,.v Rh),(11,.v I),(12,.v I)],[1,1,0,1,0,0],[]⟩],none⟩
theorem aiH(K ρ):(OP N).bd K ρ 7=mM.nO N ((OP N).kc ρ 7):=κ
theorem aiI(ρ):(OP N).kc ((OP N).cf ρ) 7=mM.l3 N N:=Fx.uL [] (aiH N) ρ (mM.l3 N) λn ρ' e d=>by rw[e];rfl
theorem asS(K):(OP N).top K=mM.b N ((OP N).kc K 7):=κ
def Vb:Kn Tryz.prog:=⟨165,(OP N).S true (mM N),Fx.u1 (OP N) aF Tryz.func165 [7] (asS N) (by rw[aiI];rfl)⟩
def X75:Fx:=⟨31,tab,Kn.l [k73 N,k65 N,Vb N],N,Tryz.f75,[.v cN],[.v fQ],[⟨11,[(2,.obj fQ),(3,.own fQ),(12,.v cN),(13,.v I),(14,.v I)],[1,1,1,0,1,0,0],[]⟩],none⟩
theorem aiJ(K ρ):(X75 N).bd K ρ 11=CD.ei N ((X75 N).kc ρ 11):=κ
theorem aiK(ρ):(X75 N).kc ((X75 N).cf ρ) 11=CD.l5 N N:=Fx.uL [] (aiJ N) ρ (CD.l5 N) λn ρ' e d=>by rw[e];rfl
theorem h75(K):(X75 N).top K=CD.b N ((X75 N).kc K 11):=κ
def k75:Kn Tryz.prog:=⟨75,(X75 N).S true (CD N),Fx.u1 (X75 N) aF Tryz.func75 [11] (h75 N) (by rw[aiK];rfl)⟩
def anW:Fx:=⟨27,tab,[],N,Tryz.f132,[.v fQ,.v fQ],[.v I],[],none⟩
def anX:Kn Tryz.prog:=⟨132,(anW N).S true (WH N),Fx.u0 (anW N) aF Tryz.func132⟩
def X74:Fx:=⟨6,tab,Kn.l [anX N],N,Tryz.f74,[.v fQ],[.v I],[],none⟩
def k74:Kn Tryz.prog:=⟨74,(X74 N).S true (F74 N),Fx.u0 (X74 N) aF Tryz.func74⟩
def anY:Fx:=⟨19,tab,[],N,Tryz.f158,[.v I,.v I],[.v B],[],none⟩
def aiL:Kn Tryz.prog:=⟨158,(anY N).S true (Qp N),Fx.u0 (anY N) aF Tryz.func158⟩
def anZ:Fx:=⟨5,tab,[],N,Tryz.f218,[.v I],[.v B],[],none⟩
def aiM:Kn Tryz.prog:=⟨218,(anZ N).S true (Qq N),Fx.u0 (anZ N) aF Tryz.func218⟩
def an0:Fx:=⟨19,tab,[],N,Tryz.f219,[.v I,.v I,.v jt],[.v I],[],none⟩
def an1:Kn Tryz.prog:=⟨219,(an0 N).S true (TU N),Fx.u0 (an0 N) aF Tryz.func219⟩
def OQ:Fx:=⟨47,tab,Kn.l [aiL N,aiM N,an1 N],N,Tryz.f157,[.v cN],[.v B],[⟨5,[(0,.v cN),(5,.v cN),(6,.v I),(7,.v I)],[1,0,1,0,0],[]⟩],none⟩
theorem aiN(K ρ):(OQ N).bd K ρ 5=nj.gJ N ((OQ N).kc ρ 5):=κ
theorem aiO(ρ):(OQ N).kc ((OQ N).cf ρ) 5=nj.l2 N N:=Fx.uL [] (aiN N) ρ (nj.l2 N) λn ρ' e d=>by rw[e];rfl
theorem asT(K):(OQ N).top K=nj.b N ((OQ N).kc K 5):=κ
def YX:Kn Tryz.prog:=⟨157,(OQ N).S true (nj N),Fx.u1 (OQ N) aF Tryz.func157 [5] (asT N) (by rw[aiO];rfl)⟩
def OR:Fx:=⟨37,tab,Kn.l [YX N,k65 N,Vb N],N,Tryz.f166,[.v cN,.v I],[.v fQ],[⟨11,[(1,.v I),(4,.obj fQ),(5,.own fQ),(14,.v cN),(15,.v I),(16,.v I)],[1,1,1,0,1,0,0],[]⟩],none⟩
theorem abz(K ρ):(OR N).bd K ρ 11=o7.ei N ((OR N).kc ρ 11):=κ
theorem abA(ρ):(OR N).kc ((OR N).cf ρ) 11=o7.l5 N N:=Fx.uL [] (abz N) ρ (o7.l5 N) λn ρ' e d=>by rw[e];rfl
theorem asU(K):(OR N).top K=o7.b N ((OR N).kc K 11):=κ
def asV:Kn Tryz.prog:=⟨166,(OR N).S true (o7 N),Fx.u1 (OR N) aF Tryz.func166 [11] (asU N) (by rw[abA];rfl)⟩
def X76:Fx:=⟨15,tab,Kn.l [asV N,k74 N,YX N],N,Tryz.f76,[.v cN],[.v B],[⟨5,[(0,.v cN),(4,.v I)],[1,0,1,0,0],[]⟩],none⟩
theorem an2(K ρ):(X76 N).bd K ρ 5=Ds.gJ N ((X76 N).kc ρ 5):=κ
theorem an3(ρ):(X76 N).kc ((X76 N).cf ρ) 5=Ds.l2 N N:=Fx.uL [] (an2 N) ρ (Ds.l2 N) λn ρ' e d=>by rw[e];rfl
theorem h76(K):(X76 N).top K=Ds.b N ((X76 N).kc K 5):=κ
def k76:Kn Tryz.prog:=⟨76,(X76 N).S true (Ds N),Fx.u1 (X76 N) aF Tryz.func76 [5] (h76 N) (by rw[an3];rfl)⟩
def an4:Fx:=⟨61,tab,[],N,Tryz.f128,[.v mT],[.v B],[],none⟩
def asW:Kn Tryz.prog:=⟨128,(an4 N).S true (aai N),Fx.u0 (an4 N) aF Tryz.func128⟩
def X77:Fx:=⟨34,tab,Kn.l [asW N],N,Tryz.f77,[.v pn],[.v B],[⟨5,[(0,.v pn),(5,.v pn),(6,.v I),(7,.v I)],[1,0,1,0,0],[]⟩],none⟩
theorem an5(K ρ):(X77 N).bd K ρ 5=Dq.gJ N ((X77 N).kc ρ 5):=κ
theorem an6(ρ):(X77 N).kc ((X77 N).cf ρ) 5=Dq.l2 N N:=Fx.uL [] (an5 N) ρ (Dq.l2 N) λn ρ' e d=>by rw[e];rfl
theorem h77(K):(X77 N).top K=Dq.b N ((X77 N).kc K 5):=κ
def k77:Kn Tryz.prog:=⟨77,(X77 N).S true (Dq N),Fx.u1 (X77 N) aF Tryz.func77 [5] (h77 N) (by rw[an6];rfl)⟩
def OS:Fx:=⟨25,tab,Kn.l [anL N],N,Tryz.f124,[.v eX,.v I],[.v eB,.v B],[⟨9,[(1,.v I),(4,.obj eB),(12,.v eX),(13,.v I),(14,.v I)],[1,1,0,1,0,0],[]⟩],none⟩
theorem aiP(K ρ):(OS N).bd K ρ 9=o6.dw N ((OS N).kc ρ 9):=κ
theorem aiQ(ρ):(OS N).kc ((OS N).cf ρ) 9=o6.l4 N N:=Fx.uL [] (aiP N) ρ (o6.l4 N) λn ρ' e d=>by rw[e];rfl
theorem asX(K):(OS N).top K=o6.b N ((OS N).kc K 9):=κ
def asY:Kn Tryz.prog:=⟨124,(OS N).S true (o6 N),Fx.u1 (OS N) aF Tryz.func124 [9] (asX N) (by rw[aiQ];rfl)⟩
def X78:Fx:=⟨15,tab,Kn.l [asY N],N,Tryz.f78,[.v aL,.v I],[.v B],[],none⟩
def k78:Kn Tryz.prog:=⟨78,(X78 N).S true (F78 N),Fx.u0 (X78 N) aF Tryz.func78⟩
def X81:Fx:=⟨9,tab,[],N,Tryz.f81,[.v I],[.v B],[],none⟩
def k81:Kn Tryz.prog:=⟨81,(X81 N).S true (F81 N),Fx.u0 (X81 N) aF Tryz.func81⟩
def X80:Fx:=⟨6,tab,Kn.l [k81 N],N,Tryz.f80,[.v I],[.v B],[],none⟩
def k80:Kn Tryz.prog:=⟨80,(X80 N).S true (F80 N),Fx.u0 (X80 N) aF Tryz.func80⟩
def OT:Fx:=⟨19,tab,Kn.l [k80 N],N,Tryz.f167,[.v LI,.fn 80 .unit],[.v I],[⟨5,[(0,.v LI),(1,.fn 80 .unit),(7,.v I),(8,.v I)],[1,0,1,0,0],[]⟩],none⟩
theorem aiR(K ρ):(OT N).bd K ρ 5=rT.gJ N ((OT N).kc ρ 5):=κ
theorem aiS(ρ):(OT N).kc ((OT N).cf ρ) 5=rT.l2 N N:=Fx.uL [] (aiR N) ρ (rT.l2 N) λn ρ' e d=>by rw[e];rfl
theorem asZ(K):(OT N).top K=rT.b N ((OT N).kc K 5):=κ
def as0:Kn Tryz.prog:=⟨167,(OT N).S true (rT N),Fx.u1 (OT N) aF Tryz.func167 [5] (asZ N) (by rw[aiS];rfl)⟩
def X79:Fx:=⟨9,tab,Kn.l [as0 N],N,Tryz.f79,[.v LI,.fn 80 .unit],[.v B],[],none⟩
def k79:Kn Tryz.prog:=⟨79,(X79 N).S true (F79 N),Fx.u0 (X79 N) aF Tryz.func79⟩
def LB:Fx:=⟨133,tab,Kn.l [k71 N,k72 N,k73 N,k75 N,k74 N,k76 N,k77 N,k78 N,k63 N,k79 N],N,Tryz.f23,[.v aA,.v aL],[.v B],[⟨45,[(2,.obj aA),(3,.obj aL),(109,.v pn),(110,.v I),(111,.v I)],[1,1,1,1,0,1,0,0],[]⟩,⟨33,[(2,.obj aA),(3,.obj aL),(83,.v cN),(84,.v I),(85,.v I)],[1,1,1,0,1,0,0],[]⟩,⟨9,[(2,.obj aA),(3,.obj aL),(57,.v cN),(58,.v I),(59,.v I)],[1,1,0,1,0,0],[]⟩],none⟩
theorem aiT(K ρ):(LB N).bd K ρ 45=lD.vw N ((LB N).kc ρ 45):=κ
theorem aiU(ρ):(LB N).kc ((LB N).cf ρ) 45=lD.wO N N:=Fx.uL [] (aiT N) ρ (lD.wO N) λn ρ' e d=>by rw[e];rfl
theorem aiV(K ρ):(LB N).bd K ρ 33=lD.vv N ((LB N).kc K 45) ((LB N).kc ρ 33):=κ
theorem aiW(ρ):(LB N).kc ((LB N).cf ρ) 33=lD.wN N N:=Fx.uL [45] (aiV N) ρ (lD.wN N) λn ρ' e d=>by rw[aiU,e];rfl
theorem an7(K ρ):(LB N).bd K ρ 9=lD.dw N ((LB N).kc K 33) ((LB N).kc ρ 9):=κ
theorem an8(ρ):(LB N).kc ((LB N).cf ρ) 9=lD.l4 N N:=Fx.uL [33,45] (an7 N) ρ (lD.l4 N) λn ρ' e d=>by rw[aiW,e];rfl
theorem h23(K):(LB N).top K=lD.b N ((LB N).kc K 9):=κ
def k23:Kn Tryz.prog:=⟨23,(LB N).S true (lD N),Fx.u1 (LB N) aF Tryz.func23 [9,33,45] (h23 N) (by rw[an8];rfl)⟩
def X64:Fx:=⟨31,tab,Kn.l [k73 N],N,Tryz.f64,[.v cN,.v I,.v I],[.v I],[⟨9,[(1,.v I),(2,.v I),(12,.v cN),(13,.v I),(14,.v I)],[1,1,0,1,0,0],[]⟩],none⟩
theorem an9(K ρ):(X64 N).bd K ρ 9=BE.dw N ((X64 N).kc ρ 9):=κ
theorem aoa(ρ):(X64 N).kc ((X64 N).cf ρ) 9=BE.l4 N N:=Fx.uL [] (an9 N) ρ (BE.l4 N) λn ρ' e d=>by rw[e];rfl
theorem nR(K):(X64 N).top K=BE.b N ((X64 N).kc K 9):=κ
def k64:Kn Tryz.prog:=⟨64,(X64 N).S true (BE N),Fx.u1 (X64 N) aF Tryz.func64 [9] (nR N) (by rw[aoa];rfl)⟩
def X90:Fx:=⟨31,tab,Kn.l [YX N],N,Tryz.f90,[.v cN,.v I],[.own jC],[⟨11,[(1,.v I),(5,.own jC),(11,.v cN),(12,.v I),(13,.v I)],[1,1,1,0,1,0,0],[]⟩],none⟩
theorem aiX(K ρ):(X90 N).bd K ρ 11=BG.ei N ((X90 N).kc ρ 11):=κ
theorem aiY(ρ):(X90 N).kc ((X90 N).cf ρ) 11=BG.l5 N N:=Fx.uL [] (aiX N) ρ (BG.l5 N) λn ρ' e d=>by rw[e];rfl
theorem h90(K):(X90 N).top K=BG.b N ((X90 N).kc K 11):=κ
def k90:Kn Tryz.prog:=⟨90,(X90 N).S false (BG N),Fx.u1 (X90 N) aF Tryz.func90 [11] (h90 N) (by rw[aiY];rfl)⟩
def OU:Fx:=⟨54,tab,Kn.l [aiM N,k71 N],N,Tryz.f198,[.v aA,.v dm],[.v B],[⟨5,[(1,.v dm),(2,.obj aA),(7,.v dm),(8,.v I),(9,.v I)],[1,0,1,0,0],[]⟩],none⟩
theorem aiZ(K ρ):(OU N).bd K ρ 5=pG.gJ N ((OU N).kc ρ 5):=κ
theorem ai0(ρ):(OU N).kc ((OU N).cf ρ) 5=pG.l2 N N:=Fx.uL [] (aiZ N) ρ (pG.l2 N) λn ρ' e d=>by rw[e];rfl
theorem as2(K):(OU N).top K=pG.b N ((OU N).kc K 5):=κ
def as3:Kn Tryz.prog:=⟨198,(OU N).S true (pG N),Fx.u1 (OU N) aF Tryz.func198 [5] (as2 N) (by rw[ai0];rfl)⟩
def aob:Fx:=⟨10,tab,[],N,Tryz.f225,[.v I],[.v U],[],none⟩
def aoc:Kn Tryz.prog:=⟨225,(aob N).S true (TO N),Fx.u0 (aob N) aF Tryz.func225⟩
def aod:Fx:=⟨5,tab,[],N,Tryz.f171,[.v eB],[.v I],[],none⟩
def as4:Kn Tryz.prog:=⟨171,(aod N).S true (ah7 N),Fx.u0 (aod N) aF Tryz.func171⟩
def aoe:Fx:=⟨51,tab,[],N,Tryz.f228,[.v U,.v U],[.v U,.v U],[],none⟩
def as5:Kn Tryz.prog:=⟨228,(aoe N).S true (Z5 N),Fx.u0 (aoe N) aF Tryz.func228⟩
def Rr:Fx:=⟨47,tab,Kn.l [YQ N],N,Tryz.f229,[.v B,.v U,.v U],[.v fQ,.v B],[⟨14,[(1,.v U),(2,.v U),(6,.obj fQ)],[1,1,1],[]⟩],none⟩
theorem abB(K ρ):(Rr N).bd K ρ 14=rS.Vm N:=κ
theorem abC(ρ):(Rr N).kc ((Rr N).cf ρ) 14=rS.j7 N:=Fx.uJ [] (abB N) ρ
theorem as6(K):(Rr N).top K=rS.b N ((Rr N).kc K 14):=κ
def as7:Kn Tryz.prog:=⟨229,(Rr N).S true (rS N),Fx.u1 (Rr N) aF Tryz.func229 [14] (as6 N) (by rw[abC];rfl)⟩
def aof:Fx:=⟨29,tab,Kn.l [aoc N,as5 N,as7 N],N,Tryz.f176,[.v I,.v I],[.v fQ],[],none⟩
def as8:Kn Tryz.prog:=⟨176,(aof N).S true (aae N),Fx.u0 (aof N) aF Tryz.func176⟩
def OV:Fx:=⟨47,tab,Kn.l [as3 N,aoc N,as4 N,as8 N,Vb N],N,Tryz.f170,[.v aA,.v dm,.fn 171 .unit],[.v fQ,.v I],[⟨11,[(2,.fn 171 .unit),(3,.obj aA),(6,.obj fQ),(8,.own fQ),(18,.v dm),(19,.v I),(20,.v I)],[1,1,1,0,1,0,0],[]⟩],none⟩
theorem abD(K ρ):(OV N).bd K ρ 11=pH.ei N ((OV N).kc ρ 11):=κ
theorem abE(ρ):(OV N).kc ((OV N).cf ρ) 11=pH.l5 N N:=Fx.uL [] (abD N) ρ (pH.l5 N) λn ρ' e d=>by rw[e];rfl
theorem as9(K):(OV N).top K=pH.b N ((OV N).kc K 11):=κ
def ata:Kn Tryz.prog:=⟨170,(OV N).S true (pH N),Fx.u1 (OV N) aF Tryz.func170 [11] (as9 N) (by rw[abE];rfl)⟩
def X89:Fx:=⟨11,tab,Kn.l [ata N],N,Tryz.f89,[.v aA,.v dm],[.v fQ,.v I],[],none⟩
def k89:Kn Tryz.prog:=⟨89,(X89 N).S true (F89 N),Fx.u0 (X89 N) aF Tryz.func89⟩
def X91:Fx:=⟨10,tab,Kn.l [k65 N,anX N],N,Tryz.f91,[.v I,.v fQ],[.v B],[],none⟩
def k91:Kn Tryz.prog:=⟨91,(X91 N).S true (F91 N),Fx.u0 (X91 N) aF Tryz.func91⟩
def X92:Fx:=⟨14,tab,[],N,Tryz.f92,[.v fQ],[.v I,.v B],[],none⟩
def k92:Kn Tryz.prog:=⟨92,(X92 N).S true (F92 N),Fx.u0 (X92 N) aF Tryz.func92⟩
def X31:Fx:=⟨44,tab,Kn.l [k23 N,k78 N,k64 N,k90 N,k89 N,k91 N,k92 N],N,Tryz.f31,[.v aA,.v aL,.v I],[.v I,.v I],[],none⟩
def k31:Kn Tryz.prog:=⟨31,(X31 N).S true (F31 N),Fx.u0 (X31 N) aF Tryz.func31⟩
def aog:Fx:=⟨52,tab,Kn.l [YQ N],N,Tryz.f156,[.v fQ,.v fQ],[.v fQ,.v B],[],none⟩
def atc:Kn Tryz.prog:=⟨156,(aog N).S true (ah5 N),Fx.u0 (aog N) aF Tryz.func156⟩
def X66:Fx:=⟨9,tab,Kn.l [atc N],N,Tryz.f66,[.v fQ],[.v fQ,.v B],[],none⟩
def k66:Kn Tryz.prog:=⟨66,(X66 N).S true (F66 N),Fx.u0 (X66 N) aF Tryz.func66⟩
def X67:Fx:=⟨54,tab,Kn.l [YX N,aiL N,k90 N],N,Tryz.f67,[.v cN,.v I,.v I],[.own jt],[⟨11,[(1,.v I),(2,.v I),(7,.own jt),(30,.own jC),(31,.v I),(32,.v I)],[1,1,1,0,1,0,0],[]⟩],none⟩
theorem ai1(K ρ):(X67 N).bd K ρ 11=CJ.ei N ((X67 N).kc ρ 11):=κ
theorem ai2(ρ):(X67 N).kc ((X67 N).cf ρ) 11=CJ.l5 N N:=Fx.uL [] (ai1 N) ρ (CJ.l5 N) λn ρ' e d=>by rw[e];rfl
theorem h67(K):(X67 N).top K=CJ.b N ((X67 N).kc K 11):=κ
def k67:Kn Tryz.prog:=⟨67,(X67 N).S false (CJ N),Fx.u1 (X67 N) aF Tryz.func67 [11] (h67 N) (by rw[ai2];rfl)⟩
def aoh:Fx:=⟨22,tab,Kn.l [YS N,YT N,OH N,OJ N,YU N,YR N],N,Tryz.f126,[.v aL],[.v aL],[],none⟩
def atd:Kn Tryz.prog:=⟨126,(aoh N).S false (aax N),Fx.u0 (aoh N) aF Tryz.func126⟩
def yg:Fx:=⟨42,tab,Kn.l [k65 N,Vb N,k74 N],N,Tryz.f220,[.v cN],[.v B],[⟨13,[(0,.v cN),(3,.v I),(4,.own fQ),(9,.v I),(12,.v cN),(13,.v I),(14,.v I)],[1,0,1,0,0,1,1,0,0,1,1,0,1,0,0],[5]⟩,⟨5,[(0,.v cN),(9,.v I)],[1,0,1,0,0],[]⟩],none⟩
theorem abF(K ρ):(yg N).bd K ρ 13=gy.uu N ((yg N).kc ρ 5) ((yg N).kc ρ 13):=κ
theorem abG(ρ):(yg N).kc ((yg N).cf ρ) 13=gy.l6 N ((yg N).kc ρ 5) N:=Fx.uL [] (abF N) ρ (gy.l6 N ((yg N).kc ρ 5)) λn ρ' e d=>by rw[e,d 5 rfl];rfl
theorem ai3(K ρ):(yg N).bd K ρ 5=gy.gJ N ((yg N).kc K 13) ((yg N).kc ρ 5):=κ
theorem ai4(ρ):(yg N).kc ((yg N).cf ρ) 5=gy.l2 N N:=Fx.uL [13] (ai3 N) ρ (gy.l2 N) λn ρ' e d=>by rw[abG,e];rfl
theorem ate(K):(yg N).top K=gy.b N ((yg N).kc K 5):=κ
def atf:Kn Tryz.prog:=⟨220,(yg N).S true (gy N),Fx.u1 (yg N) aF Tryz.func220 [5] (ate N) (by rw[ai4];rfl)⟩
def aoi:Fx:=⟨9,tab,[],N,Tryz.f222,[.v cN],[.v cN],[],none⟩
def atg:Kn Tryz.prog:=⟨222,(aoi N).S false (aao N),Fx.u0 (aoi N) aF Tryz.func222⟩
def iT:Fx:=⟨173,tab,Kn.l [YX N,aiL N,aiM N,atf N,OJ N,an1 N,YV N,k65 N,Vb N,k92 N,atg N],N,Tryz.f159,[.v cN,.v cN],[.v cN,.v I],[⟨36,[(1,.v cN),(8,.own jt),(10,.obj jt),(11,.v I),(54,.v cN),(55,.v I),(56,.v I)],[1,1,1,1,1,0,1,0,0,1,1,0,0,1,1,1],[27]⟩,⟨33,[(1,.v cN),(8,.own jt),(10,.obj jt),(11,.v I),(54,.v cN),(55,.v I),(56,.v I)],[1,1,1,1,1,0,1,0,0,1,1,0,0,1,1,0,0,0],[27]⟩,⟨55,[(1,.v cN),(12,.own jt),(14,.obj jt),(15,.own fQ),(107,.own jt),(108,.v I),(109,.v I),(117,.v cN),(118,.v I),(119,.v I)],[1,1,1,1,1,1,1,0,1,0,0,1,1,0,0,1,1,0,1,0,0],[47]⟩,⟨47,[(1,.v cN),(12,.own jt),(107,.own jt),(108,.v I),(109,.v I)],[1,1,1,1,1,1,1,0,1,0,0],[]⟩,⟨27,[(1,.v cN),(8,.own jt),(54,.v cN),(55,.v I),(56,.v I)],[1,1,1,1,1,0,1,0,0],[]⟩,⟨9,[(0,.v cN),(1,.v cN),(30,.v cN),(31,.v I),(32,.v I)],[1,1,0,1,0,0],[]⟩],none⟩
theorem abH(K ρ):(iT N).bd K ρ 36=cn.ahZ N ((iT N).kc ρ 27):=κ
theorem abI(ρ):(iT N).kc ((iT N).cf ρ) 36=cn.j18 N ((iT N).kc ρ 27):=Fx.uJ [47] (abH N) ρ
theorem abJ(K ρ):(iT N).bd K ρ 33=cn.vv N ((iT N).kc K 36) ((iT N).kc ρ 27) ((iT N).kc ρ 33):=κ
theorem abK(ρ):(iT N).kc ((iT N).cf ρ) 33=cn.wN N ((iT N).kc ρ 27) N:=Fx.uL [47,36] (abJ N) ρ (cn.wN N ((iT N).kc ρ 27)) λn ρ' e d=>by rw[abI,e,d 27 rfl];rfl
theorem abL(K ρ):(iT N).bd K ρ 55=cn.aap N ((iT N).kc ρ 47) ((iT N).kc ρ 55):=κ
theorem abM(ρ):(iT N).kc ((iT N).cf ρ) 55=cn.l27 N ((iT N).kc ρ 47) N:=Fx.uL [] (abL N) ρ (cn.l27 N ((iT N).kc ρ 47)) λn ρ' e d=>by rw[e,d 47 rfl];rfl
theorem abN(K ρ):(iT N).bd K ρ 47=cn.aar N ((iT N).kc K 55) ((iT N).kc ρ 47):=κ
theorem abO(ρ):(iT N).kc ((iT N).cf ρ) 47=cn.l23 N N:=Fx.uL [55] (abN N) ρ (cn.l23 N) λn ρ' e d=>by rw[abM,e];rfl
theorem abP(K ρ):(iT N).bd K ρ 27=cn.mP N ((iT N).kc K 33) ((iT N).kc K 47) ((iT N).kc ρ 27):=κ
theorem abQ(ρ):(iT N).kc ((iT N).cf ρ) 27=cn.nT N N:=Fx.uL [47,33,36] (abP N) ρ (cn.nT N) λn ρ' e d=>by rw[abK,abO,e];rfl
theorem ai5(K ρ):(iT N).bd K ρ 9=cn.dw N ((iT N).kc K 27) ((iT N).kc ρ 9):=κ
theorem ai6(ρ):(iT N).kc ((iT N).cf ρ) 9=cn.l4 N N:=Fx.uL [27,47] (ai5 N) ρ (cn.l4 N) λn ρ' e d=>by rw[abQ,e];rfl
theorem ath(K):(iT N).top K=cn.b N ((iT N).kc K 9):=κ
def ati:Kn Tryz.prog:=⟨159,(iT N).S false (cn N),Fx.u1 (iT N) aF Tryz.func159 [9,27,47] (ath N) (by rw[ai6];rfl)⟩
def aoj:Fx:=⟨9,tab,[],N,Tryz.f224,[.v cN],[.v cN],[],none⟩
def atj:Kn Tryz.prog:=⟨224,(aoj N).S false (ah1 N),Fx.u0 (aoj N) aF Tryz.func224⟩
def iU:Fx:=⟨185,tab,Kn.l [k73 N,anR N,Vb N,k74 N,OH N,anT N,YW N,k65 N,k92 N,atj N],N,Tryz.f160,[.v cN,.v jO],[.v cN,.v I],[⟨42,[(1,.v jO),(11,.own jt),(13,.obj w9),(14,.v I),(68,.v jO),(69,.v I),(70,.v I)],[1,1,1,1,1,1,0,1,0,0,1,1,0,0,1,1,1],[33]⟩,⟨39,[(1,.v jO),(11,.own jt),(13,.obj w9),(14,.v I),(68,.v jO),(69,.v I),(70,.v I)],[1,1,1,1,1,1,0,1,0,0,1,1,0,0,1,1,0,0,0],[33]⟩,⟨61,[(1,.v jO),(15,.own jt),(17,.obj jt),(18,.own fQ),(121,.own jt),(122,.v I),(123,.v I),(131,.v jO),(132,.v I),(133,.v I)],[1,1,1,1,1,1,1,1,0,1,0,0,1,1,0,0,1,1,0,1,0,0],[53]⟩,⟨53,[(1,.v jO),(15,.own jt),(121,.own jt),(122,.v I),(123,.v I)],[1,1,1,1,1,1,1,1,0,1,0,0],[]⟩,⟨33,[(1,.v jO),(11,.own jt),(68,.v jO),(69,.v I),(70,.v I)],[1,1,1,1,1,1,0,1,0,0],[]⟩,⟨11,[(0,.v cN),(1,.v jO),(6,.own fQ),(36,.v jO),(37,.v I),(38,.v I)],[1,1,1,0,1,0,0],[]⟩],none⟩
theorem abR(K ρ):(iU N).bd K ρ 42=cq.ah2 N ((iU N).kc ρ 33):=κ
theorem abS(ρ):(iU N).kc ((iU N).cf ρ) 42=cq.j21 N ((iU N).kc ρ 33):=Fx.uJ [53] (abR N) ρ
theorem abT(K ρ):(iU N).bd K ρ 39=cq.Qy N ((iU N).kc K 42) ((iU N).kc ρ 33) ((iU N).kc ρ 39):=κ
theorem abU(ρ):(iU N).kc ((iU N).cf ρ) 39=cq.T7 N ((iU N).kc ρ 33) N:=Fx.uL [53,42] (abT N) ρ (cq.T7 N ((iU N).kc ρ 33)) λn ρ' e d=>by rw[abS,e,d 33 rfl];rfl
theorem abV(K ρ):(iU N).bd K ρ 61=cq.Ky N ((iU N).kc ρ 53) ((iU N).kc ρ 61):=κ
theorem abW(ρ):(iU N).kc ((iU N).cf ρ) 61=cq.No N ((iU N).kc ρ 53) N:=Fx.uL [] (abV N) ρ (cq.No N ((iU N).kc ρ 53)) λn ρ' e d=>by rw[e,d 53 rfl];rfl
theorem abX(K ρ):(iU N).bd K ρ 53=cq.aav N ((iU N).kc K 61) ((iU N).kc ρ 53):=κ
theorem abY(ρ):(iU N).kc ((iU N).cf ρ) 53=cq.l26 N N:=Fx.uL [61] (abX N) ρ (cq.l26 N) λn ρ' e d=>by rw[abW,e];rfl
theorem abZ(K ρ):(iU N).bd K ρ 33=cq.vv N ((iU N).kc K 39) ((iU N).kc K 53) ((iU N).kc ρ 33):=κ
theorem ab0(ρ):(iU N).kc ((iU N).cf ρ) 33=cq.wN N N:=Fx.uL [53,39,42] (abZ N) ρ (cq.wN N) λn ρ' e d=>by rw[abU,abY,e];rfl
theorem ab1(K ρ):(iU N).bd K ρ 11=cq.ei N ((iU N).kc K 33) ((iU N).kc ρ 11):=κ
theorem ab2(ρ):(iU N).kc ((iU N).cf ρ) 11=cq.l5 N N:=Fx.uL [33,53] (ab1 N) ρ (cq.l5 N) λn ρ' e d=>by rw[ab0,e];rfl
theorem atk(K):(iU N).top K=cq.b N ((iU N).kc K 11):=κ
def atl:Kn Tryz.prog:=⟨160,(iU N).S false (cq N),Fx.u1 (iU N) aF Tryz.func160 [11,33,53] (atk N) (by rw[ab2];rfl)⟩
def X68:Fx:=⟨37,tab,Kn.l [atd N,ati N,atl N],N,Tryz.f68,[.v aL,.v cN,.v jO],[.v aL,.v I],[],none⟩
def k68:Kn Tryz.prog:=⟨68,(X68 N).S false (F68 N),Fx.u0 (X68 N) aF Tryz.func68⟩
def SZ:Fx:=⟨89,tab,Kn.l [k23 N,k63 N,k31 N,k64 N,k65 N,k66 N,k67 N,k68 N],N,Tryz.f21,[.v aA,.v aL,.v I],[.v aL,.v I],[⟨28,[(2,.v I),(3,.obj aA),(4,.obj aL),(6,.obj aL),(8,.own jt),(9,.own w9),(11,.obj eB),(12,.v I),(30,.v eX),(31,.v I),(32,.v I)],[1,1,1,1,0,1,0,0,1,1,0,0,1,1,1,1],[17]⟩,⟨17,[(2,.v I),(3,.obj aA),(4,.obj aL),(6,.obj aL),(8,.own jt),(9,.own w9),(30,.v eX),(31,.v I),(32,.v I)],[1,1,1,1,0,1,0,0],[]⟩],none⟩
theorem ai7(K ρ):(SZ N).bd K ρ 28=sO.NM N ((SZ N).kc ρ 17):=κ
theorem ai8(ρ):(SZ N).kc ((SZ N).cf ρ) 28=sO.Vp N ((SZ N).kc ρ 17):=Fx.uJ [] (ai7 N) ρ
theorem ai9(K ρ):(SZ N).bd K ρ 17=sO.yc N ((SZ N).kc K 28) ((SZ N).kc ρ 17):=κ
theorem aja(ρ):(SZ N).kc ((SZ N).cf ρ) 17=sO.l8 N N:=Fx.uL [28] (ai9 N) ρ (sO.l8 N) λn ρ' e d=>by rw[ai8,e];rfl
theorem h21(K):(SZ N).top K=sO.b N ((SZ N).kc K 17):=κ
def k21:Kn Tryz.prog:=⟨21,(SZ N).S false (sO N),Fx.u1 (SZ N) aF Tryz.func21 [17] (h21 N) (by rw[aja];rfl)⟩
def X84:Fx:=⟨78,tab,[],N,Tryz.f84,[.v cN],[.v B],[⟨5,[(0,.v cN),(3,.v I)],[1,0,1,0,0],[]⟩],none⟩
theorem aok(K ρ):(X84 N).bd K ρ 5=ze.gJ N ((X84 N).kc ρ 5):=κ
theorem aol(ρ):(X84 N).kc ((X84 N).cf ρ) 5=ze.l2 N N:=Fx.uL [] (aok N) ρ (ze.l2 N) λn ρ' e d=>by rw[e];rfl
theorem h84(K):(X84 N).top K=ze.b N ((X84 N).kc K 5):=κ
def k84:Kn Tryz.prog:=⟨84,(X84 N).S true (ze N),Fx.u1 (X84 N) aF Tryz.func84 [5] (h84 N) (by rw[aol];rfl)⟩
def X27:Fx:=⟨38,tab,Kn.l [k84 N],N,Tryz.f27,[.v cN,.v I,.v I],[.v I],[⟨9,[(0,.v cN),(1,.v I),(2,.v I),(7,.v I)],[1,1,0,1,0,0],[]⟩],none⟩
theorem aom(K ρ):(X27 N).bd K ρ 9=BC.dw N ((X27 N).kc ρ 9):=κ
theorem aon(ρ):(X27 N).kc ((X27 N).cf ρ) 9=BC.l4 N N:=Fx.uL [] (aom N) ρ (BC.l4 N) λn ρ' e d=>by rw[e];rfl
theorem h27(K):(X27 N).top K=BC.b N ((X27 N).kc K 9):=κ
def k27:Kn Tryz.prog:=⟨27,(X27 N).S true (BC N),Fx.u1 (X27 N) aF Tryz.func27 [9] (h27 N) (by rw[aon];rfl)⟩
def aoo:Fx:=⟨30,tab,[],N,Tryz.f169,[.v I,.v I],[.v B],[],none⟩
def aop:Kn Tryz.prog:=⟨169,(aoo N).S true (Qm N),Fx.u0 (aoo N) aF Tryz.func169⟩
def X88:Fx:=⟨74,tab,Kn.l [aop N],N,Tryz.f88,[.v cN],[.v B],[⟨5,[(0,.v cN),(3,.v I)],[1,0,1,0,0],[]⟩],none⟩
theorem aoq(K ρ):(X88 N).bd K ρ 5=Bu.gJ N ((X88 N).kc ρ 5):=κ
theorem aor(ρ):(X88 N).kc ((X88 N).cf ρ) 5=Bu.l2 N N:=Fx.uL [] (aoq N) ρ (Bu.l2 N) λn ρ' e d=>by rw[e];rfl
theorem h88(K):(X88 N).top K=Bu.b N ((X88 N).kc K 5):=κ
def k88:Kn Tryz.prog:=⟨88,(X88 N).S true (Bu N),Fx.u1 (X88 N) aF Tryz.func88 [5] (h88 N) (by rw[aor];rfl)⟩
def X29:Fx:=⟨38,tab,Kn.l [k88 N],N,Tryz.f29,[.v cN,.v I,.v I],[.v I],[⟨9,[(0,.v cN),(1,.v I),(2,.v I),(7,.v I)],[1,1,0,1,0,0],[]⟩],none⟩
theorem aos(K ρ):(X29 N).bd K ρ 9=uI.dw N ((X29 N).kc ρ 9):=κ
theorem aot(ρ):(X29 N).kc ((X29 N).cf ρ) 9=uI.l4 N N:=Fx.uL [] (aos N) ρ (uI.l4 N) λn ρ' e d=>by rw[e];rfl
theorem h29(K):(X29 N).top K=uI.b N ((X29 N).kc K 9):=κ
def YY:Kn Tryz.prog:=⟨29,(X29 N).S true (uI N),Fx.u1 (X29 N) aF Tryz.func29 [9] (h29 N) (by rw[aot];rfl)⟩
def X15:Fx:=⟨69,tab,Kn.l [k56 N,k31 N,k21 N,k27 N,YY N],N,Tryz.f15,[],[.v B],[],none⟩
theorem axG:tv Tryz.prog (X15 N).E:=Fx.RS (X15 N) aF (Kn.all _) κ
theorem axH: ∀x,PK (X15 N).E (X15 N).fn (X15 N).args (X15 N).res x=Kb (X15 N).args (F15 N) x:=Fx.Z1 κ
def k15:Kn Tryz.prog:=⟨15,(X15 N).S true (F15 N),Fx.u0 (X15 N) aF Tryz.func15⟩
def X16:Fx:=⟨6,tab,[],N,Tryz.f16,[.v LU],[.ptr dN],[],none⟩
def k16:Kn Tryz.prog:=⟨16,(X16 N).S false (F16 N),Fx.u0 (X16 N) aF Tryz.func16⟩
def X62:Fx:=⟨32,tab,[],N,Tryz.f62,[.io dN],[.v U,.io dN],[],none⟩
def k62:Kn Tryz.prog:=⟨62,(X62 N).S false (F62 N),Fx.u0 (X62 N) aF Tryz.func62⟩
def X20:Fx:=⟨11,tab,Kn.l [k62 N],N,Tryz.f20,[.io dN,.v I],[.v I,.io dN],[],none⟩
def YZ:Kn Tryz.prog:=⟨20,(X20 N).S false (pS N),Fx.u0 (X20 N) aF Tryz.func20⟩
def X57:Fx:=⟨11,tab,Kn.l [YZ N],N,Tryz.f57,[.io dN,.v I],[.v B,.io dN],[],none⟩
def k57:Kn Tryz.prog:=⟨57,(X57 N).S false (QP N),Fx.u0 (X57 N) aF Tryz.func57⟩
def X40:Fx:=⟨29,tab,Kn.l [k62 N],N,Tryz.f40,[.io dN],[.v I,.io dN],[],none⟩
def k40:Kn Tryz.prog:=⟨40,(X40 N).S false (Lv N),Fx.u0 (X40 N) aF Tryz.func40⟩
def S1:Fx:=⟨71,tab,Kn.l [YZ N,k57 N,k40 N],N,Tryz.f17,[.io dN],[.v aA,.io dN],[⟨16,[(0,.io dN),(2,.obj aA),(3,.gd aA [.kE 0] eB),(4,.v I),(5,.obj eB)],[1,1,0,1,0,0,1,0,0,1,1],[7]⟩,⟨7,[(0,.io dN),(2,.obj aA),(3,.gd aA [.kE 0] eB),(4,.v I)],[1,1,0,1,0,0],[]⟩],some (aA,[.kE 0],eB,[3])⟩
theorem ajc(K ρ):(S1 N).bd K ρ 16=uW.W2 N ((S1 N).kc ρ 7):=κ
theorem ajd(ρ):(S1 N).kc ((S1 N).cf ρ) 16=uW.j8 N ((S1 N).kc ρ 7):=Fx.uJ [] (ajc N) ρ
theorem aou(K ρ):(S1 N).bd K ρ 7=uW.nO N ((S1 N).kc K 16) ((S1 N).kc ρ 7):=κ
theorem aov(ρ):(S1 N).kc ((S1 N).cf ρ) 7=uW.l3 N N:=Fx.uL [16] (aou N) ρ (uW.l3 N) λn ρ' e d=>by rw[ajd,e];rfl
theorem h17(K):(S1 N).top K=uW.b N ((S1 N).kc K 7):=κ
def k17:Kn Tryz.prog:=⟨17,(S1 N).S false (uW N),Fx.u1 (S1 N) aF Tryz.func17 [7] (h17 N) (by rw[aov];rfl)⟩
def aow:Fx:=⟨30,tab,Kn.l [YZ N,k57 N,k40 N],N,Tryz.f209,[.io dN,.v aA,.v I],[.v kX,.io dN],[],none⟩
def aje:Kn Tryz.prog:=⟨209,(aow N).S false (Un N),Fx.u0 (aow N) aF Tryz.func209⟩
def aox:Fx:=⟨48,tab,Kn.l [YZ N,k57 N,k40 N],N,Tryz.f210,[.io dN,.v aA],[.v kX,.io dN],[],none⟩
def aoy:Kn Tryz.prog:=⟨210,(aox N).S false (Xy N),Fx.u0 (aox N) aF Tryz.func210⟩
def aoz:Fx:=⟨133,tab,Kn.l [YZ N,k40 N,aje N,aoy N],N,Tryz.f144,[.io dN,.v aA],[.v kX,.io dN],[],none⟩
def ajf:Kn Tryz.prog:=⟨144,(aoz N).S false (Uo N),Fx.u0 (aoz N) aF Tryz.func144⟩
def vz:Fx:=⟨62,tab,Kn.l [k57 N,YZ N],N,Tryz.f211,[.io dN,.v aA],[.own kX,.io dN],[⟨27,[(0,.io dN),(5,.own kX),(8,.v I)],[1,1,1,1,0,1,0,0],[]⟩,⟨19,[(0,.io dN),(5,.own kX),(7,.v I)],[1,1,1,0,1,0,0],[]⟩,⟨7,[(0,.io dN),(5,.own kX),(6,.v I)],[1,1,0,1,0,0],[]⟩],none⟩
theorem ab4(K ρ):(vz N).bd K ρ 27=fP.mP N ((vz N).kc ρ 27):=κ
theorem ab5(ρ):(vz N).kc ((vz N).cf ρ) 27=fP.nT N N:=Fx.uL [] (ab4 N) ρ (fP.nT N) λn ρ' e d=>by rw[e];rfl
theorem ab6(K ρ):(vz N).bd K ρ 19=fP.xy N ((vz N).kc K 27) ((vz N).kc ρ 19):=κ
theorem ab7(ρ):(vz N).kc ((vz N).cf ρ) 19=fP.l9 N N:=Fx.uL [27] (ab6 N) ρ (fP.l9 N) λn ρ' e d=>by rw[ab5,e];rfl
theorem ajg(K ρ):(vz N).bd K ρ 7=fP.nO N ((vz N).kc K 19) ((vz N).kc ρ 7):=κ
theorem ajh(ρ):(vz N).kc ((vz N).cf ρ) 7=fP.l3 N N:=Fx.uL [19,27] (ajg N) ρ (fP.l3 N) λn ρ' e d=>by rw[ab7,e];rfl
theorem atp(K):(vz N).top K=fP.b N ((vz N).kc K 7):=κ
def atq:Kn Tryz.prog:=⟨211,(vz N).S false (fP N),Fx.u1 (vz N) aF Tryz.func211 [7,19,27] (atp N) (by rw[ajh];rfl)⟩
def OW:Fx:=⟨50,tab,Kn.l [atq N,YZ N,ajf N,aje N,aoy N],N,Tryz.f145,[.io dN,.v aA,.v I],[.own kX,.io dN],[⟨7,[(0,.io dN),(4,.obj aA),(7,.own kX),(8,.v I)],[1,1,0,1,0,0],[]⟩],none⟩
theorem aji(K ρ):(OW N).bd K ρ 7=pM.nO N ((OW N).kc ρ 7):=κ
theorem ajj(ρ):(OW N).kc ((OW N).cf ρ) 7=pM.l3 N N:=Fx.uL [] (aji N) ρ (pM.l3 N) λn ρ' e d=>by rw[e];rfl
theorem atr(K):(OW N).top K=pM.b N ((OW N).kc K 7):=κ
def aoA:Kn Tryz.prog:=⟨145,(OW N).S false (pM N),Fx.u1 (OW N) aF Tryz.func145 [7] (atr N) (by rw[ajj];rfl)⟩
def aoB:Fx:=⟨15,tab,[],N,Tryz.f184,[.v I,.v I,.v I],[.v B],[],none⟩
def ats:Kn Tryz.prog:=⟨184,(aoB N).S true (HA N),Fx.u0 (aoB N) aF Tryz.func184⟩
def OX:Fx:=⟨77,tab,Kn.l [ats N],N,Tryz.f111,[.v aA],[.v B],[⟨9,[(1,.obj aA),(3,.v I)],[1,1,0,1,0,0],[]⟩],none⟩
theorem ajk(K ρ):(OX N).bd K ρ 9=me.dw N ((OX N).kc ρ 9):=κ
theorem ajl(ρ):(OX N).kc ((OX N).cf ρ) 9=me.l4 N N:=Fx.uL [] (ajk N) ρ (me.l4 N) λn ρ' e d=>by rw[e];rfl
theorem att(K):(OX N).top K=me.b N ((OX N).kc K 9):=κ
def Rs:Kn Tryz.prog:=⟨111,(OX N).S true (me N),Fx.u1 (OX N) aF Tryz.func111 [9] (att N) (by rw[ajl];rfl)⟩
def DJ:Fx:=⟨41,tab,Kn.l [Rs N],N,Tryz.f206,[.v aA],[.v aL,.v I],[⟨15,[(1,.obj aA),(2,.obj aL),(4,.gd aL [.kE 4] I),(5,.v I)],[1,1,1,1,0,1,0,0],[]⟩,⟨12,[(1,.obj aA),(2,.obj aL),(4,.gd aL [.kE 4] I)],[1,1,1,1],[]⟩],some (aL,[.kE 4],I,[4])⟩
theorem ab8(K ρ):(DJ N).bd K ρ 15=ij.q4 N ((DJ N).kc ρ 15):=κ
theorem ab9(ρ):(DJ N).kc ((DJ N).cf ρ) 15=ij.l7 N N:=Fx.uL [] (ab8 N) ρ (ij.l7 N) λn ρ' e d=>by rw[e];rfl
theorem aca(K ρ):(DJ N).bd K ρ 12=ij.TP N ((DJ N).kc K 15):=κ
theorem acb(ρ):(DJ N).kc ((DJ N).cf ρ) 12=ij.j6 N:=Fx.uJ [15] (aca N) ρ (by rw[ab9];rfl)
theorem atu(K):(DJ N).top K=ij.b N ((DJ N).kc K 12):=κ
def atv:Kn Tryz.prog:=⟨206,(DJ N).S false (ij N),Fx.u1 (DJ N) aF Tryz.func206 [12,15] (atu N) (by rw[acb];rfl)⟩
def aoC:Fx:=⟨17,tab,Kn.l [atv N],N,Tryz.f142,[.v aA],[.v dt,.v I],[],none⟩
def aoD:Kn Tryz.prog:=⟨142,(aoC N).S false (Ym N),Fx.u0 (aoC N) aF Tryz.func142⟩
def OY:Fx:=⟨33,tab,Kn.l [YZ N,k57 N,aje N,ajf N],N,Tryz.f212,[.io dN,.v aA],[.own kX,.io dN],[⟨7,[(0,.io dN),(3,.obj aA),(5,.own kX),(6,.v I)],[1,1,0,1,0,0],[]⟩],none⟩
theorem ajm(K ρ):(OY N).bd K ρ 7=nE.nO N ((OY N).kc ρ 7):=κ
theorem ajn(ρ):(OY N).kc ((OY N).cf ρ) 7=nE.l3 N N:=Fx.uL [] (ajm N) ρ (nE.l3 N) λn ρ' e d=>by rw[e];rfl
theorem atw(K):(OY N).top K=nE.b N ((OY N).kc K 7):=κ
def aoE:Kn Tryz.prog:=⟨212,(OY N).S false (nE N),Fx.u1 (OY N) aF Tryz.func212 [7] (atw N) (by rw[ajn];rfl)⟩
def aoF:Fx:=⟨9,tab,[],N,Tryz.f241,[.v I],[.v B],[],none⟩
def atx:Kn Tryz.prog:=⟨241,(aoF N).S true (aih N),Fx.u0 (aoF N) aF Tryz.func241⟩
def aoG:Fx:=⟨32,tab,[],N,Tryz.f242,[.v I],[.v Z],[],none⟩
def aty:Kn Tryz.prog:=⟨242,(aoG N).S true (aaS N),Fx.u0 (aoG N) aF Tryz.func242⟩
def aoH:Fx:=⟨12,tab,[],N,Tryz.f269,[.v I],[.v I,.v I],[],none⟩
def atz:Kn Tryz.prog:=⟨269,(aoH N).S true (aie N),Fx.u0 (aoH N) aF Tryz.func269⟩
def aoI:Fx:=⟨6,tab,[],N,Tryz.f270,[.v I],[.v I,.v I],[],none⟩
def atA:Kn Tryz.prog:=⟨270,(aoI N).S true (aif N),Fx.u0 (aoI N) aF Tryz.func270⟩
def aoJ:Fx:=⟨27,tab,Kn.l [atz N,atA N],N,Tryz.f243,[.v I,.v (.int .u8)],[.v I,.v I],[],none⟩
def atB:Kn Tryz.prog:=⟨243,(aoJ N).S true (aaT N),Fx.u0 (aoJ N) aF Tryz.func243⟩
def aoK:Fx:=⟨32,tab,[],N,Tryz.f244,[.v kX,.v (.int .u8)],[.v I],[],none⟩
def atC:Kn Tryz.prog:=⟨244,(aoK N).S true (aaU N),Fx.u0 (aoK N) aF Tryz.func244⟩
def aoL:Fx:=⟨35,tab,[],N,Tryz.f245,[.v kX,.v (.int .u8),.v I],[.v kX],[],none⟩
def atD:Kn Tryz.prog:=⟨245,(aoL N).S true (aaV N),Fx.u0 (aoL N) aF Tryz.func245⟩
def OZ:Fx:=⟨56,tab,Kn.l [atx N,aty N,atB N,atC N,atD N],N,Tryz.f207,[.v kX],[.v B],[⟨13,[(1,.obj kX),(3,.v Z),(4,.obj kX),(5,.v I)],[1,1,1,1,0,1,0,0],[]⟩],none⟩
theorem acd(K ρ):(OZ N).bd K ρ 13=rr.uu N ((OZ N).kc ρ 13):=κ
theorem ace(ρ):(OZ N).kc ((OZ N).cf ρ) 13=rr.l6 N N:=Fx.uL [] (acd N) ρ (rr.l6 N) λn ρ' e d=>by rw[e];rfl
theorem atE(K):(OZ N).top K=rr.b N ((OZ N).kc K 13):=κ
def atG:Kn Tryz.prog:=⟨207,(OZ N).S true (rr N),Fx.u1 (OZ N) aF Tryz.func207 [13] (atE N) (by rw[ace];rfl)⟩
def X69:Fx:=⟨58,tab,[],N,Tryz.f69,[.v dm],[.v B],[⟨5,[(0,.v dm),(3,.v I)],[1,0,1,0,0],[]⟩],none⟩
theorem aoM(K ρ):(X69 N).bd K ρ 5=A6.gJ N ((X69 N).kc ρ 5):=κ
theorem aoN(ρ):(X69 N).kc ((X69 N).cf ρ) 5=A6.l2 N N:=Fx.uL [] (aoM N) ρ (A6.l2 N) λn ρ' e d=>by rw[e];rfl
theorem h69(K):(X69 N).top K=A6.b N ((X69 N).kc K 5):=κ
def k69:Kn Tryz.prog:=⟨69,(X69 N).S true (A6 N),Fx.u1 (X69 N) aF Tryz.func69 [5] (h69 N) (by rw[aoN];rfl)⟩
def X70:Fx:=⟨24,tab,[],N,Tryz.f70,[.v dm,.v I],[.v I],[⟨5,[(0,.v dm),(1,.v I),(5,.v I)],[1,0,1,0,0],[]⟩],none⟩
theorem aoO(K ρ):(X70 N).bd K ρ 5=zf.gJ N ((X70 N).kc ρ 5):=κ
theorem aoP(ρ):(X70 N).kc ((X70 N).cf ρ) 5=zf.l2 N N:=Fx.uL [] (aoO N) ρ (zf.l2 N) λn ρ' e d=>by rw[e];rfl
theorem h70(K):(X70 N).top K=zf.b N ((X70 N).kc K 5):=κ
def k70:Kn Tryz.prog:=⟨70,(X70 N).S true (zf N),Fx.u1 (X70 N) aF Tryz.func70 [5] (h70 N) (by rw[aoP];rfl)⟩
def DK:Fx:=⟨53,tab,Kn.l [k69 N,k70 N],N,Tryz.f246,[.v dm,.v I],[.own jC,.v I],[⟨18,[(0,.v dm),(1,.v I),(6,.own jC),(7,.v I)],[1,1,1,1,1,1],[]⟩,⟨15,[(0,.v dm),(1,.v I),(6,.own jC),(7,.v I)],[1,1,1,1,1,0,0,0],[]⟩],none⟩
theorem acf(K ρ):(DK N).bd K ρ 18=ig.Nd N:=κ
theorem acg(ρ):(DK N).kc ((DK N).cf ρ) 18=ig.j9 N:=Fx.uJ [] (acf N) ρ
theorem ach(K ρ):(DK N).bd K ρ 15=ig.q4 N ((DK N).kc K 18) ((DK N).kc ρ 15):=κ
theorem aci(ρ):(DK N).kc ((DK N).cf ρ) 15=ig.l7 N N:=Fx.uL [18] (ach N) ρ (ig.l7 N) λn ρ' e d=>by rw[acg,e];rfl
theorem atH(K):(DK N).top K=ig.b N ((DK N).kc K 15):=κ
def atI:Kn Tryz.prog:=⟨246,(DK N).S false (ig N),Fx.u1 (DK N) aF Tryz.func246 [15,18] (atH N) (by rw[aci];rfl)⟩
def aoQ:Fx:=⟨5,tab,[],N,Tryz.f247,[.v I],[.v jt],[],none⟩
def acj:Kn Tryz.prog:=⟨247,(aoQ N).S true (fx N),Fx.u0 (aoQ N) aF Tryz.func247⟩
def rY:Fx:=⟨95,tab,[],N,Tryz.f120,[.v eX],[.v B],[⟨17,[(0,.v eX),(3,.v I),(4,.obj eB),(5,.v I)],[1,0,1,0,0,1,0,0,1,1,1,0,0],[5]⟩,⟨14,[(0,.v eX),(3,.v I),(4,.obj eB)],[1,0,1,0,0,1,0,0,1,1],[5]⟩,⟨5,[(0,.v eX),(3,.v I)],[1,0,1,0,0],[]⟩],none⟩
theorem ack(K ρ):(rY N).bd K ρ 17=eD.yc N ((rY N).kc ρ 5) ((rY N).kc ρ 17):=κ
theorem acm(ρ):(rY N).kc ((rY N).cf ρ) 17=eD.l8 N ((rY N).kc ρ 5) N:=Fx.uL [] (ack N) ρ (eD.l8 N ((rY N).kc ρ 5)) λn ρ' e d=>by rw[e,d 5 rfl];rfl
theorem acn(K ρ):(rY N).bd K ρ 14=eD.Vm N ((rY N).kc K 17) ((rY N).kc ρ 5):=κ
theorem aco(ρ):(rY N).kc ((rY N).cf ρ) 14=eD.j7 N ((rY N).kc ρ 5):=Fx.uJ [17] (acn N) ρ (by rw[acm];rfl)
theorem ajo(K ρ):(rY N).bd K ρ 5=eD.gJ N ((rY N).kc K 14) ((rY N).kc ρ 5):=κ
theorem ajp(ρ):(rY N).kc ((rY N).cf ρ) 5=eD.l2 N N:=Fx.uL [14,17] (ajo N) ρ (eD.l2 N) λn ρ' e d=>by rw[aco,e];rfl
theorem atJ(K):(rY N).top K=eD.b N ((rY N).kc K 5):=κ
def Vc:Kn Tryz.prog:=⟨120,(rY N).S true (eD N),Fx.u1 (rY N) aF Tryz.func120 [5] (atJ N) (by rw[ajp];rfl)⟩
def O0:Fx:=⟨28,tab,Kn.l [k69 N,Vc N,k70 N],N,Tryz.f112,[.v dm,.v eX],[.v B],[⟨9,[(0,.v dm),(1,.v eX),(5,.v I)],[1,1,0,1,0,0],[]⟩],none⟩
theorem ajq(K ρ):(O0 N).bd K ρ 9=oj.dw N ((O0 N).kc ρ 9):=κ
theorem ajr(ρ):(O0 N).kc ((O0 N).cf ρ) 9=oj.l4 N N:=Fx.uL [] (ajq N) ρ (oj.l4 N) λn ρ' e d=>by rw[e];rfl
theorem atK(K):(O0 N).top K=oj.b N ((O0 N).kc K 9):=κ
def ajs:Kn Tryz.prog:=⟨112,(O0 N).S true (oj N),Fx.u1 (O0 N) aF Tryz.func112 [9] (atK N) (by rw[ajr];rfl)⟩
def O1:Fx:=⟨25,tab,[],N,Tryz.f121,[.v eX,.v I],[.v eB,.v B],[⟨5,[(0,.v eX),(1,.v I),(4,.obj eB),(6,.v I)],[1,0,1,0,0],[]⟩],none⟩
theorem ajt(K ρ):(O1 N).bd K ρ 5=nQ.gJ N ((O1 N).kc ρ 5):=κ
theorem aju(ρ):(O1 N).kc ((O1 N).cf ρ) 5=nQ.l2 N N:=Fx.uL [] (ajt N) ρ (nQ.l2 N) λn ρ' e d=>by rw[e];rfl
theorem atL(K):(O1 N).top K=nQ.b N ((O1 N).kc K 5):=κ
def acp:Kn Tryz.prog:=⟨121,(O1 N).S true (nQ N),Fx.u1 (O1 N) aF Tryz.func121 [5] (atL N) (by rw[aju];rfl)⟩
def O2:Fx:=⟨35,tab,Kn.l [Vc N],N,Tryz.f271,[.v eX,.v I],[.v I],[⟨9,[(0,.v eX),(1,.v I),(5,.v I)],[1,1,0,1,0,0],[]⟩],none⟩
theorem ajv(K ρ):(O2 N).bd K ρ 9=mh.dw N ((O2 N).kc ρ 9):=κ
theorem ajw(ρ):(O2 N).kc ((O2 N).cf ρ) 9=mh.l4 N N:=Fx.uL [] (ajv N) ρ (mh.l4 N) λn ρ' e d=>by rw[e];rfl
theorem atM(K):(O2 N).top K=mh.b N ((O2 N).kc K 9):=κ
def Y0:Kn Tryz.prog:=⟨271,(O2 N).S true (mh N),Fx.u1 (O2 N) aF Tryz.func271 [9] (atM N) (by rw[ajw];rfl)⟩
def yh:Fx:=⟨81,tab,Kn.l [ajs N,Vc N,k70 N,acp N,Y0 N],N,Tryz.f248,[.v dm,.v eX,.v eB],[.own eB,.v I],[⟨30,[(1,.v eX),(5,.obj eB),(11,.own eB),(12,.v I)],[1,1,1,1,1,1,1,1,1],[]⟩,⟨27,[(1,.v eX),(5,.obj eB),(11,.own eB),(12,.v I)],[1,1,1,1,1,1,1,1,0,0,0],[]⟩,⟨22,[(1,.v eX),(5,.obj eB)],[1,1,1,1,1,1],[]⟩],none⟩
theorem acq(K ρ):(yh N).bd K ρ 30=fe.uT N:=κ
theorem acr(ρ):(yh N).kc ((yh N).cf ρ) 30=fe.A8 N:=Fx.uJ [] (acq N) ρ
theorem acs(K ρ):(yh N).bd K ρ 27=fe.mP N ((yh N).kc K 30) ((yh N).kc ρ 27):=κ
theorem acu(ρ):(yh N).kc ((yh N).cf ρ) 27=fe.nT N N:=Fx.uL [30] (acs N) ρ (fe.nT N) λn ρ' e d=>by rw[acr,e];rfl
theorem acv(K ρ):(yh N).bd K ρ 22=fe.BN N ((yh N).kc K 27):=κ
theorem acw(ρ):(yh N).kc ((yh N).cf ρ) 22=fe.Je N:=Fx.uJ [27,30] (acv N) ρ (by rw[acu];rfl)
theorem atN(K):(yh N).top K=fe.b N ((yh N).kc K 22):=κ
def atO:Kn Tryz.prog:=⟨248,(yh N).S false (fe N),Fx.u1 (yh N) aF Tryz.func248 [22,27,30] (atN N) (by rw[acw];rfl)⟩
def X48:Fx:=⟨15,tab,Kn.l [Vc N,acp N],N,Tryz.f48,[.v eX,.v I],[.v eB,.v B],[],none⟩
def k48:Kn Tryz.prog:=⟨48,(X48 N).S true (Vo N),Fx.u0 (X48 N) aF Tryz.func48⟩
def aoR:Fx:=⟨16,tab,Kn.l [k48 N],N,Tryz.f249,[.v dt,.v I],[.v B],[],none⟩
def atP:Kn Tryz.prog:=⟨249,(aoR N).S true (QW N),Fx.u0 (aoR N) aF Tryz.func249⟩
def O3:Fx:=⟨22,tab,[],N,Tryz.f168,[.v LU],[.v LU],[⟨5,[(0,.v LU),(3,.v I)],[1,1,0,0,0],[]⟩],none⟩
theorem ajy(K ρ):(O3 N).bd K ρ 5=oe.gJ N ((O3 N).kc ρ 5):=κ
theorem ajz(ρ):(O3 N).kc ((O3 N).cf ρ) 5=oe.l2 N N:=Fx.uL [] (ajy N) ρ (oe.l2 N) λn ρ' e d=>by rw[e];rfl
theorem atS(K):(O3 N).top K=oe.b N ((O3 N).kc K 5):=κ
def ajA:Kn Tryz.prog:=⟨168,(O3 N).S false (oe N),Fx.u1 (O3 N) aF Tryz.func168 [5] (atS N) (by rw[ajz];rfl)⟩
def X83:Fx:=⟨9,tab,Kn.l [ajA N],N,Tryz.f83,[.v U],[.v LU],[],none⟩
def k83:Kn Tryz.prog:=⟨83,(X83 N).S false (F83 N),Fx.u0 (X83 N) aF Tryz.func83⟩
def X82:Fx:=⟨15,tab,Kn.l [ajA N],N,Tryz.f82,[.v B,.v LU],[.v cX],[],none⟩
def k82:Kn Tryz.prog:=⟨82,(X82 N).S false (WA N),Fx.u0 (X82 N) aF Tryz.func82⟩
def X26:Fx:=⟨15,tab,Kn.l [k83 N,k82 N],N,Tryz.f26,[.v I],[.v cX],[],none⟩
def zg:Kn Tryz.prog:=⟨26,(X26 N).S false (jV N),Fx.u0 (X26 N) aF Tryz.func26⟩
def X52:Fx:=⟨9,tab,Kn.l [k82 N],N,Tryz.f52,[.v cX],[.v cX],[],none⟩
def k52:Kn Tryz.prog:=⟨52,(X52 N).S false (TQ N),Fx.u0 (X52 N) aF Tryz.func52⟩
def aoT:Fx:=⟨21,tab,Kn.l [k52 N],N,Tryz.f152,[.v I,.v I,.v I,.v I,.v cX],[.own rL],[],none⟩
def Y1:Kn Tryz.prog:=⟨152,(aoT N).S false (ye N),Fx.u0 (aoT N) aF Tryz.func152⟩
def X93:Fx:=⟨13,tab,[],N,Tryz.f93,[.v LU,.v I],[.v U],[],none⟩
def k93:Kn Tryz.prog:=⟨93,(X93 N).S true (Z6 N),Fx.u0 (X93 N) aF Tryz.func93⟩
def S2:Fx:=⟨41,tab,Kn.l [k93 N],N,Tryz.f85,[.v LU,.v LU],[.own U],[⟨12,[(0,.v LU),(1,.v LU),(5,.own U),(6,.v U),(7,.v I)],[1,1,1,0,1,0,0,1],[9]⟩,⟨9,[(0,.v LU),(1,.v LU),(5,.own U),(6,.v U),(7,.v I)],[1,1,1,0,1,0,0],[]⟩],none⟩
theorem ajC(K ρ):(S2 N).bd K ρ 12=vh.TP N ((S2 N).kc ρ 9):=κ
theorem ajD(ρ):(S2 N).kc ((S2 N).cf ρ) 12=vh.j6 N ((S2 N).kc ρ 9):=Fx.uJ [] (ajC N) ρ
theorem aoU(K ρ):(S2 N).bd K ρ 9=vh.dw N ((S2 N).kc K 12) ((S2 N).kc ρ 9):=κ
theorem aoV(ρ):(S2 N).kc ((S2 N).cf ρ) 9=vh.l4 N N:=Fx.uL [12] (aoU N) ρ (vh.l4 N) λn ρ' e d=>by rw[ajD,e];rfl
theorem h85(K):(S2 N).top K=vh.b N ((S2 N).kc K 9):=κ
def k85:Kn Tryz.prog:=⟨85,(S2 N).S false (vh N),Fx.u1 (S2 N) aF Tryz.func85 [9] (h85 N) (by rw[aoV];rfl)⟩
def X86:Fx:=⟨41,tab,[],N,Tryz.f86,[.v LU,.v LU],[.v I],[⟨13,[(0,.v LU),(1,.v LU),(5,.v I)],[1,1,0,1,0,0],[]⟩],none⟩
theorem ajE(K ρ):(X86 N).bd K ρ 13=Dm.uu N ((X86 N).kc ρ 13):=κ
theorem ajF(ρ):(X86 N).kc ((X86 N).cf ρ) 13=Dm.l6 N N:=Fx.uL [] (ajE N) ρ (Dm.l6 N) λn ρ' e d=>by rw[e];rfl
theorem h86(K):(X86 N).top K=Dm.b N ((X86 N).kc K 13):=κ
def k86:Kn Tryz.prog:=⟨86,(X86 N).S true (Dm N),Fx.u1 (X86 N) aF Tryz.func86 [13] (h86 N) (by rw[ajF];rfl)⟩
def X87:Fx:=⟨37,tab,Kn.l [k93 N],N,Tryz.f87,[.v LU,.v LU],[.own U],[⟨9,[(0,.v LU),(1,.v LU),(5,.own U),(6,.v U),(7,.v I)],[1,1,1,0,1,0,0],[]⟩],none⟩
theorem aoW(K ρ):(X87 N).bd K ρ 9=DU.dw N ((X87 N).kc ρ 9):=κ
theorem aoX(ρ):(X87 N).kc ((X87 N).cf ρ) 9=DU.l4 N N:=Fx.uL [] (aoW N) ρ (DU.l4 N) λn ρ' e d=>by rw[e];rfl
theorem h87(K):(X87 N).top K=DU.b N ((X87 N).kc K 9):=κ
def k87:Kn Tryz.prog:=⟨87,(X87 N).S false (DU N),Fx.u1 (X87 N) aF Tryz.func87 [9] (h87 N) (by rw[aoX];rfl)⟩
def X28:Fx:=⟨40,tab,Kn.l [k85 N,k82 N,k86 N,k87 N],N,Tryz.f28,[.v cX,.v cX],[.v cX],[],none⟩
def Rt:Kn Tryz.prog:=⟨28,(X28 N).S false (zd N),Fx.u0 (X28 N) aF Tryz.func28⟩
def aoY:Fx:=⟨28,tab,Kn.l [k93 N],N,Tryz.f150,[.v cX],[.v I,.v B],[],none⟩
def GP:Kn Tryz.prog:=⟨150,(aoY N).S true (wE N),Fx.u0 (aoY N) aF Tryz.func150⟩
def aoZ:Fx:=⟨18,tab,Kn.l [GP N],N,Tryz.f258,[.v cX],[.v I,.v B],[],none⟩
def ao0:Kn Tryz.prog:=⟨258,(aoZ N).S true (Qx N),Fx.u0 (aoZ N) aF Tryz.func258⟩
def kD:Fx:=⟨106,tab,Kn.l [zg N,Rt N,ao0 N],N,Tryz.f215,[.v cN,.v cN],[.own jt,.v B],[⟨31,[(0,.v cN),(1,.v cN),(6,.own jt),(7,.v I),(8,.v I),(9,.v I),(10,.v I),(11,.v B),(12,.obj cX),(13,.v I)],[1,1,1,0,1,0,0,1,0,0,1,0,0,1,0,0,1,1,1,0,1,0,0],[9,15]⟩,⟨26,[(0,.v cN),(1,.v cN),(6,.own jt),(7,.v I),(8,.v I),(9,.v I),(10,.v I),(11,.v B)],[1,1,1,0,1,0,0,1,0,0,1,0,0,1,0,0,1,1],[9,15]⟩,⟨15,[(0,.v cN),(1,.v cN),(6,.own jt),(7,.v I),(8,.v I),(9,.v I)],[1,1,1,0,1,0,0,1,0,0,1,0,0],[9]⟩,⟨9,[(0,.v cN),(1,.v cN),(6,.own jt),(7,.v I),(8,.v I)],[1,1,1,0,1,0,0],[]⟩],none⟩
theorem acx(K ρ):(kD N).bd K ρ 31=ct.HG N ((kD N).kc ρ 9) ((kD N).kc ρ 15) ((kD N).kc ρ 31):=κ
theorem acy(ρ):(kD N).kc ((kD N).cf ρ) 31=ct.IG N ((kD N).kc ρ 9) ((kD N).kc ρ 15) N:=Fx.uL [] (acx N) ρ (ct.IG N ((kD N).kc ρ 9) ((kD N).kc ρ 15)) λn ρ' e d=>by rw[e,d 9 rfl,d 15 rfl];rfl
theorem acz(K ρ):(kD N).bd K ρ 26=ct.Kv N ((kD N).kc K 31) ((kD N).kc ρ 9) ((kD N).kc ρ 15):=κ
theorem acA(ρ):(kD N).kc ((kD N).cf ρ) 26=ct.Si N ((kD N).kc ρ 9) ((kD N).kc ρ 15):=Fx.uJ [31] (acz N) ρ (by rw[acy];rfl)
theorem acB(K ρ):(kD N).bd K ρ 15=ct.q4 N ((kD N).kc K 26) ((kD N).kc ρ 9) ((kD N).kc ρ 15):=κ
theorem acC(ρ):(kD N).kc ((kD N).cf ρ) 15=ct.l7 N ((kD N).kc ρ 9) N:=Fx.uL [26,31] (acB N) ρ (ct.l7 N ((kD N).kc ρ 9)) λn ρ' e d=>by rw[acA,e,d 9 rfl];rfl
theorem ajG(K ρ):(kD N).bd K ρ 9=ct.dw N ((kD N).kc K 15) ((kD N).kc ρ 9):=κ
theorem ajH(ρ):(kD N).kc ((kD N).cf ρ) 9=ct.l4 N N:=Fx.uL [15] (ajG N) ρ (ct.l4 N) λn ρ' e d=>by rw[acC,e];rfl
theorem atT(K):(kD N).top K=ct.b N ((kD N).kc K 9):=κ
def atU:Kn Tryz.prog:=⟨215,(kD N).S false (ct N),Fx.u1 (kD N) aF Tryz.func215 [9] (atT N) (by rw[ajH];rfl)⟩
def O4:Fx:=⟨53,tab,Kn.l [Rt N,zg N,GP N],N,Tryz.f259,[.v I,.v I,.v I,.v oF],[.v I,.v B],[⟨7,[(0,.v I),(1,.v I),(2,.v I),(3,.v oF),(10,.obj cX),(11,.v B),(12,.v I)],[1,1,0,1,0,0],[]⟩],none⟩
theorem ajI(K ρ):(O4 N).bd K ρ 7=ny.nO N ((O4 N).kc ρ 7):=κ
theorem ajJ(ρ):(O4 N).kc ((O4 N).cf ρ) 7=ny.l3 N N:=Fx.uL [] (ajI N) ρ (ny.l3 N) λn ρ' e d=>by rw[e];rfl
theorem atV(K):(O4 N).top K=ny.b N ((O4 N).kc K 7):=κ
def atW:Kn Tryz.prog:=⟨259,(O4 N).S true (ny N),Fx.u1 (O4 N) aF Tryz.func259 [7] (atV N) (by rw[ajJ];rfl)⟩
def qh:Fx:=⟨69,tab,Kn.l [atW N],N,Tryz.f216,[.v cN,.v oF],[.own jt,.v B],[⟨26,[(0,.v cN),(1,.v oF),(6,.own jt),(7,.v I),(8,.v I),(9,.v I),(10,.v I)],[1,1,1,0,1,0,0,1,0,0,1,0,0,1,0,0,1,1],[9,15]⟩,⟨15,[(0,.v cN),(1,.v oF),(6,.own jt),(7,.v I),(8,.v I),(9,.v I)],[1,1,1,0,1,0,0,1,0,0,1,0,0],[9]⟩,⟨9,[(0,.v cN),(1,.v oF),(6,.own jt),(7,.v I),(8,.v I)],[1,1,1,0,1,0,0],[]⟩],none⟩
theorem acD(K ρ):(qh N).bd K ρ 26=du.Kv N ((qh N).kc ρ 9) ((qh N).kc ρ 15):=κ
theorem acE(ρ):(qh N).kc ((qh N).cf ρ) 26=du.Si N ((qh N).kc ρ 9) ((qh N).kc ρ 15):=Fx.uJ [] (acD N) ρ
theorem acF(K ρ):(qh N).bd K ρ 15=du.q4 N ((qh N).kc K 26) ((qh N).kc ρ 9) ((qh N).kc ρ 15):=κ
theorem acG(ρ):(qh N).kc ((qh N).cf ρ) 15=du.l7 N ((qh N).kc ρ 9) N:=Fx.uL [26] (acF N) ρ (du.l7 N ((qh N).kc ρ 9)) λn ρ' e d=>by rw[acE,e,d 9 rfl];rfl
theorem ajK(K ρ):(qh N).bd K ρ 9=du.dw N ((qh N).kc K 15) ((qh N).kc ρ 9):=κ
theorem ajL(ρ):(qh N).kc ((qh N).cf ρ) 9=du.l4 N N:=Fx.uL [15] (ajK N) ρ (du.l4 N) λn ρ' e d=>by rw[acG,e];rfl
theorem atX(K):(qh N).top K=du.b N ((qh N).kc K 9):=κ
def atY:Kn Tryz.prog:=⟨216,(qh N).S false (du N),Fx.u1 (qh N) aF Tryz.func216 [9] (atX N) (by rw[ajL];rfl)⟩
def ao1:Fx:=⟨36,tab,Kn.l [atU N,atY N],N,Tryz.f154,[.v aL,.v cN,.v oF],[.v aL,.v I],[],none⟩
def O5:Kn Tryz.prog:=⟨154,(ao1 N).S false (yd N),Fx.u0 (ao1 N) aF Tryz.func154⟩
def ao2:Fx:=⟨34,tab,Kn.l [zg N,Y1 N,O5 N],N,Tryz.f250,[.v dt,.v I,.v I,.v I,.v I,.v I],[.v dt,.v jt],[],none⟩
def atZ:Kn Tryz.prog:=⟨250,(ao2 N).S false (N1 N),Fx.u0 (ao2 N) aF Tryz.func250⟩
def O6:Fx:=⟨33,tab,Kn.l [k84 N,zg N,Rt N],N,Tryz.f117,[.v cN,.v I],[.v cX],[⟨11,[(0,.v cN),(1,.v I),(4,.obj cX),(5,.obj cX),(6,.v I)],[1,1,1,0,1,0,0],[]⟩],none⟩
theorem acH(K ρ):(O6 N).bd K ρ 11=o8.ei N ((O6 N).kc ρ 11):=κ
theorem acI(ρ):(O6 N).kc ((O6 N).cf ρ) 11=o8.l5 N N:=Fx.uL [] (acH N) ρ (o8.l5 N) λn ρ' e d=>by rw[e];rfl
theorem at1(K):(O6 N).top K=o8.b N ((O6 N).kc K 11):=κ
def at2:Kn Tryz.prog:=⟨117,(O6 N).S false (o8 N),Fx.u1 (O6 N) aF Tryz.func117 [11] (at1 N) (by rw[acI];rfl)⟩
def X44:Fx:=⟨9,tab,[],N,Tryz.f44,[.v cX],[.v I],[],none⟩
def k44:Kn Tryz.prog:=⟨44,(X44 N).S true (R2 N),Fx.u0 (X44 N) aF Tryz.func44⟩
def X43:Fx:=⟨15,tab,Kn.l [at2 N,k44 N,k84 N],N,Tryz.f43,[.v cN],[.v B],[⟨5,[(0,.v cN),(3,.v I)],[1,0,1,0,0],[]⟩],none⟩
theorem ao3(K ρ):(X43 N).bd K ρ 5=Dt.gJ N ((X43 N).kc ρ 5):=κ
theorem ao4(ρ):(X43 N).kc ((X43 N).cf ρ) 5=Dt.l2 N N:=Fx.uL [] (ao3 N) ρ (Dt.l2 N) λn ρ' e d=>by rw[e];rfl
theorem h43(K):(X43 N).top K=Dt.b N ((X43 N).kc K 5):=κ
def k43:Kn Tryz.prog:=⟨43,(X43 N).S true (Dt N),Fx.u1 (X43 N) aF Tryz.func43 [5] (h43 N) (by rw[ao4];rfl)⟩
def ao5:Fx:=⟨9,tab,[],N,Tryz.f115,[.v I],[.v B],[],none⟩
def Ru:Kn Tryz.prog:=⟨115,(ao5 N).S true (Dp N),Fx.u0 (ao5 N) aF Tryz.func115⟩
def ao6:Fx:=⟨56,tab,Kn.l [Ru N],N,Tryz.f185,[.v mT],[.v B],[],none⟩
def acK:Kn Tryz.prog:=⟨185,(ao6 N).S true (Qr N),Fx.u0 (ao6 N) aF Tryz.func185⟩
def O7:Fx:=⟨37,tab,Kn.l [acK N],N,Tryz.f113,[.v pn],[.v B],[⟨9,[(0,.v pn),(3,.v I)],[1,1,0,1,0,0],[]⟩],none⟩
theorem ajM(K ρ):(O7 N).bd K ρ 9=mN.dw N ((O7 N).kc ρ 9):=κ
theorem ajN(ρ):(O7 N).kc ((O7 N).cf ρ) 9=mN.l4 N N:=Fx.uL [] (ajM N) ρ (mN.l4 N) λn ρ' e d=>by rw[e];rfl
theorem at3(K):(O7 N).top K=mN.b N ((O7 N).kc K 9):=κ
def Vd:Kn Tryz.prog:=⟨113,(O7 N).S true (mN N),Fx.u1 (O7 N) aF Tryz.func113 [9] (at3 N) (by rw[ajN];rfl)⟩
def X45:Fx:=⟨24,tab,Kn.l [k88 N,zg N,Rt N],N,Tryz.f45,[.v cN],[.v cX],[⟨11,[(0,.v cN),(2,.obj cX),(3,.obj cX),(4,.v I)],[1,1,1,0,1,0,0],[]⟩],none⟩
theorem ajO(K ρ):(X45 N).bd K ρ 11=CE.ei N ((X45 N).kc ρ 11):=κ
theorem ajP(ρ):(X45 N).kc ((X45 N).cf ρ) 11=CE.l5 N N:=Fx.uL [] (ajO N) ρ (CE.l5 N) λn ρ' e d=>by rw[e];rfl
theorem h45(K):(X45 N).top K=CE.b N ((X45 N).kc K 11):=κ
def k45:Kn Tryz.prog:=⟨45,(X45 N).S false (CE N),Fx.u1 (X45 N) aF Tryz.func45 [11] (h45 N) (by rw[ajP];rfl)⟩
def ao7:Fx:=⟨19,tab,Kn.l [k48 N],N,Tryz.f114,[.v aL,.v I],[.v B],[],none⟩
def ao8:Kn Tryz.prog:=⟨114,(ao7 N).S true (Ks N),Fx.u0 (ao7 N) aF Tryz.func114⟩
def X22:Fx:=⟨11,tab,Kn.l [k69 N,k70 N],N,Tryz.f22,[.v dm,.v I],[.v I],[],none⟩
def k22:Kn Tryz.prog:=⟨22,(X22 N).S true (R8 N),Fx.u0 (X22 N) aF Tryz.func22⟩
def GQ:Fx:=⟨163,tab,Kn.l [Rs N,ajs N,k88 N,k43 N,Vd N,k45 N,k44 N,ao8 N,k22 N,Ru N],N,Tryz.f41,[.v aA,.v aL],[.v B],[⟨45,[(2,.obj aA),(3,.obj aL),(9,.v I)],[1,1,1,1,1,1,0,1,0,0],[]⟩,⟨35,[(2,.obj aA),(3,.obj aL),(8,.v I)],[1,1,1,1,1,0,1,0,0],[]⟩,⟨25,[(2,.obj aA),(3,.obj aL),(7,.v I)],[1,1,1,1,0,1,0,0],[]⟩,⟨13,[(2,.obj aA),(3,.obj aL),(5,.v I)],[1,1,1,0,1,0,0],[]⟩],none⟩
theorem ajR(K ρ):(GQ N).bd K ρ 45=fZ.vw N ((GQ N).kc ρ 45):=κ
theorem ajS(ρ):(GQ N).kc ((GQ N).cf ρ) 45=fZ.wO N N:=Fx.uL [] (ajR N) ρ (fZ.wO N) λn ρ' e d=>by rw[e];rfl
theorem ajT(K ρ):(GQ N).bd K ρ 35=fZ.Dv N ((GQ N).kc K 45) ((GQ N).kc ρ 35):=κ
theorem ajU(ρ):(GQ N).kc ((GQ N).cf ρ) 35=fZ.DZ N N:=Fx.uL [45] (ajT N) ρ (fZ.DZ N) λn ρ' e d=>by rw[ajS,e];rfl
theorem ajV(K ρ):(GQ N).bd K ρ 25=fZ.pF N ((GQ N).kc K 35) ((GQ N).kc ρ 25):=κ
theorem ajW(ρ):(GQ N).kc ((GQ N).cf ρ) 25=fZ.p8 N N:=Fx.uL [35,45] (ajV N) ρ (fZ.p8 N) λn ρ' e d=>by rw[ajU,e];rfl
theorem ajX(K ρ):(GQ N).bd K ρ 13=fZ.uu N ((GQ N).kc K 25) ((GQ N).kc ρ 13):=κ
theorem ajY(ρ):(GQ N).kc ((GQ N).cf ρ) 13=fZ.l6 N N:=Fx.uL [25,35,45] (ajX N) ρ (fZ.l6 N) λn ρ' e d=>by rw[ajW,e];rfl
theorem h41(K):(GQ N).top K=fZ.b N ((GQ N).kc K 13):=κ
def JG:Kn Tryz.prog:=⟨41,(GQ N).S true (fZ N),Fx.u1 (GQ N) aF Tryz.func41 [13,25,35,45] (h41 N) (by rw[ajY];rfl)⟩
def X34:Fx:=⟨9,tab,Kn.l [k52 N,Rt N],N,Tryz.f34,[.v cX,.v cX],[.v cX],[],none⟩
def k34:Kn Tryz.prog:=⟨34,(X34 N).S false (R1 N),Fx.u0 (X34 N) aF Tryz.func34⟩
def O8:Fx:=⟨39,tab,Kn.l [k84 N],N,Tryz.f148,[.v cN,.v I],[.own jC],[⟨11,[(0,.v cN),(1,.v I),(5,.own jC),(6,.v I)],[1,1,1,0,1,0,0],[]⟩],none⟩
theorem acL(K ρ):(O8 N).bd K ρ 11=lE.ei N ((O8 N).kc ρ 11):=κ
theorem acM(ρ):(O8 N).kc ((O8 N).cf ρ) 11=lE.l5 N N:=Fx.uL [] (acL N) ρ (lE.l5 N) λn ρ' e d=>by rw[e];rfl
theorem at4(K):(O8 N).top K=lE.b N ((O8 N).kc K 11):=κ
def Ve:Kn Tryz.prog:=⟨148,(O8 N).S false (lE N),Fx.u1 (O8 N) aF Tryz.func148 [11] (at4 N) (by rw[acM];rfl)⟩
def yi:Fx:=⟨74,tab,[],N,Tryz.f204,[.v pn,.v I],[.own jt],[⟨15,[(0,.v pn),(1,.v I),(5,.own jt),(6,.v I),(7,.obj jt),(8,.v I)],[1,1,0,1,0,0,1,0,0,1,0,1,0,0],[7]⟩,⟨7,[(0,.v pn),(1,.v I),(5,.own jt),(6,.v I)],[1,1,0,1,0,0],[]⟩],none⟩
theorem acN(K ρ):(yi N).bd K ρ 15=g5.q4 N ((yi N).kc ρ 7) ((yi N).kc ρ 15):=κ
theorem acO(ρ):(yi N).kc ((yi N).cf ρ) 15=g5.l7 N ((yi N).kc ρ 7) N:=Fx.uL [] (acN N) ρ (g5.l7 N ((yi N).kc ρ 7)) λn ρ' e d=>by rw[e,d 7 rfl];rfl
theorem aj0(K ρ):(yi N).bd K ρ 7=g5.nO N ((yi N).kc K 15) ((yi N).kc ρ 7):=κ
theorem aj1(ρ):(yi N).kc ((yi N).cf ρ) 7=g5.l3 N N:=Fx.uL [15] (aj0 N) ρ (g5.l3 N) λn ρ' e d=>by rw[acO,e];rfl
theorem at5(K):(yi N).top K=g5.b N ((yi N).kc K 7):=κ
def aj2:Kn Tryz.prog:=⟨204,(yi N).S false (g5 N),Fx.u1 (yi N) aF Tryz.func204 [7] (at5 N) (by rw[aj1];rfl)⟩
def O9:Fx:=⟨66,tab,Kn.l [Rs N],N,Tryz.f239,[.v aA,.v dm],[.v B],[⟨9,[(1,.v dm),(2,.obj aA),(5,.v I)],[1,1,0,1,0,0],[]⟩],none⟩
theorem aj3(K ρ):(O9 N).bd K ρ 9=nr.dw N ((O9 N).kc ρ 9):=κ
theorem aj4(ρ):(O9 N).kc ((O9 N).cf ρ) 9=nr.l4 N N:=Fx.uL [] (aj3 N) ρ (nr.l4 N) λn ρ' e d=>by rw[e];rfl
theorem at6(K):(O9 N).top K=nr.b N ((O9 N).kc K 9):=κ
def acP:Kn Tryz.prog:=⟨239,(O9 N).S true (nr N),Fx.u1 (O9 N) aF Tryz.func239 [9] (at6 N) (by rw[aj4];rfl)⟩
def Pb:Fx:=⟨79,tab,Kn.l [Rs N],N,Tryz.f240,[.v aA,.v cN],[.v B],[⟨11,[(1,.v cN),(2,.obj aA),(5,.v I),(6,.v I)],[1,1,1,0,1,0,0],[]⟩],none⟩
theorem acQ(K ρ):(Pb N).bd K ρ 11=qa.ei N ((Pb N).kc ρ 11):=κ
theorem acR(ρ):(Pb N).kc ((Pb N).cf ρ) 11=qa.l5 N N:=Fx.uL [] (acQ N) ρ (qa.l5 N) λn ρ' e d=>by rw[e];rfl
theorem at7(K):(Pb N).top K=qa.b N ((Pb N).kc K 11):=κ
def ao9:Kn Tryz.prog:=⟨240,(Pb N).S true (qa N),Fx.u1 (Pb N) aF Tryz.func240 [11] (at7 N) (by rw[acR];rfl)⟩
def X33:Fx:=⟨6,tab,Kn.l [k82 N],N,Tryz.f33,[.v cX],[.v cX],[],none⟩
def k33:Kn Tryz.prog:=⟨33,(X33 N).S false (WB N),Fx.u0 (X33 N) aF Tryz.func33⟩
def X30:Fx:=⟨9,tab,Kn.l [k34 N,k44 N],N,Tryz.f30,[.v cX,.v cX],[.v I],[],none⟩
def k30:Kn Tryz.prog:=⟨30,(X30 N).S true (PW N),Fx.u0 (X30 N) aF Tryz.func30⟩
def B2:Fx:=⟨96,tab,Kn.l [acP N,ao9 N,zg N,Rt N,k33 N,k34 N,k30 N],N,Tryz.f203,[.v aA,.v dm,.v cN,.v I],[.v cX,.v I],[⟨25,[(2,.v cN),(3,.v I),(8,.obj cX),(10,.obj cX),(11,.obj cX),(12,.obj cX),(14,.v I)],[1,1,1,1,1,0,1,0,0],[]⟩,⟨15,[(1,.v dm),(2,.v cN),(3,.v I),(8,.obj cX),(10,.obj cX),(11,.obj cX),(12,.obj cX),(13,.v I)],[1,1,1,1,0,1,0,0],[]⟩],none⟩
theorem acT(K ρ):(B2 N).bd K ρ 25=ji.pF N ((B2 N).kc ρ 25):=κ
theorem acU(ρ):(B2 N).kc ((B2 N).cf ρ) 25=ji.p8 N N:=Fx.uL [] (acT N) ρ (ji.p8 N) λn ρ' e d=>by rw[e];rfl
theorem acV(K ρ):(B2 N).bd K ρ 15=ji.q4 N ((B2 N).kc K 25) ((B2 N).kc ρ 15):=κ
theorem acW(ρ):(B2 N).kc ((B2 N).cf ρ) 15=ji.l7 N N:=Fx.uL [25] (acV N) ρ (ji.l7 N) λn ρ' e d=>by rw[acU,e];rfl
theorem aua(K):(B2 N).top K=ji.b N ((B2 N).kc K 15):=κ
def apa:Kn Tryz.prog:=⟨203,(B2 N).S false (ji N),Fx.u1 (B2 N) aF Tryz.func203 [15,25] (aua N) (by rw[acW];rfl)⟩
def Ec:Fx:=⟨71,tab,Kn.l [k93 N,k82 N],N,Tryz.f32,[.v cX,.v cX],[.v cX],[⟨18,[(2,.obj cX),(3,.obj cX),(4,.obj cX),(5,.own U),(6,.v I),(7,.v U),(8,.v I)],[1,1,0,1,0,0,1,0,0,1,1,0,0,1],[7,15]⟩,⟨15,[(2,.obj cX),(3,.obj cX),(4,.obj cX),(5,.own U),(6,.v I),(7,.v U),(8,.v I)],[1,1,0,1,0,0,1,0,0,1,1,0,0],[7]⟩,⟨7,[(2,.obj cX),(3,.obj cX),(4,.obj cX),(5,.own U),(6,.v I)],[1,1,0,1,0,0],[]⟩],none⟩
theorem aj5(K ρ):(Ec N).bd K ρ 18=jS.Nd N ((Ec N).kc ρ 7) ((Ec N).kc ρ 15):=κ
theorem aj6(ρ):(Ec N).kc ((Ec N).cf ρ) 18=jS.j9 N ((Ec N).kc ρ 7) ((Ec N).kc ρ 15):=Fx.uJ [] (aj5 N) ρ
theorem aj7(K ρ):(Ec N).bd K ρ 15=jS.q4 N ((Ec N).kc K 18) ((Ec N).kc ρ 7) ((Ec N).kc ρ 15):=κ
theorem aj8(ρ):(Ec N).kc ((Ec N).cf ρ) 15=jS.l7 N ((Ec N).kc ρ 7) N:=Fx.uL [18] (aj7 N) ρ (jS.l7 N ((Ec N).kc ρ 7)) λn ρ' e d=>by rw[aj6,e,d 7 rfl];rfl
theorem apb(K ρ):(Ec N).bd K ρ 7=jS.nO N ((Ec N).kc K 15) ((Ec N).kc ρ 7):=κ
theorem apc(ρ):(Ec N).kc ((Ec N).cf ρ) 7=jS.l3 N N:=Fx.uL [15] (apb N) ρ (jS.l3 N) λn ρ' e d=>by rw[aj8,e];rfl
theorem h32(K):(Ec N).top K=jS.b N ((Ec N).kc K 7):=κ
def Zk:Kn Tryz.prog:=⟨32,(Ec N).S false (jS N),Fx.u1 (Ec N) aF Tryz.func32 [7] (h32 N) (by rw[apc];rfl)⟩
def Pd:Fx:=⟨50,tab,Kn.l [acP N,ao9 N,apa N,zg N,Zk N,Rt N],N,Tryz.f231,[.v aA,.v dm,.v cN],[.v cX,.v I],[⟨11,[(1,.v dm),(2,.v cN),(3,.obj aA),(6,.obj cX),(8,.obj cX),(9,.v I)],[1,1,1,0,1,0,0],[]⟩],none⟩
theorem acX(K ρ):(Pd N).bd K ρ 11=qb.ei N ((Pd N).kc ρ 11):=κ
theorem acY(ρ):(Pd N).kc ((Pd N).cf ρ) 11=qb.l5 N N:=Fx.uL [] (acX N) ρ (qb.l5 N) λn ρ' e d=>by rw[e];rfl
theorem aub(K):(Pd N).top K=qb.b N ((Pd N).kc K 11):=κ
def apd:Kn Tryz.prog:=⟨231,(Pd N).S false (qb N),Fx.u1 (Pd N) aF Tryz.func231 [11] (aub N) (by rw[acY];rfl)⟩
def ape:Fx:=⟨31,tab,Kn.l [Ve N,aj2 N,apd N],N,Tryz.f180,[.v aA,.v aL,.v I,.v pn],[.v cX],[],none⟩
def apf:Kn Tryz.prog:=⟨180,(ape N).S false (Xu N),Fx.u0 (ape N) aF Tryz.func180⟩
def apg:Fx:=⟨63,tab,Kn.l [JG N,k48 N,k22 N,YY N,zg N,k34 N,apf N,k30 N,Y1 N,O5 N],N,Tryz.f135,[.v aA,.v aL,.v I,.v I],[.v aL,.v I],[],none⟩
def auc:Kn Tryz.prog:=⟨135,(apg N).S false (Uv N),Fx.u0 (apg N) aF Tryz.func135⟩
def aph:Fx:=⟨10,tab,Kn.l [k22 N],N,Tryz.f251,[.v dt,.v I],[.v I],[],none⟩
def api:Kn Tryz.prog:=⟨251,(aph N).S true (Ge N),Fx.u0 (aph N) aF Tryz.func251⟩
def Pe:Fx:=⟨53,tab,Kn.l [Vc N,acp N],N,Tryz.f252,[.v eX,.v I,.v I],[.own eB,.v I],[⟨17,[(1,.v I),(2,.v I),(10,.own eB),(11,.v I)],[1,1,1,1,0,1,0,0],[]⟩],none⟩
theorem acZ(K ρ):(Pe N).bd K ρ 17=nF.yc N ((Pe N).kc ρ 17):=κ
theorem ac0(ρ):(Pe N).kc ((Pe N).cf ρ) 17=nF.l8 N N:=Fx.uL [] (acZ N) ρ (nF.l8 N) λn ρ' e d=>by rw[e];rfl
theorem aud(K):(Pe N).top K=nF.b N ((Pe N).kc K 17):=κ
def aue:Kn Tryz.prog:=⟨252,(Pe N).S false (nF N),Fx.u1 (Pe N) aF Tryz.func252 [17] (aud N) (by rw[ac0];rfl)⟩
def apj:Fx:=⟨36,tab,Kn.l [acK N,Ru N,zg N,Zk N],N,Tryz.f136,[.v mT,.v I],[.v cX,.v I],[],none⟩
def auf:Kn Tryz.prog:=⟨136,(apj N).S false (aaR N),Fx.u0 (apj N) aF Tryz.func136⟩
def apk:Fx:=⟨104,tab,Kn.l [JG N,acK N,k48 N,k22 N,Ve N,aj2 N,apa N,zg N,k30 N,auf N,YY N,k34 N,apf N],N,Tryz.f138,[.v aA,.v aL,.v mT],[.v I],[],none⟩
def apl:Kn Tryz.prog:=⟨138,(apk N).S true (Xv N),Fx.u0 (apk N) aF Tryz.func138⟩
def apm:Fx:=⟨24,tab,[],N,Tryz.f268,[.v mT,.v mT],[.v B],[],none⟩
def aug:Kn Tryz.prog:=⟨268,(apm N).S true (Ut N),Fx.u0 (apm N) aF Tryz.func268⟩
def rZ:Fx:=⟨72,tab,Kn.l [Vd N,aug N],N,Tryz.f238,[.v pn,.v I,.v I],[.own mT],[⟨22,[(0,.v pn),(1,.v I),(2,.v I),(7,.own mT),(8,.v I),(9,.v I)],[1,1,1,0,1,0,0,1,0,0,1,1,1],[11]⟩,⟨19,[(0,.v pn),(1,.v I),(2,.v I),(7,.own mT),(8,.v I),(9,.v I)],[1,1,1,0,1,0,0,1,0,0,1,1,0,0,0],[11]⟩,⟨11,[(0,.v pn),(1,.v I),(2,.v I),(7,.own mT),(8,.v I)],[1,1,1,0,1,0,0],[]⟩],none⟩
theorem ac1(K ρ):(rZ N).bd K ρ 22=dK.BN N ((rZ N).kc ρ 11):=κ
theorem ac2(ρ):(rZ N).kc ((rZ N).cf ρ) 22=dK.Je N ((rZ N).kc ρ 11):=Fx.uJ [] (ac1 N) ρ
theorem ac3(K ρ):(rZ N).bd K ρ 19=dK.xy N ((rZ N).kc K 22) ((rZ N).kc ρ 11) ((rZ N).kc ρ 19):=κ
theorem ac4(ρ):(rZ N).kc ((rZ N).cf ρ) 19=dK.l9 N ((rZ N).kc ρ 11) N:=Fx.uL [22] (ac3 N) ρ (dK.l9 N ((rZ N).kc ρ 11)) λn ρ' e d=>by rw[ac2,e,d 11 rfl];rfl
theorem ac5(K ρ):(rZ N).bd K ρ 11=dK.ei N ((rZ N).kc K 19) ((rZ N).kc ρ 11):=κ
theorem ac6(ρ):(rZ N).kc ((rZ N).cf ρ) 11=dK.l5 N N:=Fx.uL [19,22] (ac5 N) ρ (dK.l5 N) λn ρ' e d=>by rw[ac4,e];rfl
theorem auh(K):(rZ N).top K=dK.b N ((rZ N).kc K 11):=κ
def aui:Kn Tryz.prog:=⟨238,(rZ N).S false (dK N),Fx.u1 (rZ N) aF Tryz.func238 [11] (auh N) (by rw[ac6];rfl)⟩
def jF:Fx:=⟨174,tab,Kn.l [Vd N,acK N,aui N],N,Tryz.f202,[.v pn,.v mT],[.own mT,.own sX,.v I,.v I],[⟨49,[(8,.own mT),(9,.v I),(10,.own sX),(16,.own mT),(17,.v I)],[1,1,1,1,1,1,1,0,1,0,0],[]⟩,⟨44,[(8,.own mT),(9,.v I),(10,.own sX)],[1,1,1,1,1,1],[]⟩,⟨37,[(3,.obj mT),(8,.own mT),(9,.v I),(10,.own sX),(11,.own mT),(12,.v I),(13,.v I),(15,.v I)],[1,1,1,1,1,0,1,0,0,1,0,0,1,1,1,1,1,1,1,1,0,0],[15]⟩,⟨30,[(3,.obj mT),(8,.own mT),(9,.v I),(10,.own sX),(11,.own mT),(12,.v I),(13,.v I),(14,.obj sX)],[1,1,1,1,1,0,1,0,0,1,0,0,1,1,1,1,1],[15]⟩,⟨20,[(3,.obj mT),(8,.own mT),(9,.v I),(10,.own sX),(11,.own mT),(12,.v I)],[1,1,1,1,1,0,1,0,0,1,0,0,1],[15]⟩,⟨15,[(3,.obj mT),(8,.own mT),(9,.v I),(10,.own sX),(11,.own mT),(12,.v I)],[1,1,1,1,1,0,1,0,0],[]⟩],none⟩
theorem ac7(K ρ):(jF N).bd K ρ 49=cg.NQ N ((jF N).kc ρ 49):=κ
theorem ac8(ρ):(jF N).kc ((jF N).cf ρ) 49=cg.Lw N N:=Fx.uL [] (ac7 N) ρ (cg.Lw N) λn ρ' e d=>by rw[e];rfl
theorem ac9(K ρ):(jF N).bd K ρ 44=cg.aaY N ((jF N).kc K 49):=κ
theorem ada(ρ):(jF N).kc ((jF N).cf ρ) 44=cg.j22 N:=Fx.uJ [49] (ac9 N) ρ (by rw[ac8];rfl)
theorem adb(K ρ):(jF N).bd K ρ 37=cg.DD N ((jF N).kc ρ 15) ((jF N).kc ρ 37):=κ
theorem ade(ρ):(jF N).kc ((jF N).cf ρ) 37=cg.G8 N ((jF N).kc ρ 15) N:=Fx.uL [44,49] (adb N) ρ (cg.G8 N ((jF N).kc ρ 15)) λn ρ' e d=>by rw[e,d 15 rfl];rfl
theorem adf(K ρ):(jF N).bd K ρ 30=cg.uT N ((jF N).kc K 37) ((jF N).kc ρ 15):=κ
theorem adg(ρ):(jF N).kc ((jF N).cf ρ) 30=cg.A8 N ((jF N).kc ρ 15):=Fx.uJ [44,49,37] (adf N) ρ (by rw[ade];rfl)
theorem adh(K ρ):(jF N).bd K ρ 20=cg.BO N ((jF N).kc K 30) ((jF N).kc ρ 15):=κ
theorem adi(ρ):(jF N).kc ((jF N).cf ρ) 20=cg.HN N ((jF N).kc ρ 15):=Fx.uJ [44,49,30,37] (adh N) ρ (by rw[adg];rfl)
theorem adj(K ρ):(jF N).bd K ρ 15=cg.q4 N ((jF N).kc K 44) ((jF N).kc K 20) ((jF N).kc ρ 15):=κ
theorem adk(ρ):(jF N).kc ((jF N).cf ρ) 15=cg.l7 N N:=Fx.uL [44,49,20,30,37] (adj N) ρ (cg.l7 N) λn ρ' e d=>by rw[ada,adi,e];rfl
theorem auj(K):(jF N).top K=cg.b N ((jF N).kc K 15):=κ
def auk:Kn Tryz.prog:=⟨202,(jF N).S false (cg N),Fx.u1 (jF N) aF Tryz.func202 [15,44,49] (auj N) (by rw[adk];rfl)⟩
def apn:Fx:=⟨53,tab,Kn.l [Ru N],N,Tryz.f177,[.v sX],[.v B],[],none⟩
def apo:Kn Tryz.prog:=⟨177,(apn N).S true (Xf N),Fx.u0 (apn N) aF Tryz.func177⟩
def apq:Fx:=⟨7,tab,[],N,Tryz.f230,[.v I],[.v I,.v I],[],none⟩
def apr:Kn Tryz.prog:=⟨230,(apq N).S true (KC N),Fx.u0 (apq N) aF Tryz.func230⟩
def aps:Fx:=⟨53,tab,Kn.l [apo N,Ru N,zg N,Zk N,k44 N,apr N,k52 N],N,Tryz.f178,[.v sX,.v I],[.own rL,.v I],[],none⟩
def aul:Kn Tryz.prog:=⟨178,(aps N).S false (QI N),Fx.u0 (aps N) aF Tryz.func178⟩
def B3:Fx:=⟨107,tab,Kn.l [JG N,apo N,ao8 N,aul N,O5 N],N,Tryz.f105,[.v aA,.v aL,.v Ld],[.v aL,.v I],[⟨23,[(2,.v Ld),(3,.obj aA),(4,.obj aL),(6,.obj aL),(9,.own jt),(10,.own rL),(11,.v I)],[1,1,1,1,1,0,1,0,0],[]⟩,⟨9,[(2,.v Ld),(3,.obj aA),(4,.obj aL),(6,.obj aL),(8,.v I)],[1,1,0,1,0,0],[]⟩],none⟩
theorem adl(K ρ):(B3 N).bd K ρ 23=gz.yZ N ((B3 N).kc ρ 23):=κ
theorem adm(ρ):(B3 N).kc ((B3 N).cf ρ) 23=gz.BM N N:=Fx.uL [] (adl N) ρ (gz.BM N) λn ρ' e d=>by rw[e];rfl
theorem aj9(K ρ):(B3 N).bd K ρ 9=gz.dw N ((B3 N).kc K 23) ((B3 N).kc ρ 9):=κ
theorem aka(ρ):(B3 N).kc ((B3 N).cf ρ) 9=gz.l4 N N:=Fx.uL [23] (aj9 N) ρ (gz.l4 N) λn ρ' e d=>by rw[adm,e];rfl
theorem aum(K):(B3 N).top K=gz.b N ((B3 N).kc K 9):=κ
def apt:Kn Tryz.prog:=⟨105,(B3 N).S false (gz N),Fx.u1 (B3 N) aF Tryz.func105 [9,23] (aum N) (by rw[aka];rfl)⟩
def GR:Fx:=⟨85,tab,Kn.l [apl N,auk N,apt N],N,Tryz.f134,[.v aA,.v aL,.v mT],[.v aL,.v Ld,.v I,.v I],[⟨20,[(3,.obj aA),(4,.obj aL),(5,.obj mT),(6,.obj aL),(12,.own mT),(13,.own sX),(14,.v I)],[1,1,1,1,1],[]⟩,⟨14,[(3,.obj aA),(4,.obj aL),(5,.obj mT),(6,.obj aL)],[1,1,1],[]⟩],none⟩
theorem adn(K ρ):(GR N).bd K ρ 20=jj.BO N:=κ
theorem ado(ρ):(GR N).kc ((GR N).cf ρ) 20=jj.HN N:=Fx.uJ [] (adn N) ρ
theorem adp(K ρ):(GR N).bd K ρ 14=jj.Vm N ((GR N).kc K 20):=κ
theorem adq(ρ):(GR N).kc ((GR N).cf ρ) 14=jj.j7 N:=Fx.uJ [20] (adp N) ρ (by rw[ado];rfl)
theorem aun(K):(GR N).top K=jj.b N ((GR N).kc K 14):=κ
def auo:Kn Tryz.prog:=⟨134,(GR N).S false (jj N),Fx.u1 (GR N) aF Tryz.func134 [14,20] (aun N) (by rw[adq];rfl)⟩
def Pf:Fx:=⟨48,tab,Kn.l [Vd N],N,Tryz.f253,[.v pn,.v I,.v I],[.own mT,.v I],[⟨11,[(0,.v pn),(1,.v I),(2,.v I),(8,.own mT),(9,.v I)],[1,1,1,0,1,0,0],[]⟩],none⟩
theorem ads(K ρ):(Pf N).bd K ρ 11=nH.ei N ((Pf N).kc ρ 11):=κ
theorem adt(ρ):(Pf N).kc ((Pf N).cf ρ) 11=nH.l5 N N:=Fx.uL [] (ads N) ρ (nH.l5 N) λn ρ' e d=>by rw[e];rfl
theorem aup(K):(Pf N).top K=nH.b N ((Pf N).kc K 11):=κ
def auq:Kn Tryz.prog:=⟨253,(Pf N).S false (nH N),Fx.u1 (Pf N) aF Tryz.func253 [11] (aup N) (by rw[adt];rfl)⟩
def Pg:Fx:=⟨76,tab,Kn.l [k84 N,Ru N,zg N,k34 N,k44 N,apr N,Zk N],N,Tryz.f179,[.v cN,.v I,.v I,.v I],[.own rL,.v I],[⟨13,[(0,.v cN),(1,.v I),(10,.own rL),(11,.obj cX),(12,.v I)],[1,1,1,1,0,1,0,0],[]⟩],none⟩
theorem adu(K ρ):(Pg N).bd K ρ 13=nI.uu N ((Pg N).kc ρ 13):=κ
theorem adv(ρ):(Pg N).kc ((Pg N).cf ρ) 13=nI.l6 N N:=Fx.uL [] (adu N) ρ (nI.l6 N) λn ρ' e d=>by rw[e];rfl
theorem aur(K):(Pg N).top K=nI.b N ((Pg N).kc K 13):=κ
def aus:Kn Tryz.prog:=⟨179,(Pg N).S false (nI N),Fx.u1 (Pg N) aF Tryz.func179 [13] (aur N) (by rw[adv];rfl)⟩
def apu:Fx:=⟨70,tab,Kn.l [JG N,Ru N,aus N,O5 N],N,Tryz.f106,[.v aA,.v aL,.v I,.v I],[.v aL,.v oF,.v I],[],some (aL,[.kE 4],I,[5,13])⟩
def aut:Kn Tryz.prog:=⟨106,(apu N).S false (Uu N),Fx.u0 (apu N) aF Tryz.func106⟩
def Ph:Fx:=⟨50,tab,[],N,Tryz.f272,[.v dm],[.v B],[⟨5,[(0,.v dm),(3,.v I)],[1,0,1,0,0],[]⟩],none⟩
theorem akb(K ρ):(Ph N).bd K ρ 5=qc.gJ N ((Ph N).kc ρ 5):=κ
theorem akc(ρ):(Ph N).kc ((Ph N).cf ρ) 5=qc.l2 N N:=Fx.uL [] (akb N) ρ (qc.l2 N) λn ρ' e d=>by rw[e];rfl
theorem auu(K):(Ph N).top K=qc.b N ((Ph N).kc K 5):=κ
def apv:Kn Tryz.prog:=⟨272,(Ph N).S true (qc N),Fx.u1 (Ph N) aF Tryz.func272 [5] (auu N) (by rw[akc];rfl)⟩
def qi:Fx:=⟨84,tab,Kn.l [apv N,zg N,Rt N,GP N],N,Tryz.f254,[.v dm,.v oF],[.own jC,.v I],[⟨29,[(0,.v dm),(1,.v oF),(6,.own jC),(7,.v I),(8,.obj cX),(10,.v I)],[1,1,1,0,1,0,0,1,0,0,1,1,0,1,0,0],[11]⟩,⟨19,[(0,.v dm),(1,.v oF),(6,.own jC),(7,.v I),(8,.obj cX),(9,.v I)],[1,1,1,0,1,0,0,1,0,0,1,0,1,0,0],[11]⟩,⟨11,[(0,.v dm),(1,.v oF),(6,.own jC),(7,.v I)],[1,1,1,0,1,0,0],[]⟩],none⟩
theorem adw(K ρ):(qi N).bd K ρ 29=eP.FY N ((qi N).kc ρ 11) ((qi N).kc ρ 29):=κ
theorem adx(ρ):(qi N).kc ((qi N).cf ρ) 29=eP.IZ N ((qi N).kc ρ 11) N:=Fx.uL [] (adw N) ρ (eP.IZ N ((qi N).kc ρ 11)) λn ρ' e d=>by rw[e,d 11 rfl];rfl
theorem ady(K ρ):(qi N).bd K ρ 19=eP.xy N ((qi N).kc K 29) ((qi N).kc ρ 11) ((qi N).kc ρ 19):=κ
theorem adz(ρ):(qi N).kc ((qi N).cf ρ) 19=eP.l9 N ((qi N).kc ρ 11) N:=Fx.uL [29] (ady N) ρ (eP.l9 N ((qi N).kc ρ 11)) λn ρ' e d=>by rw[adx,e,d 11 rfl];rfl
theorem adA(K ρ):(qi N).bd K ρ 11=eP.ei N ((qi N).kc K 19) ((qi N).kc ρ 11):=κ
theorem adB(ρ):(qi N).kc ((qi N).cf ρ) 11=eP.l5 N N:=Fx.uL [19,29] (adA N) ρ (eP.l5 N) λn ρ' e d=>by rw[adz,e];rfl
theorem auv(K):(qi N).top K=eP.b N ((qi N).kc K 11):=κ
def auw:Kn Tryz.prog:=⟨254,(qi N).S false (eP N),Fx.u1 (qi N) aF Tryz.func254 [11] (auv N) (by rw[adB];rfl)⟩
def apw:Fx:=⟨15,tab,Kn.l [zg N,Rt N,GP N],N,Tryz.f255,[.v dt,.v I],[.v I,.v B],[],none⟩
def akd:Kn Tryz.prog:=⟨255,(apw N).S true (UH N),Fx.u0 (apw N) aF Tryz.func255⟩
def apx:Fx:=⟨41,tab,[],N,Tryz.f281,[.v I,.v I],[.v I,.v B],[],none⟩
def auy:Kn Tryz.prog:=⟨281,(apx N).S true (Ur N),Fx.u0 (apx N) aF Tryz.func281⟩
def Pj:Fx:=⟨51,tab,Kn.l [k69 N,k70 N,auy N],N,Tryz.f273,[.v dm,.v I,.v I],[.own jC,.v I],[⟨23,[(1,.v I),(9,.v I),(11,.own jC),(12,.v I)],[1,1,1,1,1,1,1,0,1,0,0],[]⟩],none⟩
theorem adC(K ρ):(Pj N).bd K ρ 23=lH.yZ N ((Pj N).kc ρ 23):=κ
theorem adD(ρ):(Pj N).kc ((Pj N).cf ρ) 23=lH.BM N N:=Fx.uL [] (adC N) ρ (lH.BM N) λn ρ' e d=>by rw[e];rfl
theorem auz(K):(Pj N).top K=lH.b N ((Pj N).kc K 23):=κ
def apy:Kn Tryz.prog:=⟨273,(Pj N).S false (lH N),Fx.u1 (Pj N) aF Tryz.func273 [23] (auz N) (by rw[adD];rfl)⟩
def Pk:Fx:=⟨33,tab,Kn.l [Vc N],N,Tryz.f182,[.v eX,.v I],[.own I],[⟨11,[(0,.v eX),(1,.v I),(5,.own I),(6,.v I)],[1,1,1,0,1,0,0],[]⟩],none⟩
theorem adE(K ρ):(Pk N).bd K ρ 11=ru.ei N ((Pk N).kc ρ 11):=κ
theorem adF(ρ):(Pk N).kc ((Pk N).cf ρ) 11=ru.l5 N N:=Fx.uL [] (adE N) ρ (ru.l5 N) λn ρ' e d=>by rw[e];rfl
theorem auA(K):(Pk N).top K=ru.b N ((Pk N).kc K 11):=κ
def auB:Kn Tryz.prog:=⟨182,(Pk N).S false (ru N),Fx.u1 (Pk N) aF Tryz.func182 [11] (auA N) (by rw[adF];rfl)⟩
def yj:Fx:=⟨48,tab,Kn.l [Vd N],N,Tryz.f181,[.v pn,.v LI],[.own mT],[⟨19,[(0,.v pn),(1,.v LI),(5,.own mT),(6,.v I),(7,.v B),(8,.v I)],[1,1,1,0,1,0,0,1,0,0,1,0,1,0,0],[11]⟩,⟨11,[(0,.v pn),(1,.v LI),(5,.own mT),(6,.v I)],[1,1,1,0,1,0,0],[]⟩],none⟩
theorem adG(K ρ):(yj N).bd K ρ 19=fU.xy N ((yj N).kc ρ 11) ((yj N).kc ρ 19):=κ
theorem adH(ρ):(yj N).kc ((yj N).cf ρ) 19=fU.l9 N ((yj N).kc ρ 11) N:=Fx.uL [] (adG N) ρ (fU.l9 N ((yj N).kc ρ 11)) λn ρ' e d=>by rw[e,d 11 rfl];rfl
theorem adI(K ρ):(yj N).bd K ρ 11=fU.ei N ((yj N).kc K 19) ((yj N).kc ρ 11):=κ
theorem adJ(ρ):(yj N).kc ((yj N).cf ρ) 11=fU.l5 N N:=Fx.uL [19] (adI N) ρ (fU.l5 N) λn ρ' e d=>by rw[adH,e];rfl
theorem auC(K):(yj N).top K=fU.b N ((yj N).kc K 11):=κ
def auD:Kn Tryz.prog:=⟨181,(yj N).S false (fU N),Fx.u1 (yj N) aF Tryz.func181 [11] (auC N) (by rw[adJ];rfl)⟩
def apz:Fx:=⟨28,tab,Kn.l [JG N,k22 N,auB N,auD N],N,Tryz.f108,[.v aA,.v aL,.v I],[.v aL,.v I],[],none⟩
def auE:Kn Tryz.prog:=⟨108,(apz N).S false (KR N),Fx.u0 (apz N) aF Tryz.func108⟩
def apA:Fx:=⟨41,tab,[],N,Tryz.f296,[.v eB],[.v B],[],none⟩
def apB:Kn Tryz.prog:=⟨296,(apA N).S true (WM N),Fx.u0 (apA N) aF Tryz.func296⟩
def sa:Fx:=⟨67,tab,Kn.l [apB N],N,Tryz.f282,[.v eX],[.v B],[⟨19,[(0,.v eX),(3,.v I),(4,.v I)],[1,1,0,1,0,0,1,0,0,1,1,0,0],[9]⟩,⟨16,[(0,.v eX),(3,.v I)],[1,1,0,1,0,0,1,0,0,1],[9]⟩,⟨9,[(0,.v eX),(3,.v I)],[1,1,0,1,0,0],[]⟩],none⟩
theorem adK(K ρ):(sa N).bd K ρ 19=eF.xy N ((sa N).kc ρ 9) ((sa N).kc ρ 19):=κ
theorem adL(ρ):(sa N).kc ((sa N).cf ρ) 19=eF.l9 N ((sa N).kc ρ 9) N:=Fx.uL [] (adK N) ρ (eF.l9 N ((sa N).kc ρ 9)) λn ρ' e d=>by rw[e,d 9 rfl];rfl
theorem adM(K ρ):(sa N).bd K ρ 16=eF.W2 N ((sa N).kc K 19) ((sa N).kc ρ 9):=κ
theorem adN(ρ):(sa N).kc ((sa N).cf ρ) 16=eF.j8 N ((sa N).kc ρ 9):=Fx.uJ [19] (adM N) ρ (by rw[adL];rfl)
theorem ake(K ρ):(sa N).bd K ρ 9=eF.dw N ((sa N).kc K 16) ((sa N).kc ρ 9):=κ
theorem akf(ρ):(sa N).kc ((sa N).cf ρ) 9=eF.l4 N N:=Fx.uL [16,19] (ake N) ρ (eF.l4 N) λn ρ' e d=>by rw[adN,e];rfl
theorem auF(K):(sa N).top K=eF.b N ((sa N).kc K 9):=κ
def Y2:Kn Tryz.prog:=⟨282,(sa N).S true (eF N),Fx.u1 (sa N) aF Tryz.func282 [9] (auF N) (by rw[akf];rfl)⟩
def Pl:Fx:=⟨32,tab,Kn.l [Y2 N],N,Tryz.f274,[.v eX,.v I],[.own eB],[⟨11,[(0,.v eX),(1,.v I),(5,.own eB),(6,.v I)],[1,1,1,0,1,0,0],[]⟩],none⟩
theorem adO(K ρ):(Pl N).bd K ρ 11=ph.ei N ((Pl N).kc ρ 11):=κ
theorem adP(ρ):(Pl N).kc ((Pl N).cf ρ) 11=ph.l5 N N:=Fx.uL [] (adO N) ρ (ph.l5 N) λn ρ' e d=>by rw[e];rfl
theorem auG(K):(Pl N).top K=ph.b N ((Pl N).kc K 11):=κ
def auH:Kn Tryz.prog:=⟨274,(Pl N).S false (ph N),Fx.u1 (Pl N) aF Tryz.func274 [11] (auG N) (by rw[adP];rfl)⟩
def apC:Fx:=⟨66,tab,[],N,Tryz.f275,[.v dt,.v I],[.v B],[],none⟩
def auI:Kn Tryz.prog:=⟨275,(apC N).S true (aa9 N),Fx.u0 (apC N) aF Tryz.func275⟩
def apD:Fx:=⟨9,tab,Kn.l [k22 N],N,Tryz.f151,[.v aL,.v I],[.v I],[],none⟩
def adQ:Kn Tryz.prog:=⟨151,(apD N).S true (HO N),Fx.u0 (apD N) aF Tryz.func151⟩
def Pm:Fx:=⟨56,tab,Kn.l [acP N,zg N,k33 N,Zk N,Rt N],N,Tryz.f214,[.v aA,.v dm,.v B],[.v cX,.v I],[⟨11,[(1,.v dm),(2,.v B),(3,.obj aA),(6,.obj cX),(8,.obj cX),(9,.v I)],[1,1,1,0,1,0,0],[]⟩],none⟩
theorem adR(K ρ):(Pm N).bd K ρ 11=lF.ei N ((Pm N).kc ρ 11):=κ
theorem adS(ρ):(Pm N).kc ((Pm N).cf ρ) 11=lF.l5 N N:=Fx.uL [] (adR N) ρ (lF.l5 N) λn ρ' e d=>by rw[e];rfl
theorem auJ(K):(Pm N).top K=lF.b N ((Pm N).kc K 11):=κ
def apE:Kn Tryz.prog:=⟨214,(Pm N).S false (lF N),Fx.u1 (Pm N) aF Tryz.func214 [11] (auJ N) (by rw[adS];rfl)⟩
def apF:Fx:=⟨11,tab,Kn.l [apE N],N,Tryz.f316,[.v aA,.v dm],[.v cX,.v I],[],none⟩
def auK:Kn Tryz.prog:=⟨316,(apF N).S false (aik N),Fx.u0 (apF N) aF Tryz.func316⟩
def apG:Fx:=⟨9,tab,Kn.l [YY N],N,Tryz.f149,[.v aL,.v I],[.v I],[],none⟩
def adT:Kn Tryz.prog:=⟨149,(apG N).S true (HH N),Fx.u0 (apG N) aF Tryz.func149⟩
def apH:Fx:=⟨69,tab,Kn.l [JG N,k48 N,adQ N,Ve N,auK N,adT N,zg N,k30 N],N,Tryz.f297,[.v aA,.v aL,.v I,.v I,.v I],[.v I],[],none⟩
def auL:Kn Tryz.prog:=⟨297,(apH N).S true (aaZ N),Fx.u0 (apH N) aF Tryz.func297⟩
def Pn:Fx:=⟨61,tab,Kn.l [ajs N,acp N,k70 N],N,Tryz.f298,[.v dm,.v eX,.v I,.v I],[.own eB,.v I],[⟨27,[(2,.v I),(3,.v I),(13,.own eB),(14,.v I)],[1,1,1,1,1,1,1,1,0,1,0,0],[]⟩],none⟩
theorem adU(K ρ):(Pn N).bd K ρ 27=nG.mP N ((Pn N).kc ρ 27):=κ
theorem adV(ρ):(Pn N).kc ((Pn N).cf ρ) 27=nG.nT N N:=Fx.uL [] (adU N) ρ (nG.nT N) λn ρ' e d=>by rw[e];rfl
theorem auM(K):(Pn N).top K=nG.b N ((Pn N).kc K 27):=κ
def auN:Kn Tryz.prog:=⟨298,(Pn N).S false (nG N),Fx.u1 (Pn N) aF Tryz.func298 [27] (auM N) (by rw[adV];rfl)⟩
def apI:Fx:=⟨42,tab,Kn.l [auL N,auN N],N,Tryz.f283,[.v aA,.v aL,.v I,.v I,.v I],[.v aL,.v I],[],none⟩
def auO:Kn Tryz.prog:=⟨283,(apI N).S false (Uw N),Fx.u0 (apI N) aF Tryz.func283⟩
def apJ:Fx:=⟨11,tab,Kn.l [apE N],N,Tryz.f147,[.v aA,.v dm],[.v cX,.v I],[],none⟩
def apK:Kn Tryz.prog:=⟨147,(apJ N).S false (QF N),Fx.u0 (apJ N) aF Tryz.func147⟩
def X60:Fx:=⟨55,tab,Kn.l [JG N,k48 N,Ve N,apK N,adT N,GP N],N,Tryz.f60,[.v aA,.v aL,.v I],[.v I,.v I],[],none⟩
def k60:Kn Tryz.prog:=⟨60,(X60 N).S true (F60 N),Fx.u0 (X60 N) aF Tryz.func60⟩
def Po:Fx:=⟨76,tab,Kn.l [k84 N],N,Tryz.f153,[.v cN,.v I,.v I],[.own jt],[⟨11,[(0,.v cN),(1,.v I),(2,.v I),(7,.own jt),(8,.v I)],[1,1,1,0,1,0,0],[]⟩],none⟩
theorem adW(K ρ):(Po N).bd K ρ 11=iR.ei N ((Po N).kc ρ 11):=κ
theorem adX(ρ):(Po N).kc ((Po N).cf ρ) 11=iR.l5 N N:=Fx.uL [] (adW N) ρ (iR.l5 N) λn ρ' e d=>by rw[e];rfl
theorem auP(K):(Po N).top K=iR.b N ((Po N).kc K 11):=κ
def auQ:Kn Tryz.prog:=⟨153,(Po N).S false (iR N),Fx.u1 (Po N) aF Tryz.func153 [11] (auP N) (by rw[adX];rfl)⟩
def S3:Fx:=⟨86,tab,Kn.l [JG N,adQ N,k60 N,zg N,Y1 N,adT N,k52 N,auQ N,O5 N],N,Tryz.f61,[.v aA,.v aL,.v I],[.v aL,.v I],[⟨30,[(2,.v I),(3,.obj aA),(4,.obj aL),(6,.obj aL),(8,.own jt),(9,.own rL),(10,.v I),(11,.obj eB)],[1,1,1,1,1,0,1,0,0,1,0,0,1,1,1],[17]⟩,⟨17,[(2,.v I),(3,.obj aA),(4,.obj aL),(6,.obj aL),(8,.own jt),(9,.own rL),(10,.v I)],[1,1,1,1,1,0,1,0,0],[]⟩],none⟩
theorem akg(K ρ):(S3 N).bd K ρ 30=mU.uT N ((S3 N).kc ρ 17):=κ
theorem akh(ρ):(S3 N).kc ((S3 N).cf ρ) 30=mU.A8 N ((S3 N).kc ρ 17):=Fx.uJ [] (akg N) ρ
theorem aki(K ρ):(S3 N).bd K ρ 17=mU.yc N ((S3 N).kc K 30) ((S3 N).kc ρ 17):=κ
theorem akj(ρ):(S3 N).kc ((S3 N).cf ρ) 17=mU.l8 N N:=Fx.uL [30] (aki N) ρ (mU.l8 N) λn ρ' e d=>by rw[akh,e];rfl
theorem h61(K):(S3 N).top K=mU.b N ((S3 N).kc K 17):=κ
def k61:Kn Tryz.prog:=⟨61,(S3 N).S false (mU N),Fx.u1 (S3 N) aF Tryz.func61 [17] (h61 N) (by rw[akj];rfl)⟩
def Pp:Fx:=⟨48,tab,Kn.l [JG N,k27 N,zg N,Zk N,Rt N],N,Tryz.f299,[.v aA,.v aL],[.own cX,.v I],[⟨11,[(2,.obj aA),(3,.obj aL),(6,.own cX),(7,.v I)],[1,1,1,0,1,0,0],[]⟩],none⟩
theorem adY(K ρ):(Pp N).bd K ρ 11=rq.ei N ((Pp N).kc ρ 11):=κ
theorem adZ(ρ):(Pp N).kc ((Pp N).cf ρ) 11=rq.l5 N N:=Fx.uL [] (adY N) ρ (rq.l5 N) λn ρ' e d=>by rw[e];rfl
theorem auR(K):(Pp N).top K=rq.b N ((Pp N).kc K 11):=κ
def auS:Kn Tryz.prog:=⟨299,(Pp N).S false (rq N),Fx.u1 (Pp N) aF Tryz.func299 [11] (auR N) (by rw[adZ];rfl)⟩
def Pq:Fx:=⟨31,tab,Kn.l [Rs N],N,Tryz.f300,[.v aA,.v I],[.own I],[⟨11,[(1,.v I),(2,.obj aA),(5,.own I),(6,.v I)],[1,1,1,0,1,0,0],[]⟩],none⟩
theorem ad0(K ρ):(Pq N).bd K ρ 11=pa.ei N ((Pq N).kc ρ 11):=κ
theorem ad1(ρ):(Pq N).kc ((Pq N).cf ρ) 11=pa.l5 N N:=Fx.uL [] (ad0 N) ρ (pa.l5 N) λn ρ' e d=>by rw[e];rfl
theorem auT(K):(Pq N).top K=pa.b N ((Pq N).kc K 11):=κ
def auU:Kn Tryz.prog:=⟨300,(Pq N).S false (pa N),Fx.u1 (Pq N) aF Tryz.func300 [11] (auT N) (by rw[ad1];rfl)⟩
def Pr:Fx:=⟨35,tab,Kn.l [ajA N],N,Tryz.f317,[.v LU],[.v LU,.v U],[⟨9,[(0,.v LU),(4,.own U),(5,.v U),(6,.v I)],[1,1,1,0,1,0,0],[]⟩],none⟩
theorem akk(K ρ):(Pr N).bd K ρ 9=pC.dw N ((Pr N).kc ρ 9):=κ
theorem akl(ρ):(Pr N).kc ((Pr N).cf ρ) 9=pC.l4 N N:=Fx.uL [] (akk N) ρ (pC.l4 N) λn ρ' e d=>by rw[e];rfl
theorem auV(K):(Pr N).top K=pC.b N ((Pr N).kc K 9):=κ
def auW:Kn Tryz.prog:=⟨317,(Pr N).S false (pC N),Fx.u1 (Pr N) aF Tryz.func317 [9] (auV N) (by rw[akl];rfl)⟩
def B4:Fx:=⟨77,tab,Kn.l [auW N,Rt N,zg N,k30 N,k34 N,k44 N,k52 N],N,Tryz.f301,[.v cX,.v cX],[.v cX,.v cX],[⟨19,[(2,.obj cX),(3,.obj cX),(4,.obj cX),(5,.obj cX),(6,.own U),(10,.obj cX),(11,.obj cX),(12,.v I)],[1,1,1,1,0,1,0,0],[]⟩,⟨7,[(2,.obj cX),(3,.obj cX),(4,.obj cX),(5,.obj cX),(6,.own U),(7,.v LU)],[1,1,0,1,0,0],[]⟩],none⟩
theorem ad2(K ρ):(B4 N).bd K ρ 19=iu.xy N ((B4 N).kc ρ 19):=κ
theorem ad3(ρ):(B4 N).kc ((B4 N).cf ρ) 19=iu.l9 N N:=Fx.uL [] (ad2 N) ρ (iu.l9 N) λn ρ' e d=>by rw[e];rfl
theorem akm(K ρ):(B4 N).bd K ρ 7=iu.nO N ((B4 N).kc K 19) ((B4 N).kc ρ 7):=κ
theorem akn(ρ):(B4 N).kc ((B4 N).cf ρ) 7=iu.l3 N N:=Fx.uL [19] (akm N) ρ (iu.l3 N) λn ρ' e d=>by rw[ad3,e];rfl
theorem auX(K):(B4 N).top K=iu.b N ((B4 N).kc K 7):=κ
def apL:Kn Tryz.prog:=⟨301,(B4 N).S false (iu N),Fx.u1 (B4 N) aF Tryz.func301 [7,19] (auX N) (by rw[akn];rfl)⟩
def A3:Fx:=⟨104,tab,Kn.l [auS N,auU N,k33 N,zg N,k30 N,apL N,GP N,k44 N],N,Tryz.f284,[.v aA,.v aL,.v I],[.own eB,.v I],[⟨30,[(2,.v I),(3,.obj aA),(4,.obj aL),(8,.own cX),(10,.own eB),(11,.v I),(12,.own I),(16,.v I)],[1,1,1,1,0,1,0,0,1,0,0,1,1,1,1,1,1],[13]⟩,⟨13,[(2,.v I),(3,.obj aA),(4,.obj aL),(8,.own cX),(10,.own eB),(11,.v I)],[1,1,1,1,0,1,0,0],[]⟩],none⟩
theorem ad4(K ρ):(A3 N).bd K ρ 30=iS.uT N ((A3 N).kc ρ 13):=κ
theorem ad5(ρ):(A3 N).kc ((A3 N).cf ρ) 30=iS.A8 N ((A3 N).kc ρ 13):=Fx.uJ [] (ad4 N) ρ
theorem ad6(K ρ):(A3 N).bd K ρ 13=iS.uu N ((A3 N).kc K 30) ((A3 N).kc ρ 13):=κ
theorem ad7(ρ):(A3 N).kc ((A3 N).cf ρ) 13=iS.l6 N N:=Fx.uL [30] (ad6 N) ρ (iS.l6 N) λn ρ' e d=>by rw[ad5,e];rfl
theorem auY(K):(A3 N).top K=iS.b N ((A3 N).kc K 13):=κ
def auZ:Kn Tryz.prog:=⟨284,(A3 N).S false (iS N),Fx.u1 (A3 N) aF Tryz.func284 [13] (auY N) (by rw[ad7];rfl)⟩
def apM:Fx:=⟨41,tab,[],N,Tryz.f318,[.v eB],[.v B],[],none⟩
def au0:Kn Tryz.prog:=⟨318,(apM N).S true (aaK N),Fx.u0 (apM N) aF Tryz.func318⟩
def Rv:Fx:=⟨113,tab,Kn.l [JG N,au0 N,apl N,apt N],N,Tryz.f302,[.v aA,.v aL,.v eB,.v I,.v I,.v I],[.v aL,.v eB,.v I],[⟨28,[(4,.v I),(6,.obj aA),(7,.obj aL),(8,.obj eB),(12,.obj aL),(13,.obj eB),(17,.obj sX)],[1,1,1,1,1,1,1,1],[]⟩],none⟩
theorem ad8(K ρ):(Rv N).bd K ρ 28=pK.NM N:=κ
theorem ad9(ρ):(Rv N).kc ((Rv N).cf ρ) 28=pK.Vp N:=Fx.uJ [] (ad8 N) ρ
theorem au1(K):(Rv N).top K=pK.b N ((Rv N).kc K 28):=κ
def au2:Kn Tryz.prog:=⟨302,(Rv N).S false (pK N),Fx.u1 (Rv N) aF Tryz.func302 [28] (au1 N) (by rw[ad9];rfl)⟩
def Ps:Fx:=⟨77,tab,Kn.l [au2 N,acj N],N,Tryz.f285,[.v aA,.v dt,.v kX],[.v dt,.v jt],[⟨11,[(3,.obj aA),(4,.obj dt),(5,.obj kX),(6,.obj dt),(7,.obj jt),(8,.own eB),(9,.v B),(10,.v I),(11,.v I)],[1,1,1,1,0,1,0,0],[]⟩],none⟩
theorem aea(K ρ):(Ps N).bd K ρ 11=nK.ei N ((Ps N).kc ρ 11):=κ
theorem aeb(ρ):(Ps N).kc ((Ps N).cf ρ) 11=nK.l5 N N:=Fx.uL [] (aea N) ρ (nK.l5 N) λn ρ' e d=>by rw[e];rfl
theorem au3(K):(Ps N).top K=nK.b N ((Ps N).kc K 11):=κ
def au4:Kn Tryz.prog:=⟨285,(Ps N).S false (nK N),Fx.u1 (Ps N) aF Tryz.func285 [11] (au3 N) (by rw[aeb];rfl)⟩
def Pu:Fx:=⟨28,tab,Kn.l [k44 N,zg N,Zk N,k30 N],N,Tryz.f303,[.v cX,.v I],[.v I],[⟨9,[(1,.v I),(2,.obj cX),(5,.v I)],[1,1,1,0,0,0],[]⟩],none⟩
theorem ako(K ρ):(Pu N).bd K ρ 9=ry.dw N ((Pu N).kc ρ 9):=κ
theorem akp(ρ):(Pu N).kc ((Pu N).cf ρ) 9=ry.l4 N N:=Fx.uL [] (ako N) ρ (ry.l4 N) λn ρ' e d=>by rw[e];rfl
theorem au5(K):(Pu N).top K=ry.b N ((Pu N).kc K 9):=κ
def au6:Kn Tryz.prog:=⟨303,(Pu N).S true (ry N),Fx.u1 (Pu N) aF Tryz.func303 [9] (au5 N) (by rw[akp];rfl)⟩
def Pv:Fx:=⟨24,tab,[],N,Tryz.f329,[.v I,.v LI],[.v B],[⟨9,[(1,.v LI),(5,.v I)],[1,1,0,1,0,0],[]⟩],none⟩
theorem akq(K ρ):(Pv N).bd K ρ 9=pI.dw N ((Pv N).kc ρ 9):=κ
theorem akr(ρ):(Pv N).kc ((Pv N).cf ρ) 9=pI.l4 N N:=Fx.uL [] (akq N) ρ (pI.l4 N) λn ρ' e d=>by rw[e];rfl
theorem au7(K):(Pv N).top K=pI.b N ((Pv N).kc K 9):=κ
def apN:Kn Tryz.prog:=⟨329,(Pv N).S true (pI N),Fx.u1 (Pv N) aF Tryz.func329 [9] (au7 N) (by rw[akr];rfl)⟩
def Pw:Fx:=⟨19,tab,Kn.l [zg N,Rt N],N,Tryz.f327,[.v LI],[.v cX],[⟨7,[(0,.v LI),(2,.obj cX),(3,.obj cX),(4,.v I)],[1,1,0,1,0,0],[]⟩],none⟩
theorem aks(K ρ):(Pw N).bd K ρ 7=pB.nO N ((Pw N).kc ρ 7):=κ
theorem akt(ρ):(Pw N).kc ((Pw N).cf ρ) 7=pB.l3 N N:=Fx.uL [] (aks N) ρ (pB.l3 N) λn ρ' e d=>by rw[e];rfl
theorem au8(K):(Pw N).top K=pB.b N ((Pw N).kc K 7):=κ
def aku:Kn Tryz.prog:=⟨327,(Pw N).S false (pB N),Fx.u1 (Pw N) aF Tryz.func327 [7] (au8 N) (by rw[akt];rfl)⟩
def sb:Fx:=⟨48,tab,[],N,Tryz.f330,[.v LI],[.own I],[⟨16,[(0,.v LI),(3,.own I),(4,.v I),(5,.v I)],[1,1,0,1,0,0,1,0,0,1,1],[7]⟩,⟨13,[(0,.v LI),(3,.own I),(4,.v I),(5,.v I)],[1,1,0,1,0,0,1,0,0,1,0,0,0],[7]⟩,⟨7,[(0,.v LI),(3,.own I),(4,.v I)],[1,1,0,1,0,0],[]⟩],none⟩
theorem aec(K ρ):(sb N).bd K ρ 16=fB.W2 N ((sb N).kc ρ 7):=κ
theorem aed(ρ):(sb N).kc ((sb N).cf ρ) 16=fB.j8 N ((sb N).kc ρ 7):=Fx.uJ [] (aec N) ρ
theorem aee(K ρ):(sb N).bd K ρ 13=fB.uu N ((sb N).kc K 16) ((sb N).kc ρ 7) ((sb N).kc ρ 13):=κ
theorem aef(ρ):(sb N).kc ((sb N).cf ρ) 13=fB.l6 N ((sb N).kc ρ 7) N:=Fx.uL [16] (aee N) ρ (fB.l6 N ((sb N).kc ρ 7)) λn ρ' e d=>by rw[aed,e,d 7 rfl];rfl
theorem akv(K ρ):(sb N).bd K ρ 7=fB.nO N ((sb N).kc K 13) ((sb N).kc ρ 7):=κ
theorem akw(ρ):(sb N).kc ((sb N).cf ρ) 7=fB.l3 N N:=Fx.uL [13,16] (akv N) ρ (fB.l3 N) λn ρ' e d=>by rw[aef,e];rfl
theorem au9(K):(sb N).top K=fB.b N ((sb N).kc K 7):=κ
def ava:Kn Tryz.prog:=⟨330,(sb N).S false (fB N),Fx.u1 (sb N) aF Tryz.func330 [7] (au9 N) (by rw[akw];rfl)⟩
def xj:Fx:=⟨112,tab,Kn.l [apN N,aku N,k44 N,GP N,zg N,Zk N,apL N,ava N],N,Tryz.f319,[.v I,.v LI],[.own I,.v I],[⟨45,[(9,.own I),(11,.v I),(15,.own I),(16,.v I)],[1,1,1,1,1,1,1,1,1,1,0,1,0,0],[]⟩,⟨29,[(0,.v I),(1,.v LI),(6,.obj cX),(9,.own I),(10,.own I),(11,.v I),(12,.v I)],[1,1,1,1,1,1,1,1,0,1,0,0],[]⟩,⟨12,[(0,.v I),(1,.v LI),(6,.obj cX)],[1,1,1,1],[]⟩],none⟩
theorem aeg(K ρ):(xj N).bd K ρ 45=fN.vw N ((xj N).kc ρ 45):=κ
theorem aeh(ρ):(xj N).kc ((xj N).cf ρ) 45=fN.wO N N:=Fx.uL [] (aeg N) ρ (fN.wO N) λn ρ' e d=>by rw[e];rfl
theorem aei(K ρ):(xj N).bd K ρ 29=fN.FY N ((xj N).kc K 45) ((xj N).kc ρ 29):=κ
theorem aej(ρ):(xj N).kc ((xj N).cf ρ) 29=fN.IZ N N:=Fx.uL [45] (aei N) ρ (fN.IZ N) λn ρ' e d=>by rw[aeh,e];rfl
theorem aek(K ρ):(xj N).bd K ρ 12=fN.TP N ((xj N).kc K 29):=κ
theorem ael(ρ):(xj N).kc ((xj N).cf ρ) 12=fN.j6 N:=Fx.uJ [29,45] (aek N) ρ (by rw[aej];rfl)
theorem avb(K):(xj N).top K=fN.b N ((xj N).kc K 12):=κ
def akx:Kn Tryz.prog:=⟨319,(xj N).S false (fN N),Fx.u1 (xj N) aF Tryz.func319 [12,29,45] (avb N) (by rw[ael];rfl)⟩
def Px:Fx:=⟨33,tab,Kn.l [akx N],N,Tryz.f304,[.v I,.v I],[.own I,.v I],[⟨11,[(0,.v I),(1,.v I),(6,.own I),(7,.v I)],[1,1,1,0,1,0,0],[]⟩],none⟩
theorem aem(K ρ):(Px N).bd K ρ 11=rm.ei N ((Px N).kc ρ 11):=κ
theorem aen(ρ):(Px N).kc ((Px N).cf ρ) 11=rm.l5 N N:=Fx.uL [] (aem N) ρ (rm.l5 N) λn ρ' e d=>by rw[e];rfl
theorem avc(K):(Px N).top K=rm.b N ((Px N).kc K 11):=κ
def avd:Kn Tryz.prog:=⟨304,(Px N).S false (rm N),Fx.u1 (Px N) aF Tryz.func304 [11] (avc N) (by rw[aen];rfl)⟩
def fD:Fx:=⟨175,tab,Kn.l [JG N,Ve N,zg N,k33 N,Rt N,au6 N,avd N,apK N,k52 N,GP N],N,Tryz.f286,[.v aA,.v aL,.v I],[.own jk,.v I],[⟨64,[(2,.v I),(3,.obj aA),(8,.own jC),(9,.own jk),(10,.v I),(11,.own jC),(14,.v I),(15,.v I),(16,.gd jk [.kE 1] jC),(17,.v I),(19,.own I)],[1,1,1,1,1,0,1,0,0,1,0,0,1,1,1,1,1,0,0,1,0,0,1,0,1,0,0,1,0,0,1,1,1,1],[17,41,49]⟩,⟨58,[(2,.v I),(3,.obj aA),(8,.own jC),(9,.own jk),(10,.v I),(11,.own jC),(14,.v I),(15,.v I),(16,.gd jk [.kE 1] jC),(17,.v I),(18,.v I)],[1,1,1,1,1,0,1,0,0,1,0,0,1,1,1,1,1,0,0,1,0,0,1,0,1,0,0,1,0,0,1,1],[17,41,49]⟩,⟨49,[(2,.v I),(3,.obj aA),(8,.own jC),(9,.own jk),(10,.v I),(11,.own jC),(14,.v I),(15,.v I),(16,.gd jk [.kE 1] jC),(17,.v I)],[1,1,1,1,1,0,1,0,0,1,0,0,1,1,1,1,1,0,0,1,0,0,1,0,1,0,0],[17,41]⟩,⟨41,[(2,.v I),(3,.obj aA),(8,.own jC),(9,.own jk),(10,.v I),(11,.own jC),(14,.v I),(15,.v I)],[1,1,1,1,1,0,1,0,0,1,0,0,1,1,1,1,1,0,0],[17]⟩,⟨27,[(2,.v I),(3,.obj aA),(8,.own jC),(9,.own jk),(10,.v I),(11,.own jC),(12,.obj cX),(13,.v I)],[1,1,1,1,1,0,1,0,0,1,0,0,1,1,0,1,0,0],[17]⟩,⟨17,[(2,.v I),(3,.obj aA),(8,.own jC),(9,.own jk),(10,.v I)],[1,1,1,1,1,0,1,0,0],[]⟩],some (jk,[.kE 1],jC,[16])⟩
theorem aeo(K ρ):(fD N).bd K ρ 64=bT.aim N ((fD N).kc ρ 17) ((fD N).kc ρ 41) ((fD N).kc ρ 49):=κ
theorem aep(ρ):(fD N).kc ((fD N).cf ρ) 64=bT.j32 N ((fD N).kc ρ 17) ((fD N).kc ρ 41) ((fD N).kc ρ 49):=Fx.uJ [] (aeo N) ρ
theorem aeq(K ρ):(fD N).bd K ρ 58=bT.NV N ((fD N).kc K 64) ((fD N).kc ρ 17) ((fD N).kc ρ 41) ((fD N).kc ρ 49):=κ
theorem aer(ρ):(fD N).kc ((fD N).cf ρ) 58=bT.UA N ((fD N).kc ρ 17) ((fD N).kc ρ 41) ((fD N).kc ρ 49):=Fx.uJ [64] (aeq N) ρ (by rw[aep];rfl)
theorem aes(K ρ):(fD N).bd K ρ 49=bT.NQ N ((fD N).kc K 58) ((fD N).kc ρ 17) ((fD N).kc ρ 41) ((fD N).kc ρ 49):=κ
theorem aet(ρ):(fD N).kc ((fD N).cf ρ) 49=bT.Lw N ((fD N).kc ρ 17) ((fD N).kc ρ 41) N:=Fx.uL [58,64] (aes N) ρ (bT.Lw N ((fD N).kc ρ 17) ((fD N).kc ρ 41)) λn ρ' e d=>by rw[aer,e,d 17 rfl,d 41 rfl];rfl
theorem aeu(K ρ):(fD N).bd K ρ 41=bT.NU N ((fD N).kc K 49) ((fD N).kc ρ 17) ((fD N).kc ρ 41):=κ
theorem aev(ρ):(fD N).kc ((fD N).cf ρ) 41=bT.HQ N ((fD N).kc ρ 17) N:=Fx.uL [49] (aeu N) ρ (bT.HQ N ((fD N).kc ρ 17)) λn ρ' e d=>by rw[aet,e,d 17 rfl];rfl
theorem aew(K ρ):(fD N).bd K ρ 27=bT.mP N ((fD N).kc K 41) ((fD N).kc ρ 17) ((fD N).kc ρ 27):=κ
theorem aex(ρ):(fD N).kc ((fD N).cf ρ) 27=bT.nT N ((fD N).kc ρ 17) N:=Fx.uL [41] (aew N) ρ (bT.nT N ((fD N).kc ρ 17)) λn ρ' e d=>by rw[aev,e,d 17 rfl];rfl
theorem aey(K ρ):(fD N).bd K ρ 17=bT.yc N ((fD N).kc K 27) ((fD N).kc ρ 17):=κ
theorem aez(ρ):(fD N).kc ((fD N).cf ρ) 17=bT.l8 N N:=Fx.uL [27,41] (aey N) ρ (bT.l8 N) λn ρ' e d=>by rw[aex,e];rfl
theorem ave(K):(fD N).top K=bT.b N ((fD N).kc K 17):=κ
def avf:Kn Tryz.prog:=⟨286,(fD N).S false (bT N),Fx.u1 (fD N) aF Tryz.func286 [17] (ave N) (by rw[aez];rfl)⟩
def Py:Fx:=⟨48,tab,Kn.l [JG N,YY N],N,Tryz.f287,[.v aA,.v aL],[.own I,.v I],[⟨11,[(3,.obj aL),(6,.own I),(7,.v I)],[1,1,1,0,1,0,0],[]⟩],none⟩
theorem aeA(K ρ):(Py N).bd K ρ 11=rz.ei N ((Py N).kc ρ 11):=κ
theorem aeB(ρ):(Py N).kc ((Py N).cf ρ) 11=rz.l5 N N:=Fx.uL [] (aeA N) ρ (rz.l5 N) λn ρ' e d=>by rw[e];rfl
theorem avg(K):(Py N).top K=rz.b N ((Py N).kc K 11):=κ
def avh:Kn Tryz.prog:=⟨287,(Py N).S false (rz N),Fx.u1 (Py N) aF Tryz.func287 [11] (avg N) (by rw[aeB];rfl)⟩
def A4:Fx:=⟨99,tab,Kn.l [Rs N,acP N],N,Tryz.f306,[.v aA,.v lJ],[.v B],[⟨18,[(1,.v lJ),(2,.obj aA),(5,.v I),(6,.obj jk)],[1,1,0,1,0,0,1,0,0,1,1],[9]⟩,⟨9,[(1,.v lJ),(2,.obj aA),(5,.v I)],[1,1,0,1,0,0],[]⟩],none⟩
theorem aeC(K ρ):(A4 N).bd K ρ 18=iQ.Nd N ((A4 N).kc ρ 9):=κ
theorem aeD(ρ):(A4 N).kc ((A4 N).cf ρ) 18=iQ.j9 N ((A4 N).kc ρ 9):=Fx.uJ [] (aeC N) ρ
theorem aky(K ρ):(A4 N).bd K ρ 9=iQ.dw N ((A4 N).kc K 18) ((A4 N).kc ρ 9):=κ
theorem akz(ρ):(A4 N).kc ((A4 N).cf ρ) 9=iQ.l4 N N:=Fx.uL [18] (aky N) ρ (iQ.l4 N) λn ρ' e d=>by rw[aeD,e];rfl
theorem avi(K):(A4 N).top K=iQ.b N ((A4 N).kc K 9):=κ
def akA:Kn Tryz.prog:=⟨306,(A4 N).S true (iQ N),Fx.u1 (A4 N) aF Tryz.func306 [9] (avi N) (by rw[akz];rfl)⟩
def Pz:Fx:=⟨25,tab,[],N,Tryz.f320,[.v lJ,.v I],[.v jk,.v B],[⟨5,[(0,.v lJ),(1,.v I),(4,.obj jk),(6,.v I)],[1,0,1,0,0],[]⟩],none⟩
theorem akB(K ρ):(Pz N).bd K ρ 5=qd.gJ N ((Pz N).kc ρ 5):=κ
theorem akC(ρ):(Pz N).kc ((Pz N).cf ρ) 5=qd.l2 N N:=Fx.uL [] (akB N) ρ (qd.l2 N) λn ρ' e d=>by rw[e];rfl
theorem avj(K):(Pz N).top K=qd.b N ((Pz N).kc K 5):=κ
def apO:Kn Tryz.prog:=⟨320,(Pz N).S false (qd N),Fx.u1 (Pz N) aF Tryz.func320 [5] (avj N) (by rw[akC];rfl)⟩
def qj:Fx:=⟨75,tab,Kn.l [zg N,Rt N,ao0 N],N,Tryz.f321,[.v dm,.v dm],[.own jC,.v B],[⟨25,[(0,.v dm),(1,.v dm),(6,.own jC),(7,.v I),(8,.obj cX),(10,.v I)],[1,1,0,1,0,0,1,0,0,1,1,0,1,0,0],[7]⟩,⟨15,[(0,.v dm),(1,.v dm),(6,.own jC),(7,.v I),(8,.obj cX),(9,.v I)],[1,1,0,1,0,0,1,0,0,1,0,1,0,0],[7]⟩,⟨7,[(0,.v dm),(1,.v dm),(6,.own jC),(7,.v I)],[1,1,0,1,0,0],[]⟩],none⟩
theorem aeE(K ρ):(qj N).bd K ρ 25=eQ.pF N ((qj N).kc ρ 7) ((qj N).kc ρ 25):=κ
theorem aeF(ρ):(qj N).kc ((qj N).cf ρ) 25=eQ.p8 N ((qj N).kc ρ 7) N:=Fx.uL [] (aeE N) ρ (eQ.p8 N ((qj N).kc ρ 7)) λn ρ' e d=>by rw[e,d 7 rfl];rfl
theorem aeG(K ρ):(qj N).bd K ρ 15=eQ.q4 N ((qj N).kc K 25) ((qj N).kc ρ 7) ((qj N).kc ρ 15):=κ
theorem aeH(ρ):(qj N).kc ((qj N).cf ρ) 15=eQ.l7 N ((qj N).kc ρ 7) N:=Fx.uL [25] (aeG N) ρ (eQ.l7 N ((qj N).kc ρ 7)) λn ρ' e d=>by rw[aeF,e,d 7 rfl];rfl
theorem akD(K ρ):(qj N).bd K ρ 7=eQ.nO N ((qj N).kc K 15) ((qj N).kc ρ 7):=κ
theorem akE(ρ):(qj N).kc ((qj N).cf ρ) 7=eQ.l3 N N:=Fx.uL [15,25] (akD N) ρ (eQ.l3 N) λn ρ' e d=>by rw[aeH,e];rfl
theorem avk(K):(qj N).top K=eQ.b N ((qj N).kc K 7):=κ
def avl:Kn Tryz.prog:=⟨321,(qj N).S false (eQ N),Fx.u1 (qj N) aF Tryz.func321 [7] (avk N) (by rw[akE];rfl)⟩
def apP:Fx:=⟨11,tab,Kn.l [Vd N,aj2 N],N,Tryz.f322,[.v pn,.v I],[.own jt],[],none⟩
def avm:Kn Tryz.prog:=⟨322,(apP N).S false (ail N),Fx.u0 (apP N) aF Tryz.func322⟩
def DL:Fx:=⟨157,tab,Kn.l [JG N,akA N,Y2 N,apB N,adQ N,apO N,Y0 N,zg N,Zk N,k30 N,Ve N,avl N,avm N,apd N,adT N,k34 N],N,Tryz.f305,[.v aA,.v aL,.v lJ,.v eX,.v eB],[.v I],[⟨27,[(3,.v eX),(5,.obj aA),(6,.obj aL),(9,.obj eB),(12,.obj jk),(14,.v I),(15,.v I)],[1,1,1,1,1,1,1,1,0,1,0,0],[]⟩,⟨6,[(2,.v lJ),(3,.v eX),(5,.obj aA),(6,.obj aL),(9,.obj eB)],[1,1],[]⟩],none⟩
theorem aeI(K ρ):(DL N).bd K ρ 27=kT.mP N ((DL N).kc ρ 27):=κ
theorem aeJ(ρ):(DL N).kc ((DL N).cf ρ) 27=kT.nT N N:=Fx.uL [] (aeI N) ρ (kT.nT N) λn ρ' e d=>by rw[e];rfl
theorem akF(K ρ):(DL N).bd K ρ 6=kT.j3b N ((DL N).kc K 27):=κ
theorem akG(ρ):(DL N).kc ((DL N).cf ρ) 6=kT.j3 N:=Fx.uJ [27] (akF N) ρ (by rw[aeJ];rfl)
theorem avn(K):(DL N).top K=kT.b N ((DL N).kc K 6):=κ
def avo:Kn Tryz.prog:=⟨305,(DL N).S true (kT N),Fx.u1 (DL N) aF Tryz.func305 [6,27] (avn N) (by rw[akG];rfl)⟩
def apQ:Fx:=⟨28,tab,Kn.l [avo N],N,Tryz.f288,[.v aA,.v aL,.v lJ,.v eX,.v eB],[.own eB,.v I],[],none⟩
def avp:Kn Tryz.prog:=⟨288,(apQ N).S false (aa1 N),Fx.u0 (apQ N) aF Tryz.func288⟩
def PA:Fx:=⟨46,tab,Kn.l [Y2 N],N,Tryz.f307,[.v eX,.v I],[.v eB,.v B],[⟨13,[(0,.v eX),(1,.v I),(4,.obj eB),(6,.obj eB),(7,.v B),(8,.v I)],[1,1,1,1,0,1,0,0],[]⟩],none⟩
theorem aeK(K ρ):(PA N).bd K ρ 13=rE.uu N ((PA N).kc ρ 13):=κ
theorem aeL(ρ):(PA N).kc ((PA N).cf ρ) 13=rE.l6 N N:=Fx.uL [] (aeK N) ρ (rE.l6 N) λn ρ' e d=>by rw[e];rfl
theorem avq(K):(PA N).top K=rE.b N ((PA N).kc K 13):=κ
def avr:Kn Tryz.prog:=⟨307,(PA N).S true (rE N),Fx.u1 (PA N) aF Tryz.func307 [13] (avq N) (by rw[aeL];rfl)⟩
def yk:Fx:=⟨158,tab,Kn.l [JG N,akA N,Y2 N,avr N,Y0 N,adQ N,zg N,Y1 N,O5 N],N,Tryz.f289,[.v aA,.v aL,.v lJ,.v eX],[.v aL,.own jk,.v I],[⟨45,[(2,.v lJ),(3,.v eX),(5,.obj aL),(8,.obj aL),(11,.own jt),(12,.own rL),(13,.own jk),(14,.v I),(15,.obj jk),(16,.obj eB),(18,.v I),(19,.v I)],[1,1,1,1,1,0,1,0,0,1,0,0,1,1,1,1,1,1,1,1,0,1,0,0],[15]⟩,⟨15,[(2,.v lJ),(3,.v eX),(5,.obj aL),(8,.obj aL),(11,.own jt),(12,.own rL),(13,.own jk),(14,.v I)],[1,1,1,1,1,0,1,0,0],[]⟩],none⟩
theorem aeM(K ρ):(yk N).bd K ρ 45=fJ.vw N ((yk N).kc ρ 15) ((yk N).kc ρ 45):=κ
theorem aeN(ρ):(yk N).kc ((yk N).cf ρ) 45=fJ.wO N ((yk N).kc ρ 15) N:=Fx.uL [] (aeM N) ρ (fJ.wO N ((yk N).kc ρ 15)) λn ρ' e d=>by rw[e,d 15 rfl];rfl
theorem aeO(K ρ):(yk N).bd K ρ 15=fJ.q4 N ((yk N).kc K 45) ((yk N).kc ρ 15):=κ
theorem aeP(ρ):(yk N).kc ((yk N).cf ρ) 15=fJ.l7 N N:=Fx.uL [45] (aeO N) ρ (fJ.l7 N) λn ρ' e d=>by rw[aeN,e];rfl
theorem avs(K):(yk N).top K=fJ.b N ((yk N).kc K 15):=κ
def avt:Kn Tryz.prog:=⟨289,(yk N).S false (fJ N),Fx.u1 (yk N) aF Tryz.func289 [15] (avs N) (by rw[aeP];rfl)⟩
def PC:Fx:=⟨58,tab,[],N,Tryz.f308,[.v dm],[.v B],[⟨5,[(0,.v dm),(3,.v I)],[1,0,1,0,0],[]⟩],none⟩
theorem akH(K ρ):(PC N).bd K ρ 5=pj.gJ N ((PC N).kc ρ 5):=κ
theorem akI(ρ):(PC N).kc ((PC N).cf ρ) 5=pj.l2 N N:=Fx.uL [] (akH N) ρ (pj.l2 N) λn ρ' e d=>by rw[e];rfl
theorem avu(K):(PC N).top K=pj.b N ((PC N).kc K 5):=κ
def aeQ:Kn Tryz.prog:=⟨308,(PC N).S true (pj N),Fx.u1 (PC N) aF Tryz.func308 [5] (avu N) (by rw[akI];rfl)⟩
def PD:Fx:=⟨38,tab,[],N,Tryz.f309,[.v LI],[.v B],[⟨5,[(0,.v LI),(3,.v I)],[1,0,1,0,0],[]⟩],none⟩
theorem akJ(K ρ):(PD N).bd K ρ 5=rA.gJ N ((PD N).kc ρ 5):=κ
theorem akK(ρ):(PD N).kc ((PD N).cf ρ) 5=rA.l2 N N:=Fx.uL [] (akJ N) ρ (rA.l2 N) λn ρ' e d=>by rw[e];rfl
theorem avv(K):(PD N).top K=rA.b N ((PD N).kc K 5):=κ
def avw:Kn Tryz.prog:=⟨309,(PD N).S true (rA N),Fx.u1 (PD N) aF Tryz.func309 [5] (avv N) (by rw[akK];rfl)⟩
def B5:Fx:=⟨72,tab,Kn.l [apO N],N,Tryz.f310,[.v I,.v lJ,.v eX],[.v I],[⟨25,[(0,.v I),(1,.v lJ),(7,.v I),(12,.v I)],[1,1,1,0,1,0,0],[]⟩,⟨7,[(0,.v I),(1,.v lJ),(2,.v eX),(7,.v I),(8,.v I)],[1,1,0,1,0,0],[]⟩],none⟩
theorem aeR(K ρ):(B5 N).bd K ρ 25=ju.pF N ((B5 N).kc ρ 25):=κ
theorem aeS(ρ):(B5 N).kc ((B5 N).cf ρ) 25=ju.p8 N N:=Fx.uL [] (aeR N) ρ (ju.p8 N) λn ρ' e d=>by rw[e];rfl
theorem akL(K ρ):(B5 N).bd K ρ 7=ju.nO N ((B5 N).kc K 25) ((B5 N).kc ρ 7):=κ
theorem akM(ρ):(B5 N).kc ((B5 N).cf ρ) 7=ju.l3 N N:=Fx.uL [25] (akL N) ρ (ju.l3 N) λn ρ' e d=>by rw[aeS,e];rfl
theorem avx(K):(B5 N).top K=ju.b N ((B5 N).kc K 7):=κ
def avy:Kn Tryz.prog:=⟨310,(B5 N).S true (ju N),Fx.u1 (B5 N) aF Tryz.func310 [7,25] (avx N) (by rw[akM];rfl)⟩
def lK:Fx:=⟨104,tab,Kn.l [aeQ N,avw N,akA N,Y2 N,avy N],N,Tryz.f290,[.v aA,.v dm,.v LI,.v lJ,.v eX],[.own jC,.v I],[⟨37,[(1,.v dm),(2,.v LI),(3,.v lJ),(4,.v eX),(12,.own jC),(13,.v I),(14,.v I),(15,.v B),(18,.v I)],[1,1,1,0,1,0,0,1,0,0,1,1,1,0,1,0,0],[11]⟩,⟨29,[(1,.v dm),(2,.v LI),(3,.v lJ),(4,.v eX),(12,.own jC),(13,.v I),(14,.v I),(15,.v B),(17,.v I)],[1,1,1,0,1,0,0,1,0,0,1,1,0,1,0,0],[11]⟩,⟨19,[(1,.v dm),(2,.v LI),(3,.v lJ),(4,.v eX),(12,.own jC),(13,.v I),(14,.v I),(15,.v B),(16,.v I)],[1,1,1,0,1,0,0,1,0,0,1,0,1,0,0],[11]⟩,⟨11,[(1,.v dm),(2,.v LI),(3,.v lJ),(4,.v eX),(12,.own jC),(13,.v I)],[1,1,1,0,1,0,0],[]⟩],none⟩
theorem aeT(K ρ):(lK N).bd K ρ 37=dv.DD N ((lK N).kc ρ 11) ((lK N).kc ρ 37):=κ
theorem aeU(ρ):(lK N).kc ((lK N).cf ρ) 37=dv.G8 N ((lK N).kc ρ 11) N:=Fx.uL [] (aeT N) ρ (dv.G8 N ((lK N).kc ρ 11)) λn ρ' e d=>by rw[e,d 11 rfl];rfl
theorem aeV(K ρ):(lK N).bd K ρ 29=dv.FY N ((lK N).kc K 37) ((lK N).kc ρ 11) ((lK N).kc ρ 29):=κ
theorem aeW(ρ):(lK N).kc ((lK N).cf ρ) 29=dv.IZ N ((lK N).kc ρ 11) N:=Fx.uL [37] (aeV N) ρ (dv.IZ N ((lK N).kc ρ 11)) λn ρ' e d=>by rw[aeU,e,d 11 rfl];rfl
theorem aeX(K ρ):(lK N).bd K ρ 19=dv.xy N ((lK N).kc K 29) ((lK N).kc ρ 11) ((lK N).kc ρ 19):=κ
theorem aeY(ρ):(lK N).kc ((lK N).cf ρ) 19=dv.l9 N ((lK N).kc ρ 11) N:=Fx.uL [29,37] (aeX N) ρ (dv.l9 N ((lK N).kc ρ 11)) λn ρ' e d=>by rw[aeW,e,d 11 rfl];rfl
theorem aeZ(K ρ):(lK N).bd K ρ 11=dv.ei N ((lK N).kc K 19) ((lK N).kc ρ 11):=κ
theorem ae0(ρ):(lK N).kc ((lK N).cf ρ) 11=dv.l5 N N:=Fx.uL [19,29,37] (aeZ N) ρ (dv.l5 N) λn ρ' e d=>by rw[aeY,e];rfl
theorem avz(K):(lK N).top K=dv.b N ((lK N).kc K 11):=κ
def avA:Kn Tryz.prog:=⟨290,(lK N).S false (dv N),Fx.u1 (lK N) aF Tryz.func290 [11] (avz N) (by rw[ae0];rfl)⟩
def apR:Fx:=⟨28,tab,Kn.l [YY N],N,Tryz.f323,[.own sX,.v aL,.v I,.v I,.v I],[.own sX],[],none⟩
def avB:Kn Tryz.prog:=⟨323,(apR N).S false (KU N),Fx.u0 (apR N) aF Tryz.func323⟩
def apS:Fx:=⟨9,tab,[],N,Tryz.f325,[.v I],[.v B],[],none⟩
def apT:Kn Tryz.prog:=⟨325,(apS N).S true (XO N),Fx.u0 (apS N) aF Tryz.func325⟩
def PE:Fx:=⟨27,tab,Kn.l [aeQ N],N,Tryz.f331,[.v dm,.v I],[.v I],[⟨9,[(0,.v dm),(1,.v I),(5,.v I)],[1,1,0,1,0,0],[]⟩],none⟩
theorem akN(K ρ):(PE N).bd K ρ 9=rB.dw N ((PE N).kc ρ 9):=κ
theorem akO(ρ):(PE N).kc ((PE N).cf ρ) 9=rB.l4 N N:=Fx.uL [] (akN N) ρ (rB.l4 N) λn ρ' e d=>by rw[e];rfl
theorem avC(K):(PE N).top K=rB.b N ((PE N).kc K 9):=κ
def avD:Kn Tryz.prog:=⟨331,(PE N).S true (rB N),Fx.u1 (PE N) aF Tryz.func331 [9] (avC N) (by rw[akO];rfl)⟩
def PF:Fx:=⟨67,tab,Kn.l [JG N,aeQ N,apT N,YY N,avD N],N,Tryz.f324,[.v aA,.v aL,.v dm,.v I,.v I],[.own I,.v I],[⟨11,[(2,.v dm),(3,.v I),(4,.v I),(6,.obj aL),(12,.own I),(13,.v I)],[1,1,1,0,1,0,0],[]⟩],none⟩
theorem ae1(K ρ):(PF N).bd K ρ 11=rC.ei N ((PF N).kc ρ 11):=κ
theorem ae2(ρ):(PF N).kc ((PF N).cf ρ) 11=rC.l5 N N:=Fx.uL [] (ae1 N) ρ (rC.l5 N) λn ρ' e d=>by rw[e];rfl
theorem avE(K):(PF N).top K=rC.b N ((PF N).kc K 11):=κ
def avF:Kn Tryz.prog:=⟨324,(PF N).S false (rC N),Fx.u1 (PF N) aF Tryz.func324 [11] (avE N) (by rw[ae2];rfl)⟩
def mR:Fx:=⟨188,tab,Kn.l [JG N,aeQ N,apv N,k22 N,Y0 N,avB N,avF N,apT N,zg N,YY N,Zk N,GP N,k48 N],N,Tryz.f311,[.v aA,.v aL,.v I,.v dm,.v dm],[.own sX,.v I],[⟨33,[(2,.v I),(3,.v dm),(4,.v dm),(5,.obj aA),(6,.obj aL),(12,.own sX),(14,.v I),(15,.own I),(17,.v I)],[1,1,1,1,1,1,1,0,1,0,0,1,0,0,1,1,0,0],[25]⟩,⟨61,[(2,.v I),(4,.v dm),(6,.obj aL),(12,.own sX),(22,.v I)],[1,1,1,1,1,1,1,1,1,0,1,0,0],[]⟩,⟨41,[(2,.v I),(4,.v dm),(5,.obj aA),(6,.obj aL),(12,.own sX),(18,.v I)],[1,1,1,1,1,1,1,1,0,1,0,0],[]⟩,⟨25,[(2,.v I),(3,.v dm),(4,.v dm),(5,.obj aA),(6,.obj aL),(12,.own sX),(14,.v I)],[1,1,1,1,1,1,1,0,1,0,0],[]⟩,⟨18,[(2,.v I),(3,.v dm),(4,.v dm),(5,.obj aA),(6,.obj aL),(12,.own sX)],[1,1,1,1,1],[]⟩],none⟩
theorem ae3(K ρ):(mR N).bd K ρ 33=cI.vv N ((mR N).kc ρ 25) ((mR N).kc ρ 33):=κ
theorem ae4(ρ):(mR N).kc ((mR N).cf ρ) 33=cI.wN N ((mR N).kc ρ 25) N:=Fx.uL [41,61] (ae3 N) ρ (cI.wN N ((mR N).kc ρ 25)) λn ρ' e d=>by rw[e,d 25 rfl];rfl
theorem ae5(K ρ):(mR N).bd K ρ 61=cI.Ky N ((mR N).kc ρ 61):=κ
theorem ae6(ρ):(mR N).kc ((mR N).cf ρ) 61=cI.No N N:=Fx.uL [] (ae5 N) ρ (cI.No N) λn ρ' e d=>by rw[e];rfl
theorem ae7(K ρ):(mR N).bd K ρ 41=cI.NU N ((mR N).kc K 61) ((mR N).kc ρ 41):=κ
theorem ae8(ρ):(mR N).kc ((mR N).cf ρ) 41=cI.HQ N N:=Fx.uL [61] (ae7 N) ρ (cI.HQ N) λn ρ' e d=>by rw[ae6,e];rfl
theorem ae9(K ρ):(mR N).bd K ρ 25=cI.pF N ((mR N).kc K 33) ((mR N).kc K 41) ((mR N).kc ρ 25):=κ
theorem afa(ρ):(mR N).kc ((mR N).cf ρ) 25=cI.p8 N N:=Fx.uL [41,61,33] (ae9 N) ρ (cI.p8 N) λn ρ' e d=>by rw[ae4,ae8,e];rfl
theorem afb(K ρ):(mR N).bd K ρ 18=cI.Nd N ((mR N).kc K 25):=κ
theorem afc(ρ):(mR N).kc ((mR N).cf ρ) 18=cI.j9 N:=Fx.uJ [25,41,61] (afb N) ρ (by rw[afa];rfl)
theorem avG(K):(mR N).top K=cI.b N ((mR N).kc K 18):=κ
def avH:Kn Tryz.prog:=⟨311,(mR N).S false (cI N),Fx.u1 (mR N) aF Tryz.func311 [18,25,41,61] (avG N) (by rw[afc];rfl)⟩
def apU:Fx:=⟨19,tab,Kn.l [JG N,YY N],N,Tryz.f312,[.v aA,.v aL],[.v I,.v I],[],none⟩
def avI:Kn Tryz.prog:=⟨312,(apU N).S true (aa3 N),Fx.u0 (apU N) aF Tryz.func312⟩
def PG:Fx:=⟨97,tab,Kn.l [aop N],N,Tryz.f326,[.v Ld],[.v B],[⟨9,[(0,.v Ld),(3,.v I)],[1,1,0,1,0,0],[]⟩],none⟩
theorem akP(K ρ):(PG N).bd K ρ 9=rD.dw N ((PG N).kc ρ 9):=κ
theorem akQ(ρ):(PG N).kc ((PG N).cf ρ) 9=rD.l4 N N:=Fx.uL [] (akP N) ρ (rD.l4 N) λn ρ' e d=>by rw[e];rfl
theorem avJ(K):(PG N).top K=rD.b N ((PG N).kc K 9):=κ
def avK:Kn Tryz.prog:=⟨326,(PG N).S true (rD N),Fx.u1 (PG N) aF Tryz.func326 [9] (avJ N) (by rw[akQ];rfl)⟩
def mS:Fx:=⟨106,tab,Kn.l [avK N,aku N,GP N,akx N],N,Tryz.f313,[.v Ld,.v I],[.own sX,.v I,.v I],[⟨37,[(7,.own sX),(8,.v I),(9,.v I),(10,.v I),(14,.own I),(16,.v I)],[1,1,1,0,1,0,0,1,0,1,1,1,1,1,1,1,0,1,0,0],[11]⟩,⟨22,[(7,.own sX),(8,.v I),(9,.v I),(10,.v I),(11,.own I)],[1,1,1,0,1,0,0,1,0,1,1,1],[11]⟩,⟨17,[(7,.own sX),(8,.v I),(9,.v I),(10,.v I),(11,.own I)],[1,1,1,0,1,0,0,1,0,1,1,0,0,0],[11]⟩,⟨11,[(7,.own sX),(8,.v I),(9,.v I)],[1,1,1,0,1,0,0],[]⟩],none⟩
theorem afd(K ρ):(mS N).bd K ρ 37=dD.DD N ((mS N).kc ρ 11) ((mS N).kc ρ 37):=κ
theorem afe(ρ):(mS N).kc ((mS N).cf ρ) 37=dD.G8 N ((mS N).kc ρ 11) N:=Fx.uL [] (afd N) ρ (dD.G8 N ((mS N).kc ρ 11)) λn ρ' e d=>by rw[e,d 11 rfl];rfl
theorem aff(K ρ):(mS N).bd K ρ 22=dD.BN N ((mS N).kc K 37) ((mS N).kc ρ 11):=κ
theorem afg(ρ):(mS N).kc ((mS N).cf ρ) 22=dD.Je N ((mS N).kc ρ 11):=Fx.uJ [37] (aff N) ρ (by rw[afe];rfl)
theorem afh(K ρ):(mS N).bd K ρ 17=dD.yc N ((mS N).kc K 22) ((mS N).kc ρ 11) ((mS N).kc ρ 17):=κ
theorem afi(ρ):(mS N).kc ((mS N).cf ρ) 17=dD.l8 N ((mS N).kc ρ 11) N:=Fx.uL [22,37] (afh N) ρ (dD.l8 N ((mS N).kc ρ 11)) λn ρ' e d=>by rw[afg,e,d 11 rfl];rfl
theorem afj(K ρ):(mS N).bd K ρ 11=dD.ei N ((mS N).kc K 17) ((mS N).kc ρ 11):=κ
theorem afk(ρ):(mS N).kc ((mS N).cf ρ) 11=dD.l5 N N:=Fx.uL [17,22,37] (afj N) ρ (dD.l5 N) λn ρ' e d=>by rw[afi,e];rfl
theorem avL(K):(mS N).top K=dD.b N ((mS N).kc K 11):=κ
def avM:Kn Tryz.prog:=⟨313,(mS N).S false (dD N),Fx.u1 (mS N) aF Tryz.func313 [11] (avL N) (by rw[afk];rfl)⟩
def apV:Fx:=⟨14,tab,Kn.l [JG N,YY N],N,Tryz.f314,[.v aA,.v aL],[.v I,.v I],[],none⟩
def avN:Kn Tryz.prog:=⟨314,(apV N).S true (aa4 N),Fx.u0 (apV N) aF Tryz.func314⟩
def DM:Fx:=⟨156,tab,Kn.l [avH N,avI N,avM N,zg N,Y1 N,avN N,Y0 N,O5 N],N,Tryz.f291,[.v aA,.v aL,.v I,.v dm,.v dm],[.v aL,.v gM,.v I],[⟨52,[(6,.obj aL),(10,.obj aL),(11,.obj gM),(18,.own rL),(19,.gd gM [.kE 2] sX),(21,.v I),(23,.v I),(24,.v I)],[1,1,1,1,1,1,1,1,1,1,1,1,1,1,1],[]⟩,⟨31,[(2,.v I),(5,.obj aA),(6,.obj aL),(10,.obj aL),(11,.obj gM),(13,.own sX),(17,.v I),(18,.own rL),(19,.gd gM [.kE 2] sX),(20,.v I)],[1,1,1,1,1,1,1,1,1,1,0,1,0,0],[]⟩],some (gM,[.kE 2],sX,[19])⟩
theorem afl(K ρ):(DM N).bd K ρ 52=ik.aa6 N:=κ
theorem afm(ρ):(DM N).kc ((DM N).cf ρ) 52=ik.j26 N:=Fx.uJ [] (afl N) ρ
theorem afn(K ρ):(DM N).bd K ρ 31=ik.HG N ((DM N).kc K 52) ((DM N).kc ρ 31):=κ
theorem afo(ρ):(DM N).kc ((DM N).cf ρ) 31=ik.IG N N:=Fx.uL [52] (afn N) ρ (ik.IG N) λn ρ' e d=>by rw[afm,e];rfl
theorem avO(K):(DM N).top K=ik.b N ((DM N).kc K 31):=κ
def avP:Kn Tryz.prog:=⟨291,(DM N).S false (ik N),Fx.u1 (DM N) aF Tryz.func291 [31,52] (avO N) (by rw[afo];rfl)⟩
def qk:Fx:=⟨129,tab,Kn.l [apN N,aku N,GP N,akx N],N,Tryz.f328,[.v I,.v LI,.v LI],[.own I,.v I,.v I],[⟨39,[(1,.v LI),(2,.v LI),(11,.own I),(12,.v I),(13,.v I),(17,.own I),(19,.v I)],[1,1,1,1,0,1,0,0,1,0,0,1,1,1,1,1,0,0],[17]⟩,⟨25,[(1,.v LI),(2,.v LI),(11,.own I),(12,.v I),(13,.v I),(14,.own I),(15,.v B),(16,.v I)],[1,1,1,1,0,1,0,0,1,0,0,1,0,1,0,0],[17]⟩,⟨17,[(1,.v LI),(2,.v LI),(11,.own I),(12,.v I),(13,.v I)],[1,1,1,1,0,1,0,0],[]⟩],none⟩
theorem afp(K ρ):(qk N).bd K ρ 39=eL.Qy N ((qk N).kc ρ 17) ((qk N).kc ρ 39):=κ
theorem afq(ρ):(qk N).kc ((qk N).cf ρ) 39=eL.T7 N ((qk N).kc ρ 17) N:=Fx.uL [] (afp N) ρ (eL.T7 N ((qk N).kc ρ 17)) λn ρ' e d=>by rw[e,d 17 rfl];rfl
theorem afr(K ρ):(qk N).bd K ρ 25=eL.pF N ((qk N).kc K 39) ((qk N).kc ρ 17) ((qk N).kc ρ 25):=κ
theorem afs(ρ):(qk N).kc ((qk N).cf ρ) 25=eL.p8 N ((qk N).kc ρ 17) N:=Fx.uL [39] (afr N) ρ (eL.p8 N ((qk N).kc ρ 17)) λn ρ' e d=>by rw[afq,e,d 17 rfl];rfl
theorem aft(K ρ):(qk N).bd K ρ 17=eL.yc N ((qk N).kc K 25) ((qk N).kc ρ 17):=κ
theorem afu(ρ):(qk N).kc ((qk N).cf ρ) 17=eL.l8 N N:=Fx.uL [25,39] (aft N) ρ (eL.l8 N) λn ρ' e d=>by rw[afs,e];rfl
theorem avQ(K):(qk N).top K=eL.b N ((qk N).kc K 17):=κ
def avR:Kn Tryz.prog:=⟨328,(qk N).S false (eL N),Fx.u1 (qk N) aF Tryz.func328 [17] (avQ N) (by rw[afu];rfl)⟩
def B6:Fx:=⟨127,tab,Kn.l [JG N,k27 N,avR N],N,Tryz.f315,[.v aA,.v aL,.v I],[.own jt,.v I],[⟨43,[(2,.v I),(8,.v I),(9,.own I),(13,.own I),(16,.own jt),(17,.v I)],[1,1,1,1,1,1,1,1,1,1,1,0,1,0,0],[]⟩,⟨23,[(2,.v I),(4,.obj aL),(8,.v I),(9,.own I),(10,.own I),(11,.v I)],[1,1,1,1,1,1,1,0,1,0,0],[]⟩],none⟩
theorem afv(K ρ):(B6 N).bd K ρ 43=fC.XP N ((B6 N).kc ρ 43):=κ
theorem afw(ρ):(B6 N).kc ((B6 N).cf ρ) 43=fC.UF N N:=Fx.uL [] (afv N) ρ (fC.UF N) λn ρ' e d=>by rw[e];rfl
theorem afx(K ρ):(B6 N).bd K ρ 23=fC.yZ N ((B6 N).kc K 43) ((B6 N).kc ρ 23):=κ
theorem afy(ρ):(B6 N).kc ((B6 N).cf ρ) 23=fC.BM N N:=Fx.uL [43] (afx N) ρ (fC.BM N) λn ρ' e d=>by rw[afw,e];rfl
theorem avS(K):(B6 N).top K=fC.b N ((B6 N).kc K 23):=κ
def avT:Kn Tryz.prog:=⟨315,(B6 N).S false (fC N),Fx.u1 (B6 N) aF Tryz.func315 [23,43] (avS N) (by rw[afy];rfl)⟩
def PH:Fx:=⟨41,tab,Kn.l [JG N,avT N,O5 N],N,Tryz.f292,[.v aA,.v aL],[.v aL,.v I],[⟨11,[(2,.obj aA),(3,.obj aL),(4,.obj aL),(6,.own jt),(7,.v I)],[1,1,1,0,1,0,0],[]⟩],none⟩
theorem afz(K ρ):(PH N).bd K ρ 11=nJ.ei N ((PH N).kc ρ 11):=κ
theorem afA(ρ):(PH N).kc ((PH N).cf ρ) 11=nJ.l5 N N:=Fx.uL [] (afz N) ρ (nJ.l5 N) λn ρ' e d=>by rw[e];rfl
theorem avU(K):(PH N).top K=nJ.b N ((PH N).kc K 11):=κ
def avV:Kn Tryz.prog:=⟨292,(PH N).S false (nJ N),Fx.u1 (PH N) aF Tryz.func292 [11] (avU N) (by rw[afA];rfl)⟩
def PI:Fx:=⟨325,tab,Kn.l [auO N,acj N,k61 N,auZ N,au4 N,avf N,akd N,avh N,avp N,avt N,avA N,avP N,avV N,apy N],N,Tryz.f276,[.v aA,.v dt,.v kX],[.v dt,.v jt],[⟨83,[(4,.obj dt),(6,.obj dt),(7,.obj jt),(14,.v lJ),(16,.v I),(17,.v I)],[1,1,0,1,0,1,1,1,1,1,1,1,1,1,1,1,1,1,0,1,1,1,1,1,1,0,1,0,0],[]⟩],none⟩
theorem afB(K ρ):(PI N).bd K ρ 83=nL.aa8 N ((PI N).kc ρ 83):=κ
theorem afC(ρ):(PI N).kc ((PI N).cf ρ) 83=nL.l41 N N:=Fx.uL [] (afB N) ρ (nL.l41 N) λn ρ' e d=>by rw[e];rfl
theorem avW(K):(PI N).top K=nL.b N ((PI N).kc K 83):=κ
def avX:Kn Tryz.prog:=⟨276,(PI N).S false (nL N),Fx.u1 (PI N) aF Tryz.func276 [83] (avW N) (by rw[afC];rfl)⟩
def Rw:Fx:=⟨141,tab,Kn.l [apy N,auE N,auH N,acj N,api N,akd N,auI N,avX N],N,Tryz.f256,[.v aA,.v dt,.v kX],[.v dt,.v jt],[⟨58,[(3,.obj aA),(4,.obj dt),(5,.obj kX),(6,.obj dt),(7,.obj jt)],[1,1,1],[]⟩],none⟩
theorem afD(K ρ):(Rw N).bd K ρ 58=pN.NV N:=κ
theorem afE(ρ):(Rw N).kc ((Rw N).cf ρ) 58=pN.UA N:=Fx.uJ [] (afD N) ρ
theorem avY(K):(Rw N).top K=pN.b N ((Rw N).kc K 58):=κ
def avZ:Kn Tryz.prog:=⟨256,(Rw N).S false (pN N),Fx.u1 (Rw N) aF Tryz.func256 [58] (avY N) (by rw[afE];rfl)⟩
def apW:Fx:=⟨295,tab,Kn.l [atI N,acj N,atO N,atP N,atZ N,auc N,api N,YY N,zg N,k52 N,k30 N,aue N,auo N,auq N,aut N,auw N,akd N,avZ N],N,Tryz.f208,[.v aA,.v dt,.v kX],[.v dt,.v jt],[],none⟩
def av0:Kn Tryz.prog:=⟨208,(apW N).S false (UJ N),Fx.u0 (apW N) aF Tryz.func208⟩
def apX:Fx:=⟨36,tab,Kn.l [Rs N,atG N,av0 N],N,Tryz.f143,[.v aA,.v dt,.v kX],[.v dt,.v jt],[],none⟩
def apY:Kn Tryz.prog:=⟨143,(apX N).S false (QX N),Fx.u0 (apX N) aF Tryz.func143⟩
def PJ:Fx:=⟨48,tab,Kn.l [apY N],N,Tryz.f257,[.io mv,.lo kX],[.v dt,.io mv,.lo kX],[⟨3,[(0,.io mv),(1,.own kX),(4,.obj dt)],[1,0,0,0],[]⟩],none⟩
theorem akR(K ρ):(PJ N).bd K ρ 3=qg.l1b N ((PJ N).kc ρ 3):=κ
theorem akS(ρ):(PJ N).kc ((PJ N).cf ρ) 3=qg.l1 N N:=Fx.uL [] (akR N) ρ (qg.l1 N) λn ρ' e d=>by rw[e];rfl
theorem av1(K):(PJ N).top K=qg.b N ((PJ N).kc K 3):=κ
def av2:Kn Tryz.prog:=⟨257,(PJ N).S false (qg N),Fx.u1 (PJ N) aF Tryz.func257 [3] (av1 N) (by rw[akS];rfl)⟩
def pq:Fx:=⟨119,tab,Kn.l [k57 N,av2 N,YZ N,k62 N,aoE N],N,Tryz.f213,[.io dN,.io mv,.own kX],[.own kX,.io dN,.io mv],[⟨35,[(0,.io dN),(1,.io mv),(2,.own kX),(10,.obj dt),(11,.v I),(12,.obj jk),(13,.v I)],[1,1,1,1,0,1,0,0,1,0,0,1,1,0,0],[27]⟩,⟨27,[(0,.io dN),(1,.io mv),(2,.own kX),(10,.obj dt),(11,.v I)],[1,1,1,1,0,1,0,0],[]⟩,⟨20,[(0,.io dN),(1,.io mv),(2,.own kX)],[1,1],[]⟩,⟨11,[(0,.io dN),(1,.io mv),(2,.own kX),(7,.obj dt),(8,.v I)],[1,0,1,0,1,1,1,0,0],[]⟩],none⟩
theorem afF(K ρ):(pq N).bd K ρ 35=dZ.Dv N ((pq N).kc ρ 27) ((pq N).kc ρ 35):=κ
theorem afG(ρ):(pq N).kc ((pq N).cf ρ) 35=dZ.DZ N ((pq N).kc ρ 27) N:=Fx.uL [] (afF N) ρ (dZ.DZ N ((pq N).kc ρ 27)) λn ρ' e d=>by rw[e,d 27 rfl];rfl
theorem afH(K ρ):(pq N).bd K ρ 27=dZ.mP N ((pq N).kc K 35) ((pq N).kc ρ 27):=κ
theorem afI(ρ):(pq N).kc ((pq N).cf ρ) 27=dZ.nT N N:=Fx.uL [35] (afH N) ρ (dZ.nT N) λn ρ' e d=>by rw[afG,e];rfl
theorem afJ(K ρ):(pq N).bd K ρ 20=dZ.BO N ((pq N).kc K 27):=κ
theorem S4(ρ):(pq N).kc ((pq N).cf ρ) 20=dZ.HN N:=Fx.uJ [27] (afJ N) ρ (by rw[afI];rfl)
theorem afK(K ρ):(pq N).bd K ρ 11=dZ.ei N ((pq N).kc K 20) ((pq N).kc ρ 11):=κ
theorem afL(ρ):(pq N).kc ((pq N).cf ρ) 11=dZ.l5 N N:=Fx.uL [20,27] (afK N) ρ (dZ.l5 N) λn ρ' e d=>by rw[S4,e];rfl
theorem av3(K):(pq N).top K=dZ.b N ((pq N).kc K 11) ((pq N).kc K 20):=κ
def av4:Kn Tryz.prog:=⟨213,(pq N).S false (dZ N),Fx.u1 (pq N) aF Tryz.func213 [11,20,27] (av3 N) (by rw[afL,S4];rfl)⟩
def B7:Fx:=⟨99,tab,Kn.l [aoD N,aoA N,YZ N,aoE N,k57 N,av4 N],N,Tryz.f146,[.io dN,.v aA,.v I],[.own kX,.io dN],[⟨35,[(0,.io dN),(4,.obj aA),(9,.obj mv),(10,.own kX),(13,.v I)],[1,1,1,1,1,1,1,1,1,1,1,1,0,1,0,0],[]⟩,⟨19,[(0,.io dN),(4,.obj aA),(9,.obj mv),(10,.own kX),(12,.v I)],[1,1,1,1,1,1,1,1,0,1,0,0],[]⟩],none⟩
theorem afM(K ρ):(B7 N).bd K ρ 35=jm.Dv N ((B7 N).kc ρ 35):=κ
theorem afN(ρ):(B7 N).kc ((B7 N).cf ρ) 35=jm.DZ N N:=Fx.uL [] (afM N) ρ (jm.DZ N) λn ρ' e d=>by rw[e];rfl
theorem afO(K ρ):(B7 N).bd K ρ 19=jm.xy N ((B7 N).kc K 35) ((B7 N).kc ρ 19):=κ
theorem afP(ρ):(B7 N).kc ((B7 N).cf ρ) 19=jm.l9 N N:=Fx.uL [35] (afO N) ρ (jm.l9 N) λn ρ' e d=>by rw[afN,e];rfl
theorem av5(K):(B7 N).top K=jm.b N ((B7 N).kc K 19):=κ
def av6:Kn Tryz.prog:=⟨146,(B7 N).S false (jm N),Fx.u1 (B7 N) aF Tryz.func146 [19,35] (av5 N) (by rw[afP];rfl)⟩
def X59:Fx:=⟨38,tab,Kn.l [YZ N,ajf N,aoA N,av6 N],N,Tryz.f59,[.io dN,.v aA,.v I],[.own kX,.io dN],[⟨11,[(0,.io dN),(4,.obj aA),(7,.own kX),(8,.v I)],[1,0,1,0,1,0,1,0,1,0,0],[]⟩],none⟩
theorem akT(K ρ):(X59 N).bd K ρ 11=Gw.ei N ((X59 N).kc ρ 11):=κ
theorem akU(ρ):(X59 N).kc ((X59 N).cf ρ) 11=Gw.l5 N N:=Fx.uL [] (akT N) ρ (Gw.l5 N) λn ρ' e d=>by rw[e];rfl
theorem h59(K):(X59 N).top K=Gw.b N ((X59 N).kc K 11):=κ
def k59:Kn Tryz.prog:=⟨59,(X59 N).S false (Gw N),Fx.u1 (X59 N) aF Tryz.func59 [11] (h59 N) (by rw[akU];rfl)⟩
def X58:Fx:=⟨43,tab,Kn.l [aoD N,apY N],N,Tryz.f58,[.v aA,.v aiA],[.v dt,.own jt],[⟨13,[(1,.v aiA),(2,.obj aA),(4,.obj dt),(6,.obj dt),(8,.own jt),(9,.v I)],[1,1,1,1,0,1,0,0],[]⟩],none⟩
theorem akV(K ρ):(X58 N).bd K ρ 13=Gv.uu N ((X58 N).kc ρ 13):=κ
theorem akW(ρ):(X58 N).kc ((X58 N).cf ρ) 13=Gv.l6 N N:=Fx.uL [] (akV N) ρ (Gv.l6 N) λn ρ' e d=>by rw[e];rfl
theorem h58(K):(X58 N).top K=Gv.b N ((X58 N).kc K 13):=κ
def k58:Kn Tryz.prog:=⟨58,(X58 N).S false (Gv N),Fx.u1 (X58 N) aF Tryz.func58 [13] (h58 N) (by rw[akW];rfl)⟩
def X18:Fx:=⟨19,tab,Kn.l [k59 N,k58 N],N,Tryz.f18,[.io dN,.v aA,.v I],[.v dt,.io dN],[],none⟩
def k18:Kn Tryz.prog:=⟨18,(X18 N).S false (F18 N),Fx.u0 (X18 N) aF Tryz.func18⟩
def X94:Fx:=⟨26,tab,[],N,Tryz.f94,[.v dm,.v dm],[.v B],[⟨9,[(0,.v dm),(1,.v dm),(5,.v I)],[1,1,0,1,0,0],[]⟩],none⟩
theorem apZ(K ρ):(X94 N).bd K ρ 9=Dx.dw N ((X94 N).kc ρ 9):=κ
theorem ap0(ρ):(X94 N).kc ((X94 N).cf ρ) 9=Dx.l4 N N:=Fx.uL [] (apZ N) ρ (Dx.l4 N) λn ρ' e d=>by rw[e];rfl
theorem h94(K):(X94 N).top K=Dx.b N ((X94 N).kc K 9):=κ
def k94:Kn Tryz.prog:=⟨94,(X94 N).S true (Dx N),Fx.u1 (X94 N) aF Tryz.func94 [9] (h94 N) (by rw[ap0];rfl)⟩
def X25:Fx:=⟨26,tab,[],N,Tryz.f25,[.v eX,.v eX],[.v B],[⟨9,[(0,.v eX),(1,.v eX),(5,.v I)],[1,1,0,1,0,0],[]⟩],none⟩
theorem ap1(K ρ):(X25 N).bd K ρ 9=Dy.dw N ((X25 N).kc ρ 9):=κ
theorem ap2(ρ):(X25 N).kc ((X25 N).cf ρ) 9=Dy.l4 N N:=Fx.uL [] (ap1 N) ρ (Dy.l4 N) λn ρ' e d=>by rw[e];rfl
theorem h25(K):(X25 N).top K=Dy.b N ((X25 N).kc K 9):=κ
def k25:Kn Tryz.prog:=⟨25,(X25 N).S true (Dy N),Fx.u1 (X25 N) aF Tryz.func25 [9] (h25 N) (by rw[ap2];rfl)⟩
def X95:Fx:=⟨26,tab,[],N,Tryz.f95,[.v cN,.v cN],[.v B],[⟨9,[(0,.v cN),(1,.v cN),(5,.v I)],[1,1,0,1,0,0],[]⟩],none⟩
theorem ap3(K ρ):(X95 N).bd K ρ 9=Dz.dw N ((X95 N).kc ρ 9):=κ
theorem ap4(ρ):(X95 N).kc ((X95 N).cf ρ) 9=Dz.l4 N N:=Fx.uL [] (ap3 N) ρ (Dz.l4 N) λn ρ' e d=>by rw[e];rfl
theorem h95(K):(X95 N).top K=Dz.b N ((X95 N).kc K 9):=κ
def k95:Kn Tryz.prog:=⟨95,(X95 N).S true (Dz N),Fx.u1 (X95 N) aF Tryz.func95 [9] (h95 N) (by rw[ap4];rfl)⟩
def X96:Fx:=⟨26,tab,[],N,Tryz.f96,[.v cN,.v cN],[.v B],[⟨9,[(0,.v cN),(1,.v cN),(5,.v I)],[1,1,0,1,0,0],[]⟩],none⟩
theorem ap5(K ρ):(X96 N).bd K ρ 9=DA.dw N ((X96 N).kc ρ 9):=κ
theorem ap6(ρ):(X96 N).kc ((X96 N).cf ρ) 9=DA.l4 N N:=Fx.uL [] (ap5 N) ρ (DA.l4 N) λn ρ' e d=>by rw[e];rfl
theorem h96(K):(X96 N).top K=DA.b N ((X96 N).kc K 9):=κ
def k96:Kn Tryz.prog:=⟨96,(X96 N).S true (DA N),Fx.u1 (X96 N) aF Tryz.func96 [9] (h96 N) (by rw[ap6];rfl)⟩
def X55:Fx:=⟨26,tab,[],N,Tryz.f55,[.v LI,.v LI],[.v B],[⟨9,[(0,.v LI),(1,.v LI),(5,.v I)],[1,1,0,1,0,0],[]⟩],none⟩
theorem ap7(K ρ):(X55 N).bd K ρ 9=DC.dw N ((X55 N).kc ρ 9):=κ
theorem ap8(ρ):(X55 N).kc ((X55 N).cf ρ) 9=DC.l4 N N:=Fx.uL [] (ap7 N) ρ (DC.l4 N) λn ρ' e d=>by rw[e];rfl
theorem h55(K):(X55 N).top K=DC.b N ((X55 N).kc K 9):=κ
def k55:Kn Tryz.prog:=⟨55,(X55 N).S true (DC N),Fx.u1 (X55 N) aF Tryz.func55 [9] (h55 N) (by rw[ap8];rfl)⟩
def X24:Fx:=⟨26,tab,[],N,Tryz.f24,[.v pn,.v pn],[.v B],[⟨9,[(0,.v pn),(1,.v pn),(5,.v I)],[1,1,0,1,0,0],[]⟩],none⟩
theorem ap9(K ρ):(X24 N).bd K ρ 9=DB.dw N ((X24 N).kc ρ 9):=κ
theorem aqa(ρ):(X24 N).kc ((X24 N).cf ρ) 9=DB.l4 N N:=Fx.uL [] (ap9 N) ρ (DB.l4 N) λn ρ' e d=>by rw[e];rfl
theorem h24(K):(X24 N).top K=DB.b N ((X24 N).kc K 9):=κ
def k24:Kn Tryz.prog:=⟨24,(X24 N).S true (DB N),Fx.u1 (X24 N) aF Tryz.func24 [9] (h24 N) (by rw[aqa];rfl)⟩
def X35:Fx:=⟨45,tab,Kn.l [k94 N,k25 N,k95 N,k96 N,k55 N,k24 N],N,Tryz.f35,[.v aL,.v aL],[.v B],[],none⟩
def k35:Kn Tryz.prog:=⟨35,(X35 N).S true (F35 N),Fx.u0 (X35 N) aF Tryz.func35⟩
def X6:Fx:=⟨54,tab,Kn.l [k15 N,k16 N,k17 N,k18 N,k21 N,k35 N],N,Tryz.f6,[.v LU,.v (.int .u8)],[.v B],[],none⟩
theorem av7:tv Tryz.prog (X6 N).E:=Fx.RS (X6 N) aF (Kn.all _) κ
theorem av8: ∀x,PK (X6 N).E (X6 N).fn (X6 N).args (X6 N).res x=Kb (X6 N).args (F6 N) x:=Fx.Z1 κ
def k6:Kn Tryz.prog:=⟨6,(X6 N).S true (F6 N),Fx.u0 (X6 N) aF Tryz.func6⟩
end
end VM.F
