/- A part of the proof of LotEven of layer 23: each function of the program does what its equation says; printed by a program. -/
import Derived.Test.YthnjnpjmbabcaaaGreatText
import Derived.Test.YthnjnpjmbabcaaaGreatVm9
import Derived.Test.YthnjnpjmbabcaaaGreatProg
import Derived.KernelRfl
import Derived.Test.YthnjnpjmbabcaaaGreatPlain0
import Derived.Deep.RegionWith
import Derived.Deep.DeepCutAuto
import Derived.Lib.Hide
set_option linter.all false
noncomputable section
namespace VM.F
open Go VM Go.Proofs
open Tryz
set_option maxRecDepth 100000
abbrev I:Ty:= .int .i64
abbrev U:Ty:= .int .u64
abbrev B:Ty:= .bool
abbrev Z:Ty:= .str
abbrev Zo:Ty:= .slice vL
abbrev Pe:Ty:= .slice lA
abbrev c8:Ty:= .slice hZ
abbrev Rz:Ty:= .slice eZ
abbrev aod:Ty:= .slice cP
abbrev atx:Ty:= .slice fB
abbrev eG:Ty:= .slice oB
abbrev Zp:Ty:= .slice vM
abbrev fO:Ty:= .slice eD
abbrev LK:Ty:= .slice tE
abbrev oH:Ty:= .slice su
abbrev sH:Ty:= .slice m9
abbrev aiu:Ty:= .slice pE
abbrev iC:Ty:= .slice fZ
abbrev aoe:Ty:= .slice gN
abbrev aof:Ty:= .slice aA
abbrev aty:Ty:= .slice aL
abbrev alR:Ty:= .slice sr
abbrev arB:Ty:= .slice dY
abbrev LI:Ty:= .slice I
abbrev LU:Ty:= .slice U
def tab:List (Nat×Ty):=[(2,I),(3,I),(4,B),(5,(.int .u8)),(9,Z),(22,fO),(24,aA),(25,c8),(26,fO),(27,eG),(28,eG),(29,LI),(30,sH),(32,aL),(33,iC),(35,c8),(37,fZ),(39,LU),(43,fO),(44,fO),(45,LI),(46,c8),(47,c8),(49,sr),(50,LK),(52,gN),(54,dY),(56,I),(60,hZ),(63,aod),(65,cP),(67,eD),(81,U),(83,eZ),(87,fB),(91,aiu),(94,pE),(96,eG),(110,(.slice c8)),(117,oB),(123,U),(128,hZ),(130,eD),(140,oB),(148,oB),(153,m9),(183,Rz),(210,LK),(215,oH),(223,(.arr 13 B)),(227,(.int .u32)),(243,hZ),(245,su),(254,eG),(260,eG),(266,tE),(268,oB),(278,eD),(296,oB),(310,eD),(319,hZ),(327,tE)]
theorem aD:Gk prog tab:=⟨κ,κ⟩
section
variable(N:Nat)
abbrev YS:pP:=sR.S N
abbrev YT:pP:=sQ.S N
theorem YU:lN prog 94 (YT N):=TY N func94 κ κ κ κ
def LM:Kn prog:=⟨94,YT N,YU N⟩
theorem YV:lN prog 136 (YS N):=TZ N func136 κ κ κ κ
def RA:Kn prog:=⟨136,YS N,YV N⟩
abbrev Pf:pP:=nn (.int .i64) N
def LN.ren:Go.Shelf.Ren:={f:=λi=>cond (Nat.beq i 29) 182 (cond (Nat.beq i 30) 183 0),t:=λi=>cond (Nat.beq i 24) 45 (cond (Nat.beq i 9) 3 (cond (Nat.beq i 3) 3 (cond (Nat.beq i 4) 4 0))),g:=λ_=>0}
theorem LN.atz:WN prog (.int .i64) LN.ren 162 f162 f182:=⟨Tryz.func162.trans κ,underlying3,underlying4,underlying45,ny (x:= .inl 3) κ,δ,κ⟩
theorem RC:lN prog 162 (Pf N):=Qz LN.atz ⟨func182,κ,κ,κ,κ⟩ κ κ N
def YW:Kn prog:=⟨162,Pf N,RC N⟩
def X23:Fx:=⟨21,tab,[],N,f23,[],[.v aA,.v aL],[],none⟩
theorem ax2:p8 prog (X23 N).E:=Fx.Np (X23 N) aD trivial κ
theorem ax3: ∀x,Kk (X23 N).E (X23 N).fn (X23 N).args (X23 N).res x=ID (X23 N).args (F23 N) x:=Fx.Z6 κ
def k23:Kn prog:=⟨23,(X23 N).S false (F23 N),Fx.u0 (X23 N) aD func23⟩
def aog:Fx:=⟨15,tab,[],N,f101,[.v I,.v I,.v I],[.v B],[],none⟩
def atA:Kn prog:=⟨101,(aog N).S true (Ec N),Fx.u0 (aog N) aD func101⟩
def X59:Fx:=⟨68,tab,Kn.l [atA N],N,f59,[.v aA],[.v B],[⟨9,[(1,.obj aA),(11,.v fO),(12,.v I),(13,.v I)],[1,1,0,1,0,0],[]⟩],none⟩
theorem aoh(K ρ):(X59 N).bd K ρ 9=B8.ew N ((X59 N).kc ρ 9):=κ
theorem aoi(ρ):(X59 N).kc ((X59 N).ck ρ) 9=B8.l4 N N:=Fx.uL [] (aoh N) ρ (B8.l4 N) λn ρ' e d=>by rw[e];rfl
theorem h59(K):(X59 N).top K=B8.b N ((X59 N).kc K 9):=κ
def k59:Kn prog:=⟨59,(X59 N).S true (B8 N),Fx.u1 (X59 N) aD func59 [9] (h59 N) (by rw[aoi];rfl)⟩
def Pg:Fx:=⟨46,tab,[],N,f120,[.v c8],[.v B],[⟨5,[(0,.v c8),(5,.v c8),(6,.v I),(7,.v I)],[1,0,1,0,0],[]⟩],none⟩
theorem aiv(K ρ):(Pg N).bd K ρ 5=pn.gm N ((Pg N).kc ρ 5):=κ
theorem aiw(ρ):(Pg N).kc ((Pg N).ck ρ) 5=pn.l2 N N:=Fx.uL [] (aiv N) ρ (pn.l2 N) λn ρ' e d=>by rw[e];rfl
theorem atC(K):(Pg N).top K=pn.b N ((Pg N).kc K 5):=κ
def aoj:Kn prog:=⟨120,(Pg N).S true (pn N),Fx.u1 (Pg N) aD func120 [5] (atC N) (by rw[aiw];rfl)⟩
def Ph:Fx:=⟨77,tab,[],N,f121,[.v fO],[.v B],[⟨7,[(0,.v fO),(3,.obj (.arr 13 B)),(6,.v fO),(7,.v I),(8,.v I)],[1,1,0,1,0,0],[]⟩],none⟩
theorem aix(K ρ):(Ph N).bd K ρ 7=m4.lD N ((Ph N).kc ρ 7):=κ
theorem aiy(ρ):(Ph N).kc ((Ph N).ck ρ) 7=m4.l3 N N:=Fx.uL [] (aix N) ρ (m4.l3 N) λn ρ' e d=>by rw[e];rfl
theorem atD(K):(Ph N).top K=m4.b N ((Ph N).kc K 7):=κ
def aok:Kn prog:=⟨121,(Ph N).S true (m4 N),Fx.u1 (Ph N) aD func121 [7] (atD N) (by rw[aiy];rfl)⟩
def X89:Fx:=⟨23,tab,Kn.l [aoj N],N,f89,[.v c8,.v I],[.v I],[⟨9,[(1,.v I),(10,.v c8),(11,.v I),(12,.v I)],[1,1,0,1,0,0],[]⟩],none⟩
theorem aol(K ρ):(X89 N).bd K ρ 9=BK.ew N ((X89 N).kc ρ 9):=κ
theorem aom(ρ):(X89 N).kc ((X89 N).ck ρ) 9=BK.l4 N N:=Fx.uL [] (aol N) ρ (BK.l4 N) λn ρ' e d=>by rw[e];rfl
theorem h89(K):(X89 N).top K=BK.b N ((X89 N).kc K 9):=κ
def k89:Kn prog:=⟨89,(X89 N).S true (BK N),Fx.u1 (X89 N) aD func89 [9] (h89 N) (by rw[aom];rfl)⟩
def X83:Fx:=⟨27,tab,Kn.l [aoj N,aok N,k89 N],N,f83,[.v c8,.v fO],[.v B],[⟨9,[(0,.v c8),(15,.v fO),(16,.v I),(17,.v I)],[1,1,0,1,0,0],[]⟩],none⟩
theorem aon(K ρ):(X83 N).bd K ρ 9=Ef.ew N ((X83 N).kc ρ 9):=κ
theorem aoo(ρ):(X83 N).kc ((X83 N).ck ρ) 9=Ef.l4 N N:=Fx.uL [] (aon N) ρ (Ef.l4 N) λn ρ' e d=>by rw[e];rfl
theorem h83(K):(X83 N).top K=Ef.b N ((X83 N).kc K 9):=κ
def k83:Kn prog:=⟨83,(X83 N).S true (Ef N),Fx.u1 (X83 N) aD func83 [9] (h83 N) (by rw[aoo];rfl)⟩
def aop:Fx:=⟨30,tab,[],N,f122,[.v I,.v I],[.v B],[],none⟩
def atE:Kn prog:=⟨122,(aop N).S true (W4 N),Fx.u0 (aop N) aD func122⟩
def aoq:Fx:=⟨19,tab,[],N,f123,[.v I,.v I,.v oB],[.v I],[],none⟩
def atG:Kn prog:=⟨123,(aoq N).S true (aar N),Fx.u0 (aoq N) aD func123⟩
def X84:Fx:=⟨41,tab,Kn.l [atE N,atG N],N,f84,[.v eG],[.v B],[⟨5,[(0,.v eG),(5,.v eG),(6,.v I),(7,.v I)],[1,0,1,0,0],[]⟩],none⟩
theorem aor(K ρ):(X84 N).bd K ρ 5=Dr.gm N ((X84 N).kc ρ 5):=κ
theorem aos(ρ):(X84 N).kc ((X84 N).ck ρ) 5=Dr.l2 N N:=Fx.uL [] (aor N) ρ (Dr.l2 N) λn ρ' e d=>by rw[e];rfl
theorem h84(K):(X84 N).top K=Dr.b N ((X84 N).kc K 5):=κ
def k84:Kn prog:=⟨84,(X84 N).S true (Dr N),Fx.u1 (X84 N) aD func84 [5] (h84 N) (by rw[aos];rfl)⟩
def X27:Fx:=⟨8,tab,[],N,f27,[.v I],[.v eZ],[],none⟩
def k27:Kn prog:=⟨27,(X27 N).S true (F27 N),Fx.u0 (X27 N) aD func27⟩
def Pj:Fx:=⟨51,tab,Kn.l [LM N],N,f124,[.v Rz],[.v eZ,.v B],[⟨7,[(2,.obj eZ),(4,.v I),(5,.v U),(6,.v U),(10,.v Rz),(11,.v I),(12,.v I)],[1,1,0,1,0,0],[]⟩],none⟩
theorem aiz(K ρ):(Pj N).bd K ρ 7=pk.lD N ((Pj N).kc ρ 7):=κ
theorem aiA(ρ):(Pj N).kc ((Pj N).ck ρ) 7=pk.l3 N N:=Fx.uL [] (aiz N) ρ (pk.l3 N) λn ρ' e d=>by rw[e];rfl
theorem atH(K):(Pj N).top K=pk.b N ((Pj N).kc K 7):=κ
def aiB:Kn prog:=⟨124,(Pj N).S true (pk N),Fx.u1 (Pj N) aD func124 [7] (atH N) (by rw[aiA];rfl)⟩
def X85:Fx:=⟨31,tab,Kn.l [k84 N,k27 N,aiB N],N,f85,[.v eG],[.v eZ],[⟨11,[(2,.obj eZ),(3,.own eZ),(12,.v eG),(13,.v I),(14,.v I)],[1,1,1,0,1,0,0],[]⟩],none⟩
theorem aiC(K ρ):(X85 N).bd K ρ 11=Dt.e8 N ((X85 N).kc ρ 11):=κ
theorem aiD(ρ):(X85 N).kc ((X85 N).ck ρ) 11=Dt.l5 N N:=Fx.uL [] (aiC N) ρ (Dt.l5 N) λn ρ' e d=>by rw[e];rfl
theorem h85(K):(X85 N).top K=Dt.b N ((X85 N).kc K 11):=κ
def k85:Kn prog:=⟨85,(X85 N).S true (Dt N),Fx.u1 (X85 N) aD func85 [11] (h85 N) (by rw[aiD];rfl)⟩
def X62:Fx:=⟨27,tab,[],N,f62,[.v eZ,.v eZ],[.v I],[],none⟩
def k62:Kn prog:=⟨62,(X62 N).S true (F62 N),Fx.u0 (X62 N) aD func62⟩
def X61:Fx:=⟨6,tab,Kn.l [k62 N],N,f61,[.v eZ],[.v I],[],none⟩
def k61:Kn prog:=⟨61,(X61 N).S true (F61 N),Fx.u0 (X61 N) aD func61⟩
def aot:Fx:=⟨19,tab,[],N,f129,[.v I,.v I],[.v B],[],none⟩
def atJ:Kn prog:=⟨129,(aot N).S true (aat N),Fx.u0 (aot N) aD func129⟩
def aou:Fx:=⟨5,tab,[],N,f102,[.v I],[.v B],[],none⟩
def aov:Kn prog:=⟨102,(aou N).S true (W5 N),Fx.u0 (aou N) aD func102⟩
def aow:Fx:=⟨19,tab,[],N,f130,[.v I,.v I,.v oB],[.v I],[],none⟩
def atK:Kn prog:=⟨130,(aow N).S true (ahO N),Fx.u0 (aow N) aD func130⟩
def X93:Fx:=⟨47,tab,Kn.l [atJ N,aov N,atK N],N,f93,[.v eG],[.v B],[⟨5,[(0,.v eG),(5,.v eG),(6,.v I),(7,.v I)],[1,0,1,0,0],[]⟩],none⟩
theorem aox(K ρ):(X93 N).bd K ρ 5=Ca.gm N ((X93 N).kc ρ 5):=κ
theorem aoy(ρ):(X93 N).kc ((X93 N).ck ρ) 5=Ca.l2 N N:=Fx.uL [] (aox N) ρ (Ca.l2 N) λn ρ' e d=>by rw[e];rfl
theorem h93(K):(X93 N).top K=Ca.b N ((X93 N).kc K 5):=κ
def k93:Kn prog:=⟨93,(X93 N).S true (Ca N),Fx.u1 (X93 N) aD func93 [5] (h93 N) (by rw[aoy];rfl)⟩
def Pk:Fx:=⟨37,tab,Kn.l [k93 N,k27 N,aiB N],N,f125,[.v eG,.v I],[.v eZ],[⟨11,[(1,.v I),(4,.obj eZ),(5,.own eZ),(14,.v eG),(15,.v I),(16,.v I)],[1,1,1,0,1,0,0],[]⟩],none⟩
theorem abP(K ρ):(Pk N).bd K ρ 11=pt.e8 N ((Pk N).kc ρ 11):=κ
theorem abQ(ρ):(Pk N).kc ((Pk N).ck ρ) 11=pt.l5 N N:=Fx.uL [] (abP N) ρ (pt.l5 N) λn ρ' e d=>by rw[e];rfl
theorem atM(K):(Pk N).top K=pt.b N ((Pk N).kc K 11):=κ
def atN:Kn prog:=⟨125,(Pk N).S true (pt N),Fx.u1 (Pk N) aD func125 [11] (atM N) (by rw[abQ];rfl)⟩
def X86:Fx:=⟨15,tab,Kn.l [atN N,k61 N,k93 N],N,f86,[.v eG],[.v B],[⟨5,[(0,.v eG),(4,.v I)],[1,0,1,0,0],[]⟩],none⟩
theorem aoz(K ρ):(X86 N).bd K ρ 5=Eg.gm N ((X86 N).kc ρ 5):=κ
theorem aoA(ρ):(X86 N).kc ((X86 N).ck ρ) 5=Eg.l2 N N:=Fx.uL [] (aoz N) ρ (Eg.l2 N) λn ρ' e d=>by rw[e];rfl
theorem h86(K):(X86 N).top K=Eg.b N ((X86 N).kc K 5):=κ
def k86:Kn prog:=⟨86,(X86 N).S true (Eg N),Fx.u1 (X86 N) aD func86 [5] (h86 N) (by rw[aoA];rfl)⟩
def aoB:Fx:=⟨61,tab,[],N,f126,[.v m9],[.v B],[],none⟩
def atO:Kn prog:=⟨126,(aoB N).S true (aau N),Fx.u0 (aoB N) aD func126⟩
def X87:Fx:=⟨34,tab,Kn.l [atO N],N,f87,[.v sH],[.v B],[⟨5,[(0,.v sH),(5,.v sH),(6,.v I),(7,.v I)],[1,0,1,0,0],[]⟩],none⟩
theorem aoC(K ρ):(X87 N).bd K ρ 5=Ed.gm N ((X87 N).kc ρ 5):=κ
theorem aoD(ρ):(X87 N).kc ((X87 N).ck ρ) 5=Ed.l2 N N:=Fx.uL [] (aoC N) ρ (Ed.l2 N) λn ρ' e d=>by rw[e];rfl
theorem h87(K):(X87 N).top K=Ed.b N ((X87 N).kc K 5):=κ
def k87:Kn prog:=⟨87,(X87 N).S true (Ed N),Fx.u1 (X87 N) aD func87 [5] (h87 N) (by rw[aoD];rfl)⟩
def Pl:Fx:=⟨25,tab,Kn.l [aok N],N,f127,[.v fO,.v I],[.v eD,.v B],[⟨9,[(1,.v I),(4,.obj eD),(12,.v fO),(13,.v I),(14,.v I)],[1,1,0,1,0,0],[]⟩],none⟩
theorem aiE(K ρ):(Pl N).bd K ρ 9=pq.ew N ((Pl N).kc ρ 9):=κ
theorem aiF(ρ):(Pl N).kc ((Pl N).ck ρ) 9=pq.l4 N N:=Fx.uL [] (aiE N) ρ (pq.l4 N) λn ρ' e d=>by rw[e];rfl
theorem atP(K):(Pl N).top K=pq.b N ((Pl N).kc K 9):=κ
def atS:Kn prog:=⟨127,(Pl N).S true (pq N),Fx.u1 (Pl N) aD func127 [9] (atP N) (by rw[aiF];rfl)⟩
def X88:Fx:=⟨15,tab,Kn.l [atS N],N,f88,[.v aL,.v I],[.v B],[],none⟩
def k88:Kn prog:=⟨88,(X88 N).S true (F88 N),Fx.u0 (X88 N) aD func88⟩
def X92:Fx:=⟨9,tab,[],N,f92,[.v I],[.v B],[],none⟩
def k92:Kn prog:=⟨92,(X92 N).S true (F92 N),Fx.u0 (X92 N) aD func92⟩
def X91:Fx:=⟨6,tab,Kn.l [k92 N],N,f91,[.v I],[.v B],[],none⟩
def k91:Kn prog:=⟨91,(X91 N).S true (F91 N),Fx.u0 (X91 N) aD func91⟩
def Pm:Fx:=⟨19,tab,Kn.l [k91 N],N,f128,[.v LI,.fn 91 .unit],[.v I],[⟨5,[(0,.v LI),(1,.fn 91 .unit),(7,.v I),(8,.v I)],[1,0,1,0,0],[]⟩],none⟩
theorem aiG(K ρ):(Pm N).bd K ρ 5=sF.gm N ((Pm N).kc ρ 5):=κ
theorem aiH(ρ):(Pm N).kc ((Pm N).ck ρ) 5=sF.l2 N N:=Fx.uL [] (aiG N) ρ (sF.l2 N) λn ρ' e d=>by rw[e];rfl
theorem Uo(K):(Pm N).top K=sF.b N ((Pm N).kc K 5):=κ
def atT:Kn prog:=⟨128,(Pm N).S true (sF N),Fx.u1 (Pm N) aD func128 [5] (Uo N) (by rw[aiH];rfl)⟩
def X90:Fx:=⟨9,tab,Kn.l [atT N],N,f90,[.v LI,.fn 91 .unit],[.v B],[],none⟩
def k90:Kn prog:=⟨90,(X90 N).S true (F90 N),Fx.u0 (X90 N) aD func90⟩
def Ma:Fx:=⟨133,tab,Kn.l [k59 N,k83 N,k84 N,k85 N,k61 N,k86 N,k87 N,k88 N,k89 N,k90 N],N,f42,[.v aA,.v aL],[.v B],[⟨45,[(2,.obj aA),(3,.obj aL),(109,.v sH),(110,.v I),(111,.v I)],[1,1,1,1,0,1,0,0],[]⟩,⟨33,[(2,.obj aA),(3,.obj aL),(83,.v eG),(84,.v I),(85,.v I)],[1,1,1,0,1,0,0],[]⟩,⟨9,[(2,.obj aA),(3,.obj aL),(57,.v eG),(58,.v I),(59,.v I)],[1,1,0,1,0,0],[]⟩],none⟩
theorem aiI(K ρ):(Ma N).bd K ρ 45=mv.wm N ((Ma N).kc ρ 45):=κ
theorem aiJ(ρ):(Ma N).kc ((Ma N).ck ρ) 45=mv.xq N N:=Fx.uL [] (aiI N) ρ (mv.xq N) λn ρ' e d=>by rw[e];rfl
theorem aiK(K ρ):(Ma N).bd K ρ 33=mv.KW N ((Ma N).kc K 45) ((Ma N).kc ρ 33):=κ
theorem aiL(ρ):(Ma N).kc ((Ma N).ck ρ) 33=mv.LZ N N:=Fx.uL [45] (aiK N) ρ (mv.LZ N) λn ρ' e d=>by rw[aiJ,e];rfl
theorem aoE(K ρ):(Ma N).bd K ρ 9=mv.ew N ((Ma N).kc K 33) ((Ma N).kc ρ 9):=κ
theorem aoF(ρ):(Ma N).kc ((Ma N).ck ρ) 9=mv.l4 N N:=Fx.uL [33,45] (aoE N) ρ (mv.l4 N) λn ρ' e d=>by rw[aiL,e];rfl
theorem h42(K):(Ma N).top K=mv.b N ((Ma N).kc K 9):=κ
def k42:Kn prog:=⟨42,(Ma N).S true (mv N),Fx.u1 (Ma N) aD func42 [9,33,45] (h42 N) (by rw[aoF];rfl)⟩
def X43:Fx:=⟨31,tab,Kn.l [k93 N],N,f43,[.v eG,.v I],[.own hZ],[⟨11,[(1,.v I),(5,.own hZ),(11,.v eG),(12,.v I),(13,.v I)],[1,1,1,0,1,0,0],[]⟩],none⟩
theorem aiM(K ρ):(X43 N).bd K ρ 11=Dy.e8 N ((X43 N).kc ρ 11):=κ
theorem aiN(ρ):(X43 N).kc ((X43 N).ck ρ) 11=Dy.l5 N N:=Fx.uL [] (aiM N) ρ (Dy.l5 N) λn ρ' e d=>by rw[e];rfl
theorem h43(K):(X43 N).top K=Dy.b N ((X43 N).kc K 11):=κ
def k43:Kn prog:=⟨43,(X43 N).S false (Dy N),Fx.u1 (X43 N) aD func43 [11] (h43 N) (by rw[aiN];rfl)⟩
def X45:Fx:=⟨10,tab,[],N,f45,[.v I],[.v U],[],none⟩
def k45:Kn prog:=⟨45,(X45 N).S true (F45 N),Fx.u0 (X45 N) aD func45⟩
def X44:Fx:=⟨52,tab,Kn.l [LM N],N,f44,[.v eZ,.v eZ],[.v eZ,.v B],[],none⟩
def k44:Kn prog:=⟨44,(X44 N).S true (F44 N),Fx.u0 (X44 N) aD func44⟩
def aoG:Fx:=⟨51,tab,[],N,f103,[.v U,.v U],[.v U,.v U],[],none⟩
def aoH:Kn prog:=⟨103,(aoG N).S true (WT N),Fx.u0 (aoG N) aD func103⟩
def I1:Fx:=⟨30,tab,Kn.l [aoH N],N,f135,[.v U,.v U],[.v U,.v U],[],none⟩
theorem aiO:p8 prog (I1 N).E:=Fx.Np (I1 N) aD (Kn.all _) κ
theorem aiP: ∀x,Kk (I1 N).E (I1 N).fn (I1 N).args (I1 N).res x=ID (I1 N).args (aab N) x:=Fx.Z6 κ
def aBy:Kn prog:=⟨135,(I1 N).S true (aab N),Fx.u0 (I1 N) aD func135⟩
theorem RD.mul(w:World)(n:Int)(h0:0<n)(h1:n<1048576):Calls prog 135 #[.int .u64 1,.int .u64 n] w λe w'=>e= .returned (.tuple #[.int .u64 0,.int .u64 n])∧RowKit.Below w.heap.size w w':=
 Z9 (aiO 0) rfl func135 κ (show Kk (I1 0).E f135 [.v (.int .u64),.v (.int .u64)] [.v (.int .u64),.v (.int .u64)] ((1:Int),n)=some (0,n)from(aiP 0 ((1:Int),n)).trans (KM 0 n h0 h1))
open Go.RowKit in
set_option maxHeartbeats 2000000 in
set_option maxRecDepth 100000 in
theorem RD.walk(w:World)(a n:Int)(b off c:Nat)(h0:0<n)(h1:n<1048576)(ha:w.cell? ⟨b,off,none⟩=some (.int .i64 a))(hc:1≤c):Calls prog 96 #[.slice (some ⟨b,off,none⟩) 1 c,.int .i64 n] w λe w'=> ∃rb,e= .returned (.slice (some ⟨rb,0,none⟩) n.toNat n.toNat)∧w.heap.size≤rb∧w'.heap[rb]? =some (.cells (mD n.toNat n.toNat a) 2 (0,0))∧Below w.heap.size w w':=by
 have hn0: ¬(n<0):=ω
 have hu:IntKind.u64.wrap n=n:=by simp[IntKind.wrap,IntKind.bits,IntKind.signed];omega
 have hi:IntKind.i64.wrap n=n:=by rw[IntKind.wrap_i64];omega
 obtain⟨m,rfl⟩:=sO (o9 h0)
 have u9:jX prog (.int .i64) 2:=ny (τ:= .int .i64) (x:= .inl 2) κ
 have hmk:=λW=>T3 (W:=W) (a:=a) underlying29 u9 m ω
 have agn: ∀W,(Go.sizeOf 2).run prog W= .ok 1 W:=λW=>c6 u9 W
 have mixed:Tryz.prog.follows Departure.mixedOrders=true:=κ
 go_enter func96,ntmps96
 go_upto_region 4 with(go_at_call 135;refine(RD.mul _ _ h0 h1).mono ?_;rintro e w1 ⟨rfl,dA⟩)
 obtain⟨B,hB⟩: ∃B:Int,B=9223372036854775807:=⟨_,rfl⟩
 rw[←hB]
 have hgt: ¬(B<(m:Int)):=ω
 clear hB
 go_upto_region 6 with fail
 have dU:b<w.heap.size:=Qi ha
 have hnb:w.heap.size≤w1.heap.size:=dA.size
 have atV:=hmk w1
 have EK: ∀W,(Go.sizeOf 2).run prog W= .ok 1 W:=agn
 have hcp: ∀ty,(Builtin.copy_ #[29,29] ty #[.slice (some ⟨w1.heap.size,0,none⟩) m m,.slice (some ⟨b,off,none⟩) 1 c]).run prog (w1.alloc (.cells (mD 0 m a) 2))= .ok (goInt (1:Nat)) ((w1.alloc (.cells (mD 0 m a) 2)).setRow w1.heap.size (mD 1 m a)):=λty=>by
  have h:=run_copy_row (P:=prog) (t:=29) (e:=2) (te:=2) (k:=1) (W:=w1.alloc (.cells (mD 0 m a) 2)) (b:=w1.heap.size) (o:=0) (dLen:=m) (dCap:=m) (sLen:=1) (sCap:=c) (n:=1) (a:=⟨b,off,none⟩) (cs:=mD 0 m a) underlying29 EK (oj _ _)
   (news:=[.int .i64 a]) (fT ω) rfl (λj u hj=>by
    cases j with
    |zero=>
     cases hj
     show World.cell? _ ⟨b,off,none⟩=_
     rw[World.cell?_of_block (w:=w) ((alloc_old _ _ (kQ dU hnb)).trans (dA.block b dU))];exact ha
    |succ j=>cases hj) (λu hu=>by rw[cg]at hu;subst hu;rfl) (by rw[B7 (bA _)];simp;omega) ty
  rw[h]
  have:=Jo (k:=0) (m:=1) (n:=m) (a:=a) ω
  rw[FC,fh]at this
  rw[←this];rfl
 go_wp2_with fail
 have D6:((w1.alloc (.cells (mD 0 m a) 2)).setRow w1.heap.size (mD 1 m a)).heap[w1.heap.size]? =some (.cells (mD 1 m a) 2 (0,0)):=setRow_heap _ _ _ _ _ _ (oj w1 _)
 have hB:Below w.heap.size w ((w1.alloc (.cells (mD 0 m a) 2)).setRow w1.heap.size (mD 1 m a)):=⟨dA.os,dA.tape,dA.output,by rw[setRow_size,vk];omega,λk hk=>(setRow_other _ _ ω).trans ((alloc_old _ _ ω).trans (dA.block k hk))⟩
 clear hcp atV hmk
 generalize (w1.alloc (.cells (mD 0 m a) 2)).setRow w1.heap.size (mD 1 m a)=W at*
 generalize atW:w1.heap.size=nb at*
 clear atW dA
 have hg: ∀(k:Nat) (W:World),0<k→k<m→W.heap[nb]? =some (.cells (mD k m a) 2 (0,0))→ ∀ty dc sc,(Builtin.copy_ #[29,29] ty #[.slice (some ⟨nb,k,none⟩) (m-k) dc,.slice (some ⟨nb,0,none⟩) k sc]).run prog W.drew= .ok (goInt ((Nat.min k (m-k):Nat):Int)) (W.drew.setRow nb (mD (k+Nat.min k (m-k)) m a)):=λk W h0 hk hW ty dc sc=>by
  have hle:Nat.min k (m-k)≤k:=Nat.min_le_left _ _
  have atX:Nat.min k (m-k)≤m-k:=Nat.min_le_right _ _
  rw[run_copy_row (P:=prog) (t:=29) (e:=2) (te:=2) (k:=1) (W:=W.drew) (b:=nb) (o:=k) (dLen:=m-k) (dCap:=dc) (sLen:=k) (sCap:=sc) (n:=Nat.min k (m-k)) (a:=⟨nb,0,none⟩) (cs:=mD k m a) underlying29 agn hW
   (news:=List.replicate (Nat.min k (m-k)) (.int .i64 a)) rfl (by simp) (QA (w:=W.drew) hW _ hle) (λu hu=>by rw[wz hu];rfl) (by rw[B7 (Nat.le_of_lt hk),bP];omega) ty]
  have:=Jo (k:=k) (m:=Nat.min k (m-k)) (n:=m) (a:=a) ω
  rw[wO]at this
  rw[this]
 have HG:=Lib.hid hg
 clear hg
 have HR:=Lib.hid D6
 clear D6
 go_loopw [8] (λv W'=> ∃k:Nat,0<k∧k≤m∧v= .int .i64 k∧Hid (W'.heap[nb]? =some (.cells (mD k m a) 2 (0,0)))∧Below w.heap.size w W') (λv _=>m-(RowKit.intOf v).toNat)
 case atStart=>exact⟨1,ω,ω,rfl,HR,hB⟩
 case round=>
  obtain⟨k,hk0,hkm,rfl,HK,HB⟩:=hrel
  by_cases Zz:k<m
  ·have hle:Nat.min k (m-k)≤k:=Nat.min_le_left _ _
   have atX:Nat.min k (m-k)≤m-k:=Nat.min_le_right _ _
   have D7:0<Nat.min k (m-k):=by simp only[Nat.min_def];split<;>omega
   have h2:=HG.out k _ hk0 Zz HK.out
   have Di:=setRow_heap (wr.drew) nb _ (mD (k+Nat.min k (m-k)) m a) 2 (0,0) HK.out
   have HR2:=Lib.hid Di
   have hB2:Below w.heap.size w (wr.drew.setRow nb (mD (k+Nat.min k (m-k)) m a)):=⟨HB.os,HB.tape,HB.output,by rw[setRow_size];exact HB.size,λj hj=>(setRow_other _ _ ω).trans (HB.block j hj)⟩
   clear Di
   generalize hmq:Nat.min k (m-k)=q at*
   clear hmq
   have hmk: ¬(m=k):=ω
   have hw:IntKind.i64.wrap ((k:Int)+(q:Int))=(k:Int)+(q:Int):=by rw[IntKind.wrap_i64];omega
   go_wp2_with fail
   go_region_law_o (refine Go.Proofs.step_copy_runI rfl _ _ 29 29 rfl _ _ (by simp[Act.eval,Act.put]) (by simp[Act.eval,Act.put]) (h2 _ _ _) ?_)
   simp only[List.getElem_toArray,List.getElem_cons_succ,zL,Act.put,List.setIfInBounds_toArray,List.set_cons_succ,Fl]
   go_wp2
   go_roundw
   case rel=>exact⟨k+q,ω,ω,by go_num,HR2,hB2⟩
   case measure=>simp[RowKit.intOf];omega
  ·obtain rfl:k=m:=ω
   go_wp2
   go_ret
   exact⟨nb,rfl,hnb,HK.out,HB⟩
abbrev Td:pP:=EC (.int .i64) N
theorem Vj:lN prog 96 (Td N):=QB func96 κ κ 2 N (λw a n b off c h0 h1 ha hc=>RD.walk w a n b off c h0 h1 ha hc)
def abR:Kn prog:=⟨96,Td N,Vj N⟩
def RE:Fx:=⟨47,tab,Kn.l [RA N],N,f104,[.v B,.v U,.v U],[.v eZ,.v B],[⟨14,[(1,.v U),(2,.v U),(6,.obj eZ)],[1,1,1],[]⟩],none⟩
theorem abS(K ρ):(RE N).bd K ρ 14=rM.Qc N:=κ
theorem abT(ρ):(RE N).kc ((RE N).ck ρ) 14=rM.j7 N:=Fx.uJ [] (abS N) ρ
theorem atY(K):(RE N).top K=rM.b N ((RE N).kc K 14):=κ
def aoI:Kn prog:=⟨104,(RE N).S true (rM N),Fx.u1 (RE N) aD func104 [14] (atY N) (by rw[abT];rfl)⟩
def X63:Fx:=⟨29,tab,Kn.l [k45 N,aoH N,aoI N],N,f63,[.v I,.v I],[.v eZ],[],none⟩
def k63:Kn prog:=⟨63,(X63 N).S true (F63 N),Fx.u0 (X63 N) aD func63⟩
def X26:Fx:=⟨26,tab,Kn.l [k61 N,k63 N,k62 N],N,f26,[.v eZ,.v I],[.v I],[⟨9,[(1,.v I),(2,.obj eZ),(5,.v I)],[1,1,1,0,0,0],[]⟩],none⟩
theorem aoJ(K ρ):(X26 N).bd K ρ 9=zE.ew N ((X26 N).kc ρ 9):=κ
theorem aoK(ρ):(X26 N).kc ((X26 N).ck ρ) 9=zE.l4 N N:=Fx.uL [] (aoJ N) ρ (zE.l4 N) λn ρ' e d=>by rw[e];rfl
theorem h26(K):(X26 N).top K=zE.b N ((X26 N).kc K 9):=κ
def k26:Kn prog:=⟨26,(X26 N).S true (zE N),Fx.u1 (X26 N) aD func26 [9] (h26 N) (by rw[aoK];rfl)⟩
def aoL:Fx:=⟨5,tab,[],N,f159,[.v I],[.v B],[],none⟩
def at1:Kn prog:=⟨159,(aoL N).S true (ahY N),Fx.u0 (aoL N) aD func159⟩
def DV:Fx:=⟨19,tab,Kn.l [at1 N],N,f128,[.v LI,.fn 159 .unit],[.v I],[⟨5,[(0,.v LI),(1,.fn 159 .unit),(7,.v I),(8,.v I)],[1,0,1,0,0],[]⟩],none⟩
theorem abU(K ρ):(DV N).bd K ρ 5=lq.gm N ((DV N).kc ρ 5):=κ
theorem abV(ρ):(DV N).kc ((DV N).ck ρ) 5=lq.l2 N N:=Fx.uL [] (abU N) ρ (lq.l2 N) λn ρ' e d=>by rw[e];rfl
theorem aoM(K):(DV N).top K=lq.b N ((DV N).kc K 5):=κ
def aoN:Kn prog:=⟨128,(DV N).S true (lq N),Fx.u1 (DV N) aD func128 [5] (aoM N) (by rw[abV];rfl)⟩
def aoO:Fx:=⟨9,tab,Kn.l [aoN N],N,f90,[.v LI,.fn 159 .unit],[.v B],[],none⟩
def at2:Kn prog:=⟨90,(aoO N).S true (ah0 N),Fx.u0 (aoO N) aD func90⟩
def aoP:Fx:=⟨11,tab,Kn.l [at2 N],N,f131,[.v LI],[.v B],[],none⟩
def at3:Kn prog:=⟨131,(aoP N).S true (aaI N),Fx.u0 (aoP N) aD func131⟩
def Pn:Fx:=⟨39,tab,Kn.l [LM N],N,f132,[.v LI],[.v I,.v B],[⟨7,[(4,.v I),(5,.v U),(10,.v LI),(11,.v I),(12,.v I)],[1,1,0,1,0,0],[]⟩],none⟩
theorem aiQ(K ρ):(Pn N).bd K ρ 7=rN.lD N ((Pn N).kc ρ 7):=κ
theorem aiR(ρ):(Pn N).kc ((Pn N).ck ρ) 7=rN.l3 N N:=Fx.uL [] (aiQ N) ρ (rN.l3 N) λn ρ' e d=>by rw[e];rfl
theorem at4(K):(Pn N).top K=rN.b N ((Pn N).kc K 7):=κ
def at5:Kn prog:=⟨132,(Pn N).S true (rN N),Fx.u1 (Pn N) aD func132 [7] (at4 N) (by rw[aiR];rfl)⟩
def aoQ:Fx:=⟨32,tab,Kn.l [RA N],N,f160,[.v eZ],[.v U,.v U],[],none⟩
def at6:Kn prog:=⟨160,(aoQ N).S true (aal N),Fx.u0 (aoQ N) aD func160⟩
def HU:Fx:=⟨25,tab,[],N,f208,[.v U],[.v I],[⟨14,[(0,.v U),(2,.v I)],[1,1,1],[]⟩,⟨8,[(0,.v U),(2,.v I)],[1,1],[]⟩],none⟩
theorem abW(K ρ):(HU N).bd K ρ 14=mY.Qc N:=κ
theorem abX(ρ):(HU N).kc ((HU N).ck ρ) 14=mY.j7 N:=Fx.uJ [] (abW N) ρ
theorem aiS(K ρ):(HU N).bd K ρ 8=mY.j4b N ((HU N).kc K 14):=κ
theorem aiT(ρ):(HU N).kc ((HU N).ck ρ) 8=mY.j4 N:=Fx.uJ [14] (aiS N) ρ (by rw[abX];rfl)
theorem at7(K):(HU N).top K=mY.b N ((HU N).kc K 8):=κ
def aua:Kn prog:=⟨208,(HU N).S true (mY N),Fx.u1 (HU N) aD func208 [8,14] (at7 N) (by rw[aiT];rfl)⟩
def aoR:Fx:=⟨6,tab,Kn.l [aua N],N,f181,[.v U],[.v I],[],none⟩
def aub:Kn prog:=⟨181,(aoR N).S true (aad N),Fx.u0 (aoR N) aD func181⟩
def tH:Fx:=⟨135,tab,Kn.l [aub N],N,f161,[.v U,.v U,.v U],[.v U,.v U],[⟨56,[(2,.v U),(8,.v U),(14,.v U),(15,.v U),(17,.v U),(18,.v U)],[1,1,1,1,1,1,1,1,1,1,1,1,1,1,1,1,1,1,1],[]⟩,⟨49,[(2,.v U),(8,.v U),(9,.v U),(10,.v U),(14,.v U),(15,.v U),(16,.v U),(17,.v U),(18,.v U)],[1,1,1,1,1,1,1,1,1,1,1,1,1,1,1,1,1,1,0,0,0],[]⟩,⟨42,[(2,.v U),(8,.v U),(9,.v U),(10,.v U),(11,.v U),(13,.v U),(14,.v U),(15,.v U)],[1,1,1,1,1,1,1,1,1,1,1,1,1,1,1],[]⟩,⟨35,[(2,.v U),(8,.v U),(9,.v U),(10,.v U),(11,.v U),(13,.v U),(14,.v U),(15,.v U),(16,.v U)],[1,1,1,1,1,1,1,1,1,1,1,1,1,1,0,0,0],[]⟩],none⟩
theorem abY(K ρ):(tH N).bd K ρ 56=dX.ahM N:=κ
theorem abZ(ρ):(tH N).kc ((tH N).ck ρ) 56=dX.j28 N:=Fx.uJ [] (abY N) ρ
theorem ab0(K ρ):(tH N).bd K ρ 49=dX.yE N ((tH N).kc K 56) ((tH N).kc ρ 49):=κ
theorem ab1(ρ):(tH N).kc ((tH N).ck ρ) 49=dX.xX N N:=Fx.uL [56] (ab0 N) ρ (dX.xX N) λn ρ' e d=>by rw[abZ,e];rfl
theorem ab2(K ρ):(tH N).bd K ρ 42=dX.ahL N ((tH N).kc K 49):=κ
theorem ab3(ρ):(tH N).kc ((tH N).ck ρ) 42=dX.j21 N:=Fx.uJ [49,56] (ab2 N) ρ (by rw[ab1];rfl)
theorem ab4(K ρ):(tH N).bd K ρ 35=dX.Ny N ((tH N).kc K 42) ((tH N).kc ρ 35):=κ
theorem ab5(ρ):(tH N).kc ((tH N).ck ρ) 35=dX.Nx N N:=Fx.uL [42,49,56] (ab4 N) ρ (dX.Nx N) λn ρ' e d=>by rw[ab3,e];rfl
theorem auc(K):(tH N).top K=dX.b N ((tH N).kc K 35):=κ
def aud:Kn prog:=⟨161,(tH N).S true (dX N),Fx.u1 (tH N) aD func161 [35,42,49,56] (auc N) (by rw[ab5];rfl)⟩
def RF:Fx:=⟨70,tab,Kn.l [at6 N,aud N,LM N,aoI N],N,f133,[.v eZ,.v I],[.v eZ,.v I,.v B],[⟨26,[(4,.obj eZ),(10,.v U),(11,.v U),(12,.v U)],[1,1,1,1,1,1,1,1],[]⟩],none⟩
theorem ab6(K ρ):(RF N).bd K ρ 26=uq.A5 N:=κ
theorem ab7(ρ):(RF N).kc ((RF N).ck ρ) 26=uq.KR N:=Fx.uJ [] (ab6 N) ρ
theorem aue(K):(RF N).top K=uq.b N ((RF N).kc K 26):=κ
def auf:Kn prog:=⟨133,(RF N).S true (uq N),Fx.u1 (RF N) aD func133 [26] (aue N) (by rw[ab7];rfl)⟩
def X49:Fx:=⟨14,tab,[],N,f49,[.v eZ],[.v I,.v B],[],none⟩
def k49:Kn prog:=⟨49,(X49 N).S true (F49 N),Fx.u0 (X49 N) aD func49⟩
def aoS:Fx:=⟨9,tab,[],N,f163,[.v LI],[.v LI],[],none⟩
def aug:Kn prog:=⟨163,(aoS N).S false (ahX N),Fx.u0 (aoS N) aD func163⟩
def yH:Fx:=⟨43,tab,Kn.l [YW N,aug N],N,f134,[.v LI],[.v LI],[⟨13,[(0,.v LI),(3,.own I),(4,.v I),(5,.v I),(10,.v I),(11,.v I)],[1,1,0,1,0,0,1,1,0,0,1,1,0,0,0],[7]⟩,⟨7,[(0,.v LI),(3,.own I),(10,.v I),(11,.v I)],[1,1,0,1,0,0],[]⟩],none⟩
theorem ab8(K ρ):(yH N).bd K ρ 13=iZ.vX N ((yH N).kc ρ 7) ((yH N).kc ρ 13):=κ
theorem ab9(ρ):(yH N).kc ((yH N).ck ρ) 13=iZ.l6 N ((yH N).kc ρ 7) N:=Fx.uL [] (ab8 N) ρ (iZ.l6 N ((yH N).kc ρ 7)) λn ρ' e d=>by rw[e,d 7 rfl];rfl
theorem aiU(K ρ):(yH N).bd K ρ 7=iZ.lD N ((yH N).kc K 13) ((yH N).kc ρ 7):=κ
theorem aiV(ρ):(yH N).kc ((yH N).ck ρ) 7=iZ.l3 N N:=Fx.uL [13] (aiU N) ρ (iZ.l3 N) λn ρ' e d=>by rw[ab9,e];rfl
theorem auh(K):(yH N).top K=iZ.b N ((yH N).kc K 7):=κ
def aui:Kn prog:=⟨134,(yH N).S false (iZ N),Fx.u1 (yH N) aD func134 [7] (auh N) (by rw[aiV];rfl)⟩
def Po:Fx:=⟨102,tab,Kn.l [at3 N,at5 N,k63 N,auf N,k49 N,aui N],N,f95,[.v I,.v LI],[.own I,.v I],[⟨43,[(8,.own I),(88,.v LI),(89,.v I),(90,.v I)],[1,1,1,1,1,1,1,1,0,1,0,0],[]⟩,⟨27,[(0,.v I),(6,.v I),(8,.own I),(9,.own I),(10,.v I),(50,.v LI),(51,.v I),(52,.v I)],[1,1,1,1,1,1,1,0,1,0,0],[]⟩,⟨16,[(0,.v I),(1,.v LI),(6,.v I)],[1,1,1,1],[]⟩],none⟩
theorem aiW(K ρ):(Po N).bd K ρ 43=qa.Bo N ((Po N).kc ρ 43):=κ
theorem aiX(ρ):(Po N).kc ((Po N).ck ρ) 43=qa.yF N N:=Fx.uL [] (aiW N) ρ (qa.yF N) λn ρ' e d=>by rw[e];rfl
theorem aiY(K ρ):(Po N).bd K ρ 27=qa.m5 N ((Po N).kc K 43) ((Po N).kc ρ 27):=κ
theorem aiZ(ρ):(Po N).kc ((Po N).ck ρ) 27=qa.oU N N:=Fx.uL [43] (aiY N) ρ (qa.oU N) λn ρ' e d=>by rw[aiX,e];rfl
theorem ai0(K ρ):(Po N).bd K ρ 16=qa.JC N ((Po N).kc K 27):=κ
theorem ai1(ρ):(Po N).kc ((Po N).ck ρ) 16=qa.j8 N:=Fx.uJ [27,43] (ai0 N) ρ (by rw[aiZ];rfl)
theorem h95(K):(Po N).top K=qa.b N ((Po N).kc K 16):=κ
def k95:Kn prog:=⟨95,(Po N).S false (qa N),Fx.u1 (Po N) aD func95 [16,27,43] (h95 N) (by rw[ai1];rfl)⟩
def X46:Fx:=⟨23,tab,Kn.l [abR N,k95 N],N,f46,[.v I,.v I],[.own I,.v I],[],none⟩
def k46:Kn prog:=⟨46,(X46 N).S false (F46 N),Fx.u0 (X46 N) aD func46⟩
def X60:Fx:=⟨54,tab,Kn.l [aov N,k59 N],N,f60,[.v aA,.v c8],[.v B],[⟨5,[(1,.v c8),(2,.obj aA),(7,.v c8),(8,.v I),(9,.v I)],[1,0,1,0,0],[]⟩],none⟩
theorem aoT(K ρ):(X60 N).bd K ρ 5=Ce.gm N ((X60 N).kc ρ 5):=κ
theorem aoU(ρ):(X60 N).kc ((X60 N).ck ρ) 5=Ce.l2 N N:=Fx.uL [] (aoT N) ρ (Ce.l2 N) λn ρ' e d=>by rw[e];rfl
theorem h60(K):(X60 N).top K=Ce.b N ((X60 N).kc K 5):=κ
def k60:Kn prog:=⟨60,(X60 N).S true (Ce N),Fx.u1 (X60 N) aD func60 [5] (h60 N) (by rw[aoU];rfl)⟩
def X98:Fx:=⟨5,tab,[],N,f98,[.v eD],[.v I],[],none⟩
def k98:Kn prog:=⟨98,(X98 N).S true (F98 N),Fx.u0 (X98 N) aD func98⟩
def X97:Fx:=⟨47,tab,Kn.l [k60 N,k45 N,k98 N,k63 N,aiB N],N,f97,[.v aA,.v c8,.fn 98 .unit],[.v eZ,.v I],[⟨11,[(2,.fn 98 .unit),(3,.obj aA),(6,.obj eZ),(8,.own eZ),(18,.v c8),(19,.v I),(20,.v I)],[1,1,1,0,1,0,0],[]⟩],none⟩
theorem ai2(K ρ):(X97 N).bd K ρ 11=Ek.e8 N ((X97 N).kc ρ 11):=κ
theorem ai3(ρ):(X97 N).kc ((X97 N).ck ρ) 11=Ek.l5 N N:=Fx.uL [] (ai2 N) ρ (Ek.l5 N) λn ρ' e d=>by rw[e];rfl
theorem h97(K):(X97 N).top K=Ek.b N ((X97 N).kc K 11):=κ
def k97:Kn prog:=⟨97,(X97 N).S true (Ek N),Fx.u1 (X97 N) aD func97 [11] (h97 N) (by rw[ai3];rfl)⟩
def X47:Fx:=⟨11,tab,Kn.l [k97 N],N,f47,[.v aA,.v c8],[.v eZ,.v I],[],none⟩
def k47:Kn prog:=⟨47,(X47 N).S true (F47 N),Fx.u0 (X47 N) aD func47⟩
def X99:Fx:=⟨52,tab,Kn.l [RA N],N,f99,[.v eZ,.v eZ],[.v eZ,.v B],[],none⟩
def k99:Kn prog:=⟨99,(X99 N).S true (F99 N),Fx.u0 (X99 N) aD func99⟩
def X48:Fx:=⟨9,tab,Kn.l [k99 N],N,f48,[.v eZ],[.v eZ,.v B],[],none⟩
def k48:Kn prog:=⟨48,(X48 N).S true (F48 N),Fx.u0 (X48 N) aD func48⟩
def pN:Fx:=⟨169,tab,Kn.l [k42 N,k43 N,k45 N,k27 N,k44 N,k26 N,k46 N,k47 N,k48 N,k49 N],N,f13,[.v aA,.v aL,.v I],[.own fZ,.v I],[⟨58,[(2,.v I),(3,.obj aA),(8,.own hZ),(9,.own fZ),(15,.eU hZ),(17,.obj hZ),(20,.v I),(21,.v I),(46,.v I),(84,.own hZ),(85,.v I),(86,.v I),(100,.own I),(101,.v I),(102,.v I)],[1,1,1,1,1,0,1,0,0,1,1,0,0,1,1,1,1,1,0,1,0,0,1,1,0,0,1,1,1,0,0,1,1,0,0,1,1],[17,43,51]⟩,⟨51,[(2,.v I),(3,.obj aA),(8,.own hZ),(9,.own fZ),(15,.eU hZ),(17,.obj hZ),(46,.v I),(84,.own hZ),(85,.v I),(86,.v I),(100,.own I),(101,.v I),(102,.v I)],[1,1,1,1,1,0,1,0,0,1,1,0,0,1,1,1,1,1,0,1,0,0,1,1,0,0,1,1,1,0,0],[17,43]⟩,⟨69,[(2,.v I),(3,.obj aA),(8,.own hZ),(9,.own fZ),(46,.v I),(129,.v (.slice c8)),(130,.v I),(131,.v I)],[1,1,1,1,1,0,1,0,0,1,1,0,0,1,1,1,1,1,1,1,0,0],[17]⟩,⟨43,[(2,.v I),(3,.obj aA),(8,.own hZ),(9,.own fZ),(15,.eU hZ),(46,.v I),(84,.own hZ),(85,.v I),(86,.v I)],[1,1,1,1,1,0,1,0,0,1,1,0,0,1,1,1,1,1,0,1,0,0],[17]⟩,⟨27,[(2,.v I),(3,.obj aA),(8,.own hZ),(9,.own fZ),(10,.v I),(11,.own hZ),(12,.obj eZ),(46,.v I),(49,.same 8),(50,.v I),(51,.v I)],[1,1,1,1,1,0,1,0,0,1,1,0,0,1,1,1,0,1,0,0],[17]⟩,⟨17,[(2,.v I),(3,.obj aA),(8,.own hZ),(9,.own fZ),(46,.v I)],[1,1,1,1,1,0,1,0,0],[]⟩],some (.unit,[],.unit,[1000002,3000083,4000129])⟩
theorem ai4(K ρ):(pN N).bd K ρ 58=dN.Ep N ((pN N).kc ρ 17) ((pN N).kc ρ 43) ((pN N).kc ρ 51):=κ
theorem ai5(ρ):(pN N).kc ((pN N).ck ρ) 58=dN.L1 N ((pN N).kc ρ 17) ((pN N).kc ρ 43) ((pN N).kc ρ 51):=Fx.uJ [69] (ai4 N) ρ
theorem ai6(K ρ):(pN N).bd K ρ 51=dN.aba N ((pN N).kc K 58) ((pN N).kc ρ 17) ((pN N).kc ρ 43) ((pN N).kc ρ 51):=κ
theorem ai7(ρ):(pN N).kc ((pN N).ck ρ) 51=dN.Zg N ((pN N).kc ρ 17) ((pN N).kc ρ 43) N:=Fx.uL [69,58] (ai6 N) ρ (dN.Zg N ((pN N).kc ρ 17) ((pN N).kc ρ 43)) λn ρ' e d=>by rw[ai5,e,d 17 rfl,d 43 rfl];rfl
theorem ai8(K ρ):(pN N).bd K ρ 69=dN.abt N ((pN N).kc ρ 17) ((pN N).kc ρ 69):=κ
theorem ai9(ρ):(pN N).kc ((pN N).ck ρ) 69=dN.Zh N ((pN N).kc ρ 17) N:=Fx.uL [] (ai8 N) ρ (dN.Zh N ((pN N).kc ρ 17)) λn ρ' e d=>by rw[e,d 17 rfl];rfl
theorem aja(K ρ):(pN N).bd K ρ 43=dN.Bo N ((pN N).kc K 51) ((pN N).kc K 69) ((pN N).kc ρ 17) ((pN N).kc ρ 43):=κ
theorem ajb(ρ):(pN N).kc ((pN N).ck ρ) 43=dN.yF N ((pN N).kc ρ 17) N:=Fx.uL [69,51] (aja N) ρ (dN.yF N ((pN N).kc ρ 17)) λn ρ' e d=>by rw[ai7,ai9,e,d 17 rfl];rfl
theorem ajc(K ρ):(pN N).bd K ρ 27=dN.m5 N ((pN N).kc K 43) ((pN N).kc ρ 17) ((pN N).kc ρ 27):=κ
theorem ajd(ρ):(pN N).kc ((pN N).ck ρ) 27=dN.oU N ((pN N).kc ρ 17) N:=Fx.uL [43,69] (ajc N) ρ (dN.oU N ((pN N).kc ρ 17)) λn ρ' e d=>by rw[ajb,e,d 17 rfl];rfl
theorem aje(K ρ):(pN N).bd K ρ 17=dN.zo N ((pN N).kc K 27) ((pN N).kc ρ 17):=κ
theorem ajf(ρ):(pN N).kc ((pN N).ck ρ) 17=dN.l8 N N:=Fx.uL [27,43,69] (aje N) ρ (dN.l8 N) λn ρ' e d=>by rw[ajd,e];rfl
theorem h13(K):(pN N).top K=dN.b N ((pN N).kc K 17):=κ
def k13:Kn prog:=⟨13,(pN N).S false (dN N),Fx.u1 (pN N) aD func13 [17] (h13 N) (by rw[ajf];rfl)⟩
def X24:Fx:=⟨25,tab,[],N,f24,[.v iC,.v I],[.v fZ,.v B],[⟨5,[(1,.v I),(4,.obj fZ),(8,.v iC),(9,.v I),(10,.v I)],[1,0,1,0,0],[]⟩],none⟩
theorem aoV(K ρ):(X24 N).bd K ρ 5=DJ.gm N ((X24 N).kc ρ 5):=κ
theorem aoW(ρ):(X24 N).kc ((X24 N).ck ρ) 5=DJ.l2 N N:=Fx.uL [] (aoV N) ρ (DJ.l2 N) λn ρ' e d=>by rw[e];rfl
theorem h24(K):(X24 N).top K=DJ.b N ((X24 N).kc K 5):=κ
def k24:Kn prog:=⟨24,(X24 N).S false (DJ N),Fx.u1 (X24 N) aD func24 [5] (h24 N) (by rw[aoW];rfl)⟩
def X25:Fx:=⟨26,tab,[],N,f25,[.v c8,.v c8],[.v B],[⟨9,[(0,.v c8),(1,.v c8),(5,.v I)],[1,1,0,1,0,0],[]⟩],none⟩
theorem aoX(K ρ):(X25 N).bd K ρ 9=zF.ew N ((X25 N).kc ρ 9):=κ
theorem aoY(ρ):(X25 N).kc ((X25 N).ck ρ) 9=zF.l4 N N:=Fx.uL [] (aoX N) ρ (zF.l4 N) λn ρ' e d=>by rw[e];rfl
theorem h25(K):(X25 N).top K=zF.b N ((X25 N).kc K 9):=κ
def k25:Kn prog:=⟨25,(X25 N).S true (zF N),Fx.u1 (X25 N) aD func25 [9] (h25 N) (by rw[aoY];rfl)⟩
def Te:Fx:=⟨97,tab,Kn.l [k59 N,k60 N],N,f22,[.v aA,.v iC],[.v B],[⟨16,[(1,.v iC),(2,.obj aA),(6,.obj fZ),(15,.v iC),(16,.v I),(17,.v I)],[1,1,0,1,0,0,1,1,0,0,1,1],[9]⟩,⟨9,[(1,.v iC),(2,.obj aA),(15,.v iC),(16,.v I),(17,.v I)],[1,1,0,1,0,0],[]⟩],none⟩
theorem ajg(K ρ):(Te N).bd K ρ 16=uR.JC N ((Te N).kc ρ 9):=κ
theorem ajh(ρ):(Te N).kc ((Te N).ck ρ) 16=uR.j8 N ((Te N).kc ρ 9):=Fx.uJ [] (ajg N) ρ
theorem aoZ(K ρ):(Te N).bd K ρ 9=uR.ew N ((Te N).kc K 16) ((Te N).kc ρ 9):=κ
theorem ao0(ρ):(Te N).kc ((Te N).ck ρ) 9=uR.l4 N N:=Fx.uL [16] (aoZ N) ρ (uR.l4 N) λn ρ' e d=>by rw[ajh,e];rfl
theorem h22(K):(Te N).top K=uR.b N ((Te N).kc K 9):=κ
def k22:Kn prog:=⟨22,(Te N).S true (uR N),Fx.u1 (Te N) aD func22 [9] (h22 N) (by rw[ao0];rfl)⟩
def X7:Fx:=⟨106,tab,Kn.l [k23 N,k13 N,k24 N,k25 N,k22 N,k27 N,k26 N],N,f7,[],[.v B],[],none⟩
theorem aBT:p8 prog (X7 N).E:=Fx.Np (X7 N) aD (Kn.all _) κ
theorem aBU: ∀x,Kk (X7 N).E (X7 N).fn (X7 N).args (X7 N).res x=ID (X7 N).args (F7 N) x:=Fx.Z6 κ
def k7:Kn prog:=⟨7,(X7 N).S true (F7 N),Fx.u0 (X7 N) aD func7⟩
def X9:Fx:=⟨6,tab,[],N,f9,[.v LU],[.ptr fB],[],none⟩
def k9:Kn prog:=⟨9,(X9 N).S false (F9 N),Fx.u0 (X9 N) aD func9⟩
def X66:Fx:=⟨32,tab,[],N,f66,[.io fB],[.v U,.io fB],[],none⟩
def k66:Kn prog:=⟨66,(X66 N).S false (F66 N),Fx.u0 (X66 N) aD func66⟩
def X31:Fx:=⟨11,tab,Kn.l [k66 N],N,f31,[.io fB,.v I],[.v I,.io fB],[],none⟩
def k31:Kn prog:=⟨31,(X31 N).S false (tD N),Fx.u0 (X31 N) aD func31⟩
def X32:Fx:=⟨11,tab,Kn.l [k31 N],N,f32,[.io fB,.v I],[.v B,.io fB],[],none⟩
def k32:Kn prog:=⟨32,(X32 N).S false (Zf N),Fx.u0 (X32 N) aD func32⟩
def X33:Fx:=⟨29,tab,Kn.l [k66 N],N,f33,[.io fB],[.v I,.io fB],[],none⟩
def k33:Kn prog:=⟨33,(X33 N).S false (L0 N),Fx.u0 (X33 N) aD func33⟩
def Tf:Fx:=⟨71,tab,Kn.l [k31 N,k32 N,k33 N],N,f10,[.io fB],[.v aA,.io fB],[⟨16,[(0,.io fB),(2,.obj aA),(3,.fv aA [.gr 0] eD),(4,.v I),(5,.obj eD)],[1,1,0,1,0,0,1,0,0,1,1],[7]⟩,⟨7,[(0,.io fB),(2,.obj aA),(3,.fv aA [.gr 0] eD),(4,.v I)],[1,1,0,1,0,0],[]⟩],some (aA,[.gr 0],eD,[3])⟩
theorem aji(K ρ):(Tf N).bd K ρ 16=vK.JC N ((Tf N).kc ρ 7):=κ
theorem ajj(ρ):(Tf N).kc ((Tf N).ck ρ) 16=vK.j8 N ((Tf N).kc ρ 7):=Fx.uJ [] (aji N) ρ
theorem ao2(K ρ):(Tf N).bd K ρ 7=vK.lD N ((Tf N).kc K 16) ((Tf N).kc ρ 7):=κ
theorem ao3(ρ):(Tf N).kc ((Tf N).ck ρ) 7=vK.l3 N N:=Fx.uL [16] (ao2 N) ρ (vK.l3 N) λn ρ' e d=>by rw[ajj,e];rfl
theorem h10(K):(Tf N).top K=vK.b N ((Tf N).kc K 7):=κ
def Rc:Kn prog:=⟨10,(Tf N).S false (vK N),Fx.u1 (Tf N) aD func10 [7] (h10 N) (by rw[ao3];rfl)⟩
def Mb:Fx:=⟨62,tab,Kn.l [k32 N,k31 N],N,f67,[.io fB,.v aA],[.own pE,.io fB],[⟨27,[(0,.io fB),(5,.own pE),(8,.v I)],[1,1,1,1,0,1,0,0],[]⟩,⟨19,[(0,.io fB),(5,.own pE),(7,.v I)],[1,1,1,0,1,0,0],[]⟩,⟨7,[(0,.io fB),(5,.own pE),(6,.v I)],[1,1,0,1,0,0],[]⟩],none⟩
theorem ajk(K ρ):(Mb N).bd K ρ 27=pF.m5 N ((Mb N).kc ρ 27):=κ
theorem ajl(ρ):(Mb N).kc ((Mb N).ck ρ) 27=pF.oU N N:=Fx.uL [] (ajk N) ρ (pF.oU N) λn ρ' e d=>by rw[e];rfl
theorem ajm(K ρ):(Mb N).bd K ρ 19=pF.zA N ((Mb N).kc K 27) ((Mb N).kc ρ 19):=κ
theorem ajn(ρ):(Mb N).kc ((Mb N).ck ρ) 19=pF.l9 N N:=Fx.uL [27] (ajm N) ρ (pF.l9 N) λn ρ' e d=>by rw[ajl,e];rfl
theorem ao4(K ρ):(Mb N).bd K ρ 7=pF.lD N ((Mb N).kc K 19) ((Mb N).kc ρ 7):=κ
theorem ao5(ρ):(Mb N).kc ((Mb N).ck ρ) 7=pF.l3 N N:=Fx.uL [19,27] (ao4 N) ρ (pF.l3 N) λn ρ' e d=>by rw[ajn,e];rfl
theorem h67(K):(Mb N).top K=pF.b N ((Mb N).kc K 7):=κ
def k67:Kn prog:=⟨67,(Mb N).S false (pF N),Fx.u1 (Mb N) aD func67 [7,19,27] (h67 N) (by rw[ao5];rfl)⟩
def X69:Fx:=⟨30,tab,Kn.l [k31 N,k32 N,k33 N],N,f69,[.io fB,.v aA,.v I],[.v pE,.io fB],[],none⟩
def k69:Kn prog:=⟨69,(X69 N).S false (F69 N),Fx.u0 (X69 N) aD func69⟩
def X70:Fx:=⟨48,tab,Kn.l [k31 N,k32 N,k33 N],N,f70,[.io fB,.v aA],[.v pE,.io fB],[],none⟩
def k70:Kn prog:=⟨70,(X70 N).S false (F70 N),Fx.u0 (X70 N) aD func70⟩
def X68:Fx:=⟨133,tab,Kn.l [k31 N,k33 N,k69 N,k70 N],N,f68,[.io fB,.v aA],[.v pE,.io fB],[],none⟩
def k68:Kn prog:=⟨68,(X68 N).S false (F68 N),Fx.u0 (X68 N) aD func68⟩
def X34:Fx:=⟨50,tab,Kn.l [k67 N,k31 N,k68 N,k69 N,k70 N],N,f34,[.io fB,.v aA,.v I],[.own pE,.io fB],[⟨7,[(0,.io fB),(4,.obj aA),(7,.own pE),(8,.v I)],[1,1,0,1,0,0],[]⟩],none⟩
theorem ao6(K ρ):(X34 N).bd K ρ 7=E0.lD N ((X34 N).kc ρ 7):=κ
theorem ao7(ρ):(X34 N).kc ((X34 N).ck ρ) 7=E0.l3 N N:=Fx.uL [] (ao6 N) ρ (E0.l3 N) λn ρ' e d=>by rw[e];rfl
theorem h34(K):(X34 N).top K=E0.b N ((X34 N).kc K 7):=κ
def k34:Kn prog:=⟨34,(X34 N).S false (E0 N),Fx.u1 (X34 N) aD func34 [7] (h34 N) (by rw[ao7];rfl)⟩
def X35:Fx:=⟨33,tab,Kn.l [k31 N,k32 N,k69 N,k68 N],N,f35,[.io fB,.v aA],[.own pE,.io fB],[⟨7,[(0,.io fB),(3,.obj aA),(5,.own pE),(6,.v I)],[1,1,0,1,0,0],[]⟩],none⟩
theorem ao8(K ρ):(X35 N).bd K ρ 7=Em.lD N ((X35 N).kc ρ 7):=κ
theorem ao9(ρ):(X35 N).kc ((X35 N).ck ρ) 7=Em.l3 N N:=Fx.uL [] (ao8 N) ρ (Em.l3 N) λn ρ' e d=>by rw[e];rfl
theorem h35(K):(X35 N).top K=Em.b N ((X35 N).kc K 7):=κ
def k35:Kn prog:=⟨35,(X35 N).S false (Em N),Fx.u1 (X35 N) aD func35 [7] (h35 N) (by rw[ao9];rfl)⟩
def apa:Fx:=⟨15,tab,[],N,f105,[.v I,.v I,.v I],[.v B],[],none⟩
def auk:Kn prog:=⟨105,(apa N).S true (IG N),Fx.u0 (apa N) aD func105⟩
def X64:Fx:=⟨77,tab,Kn.l [auk N],N,f64,[.v aA],[.v B],[⟨9,[(1,.obj aA),(3,.v I)],[1,1,0,1,0,0],[]⟩],none⟩
theorem apb(K ρ):(X64 N).bd K ρ 9=zm.ew N ((X64 N).kc ρ 9):=κ
theorem apc(ρ):(X64 N).kc ((X64 N).ck ρ) 9=zm.l4 N N:=Fx.uL [] (apb N) ρ (zm.l4 N) λn ρ' e d=>by rw[e];rfl
theorem sE(K):(X64 N).top K=zm.b N ((X64 N).kc K 9):=κ
def k64:Kn prog:=⟨64,(X64 N).S true (zm N),Fx.u1 (X64 N) aD func64 [9] (sE N) (by rw[apc];rfl)⟩
def Ev:Fx:=⟨41,tab,Kn.l [k64 N],N,f106,[.v aA],[.v aL,.v I],[⟨15,[(1,.obj aA),(2,.obj aL),(4,.fv aL [.gr 4] I),(5,.v I)],[1,1,1,1,0,1,0,0],[]⟩,⟨12,[(1,.obj aA),(2,.obj aL),(4,.fv aL [.gr 4] I)],[1,1,1,1],[]⟩],some (aL,[.gr 4],I,[4])⟩
theorem acb(K ρ):(Ev N).bd K ρ 15=iy.rL N ((Ev N).kc ρ 15):=κ
theorem acd(ρ):(Ev N).kc ((Ev N).ck ρ) 15=iy.l7 N N:=Fx.uL [] (acb N) ρ (iy.l7 N) λn ρ' e d=>by rw[e];rfl
theorem ace(K ρ):(Ev N).bd K ρ 12=iy.T7 N ((Ev N).kc K 15):=κ
theorem acf(ρ):(Ev N).kc ((Ev N).ck ρ) 12=iy.j6 N:=Fx.uJ [15] (ace N) ρ (by rw[acd];rfl)
theorem aul(K):(Ev N).top K=iy.b N ((Ev N).kc K 12):=κ
def aum:Kn prog:=⟨106,(Ev N).S false (iy N),Fx.u1 (Ev N) aD func106 [12,15] (aul N) (by rw[acf];rfl)⟩
def X71:Fx:=⟨17,tab,Kn.l [aum N],N,f71,[.v aA],[.v dY,.v I],[],none⟩
def k71:Kn prog:=⟨71,(X71 N).S false (F71 N),Fx.u0 (X71 N) aD func71⟩
def apd:Fx:=⟨9,tab,[],N,f137,[.v I],[.v B],[],none⟩
def aun:Kn prog:=⟨137,(apd N).S true (aia N),Fx.u0 (apd N) aD func137⟩
def ape:Fx:=⟨32,tab,[],N,f138,[.v I],[.v Z],[],none⟩
def auo:Kn prog:=⟨138,(ape N).S true (aaY N),Fx.u0 (ape N) aD func138⟩
def apf:Fx:=⟨12,tab,[],N,f165,[.v I],[.v I,.v I],[],none⟩
def aup:Kn prog:=⟨165,(apf N).S true (ah8 N),Fx.u0 (apf N) aD func165⟩
def apg:Fx:=⟨6,tab,[],N,f166,[.v I],[.v I,.v I],[],none⟩
def auq:Kn prog:=⟨166,(apg N).S true (ah9 N),Fx.u0 (apg N) aD func166⟩
def aph:Fx:=⟨27,tab,Kn.l [aup N,auq N],N,f139,[.v I,.v (.int .u8)],[.v I,.v I],[],none⟩
def aur:Kn prog:=⟨139,(aph N).S true (aaZ N),Fx.u0 (aph N) aD func139⟩
def api:Fx:=⟨32,tab,[],N,f140,[.v pE,.v (.int .u8)],[.v I],[],none⟩
def aus:Kn prog:=⟨140,(api N).S true (aa0 N),Fx.u0 (api N) aD func140⟩
def apj:Fx:=⟨35,tab,[],N,f141,[.v pE,.v (.int .u8),.v I],[.v pE],[],none⟩
def aut:Kn prog:=⟨141,(apj N).S true (aa1 N),Fx.u0 (apj N) aD func141⟩
def Pp:Fx:=⟨56,tab,Kn.l [aun N,auo N,aur N,aus N,aut N],N,f107,[.v pE],[.v B],[⟨13,[(1,.obj pE),(3,.v Z),(4,.obj pE),(5,.v I)],[1,1,1,1,0,1,0,0],[]⟩],none⟩
theorem acg(K ρ):(Pp N).bd K ρ 13=se.vX N ((Pp N).kc ρ 13):=κ
theorem ach(ρ):(Pp N).kc ((Pp N).ck ρ) 13=se.l6 N N:=Fx.uL [] (acg N) ρ (se.l6 N) λn ρ' e d=>by rw[e];rfl
theorem auu(K):(Pp N).top K=se.b N ((Pp N).kc K 13):=κ
def auv:Kn prog:=⟨107,(Pp N).S true (se N),Fx.u1 (Pp N) aD func107 [13] (auu N) (by rw[ach];rfl)⟩
def Pq:Fx:=⟨58,tab,[],N,f109,[.v c8],[.v B],[⟨5,[(0,.v c8),(3,.v I)],[1,0,1,0,0],[]⟩],none⟩
theorem ajp(K ρ):(Pq N).bd K ρ 5=nY.gm N ((Pq N).kc ρ 5):=κ
theorem ajq(ρ):(Pq N).kc ((Pq N).ck ρ) 5=nY.l2 N N:=Fx.uL [] (ajp N) ρ (nY.l2 N) λn ρ' e d=>by rw[e];rfl
theorem auw(K):(Pq N).top K=nY.b N ((Pq N).kc K 5):=κ
def aci:Kn prog:=⟨109,(Pq N).S true (nY N),Fx.u1 (Pq N) aD func109 [5] (auw N) (by rw[ajq];rfl)⟩
def Pr:Fx:=⟨24,tab,[],N,f111,[.v c8,.v I],[.v I],[⟨5,[(0,.v c8),(1,.v I),(5,.v I)],[1,0,1,0,0],[]⟩],none⟩
theorem ajr(K ρ):(Pr N).bd K ρ 5=m0.gm N ((Pr N).kc ρ 5):=κ
theorem ajs(ρ):(Pr N).kc ((Pr N).ck ρ) 5=m0.l2 N N:=Fx.uL [] (ajr N) ρ (m0.l2 N) λn ρ' e d=>by rw[e];rfl
theorem auy(K):(Pr N).top K=m0.b N ((Pr N).kc K 5):=κ
def Vk:Kn prog:=⟨111,(Pr N).S true (m0 N),Fx.u1 (Pr N) aD func111 [5] (auy N) (by rw[ajs];rfl)⟩
def Ew:Fx:=⟨53,tab,Kn.l [aci N,Vk N],N,f142,[.v c8,.v I],[.own hZ,.v I],[⟨18,[(0,.v c8),(1,.v I),(6,.own hZ),(7,.v I)],[1,1,1,1,1,1],[]⟩,⟨15,[(0,.v c8),(1,.v I),(6,.own hZ),(7,.v I)],[1,1,1,1,1,0,0,0],[]⟩],none⟩
theorem acj(K ρ):(Ew N).bd K ρ 18=iw.NL N:=κ
theorem ack(ρ):(Ew N).kc ((Ew N).ck ρ) 18=iw.j9 N:=Fx.uJ [] (acj N) ρ
theorem acm(K ρ):(Ew N).bd K ρ 15=iw.rL N ((Ew N).kc K 18) ((Ew N).kc ρ 15):=κ
theorem acn(ρ):(Ew N).kc ((Ew N).ck ρ) 15=iw.l7 N N:=Fx.uL [18] (acm N) ρ (iw.l7 N) λn ρ' e d=>by rw[ack,e];rfl
theorem auz(K):(Ew N).top K=iw.b N ((Ew N).kc K 15):=κ
def auA:Kn prog:=⟨142,(Ew N).S false (iw N),Fx.u1 (Ew N) aD func142 [15,18] (auz N) (by rw[acn];rfl)⟩
def apk:Fx:=⟨5,tab,[],N,f143,[.v I],[.v oB],[],none⟩
def aco:Kn prog:=⟨143,(apk N).S true (fp N),Fx.u0 (apk N) aD func143⟩
def sI:Fx:=⟨95,tab,[],N,f110,[.v fO],[.v B],[⟨17,[(0,.v fO),(3,.v I),(4,.obj eD),(5,.v I)],[1,0,1,0,0,1,0,0,1,1,1,0,0],[5]⟩,⟨14,[(0,.v fO),(3,.v I),(4,.obj eD)],[1,0,1,0,0,1,0,0,1,1],[5]⟩,⟨5,[(0,.v fO),(3,.v I)],[1,0,1,0,0],[]⟩],none⟩
theorem acp(K ρ):(sI N).bd K ρ 17=eC.zo N ((sI N).kc ρ 5) ((sI N).kc ρ 17):=κ
theorem acq(ρ):(sI N).kc ((sI N).ck ρ) 17=eC.l8 N ((sI N).kc ρ 5) N:=Fx.uL [] (acp N) ρ (eC.l8 N ((sI N).kc ρ 5)) λn ρ' e d=>by rw[e,d 5 rfl];rfl
theorem acr(K ρ):(sI N).bd K ρ 14=eC.Qc N ((sI N).kc K 17) ((sI N).kc ρ 5):=κ
theorem acs(ρ):(sI N).kc ((sI N).ck ρ) 14=eC.j7 N ((sI N).kc ρ 5):=Fx.uJ [17] (acr N) ρ (by rw[acq];rfl)
theorem ajt(K ρ):(sI N).bd K ρ 5=eC.gm N ((sI N).kc K 14) ((sI N).kc ρ 5):=κ
theorem aju(ρ):(sI N).kc ((sI N).ck ρ) 5=eC.l2 N N:=Fx.uL [14,17] (ajt N) ρ (eC.l2 N) λn ρ' e d=>by rw[acs,e];rfl
theorem auB(K):(sI N).top K=eC.b N ((sI N).kc K 5):=κ
def Vl:Kn prog:=⟨110,(sI N).S true (eC N),Fx.u1 (sI N) aD func110 [5] (auB N) (by rw[aju];rfl)⟩
def X73:Fx:=⟨28,tab,Kn.l [aci N,Vl N,Vk N],N,f73,[.v c8,.v fO],[.v B],[⟨9,[(0,.v c8),(1,.v fO),(5,.v I)],[1,1,0,1,0,0],[]⟩],none⟩
theorem apl(K ρ):(X73 N).bd K ρ 9=Cd.ew N ((X73 N).kc ρ 9):=κ
theorem apm(ρ):(X73 N).kc ((X73 N).ck ρ) 9=Cd.l4 N N:=Fx.uL [] (apl N) ρ (Cd.l4 N) λn ρ' e d=>by rw[e];rfl
theorem h73(K):(X73 N).top K=Cd.b N ((X73 N).kc K 9):=κ
def k73:Kn prog:=⟨73,(X73 N).S true (Cd N),Fx.u1 (X73 N) aD func73 [9] (h73 N) (by rw[apm];rfl)⟩
def Ps:Fx:=⟨25,tab,[],N,f157,[.v fO,.v I],[.v eD,.v B],[⟨5,[(0,.v fO),(1,.v I),(4,.obj eD),(6,.v I)],[1,0,1,0,0],[]⟩],none⟩
theorem ajv(K ρ):(Ps N).bd K ρ 5=nZ.gm N ((Ps N).kc ρ 5):=κ
theorem ajw(ρ):(Ps N).kc ((Ps N).ck ρ) 5=nZ.l2 N N:=Fx.uL [] (ajv N) ρ (nZ.l2 N) λn ρ' e d=>by rw[e];rfl
theorem auD(K):(Ps N).top K=nZ.b N ((Ps N).kc K 5):=κ
def acu:Kn prog:=⟨157,(Ps N).S true (nZ N),Fx.u1 (Ps N) aD func157 [5] (auD N) (by rw[ajw];rfl)⟩
def Pu:Fx:=⟨35,tab,Kn.l [Vl N],N,f167,[.v fO,.v I],[.v I],[⟨9,[(0,.v fO),(1,.v I),(5,.v I)],[1,1,0,1,0,0],[]⟩],none⟩
theorem ajx(K ρ):(Pu N).bd K ρ 9=mG.ew N ((Pu N).kc ρ 9):=κ
theorem ajy(ρ):(Pu N).kc ((Pu N).ck ρ) 9=mG.l4 N N:=Fx.uL [] (ajx N) ρ (mG.l4 N) λn ρ' e d=>by rw[e];rfl
theorem auE(K):(Pu N).top K=mG.b N ((Pu N).kc K 9):=κ
def YX:Kn prog:=⟨167,(Pu N).S true (mG N),Fx.u1 (Pu N) aD func167 [9] (auE N) (by rw[ajy];rfl)⟩
def yI:Fx:=⟨81,tab,Kn.l [k73 N,Vl N,Vk N,acu N,YX N],N,f144,[.v c8,.v fO,.v eD],[.own eD,.v I],[⟨30,[(1,.v fO),(5,.obj eD),(11,.own eD),(12,.v I)],[1,1,1,1,1,1,1,1,1],[]⟩,⟨27,[(1,.v fO),(5,.obj eD),(11,.own eD),(12,.v I)],[1,1,1,1,1,1,1,1,0,0,0],[]⟩,⟨22,[(1,.v fO),(5,.obj eD)],[1,1,1,1,1,1],[]⟩],none⟩
theorem acv(K ρ):(yI N).bd K ρ 30=fc.wo N:=κ
theorem acw(ρ):(yI N).kc ((yI N).ck ρ) 30=fc.Cp N:=Fx.uJ [] (acv N) ρ
theorem acx(K ρ):(yI N).bd K ρ 27=fc.m5 N ((yI N).kc K 30) ((yI N).kc ρ 27):=κ
theorem acy(ρ):(yI N).kc ((yI N).ck ρ) 27=fc.oU N N:=Fx.uL [30] (acx N) ρ (fc.oU N) λn ρ' e d=>by rw[acw,e];rfl
theorem acz(K ρ):(yI N).bd K ρ 22=fc.Cs N ((yI N).kc K 27):=κ
theorem acA(ρ):(yI N).kc ((yI N).ck ρ) 22=fc.JW N:=Fx.uJ [27,30] (acz N) ρ (by rw[acy];rfl)
theorem auF(K):(yI N).top K=fc.b N ((yI N).kc K 22):=κ
def auG:Kn prog:=⟨144,(yI N).S false (fc N),Fx.u1 (yI N) aD func144 [22,27,30] (auF N) (by rw[acA];rfl)⟩
def apn:Fx:=⟨15,tab,Kn.l [Vl N,acu N],N,f115,[.v fO,.v I],[.v eD,.v B],[],none⟩
def RG:Kn prog:=⟨115,(apn N).S true (Ee N),Fx.u0 (apn N) aD func115⟩
def apo:Fx:=⟨16,tab,Kn.l [RG N],N,f145,[.v dY,.v I],[.v B],[],none⟩
def auH:Kn prog:=⟨145,(apo N).S true (Re N),Fx.u0 (apo N) aD func145⟩
def Pv:Fx:=⟨22,tab,[],N,f100,[.v LU],[.v LU],[⟨5,[(0,.v LU),(3,.v I)],[1,1,0,0,0],[]⟩],none⟩
theorem ajz(K ρ):(Pv N).bd K ρ 5=om.gm N ((Pv N).kc ρ 5):=κ
theorem ajA(ρ):(Pv N).kc ((Pv N).ck ρ) 5=om.l2 N N:=Fx.uL [] (ajz N) ρ (om.l2 N) λn ρ' e d=>by rw[e];rfl
theorem auI(K):(Pv N).top K=om.b N ((Pv N).kc K 5):=κ
def ajB:Kn prog:=⟨100,(Pv N).S false (om N),Fx.u1 (Pv N) aD func100 [5] (auI N) (by rw[ajA];rfl)⟩
def X55:Fx:=⟨9,tab,Kn.l [ajB N],N,f55,[.v U],[.v LU],[],none⟩
def k55:Kn prog:=⟨55,(X55 N).S false (F55 N),Fx.u0 (X55 N) aD func55⟩
def X51:Fx:=⟨15,tab,Kn.l [ajB N],N,f51,[.v B,.v LU],[.v cP],[],none⟩
def k51:Kn prog:=⟨51,(X51 N).S false (WW N),Fx.u0 (X51 N) aD func51⟩
def X17:Fx:=⟨15,tab,Kn.l [k55 N,k51 N],N,f17,[.v I],[.v cP],[],none⟩
def zH:Kn prog:=⟨17,(X17 N).S false (kF N),Fx.u0 (X17 N) aD func17⟩
def X21:Fx:=⟨9,tab,Kn.l [k51 N],N,f21,[.v cP],[.v cP],[],none⟩
def k21:Kn prog:=⟨21,(X21 N).S false (Vt N),Fx.u0 (X21 N) aD func21⟩
def apr:Fx:=⟨21,tab,Kn.l [k21 N],N,f169,[.v I,.v I,.v I,.v I,.v cP],[.own su],[],none⟩
def YY:Kn prog:=⟨169,(apr N).S false (Cu N),Fx.u0 (apr N) aD func169⟩
def X56:Fx:=⟨13,tab,[],N,f56,[.v LU,.v I],[.v U],[],none⟩
def k56:Kn prog:=⟨56,(X56 N).S true (F56 N),Fx.u0 (X56 N) aD func56⟩
def Tg:Fx:=⟨41,tab,Kn.l [k56 N],N,f52,[.v LU,.v LU],[.own U],[⟨12,[(0,.v LU),(1,.v LU),(5,.own U),(6,.v U),(7,.v I)],[1,1,1,0,1,0,0,1],[9]⟩,⟨9,[(0,.v LU),(1,.v LU),(5,.own U),(6,.v U),(7,.v I)],[1,1,1,0,1,0,0],[]⟩],none⟩
theorem ajD(K ρ):(Tg N).bd K ρ 12=vW.T7 N ((Tg N).kc ρ 9):=κ
theorem ajE(ρ):(Tg N).kc ((Tg N).ck ρ) 12=vW.j6 N ((Tg N).kc ρ 9):=Fx.uJ [] (ajD N) ρ
theorem aps(K ρ):(Tg N).bd K ρ 9=vW.ew N ((Tg N).kc K 12) ((Tg N).kc ρ 9):=κ
theorem apt(ρ):(Tg N).kc ((Tg N).ck ρ) 9=vW.l4 N N:=Fx.uL [12] (aps N) ρ (vW.l4 N) λn ρ' e d=>by rw[ajE,e];rfl
theorem h52(K):(Tg N).top K=vW.b N ((Tg N).kc K 9):=κ
def k52:Kn prog:=⟨52,(Tg N).S false (vW N),Fx.u1 (Tg N) aD func52 [9] (h52 N) (by rw[apt];rfl)⟩
def X53:Fx:=⟨41,tab,[],N,f53,[.v LU,.v LU],[.v I],[⟨13,[(0,.v LU),(1,.v LU),(5,.v I)],[1,1,0,1,0,0],[]⟩],none⟩
theorem ajF(K ρ):(X53 N).bd K ρ 13=Eb.vX N ((X53 N).kc ρ 13):=κ
theorem ajG(ρ):(X53 N).kc ((X53 N).ck ρ) 13=Eb.l6 N N:=Fx.uL [] (ajF N) ρ (Eb.l6 N) λn ρ' e d=>by rw[e];rfl
theorem h53(K):(X53 N).top K=Eb.b N ((X53 N).kc K 13):=κ
def k53:Kn prog:=⟨53,(X53 N).S true (Eb N),Fx.u1 (X53 N) aD func53 [13] (h53 N) (by rw[ajG];rfl)⟩
def X54:Fx:=⟨37,tab,Kn.l [k56 N],N,f54,[.v LU,.v LU],[.own U],[⟨9,[(0,.v LU),(1,.v LU),(5,.own U),(6,.v U),(7,.v I)],[1,1,1,0,1,0,0],[]⟩],none⟩
theorem apu(K ρ):(X54 N).bd K ρ 9=EO.ew N ((X54 N).kc ρ 9):=κ
theorem apv(ρ):(X54 N).kc ((X54 N).ck ρ) 9=EO.l4 N N:=Fx.uL [] (apu N) ρ (EO.l4 N) λn ρ' e d=>by rw[e];rfl
theorem h54(K):(X54 N).top K=EO.b N ((X54 N).kc K 9):=κ
def k54:Kn prog:=⟨54,(X54 N).S false (EO N),Fx.u1 (X54 N) aD func54 [9] (h54 N) (by rw[apv];rfl)⟩
def X16:Fx:=⟨40,tab,Kn.l [k52 N,k51 N,k53 N,k54 N],N,f16,[.v cP,.v cP],[.v cP],[],none⟩
def RH:Kn prog:=⟨16,(X16 N).S false (AZ N),Fx.u0 (X16 N) aD func16⟩
def X41:Fx:=⟨28,tab,Kn.l [k56 N],N,f41,[.v cP],[.v I,.v B],[],none⟩
def YZ:Kn prog:=⟨41,(X41 N).S true (NJ N),Fx.u0 (X41 N) aD func41⟩
def apw:Fx:=⟨18,tab,Kn.l [YZ N],N,f210,[.v cP],[.v I,.v B],[],none⟩
def apx:Kn prog:=⟨210,(apw N).S true (QO N),Fx.u0 (apw N) aD func210⟩
def kN:Fx:=⟨106,tab,Kn.l [zH N,RH N,apx N],N,f184,[.v eG,.v eG],[.own oB,.v B],[⟨31,[(0,.v eG),(1,.v eG),(6,.own oB),(7,.v I),(8,.v I),(9,.v I),(10,.v I),(11,.v B),(12,.obj cP),(13,.v I)],[1,1,1,0,1,0,0,1,0,0,1,0,0,1,0,0,1,1,1,0,1,0,0],[9,15]⟩,⟨26,[(0,.v eG),(1,.v eG),(6,.own oB),(7,.v I),(8,.v I),(9,.v I),(10,.v I),(11,.v B)],[1,1,1,0,1,0,0,1,0,0,1,0,0,1,0,0,1,1],[9,15]⟩,⟨15,[(0,.v eG),(1,.v eG),(6,.own oB),(7,.v I),(8,.v I),(9,.v I)],[1,1,1,0,1,0,0,1,0,0,1,0,0],[9]⟩,⟨9,[(0,.v eG),(1,.v eG),(6,.own oB),(7,.v I),(8,.v I)],[1,1,1,0,1,0,0],[]⟩],none⟩
theorem acB(K ρ):(kN N).bd K ρ 31=cw.Bf N ((kN N).kc ρ 9) ((kN N).kc ρ 15) ((kN N).kc ρ 31):=κ
theorem acC(ρ):(kN N).kc ((kN N).ck ρ) 31=cw.yc N ((kN N).kc ρ 9) ((kN N).kc ρ 15) N:=Fx.uL [] (acB N) ρ (cw.yc N ((kN N).kc ρ 9) ((kN N).kc ρ 15)) λn ρ' e d=>by rw[e,d 9 rfl,d 15 rfl];rfl
theorem acD(K ρ):(kN N).bd K ρ 26=cw.A5 N ((kN N).kc K 31) ((kN N).kc ρ 9) ((kN N).kc ρ 15):=κ
theorem acE(ρ):(kN N).kc ((kN N).ck ρ) 26=cw.KR N ((kN N).kc ρ 9) ((kN N).kc ρ 15):=Fx.uJ [31] (acD N) ρ (by rw[acC];rfl)
theorem acF(K ρ):(kN N).bd K ρ 15=cw.rL N ((kN N).kc K 26) ((kN N).kc ρ 9) ((kN N).kc ρ 15):=κ
theorem acG(ρ):(kN N).kc ((kN N).ck ρ) 15=cw.l7 N ((kN N).kc ρ 9) N:=Fx.uL [26,31] (acF N) ρ (cw.l7 N ((kN N).kc ρ 9)) λn ρ' e d=>by rw[acE,e,d 9 rfl];rfl
theorem ajH(K ρ):(kN N).bd K ρ 9=cw.ew N ((kN N).kc K 15) ((kN N).kc ρ 9):=κ
theorem ajI(ρ):(kN N).kc ((kN N).ck ρ) 9=cw.l4 N N:=Fx.uL [15] (ajH N) ρ (cw.l4 N) λn ρ' e d=>by rw[acG,e];rfl
theorem auJ(K):(kN N).top K=cw.b N ((kN N).kc K 9):=κ
def auK:Kn prog:=⟨184,(kN N).S false (cw N),Fx.u1 (kN N) aD func184 [9] (auJ N) (by rw[ajI];rfl)⟩
def Pw:Fx:=⟨53,tab,Kn.l [RH N,zH N,YZ N],N,f211,[.v I,.v I,.v I,.v oH],[.v I,.v B],[⟨7,[(0,.v I),(1,.v I),(2,.v I),(3,.v oH),(10,.obj cP),(11,.v B),(12,.v I)],[1,1,0,1,0,0],[]⟩],none⟩
theorem ajJ(K ρ):(Pw N).bd K ρ 7=nG.lD N ((Pw N).kc ρ 7):=κ
theorem ajK(ρ):(Pw N).kc ((Pw N).ck ρ) 7=nG.l3 N N:=Fx.uL [] (ajJ N) ρ (nG.l3 N) λn ρ' e d=>by rw[e];rfl
theorem auL(K):(Pw N).top K=nG.b N ((Pw N).kc K 7):=κ
def auM:Kn prog:=⟨211,(Pw N).S true (nG N),Fx.u1 (Pw N) aD func211 [7] (auL N) (by rw[ajK];rfl)⟩
def qJ:Fx:=⟨69,tab,Kn.l [auM N],N,f185,[.v eG,.v oH],[.own oB,.v B],[⟨26,[(0,.v eG),(1,.v oH),(6,.own oB),(7,.v I),(8,.v I),(9,.v I),(10,.v I)],[1,1,1,0,1,0,0,1,0,0,1,0,0,1,0,0,1,1],[9,15]⟩,⟨15,[(0,.v eG),(1,.v oH),(6,.own oB),(7,.v I),(8,.v I),(9,.v I)],[1,1,1,0,1,0,0,1,0,0,1,0,0],[9]⟩,⟨9,[(0,.v eG),(1,.v oH),(6,.own oB),(7,.v I),(8,.v I)],[1,1,1,0,1,0,0],[]⟩],none⟩
theorem acH(K ρ):(qJ N).bd K ρ 26=dk.A5 N ((qJ N).kc ρ 9) ((qJ N).kc ρ 15):=κ
theorem acI(ρ):(qJ N).kc ((qJ N).ck ρ) 26=dk.KR N ((qJ N).kc ρ 9) ((qJ N).kc ρ 15):=Fx.uJ [] (acH N) ρ
theorem acJ(K ρ):(qJ N).bd K ρ 15=dk.rL N ((qJ N).kc K 26) ((qJ N).kc ρ 9) ((qJ N).kc ρ 15):=κ
theorem acK(ρ):(qJ N).kc ((qJ N).ck ρ) 15=dk.l7 N ((qJ N).kc ρ 9) N:=Fx.uL [26] (acJ N) ρ (dk.l7 N ((qJ N).kc ρ 9)) λn ρ' e d=>by rw[acI,e,d 9 rfl];rfl
theorem ajL(K ρ):(qJ N).bd K ρ 9=dk.ew N ((qJ N).kc K 15) ((qJ N).kc ρ 9):=κ
theorem ajM(ρ):(qJ N).kc ((qJ N).ck ρ) 9=dk.l4 N N:=Fx.uL [15] (ajL N) ρ (dk.l4 N) λn ρ' e d=>by rw[acK,e];rfl
theorem auN(K):(qJ N).top K=dk.b N ((qJ N).kc K 9):=κ
def auO:Kn prog:=⟨185,(qJ N).S false (dk N),Fx.u1 (qJ N) aD func185 [9] (auN N) (by rw[ajM];rfl)⟩
def apy:Fx:=⟨36,tab,Kn.l [auK N,auO N],N,f168,[.v aL,.v eG,.v oH],[.v aL,.v I],[],none⟩
def Px:Kn prog:=⟨168,(apy N).S false (Bu N),Fx.u0 (apy N) aD func168⟩
def apz:Fx:=⟨34,tab,Kn.l [zH N,YY N,Px N],N,f146,[.v dY,.v I,.v I,.v I,.v I,.v I],[.v dY,.v oB],[],none⟩
def auP:Kn prog:=⟨146,(apz N).S false (OI N),Fx.u0 (apz N) aD func146⟩
def apA:Fx:=⟨30,tab,[],N,f112,[.v I,.v I],[.v B],[],none⟩
def apB:Kn prog:=⟨112,(apA N).S true (QE N),Fx.u0 (apA N) aD func112⟩
def X74:Fx:=⟨74,tab,Kn.l [apB N],N,f74,[.v eG],[.v B],[⟨5,[(0,.v eG),(3,.v I)],[1,0,1,0,0],[]⟩],none⟩
theorem apC(K ρ):(X74 N).bd K ρ 5=B9.gm N ((X74 N).kc ρ 5):=κ
theorem apD(ρ):(X74 N).kc ((X74 N).ck ρ) 5=B9.l2 N N:=Fx.uL [] (apC N) ρ (B9.l2 N) λn ρ' e d=>by rw[e];rfl
theorem h74(K):(X74 N).top K=B9.b N ((X74 N).kc K 5):=κ
def k74:Kn prog:=⟨74,(X74 N).S true (B9 N),Fx.u1 (X74 N) aD func74 [5] (h74 N) (by rw[apD];rfl)⟩
def X50:Fx:=⟨78,tab,[],N,f50,[.v eG],[.v B],[⟨5,[(0,.v eG),(3,.v I)],[1,0,1,0,0],[]⟩],none⟩
theorem apE(K ρ):(X50 N).bd K ρ 5=zB.gm N ((X50 N).kc ρ 5):=κ
theorem apF(ρ):(X50 N).kc ((X50 N).ck ρ) 5=zB.l2 N N:=Fx.uL [] (apE N) ρ (zB.l2 N) λn ρ' e d=>by rw[e];rfl
theorem h50(K):(X50 N).top K=zB.b N ((X50 N).kc K 5):=κ
def k50:Kn prog:=⟨50,(X50 N).S true (zB N),Fx.u1 (X50 N) aD func50 [5] (h50 N) (by rw[apF];rfl)⟩
def Py:Fx:=⟨33,tab,Kn.l [k50 N,zH N,RH N],N,f113,[.v eG,.v I],[.v cP],[⟨11,[(0,.v eG),(1,.v I),(4,.obj cP),(5,.obj cP),(6,.v I)],[1,1,1,0,1,0,0],[]⟩],none⟩
theorem acL(K ρ):(Py N).bd K ρ 11=pv.e8 N ((Py N).kc ρ 11):=κ
theorem acM(ρ):(Py N).kc ((Py N).ck ρ) 11=pv.l5 N N:=Fx.uL [] (acL N) ρ (pv.l5 N) λn ρ' e d=>by rw[e];rfl
theorem auR(K):(Py N).top K=pv.b N ((Py N).kc K 11):=κ
def auS:Kn prog:=⟨113,(Py N).S false (pv N),Fx.u1 (Py N) aD func113 [11] (auR N) (by rw[acM];rfl)⟩
def X57:Fx:=⟨9,tab,[],N,f57,[.v cP],[.v I],[],none⟩
def k57:Kn prog:=⟨57,(X57 N).S true (Sj N),Fx.u0 (X57 N) aD func57⟩
def X75:Fx:=⟨15,tab,Kn.l [auS N,k57 N,k50 N],N,f75,[.v eG],[.v B],[⟨5,[(0,.v eG),(3,.v I)],[1,0,1,0,0],[]⟩],none⟩
theorem apG(K ρ):(X75 N).bd K ρ 5=Eh.gm N ((X75 N).kc ρ 5):=κ
theorem apH(ρ):(X75 N).kc ((X75 N).ck ρ) 5=Eh.l2 N N:=Fx.uL [] (apG N) ρ (Eh.l2 N) λn ρ' e d=>by rw[e];rfl
theorem h75(K):(X75 N).top K=Eh.b N ((X75 N).kc K 5):=κ
def k75:Kn prog:=⟨75,(X75 N).S true (Eh N),Fx.u1 (X75 N) aD func75 [5] (h75 N) (by rw[apH];rfl)⟩
def X80:Fx:=⟨9,tab,[],N,f80,[.v I],[.v B],[],none⟩
def k80:Kn prog:=⟨80,(X80 N).S true (Vu N),Fx.u0 (X80 N) aD func80⟩
def apI:Fx:=⟨56,tab,Kn.l [k80 N],N,f114,[.v m9],[.v B],[],none⟩
def acO:Kn prog:=⟨114,(apI N).S true (QH N),Fx.u0 (apI N) aD func114⟩
def X76:Fx:=⟨37,tab,Kn.l [acO N],N,f76,[.v sH],[.v B],[⟨9,[(0,.v sH),(3,.v I)],[1,1,0,1,0,0],[]⟩],none⟩
theorem apJ(K ρ):(X76 N).bd K ρ 9=zC.ew N ((X76 N).kc ρ 9):=κ
theorem apK(ρ):(X76 N).kc ((X76 N).ck ρ) 9=zC.l4 N N:=Fx.uL [] (apJ N) ρ (zC.l4 N) λn ρ' e d=>by rw[e];rfl
theorem h76(K):(X76 N).top K=zC.b N ((X76 N).kc K 9):=κ
def k76:Kn prog:=⟨76,(X76 N).S true (zC N),Fx.u1 (X76 N) aD func76 [9] (h76 N) (by rw[apK];rfl)⟩
def X77:Fx:=⟨24,tab,Kn.l [k74 N,zH N,RH N],N,f77,[.v eG],[.v cP],[⟨11,[(0,.v eG),(2,.obj cP),(3,.obj cP),(4,.v I)],[1,1,1,0,1,0,0],[]⟩],none⟩
theorem ajO(K ρ):(X77 N).bd K ρ 11=Du.e8 N ((X77 N).kc ρ 11):=κ
theorem ajP(ρ):(X77 N).kc ((X77 N).ck ρ) 11=Du.l5 N N:=Fx.uL [] (ajO N) ρ (Du.l5 N) λn ρ' e d=>by rw[e];rfl
theorem h77(K):(X77 N).top K=Du.b N ((X77 N).kc K 11):=κ
def k77:Kn prog:=⟨77,(X77 N).S false (Du N),Fx.u1 (X77 N) aD func77 [11] (h77 N) (by rw[ajP];rfl)⟩
def X78:Fx:=⟨19,tab,Kn.l [RG N],N,f78,[.v aL,.v I],[.v B],[],none⟩
def k78:Kn prog:=⟨78,(X78 N).S true (F78 N),Fx.u0 (X78 N) aD func78⟩
def X79:Fx:=⟨11,tab,Kn.l [aci N,Vk N],N,f79,[.v c8,.v I],[.v I],[],none⟩
def k79:Kn prog:=⟨79,(X79 N).S true (Sn N),Fx.u0 (X79 N) aD func79⟩
def HV:Fx:=⟨163,tab,Kn.l [k64 N,k73 N,k74 N,k75 N,k76 N,k77 N,k57 N,k78 N,k79 N,k80 N],N,f37,[.v aA,.v aL],[.v B],[⟨45,[(2,.obj aA),(3,.obj aL),(9,.v I)],[1,1,1,1,1,1,0,1,0,0],[]⟩,⟨35,[(2,.obj aA),(3,.obj aL),(8,.v I)],[1,1,1,1,1,0,1,0,0],[]⟩,⟨25,[(2,.obj aA),(3,.obj aL),(7,.v I)],[1,1,1,1,0,1,0,0],[]⟩,⟨13,[(2,.obj aA),(3,.obj aL),(5,.v I)],[1,1,1,0,1,0,0],[]⟩],none⟩
theorem ajR(K ρ):(HV N).bd K ρ 45=fY.wm N ((HV N).kc ρ 45):=κ
theorem ajS(ρ):(HV N).kc ((HV N).ck ρ) 45=fY.xq N N:=Fx.uL [] (ajR N) ρ (fY.xq N) λn ρ' e d=>by rw[e];rfl
theorem ajT(K ρ):(HV N).bd K ρ 35=fY.Ny N ((HV N).kc K 45) ((HV N).kc ρ 35):=κ
theorem ajU(ρ):(HV N).kc ((HV N).ck ρ) 35=fY.Nx N N:=Fx.uL [45] (ajT N) ρ (fY.Nx N) λn ρ' e d=>by rw[ajS,e];rfl
theorem ajV(K ρ):(HV N).bd K ρ 25=fY.pZ N ((HV N).kc K 35) ((HV N).kc ρ 25):=κ
theorem ajW(ρ):(HV N).kc ((HV N).ck ρ) 25=fY.qA N N:=Fx.uL [35,45] (ajV N) ρ (fY.qA N) λn ρ' e d=>by rw[ajU,e];rfl
theorem ajX(K ρ):(HV N).bd K ρ 13=fY.vX N ((HV N).kc K 25) ((HV N).kc ρ 13):=κ
theorem ajY(ρ):(HV N).kc ((HV N).ck ρ) 13=fY.l6 N N:=Fx.uL [25,35,45] (ajX N) ρ (fY.l6 N) λn ρ' e d=>by rw[ajW,e];rfl
theorem h37(K):(HV N).top K=fY.b N ((HV N).kc K 13):=κ
def Kf:Kn prog:=⟨37,(HV N).S true (fY N),Fx.u1 (HV N) aD func37 [13,25,35,45] (h37 N) (by rw[ajY];rfl)⟩
def Pz:Fx:=⟨38,tab,Kn.l [k74 N],N,f149,[.v eG,.v I,.v I],[.v I],[⟨9,[(0,.v eG),(1,.v I),(2,.v I),(7,.v I)],[1,1,0,1,0,0],[]⟩],none⟩
theorem ajZ(K ρ):(Pz N).bd K ρ 9=ka.ew N ((Pz N).kc ρ 9):=κ
theorem aj0(ρ):(Pz N).kc ((Pz N).ck ρ) 9=ka.l4 N N:=Fx.uL [] (ajZ N) ρ (ka.l4 N) λn ρ' e d=>by rw[e];rfl
theorem auT(K):(Pz N).top K=ka.b N ((Pz N).kc K 9):=κ
def I2:Kn prog:=⟨149,(Pz N).S true (ka N),Fx.u1 (Pz N) aD func149 [9] (auT N) (by rw[aj0];rfl)⟩
def X58:Fx:=⟨9,tab,Kn.l [k21 N,RH N],N,f58,[.v cP,.v cP],[.v cP],[],none⟩
def k58:Kn prog:=⟨58,(X58 N).S false (Si N),Fx.u0 (X58 N) aD func58⟩
def X14:Fx:=⟨39,tab,Kn.l [k50 N],N,f14,[.v eG,.v I],[.own hZ],[⟨11,[(0,.v eG),(1,.v I),(5,.own hZ),(6,.v I)],[1,1,1,0,1,0,0],[]⟩],none⟩
theorem aj2(K ρ):(X14 N).bd K ρ 11=yW.e8 N ((X14 N).kc ρ 11):=κ
theorem aj3(ρ):(X14 N).kc ((X14 N).ck ρ) 11=yW.l5 N N:=Fx.uL [] (aj2 N) ρ (yW.l5 N) λn ρ' e d=>by rw[e];rfl
theorem h14(K):(X14 N).top K=yW.b N ((X14 N).kc K 11):=κ
def k14:Kn prog:=⟨14,(X14 N).S false (yW N),Fx.u1 (X14 N) aD func14 [11] (h14 N) (by rw[aj3];rfl)⟩
def yJ:Fx:=⟨74,tab,[],N,f187,[.v sH,.v I],[.own oB],[⟨15,[(0,.v sH),(1,.v I),(5,.own oB),(6,.v I),(7,.obj oB),(8,.v I)],[1,1,0,1,0,0,1,0,0,1,0,1,0,0],[7]⟩,⟨7,[(0,.v sH),(1,.v I),(5,.own oB),(6,.v I)],[1,1,0,1,0,0],[]⟩],none⟩
theorem acP(K ρ):(yJ N).bd K ρ 15=g9.rL N ((yJ N).kc ρ 7) ((yJ N).kc ρ 15):=κ
theorem acQ(ρ):(yJ N).kc ((yJ N).ck ρ) 15=g9.l7 N ((yJ N).kc ρ 7) N:=Fx.uL [] (acP N) ρ (g9.l7 N ((yJ N).kc ρ 7)) λn ρ' e d=>by rw[e,d 7 rfl];rfl
theorem aj4(K ρ):(yJ N).bd K ρ 7=g9.lD N ((yJ N).kc K 15) ((yJ N).kc ρ 7):=κ
theorem aj5(ρ):(yJ N).kc ((yJ N).ck ρ) 7=g9.l3 N N:=Fx.uL [15] (aj4 N) ρ (g9.l3 N) λn ρ' e d=>by rw[acQ,e];rfl
theorem auU(K):(yJ N).top K=g9.b N ((yJ N).kc K 7):=κ
def aj6:Kn prog:=⟨187,(yJ N).S false (g9 N),Fx.u1 (yJ N) aD func187 [7] (auU N) (by rw[aj5];rfl)⟩
def X65:Fx:=⟨66,tab,Kn.l [k64 N],N,f65,[.v aA,.v c8],[.v B],[⟨9,[(1,.v c8),(2,.obj aA),(5,.v I)],[1,1,0,1,0,0],[]⟩],none⟩
theorem apL(K ρ):(X65 N).bd K ρ 9=Ba.ew N ((X65 N).kc ρ 9):=κ
theorem apM(ρ):(X65 N).kc ((X65 N).ck ρ) 9=Ba.l4 N N:=Fx.uL [] (apL N) ρ (Ba.l4 N) λn ρ' e d=>by rw[e];rfl
theorem h65(K):(X65 N).top K=Ba.b N ((X65 N).kc K 9):=κ
def k65:Kn prog:=⟨65,(X65 N).S true (Ba N),Fx.u1 (X65 N) aD func65 [9] (h65 N) (by rw[apM];rfl)⟩
def PA:Fx:=⟨79,tab,Kn.l [k64 N],N,f212,[.v aA,.v eG],[.v B],[⟨11,[(1,.v eG),(2,.obj aA),(5,.v I),(6,.v I)],[1,1,1,0,1,0,0],[]⟩],none⟩
theorem acR(K ρ):(PA N).bd K ρ 11=qC.e8 N ((PA N).kc ρ 11):=κ
theorem acS(ρ):(PA N).kc ((PA N).ck ρ) 11=qC.l5 N N:=Fx.uL [] (acR N) ρ (qC.l5 N) λn ρ' e d=>by rw[e];rfl
theorem auV(K):(PA N).top K=qC.b N ((PA N).kc K 11):=κ
def apN:Kn prog:=⟨212,(PA N).S true (qC N),Fx.u1 (PA N) aD func212 [11] (auV N) (by rw[acS];rfl)⟩
def X19:Fx:=⟨6,tab,Kn.l [k51 N],N,f19,[.v cP],[.v cP],[],none⟩
def k19:Kn prog:=⟨19,(X19 N).S false (WX N),Fx.u0 (X19 N) aD func19⟩
def X20:Fx:=⟨9,tab,Kn.l [k58 N,k57 N],N,f20,[.v cP,.v cP],[.v I],[],none⟩
def k20:Kn prog:=⟨20,(X20 N).S true (Qd N),Fx.u0 (X20 N) aD func20⟩
def CI:Fx:=⟨96,tab,Kn.l [k65 N,apN N,zH N,RH N,k19 N,k58 N,k20 N],N,f188,[.v aA,.v c8,.v eG,.v I],[.v cP,.v I],[⟨25,[(2,.v eG),(3,.v I),(8,.obj cP),(10,.obj cP),(11,.obj cP),(12,.obj cP),(14,.v I)],[1,1,1,1,1,0,1,0,0],[]⟩,⟨15,[(1,.v c8),(2,.v eG),(3,.v I),(8,.obj cP),(10,.obj cP),(11,.obj cP),(12,.obj cP),(13,.v I)],[1,1,1,1,0,1,0,0],[]⟩],none⟩
theorem acU(K ρ):(CI N).bd K ρ 25=jt.pZ N ((CI N).kc ρ 25):=κ
theorem acV(ρ):(CI N).kc ((CI N).ck ρ) 25=jt.qA N N:=Fx.uL [] (acU N) ρ (jt.qA N) λn ρ' e d=>by rw[e];rfl
theorem acW(K ρ):(CI N).bd K ρ 15=jt.rL N ((CI N).kc K 25) ((CI N).kc ρ 15):=κ
theorem acX(ρ):(CI N).kc ((CI N).ck ρ) 15=jt.l7 N N:=Fx.uL [25] (acW N) ρ (jt.l7 N) λn ρ' e d=>by rw[acV,e];rfl
theorem auW(K):(CI N).top K=jt.b N ((CI N).kc K 15):=κ
def apO:Kn prog:=⟨188,(CI N).S false (jt N),Fx.u1 (CI N) aD func188 [15,25] (auW N) (by rw[acX];rfl)⟩
def E6:Fx:=⟨71,tab,Kn.l [k56 N,k51 N],N,f18,[.v cP,.v cP],[.v cP],[⟨18,[(2,.obj cP),(3,.obj cP),(4,.obj cP),(5,.own U),(6,.v I),(7,.v U),(8,.v I)],[1,1,0,1,0,0,1,0,0,1,1,0,0,1],[7,15]⟩,⟨15,[(2,.obj cP),(3,.obj cP),(4,.obj cP),(5,.own U),(6,.v I),(7,.v U),(8,.v I)],[1,1,0,1,0,0,1,0,0,1,1,0,0],[7]⟩,⟨7,[(2,.obj cP),(3,.obj cP),(4,.obj cP),(5,.own U),(6,.v I)],[1,1,0,1,0,0],[]⟩],none⟩
theorem aj7(K ρ):(E6 N).bd K ρ 18=jZ.NL N ((E6 N).kc ρ 7) ((E6 N).kc ρ 15):=κ
theorem aj8(ρ):(E6 N).kc ((E6 N).ck ρ) 18=jZ.j9 N ((E6 N).kc ρ 7) ((E6 N).kc ρ 15):=Fx.uJ [] (aj7 N) ρ
theorem aj9(K ρ):(E6 N).bd K ρ 15=jZ.rL N ((E6 N).kc K 18) ((E6 N).kc ρ 7) ((E6 N).kc ρ 15):=κ
theorem aka(ρ):(E6 N).kc ((E6 N).ck ρ) 15=jZ.l7 N ((E6 N).kc ρ 7) N:=Fx.uL [18] (aj9 N) ρ (jZ.l7 N ((E6 N).kc ρ 7)) λn ρ' e d=>by rw[aj8,e,d 7 rfl];rfl
theorem apP(K ρ):(E6 N).bd K ρ 7=jZ.lD N ((E6 N).kc K 15) ((E6 N).kc ρ 7):=κ
theorem apQ(ρ):(E6 N).kc ((E6 N).ck ρ) 7=jZ.l3 N N:=Fx.uL [15] (apP N) ρ (jZ.l3 N) λn ρ' e d=>by rw[aka,e];rfl
theorem h18(K):(E6 N).top K=jZ.b N ((E6 N).kc K 7):=κ
def Zq:Kn prog:=⟨18,(E6 N).S false (jZ N),Fx.u1 (E6 N) aD func18 [7] (h18 N) (by rw[apQ];rfl)⟩
def PC:Fx:=⟨50,tab,Kn.l [k65 N,apN N,apO N,zH N,Zq N,RH N],N,f186,[.v aA,.v c8,.v eG],[.v cP,.v I],[⟨11,[(1,.v c8),(2,.v eG),(3,.obj aA),(6,.obj cP),(8,.obj cP),(9,.v I)],[1,1,1,0,1,0,0],[]⟩],none⟩
theorem acY(K ρ):(PC N).bd K ρ 11=qD.e8 N ((PC N).kc ρ 11):=κ
theorem acZ(ρ):(PC N).kc ((PC N).ck ρ) 11=qD.l5 N N:=Fx.uL [] (acY N) ρ (qD.l5 N) λn ρ' e d=>by rw[e];rfl
theorem auX(K):(PC N).top K=qD.b N ((PC N).kc K 11):=κ
def apR:Kn prog:=⟨186,(PC N).S false (qD N),Fx.u1 (PC N) aD func186 [11] (auX N) (by rw[acZ];rfl)⟩
def apS:Fx:=⟨31,tab,Kn.l [k14 N,aj6 N,apR N],N,f170,[.v aA,.v aL,.v I,.v sH],[.v cP],[],none⟩
def apT:Kn prog:=⟨170,(apS N).S false (XE N),Fx.u0 (apS N) aD func170⟩
def apU:Fx:=⟨63,tab,Kn.l [Kf N,RG N,k79 N,I2 N,zH N,k58 N,apT N,k20 N,YY N,Px N],N,f147,[.v aA,.v aL,.v I,.v I],[.v aL,.v I],[],none⟩
def auY:Kn prog:=⟨147,(apU N).S false (UG N),Fx.u0 (apU N) aD func147⟩
def apV:Fx:=⟨10,tab,Kn.l [k79 N],N,f148,[.v dY,.v I],[.v I],[],none⟩
def apW:Kn prog:=⟨148,(apV N).S true (Hi N),Fx.u0 (apV N) aD func148⟩
def PD:Fx:=⟨53,tab,Kn.l [Vl N,acu N],N,f150,[.v fO,.v I,.v I],[.own eD,.v I],[⟨17,[(1,.v I),(2,.v I),(10,.own eD),(11,.v I)],[1,1,1,1,0,1,0,0],[]⟩],none⟩
theorem ac0(K ρ):(PD N).bd K ρ 17=nL.zo N ((PD N).kc ρ 17):=κ
theorem ac1(ρ):(PD N).kc ((PD N).ck ρ) 17=nL.l8 N N:=Fx.uL [] (ac0 N) ρ (nL.l8 N) λn ρ' e d=>by rw[e];rfl
theorem auZ(K):(PD N).top K=nL.b N ((PD N).kc K 17):=κ
def au0:Kn prog:=⟨150,(PD N).S false (nL N),Fx.u1 (PD N) aD func150 [17] (auZ N) (by rw[ac1];rfl)⟩
def apX:Fx:=⟨36,tab,Kn.l [acO N,k80 N,zH N,Zq N],N,f189,[.v m9,.v I],[.v cP,.v I],[],none⟩
def au1:Kn prog:=⟨189,(apX N).S false (aaV N),Fx.u0 (apX N) aD func189⟩
def apY:Fx:=⟨104,tab,Kn.l [Kf N,acO N,RG N,k79 N,k14 N,aj6 N,apO N,zH N,k20 N,au1 N,I2 N,k58 N,apT N],N,f171,[.v aA,.v aL,.v m9],[.v I],[],none⟩
def apZ:Kn prog:=⟨171,(apY N).S true (XF N),Fx.u0 (apY N) aD func171⟩
def ap0:Fx:=⟨24,tab,[],N,f213,[.v m9,.v m9],[.v B],[],none⟩
def au2:Kn prog:=⟨213,(ap0 N).S true (UE N),Fx.u0 (ap0 N) aD func213⟩
def sJ:Fx:=⟨72,tab,Kn.l [k76 N,au2 N],N,f190,[.v sH,.v I,.v I],[.own m9],[⟨22,[(0,.v sH),(1,.v I),(2,.v I),(7,.own m9),(8,.v I),(9,.v I)],[1,1,1,0,1,0,0,1,0,0,1,1,1],[11]⟩,⟨19,[(0,.v sH),(1,.v I),(2,.v I),(7,.own m9),(8,.v I),(9,.v I)],[1,1,1,0,1,0,0,1,0,0,1,1,0,0,0],[11]⟩,⟨11,[(0,.v sH),(1,.v I),(2,.v I),(7,.own m9),(8,.v I)],[1,1,1,0,1,0,0],[]⟩],none⟩
theorem ac2(K ρ):(sJ N).bd K ρ 22=dF.Cs N ((sJ N).kc ρ 11):=κ
theorem ac3(ρ):(sJ N).kc ((sJ N).ck ρ) 22=dF.JW N ((sJ N).kc ρ 11):=Fx.uJ [] (ac2 N) ρ
theorem ac4(K ρ):(sJ N).bd K ρ 19=dF.zA N ((sJ N).kc K 22) ((sJ N).kc ρ 11) ((sJ N).kc ρ 19):=κ
theorem ac5(ρ):(sJ N).kc ((sJ N).ck ρ) 19=dF.l9 N ((sJ N).kc ρ 11) N:=Fx.uL [22] (ac4 N) ρ (dF.l9 N ((sJ N).kc ρ 11)) λn ρ' e d=>by rw[ac3,e,d 11 rfl];rfl
theorem ac6(K ρ):(sJ N).bd K ρ 11=dF.e8 N ((sJ N).kc K 19) ((sJ N).kc ρ 11):=κ
theorem ac7(ρ):(sJ N).kc ((sJ N).ck ρ) 11=dF.l5 N N:=Fx.uL [19,22] (ac6 N) ρ (dF.l5 N) λn ρ' e d=>by rw[ac5,e];rfl
theorem au3(K):(sJ N).top K=dF.b N ((sJ N).kc K 11):=κ
def au4:Kn prog:=⟨190,(sJ N).S false (dF N),Fx.u1 (sJ N) aD func190 [11] (au3 N) (by rw[ac7];rfl)⟩
def jM:Fx:=⟨174,tab,Kn.l [k76 N,acO N,au4 N],N,f172,[.v sH,.v m9],[.own m9,.own tE,.v I,.v I],[⟨49,[(8,.own m9),(9,.v I),(10,.own tE),(16,.own m9),(17,.v I)],[1,1,1,1,1,1,1,0,1,0,0],[]⟩,⟨44,[(8,.own m9),(9,.v I),(10,.own tE)],[1,1,1,1,1,1],[]⟩,⟨37,[(3,.obj m9),(8,.own m9),(9,.v I),(10,.own tE),(11,.own m9),(12,.v I),(13,.v I),(15,.v I)],[1,1,1,1,1,0,1,0,0,1,0,0,1,1,1,1,1,1,1,1,0,0],[15]⟩,⟨30,[(3,.obj m9),(8,.own m9),(9,.v I),(10,.own tE),(11,.own m9),(12,.v I),(13,.v I),(14,.obj tE)],[1,1,1,1,1,0,1,0,0,1,0,0,1,1,1,1,1],[15]⟩,⟨20,[(3,.obj m9),(8,.own m9),(9,.v I),(10,.own tE),(11,.own m9),(12,.v I)],[1,1,1,1,1,0,1,0,0,1,0,0,1],[15]⟩,⟨15,[(3,.obj m9),(8,.own m9),(9,.v I),(10,.own tE),(11,.own m9),(12,.v I)],[1,1,1,1,1,0,1,0,0],[]⟩],none⟩
theorem ac8(K ρ):(jM N).bd K ρ 49=cm.yE N ((jM N).kc ρ 49):=κ
theorem ac9(ρ):(jM N).kc ((jM N).ck ρ) 49=cm.xX N N:=Fx.uL [] (ac8 N) ρ (cm.xX N) λn ρ' e d=>by rw[e];rfl
theorem ada(K ρ):(jM N).bd K ρ 44=cm.aa4 N ((jM N).kc K 49):=κ
theorem adb(ρ):(jM N).kc ((jM N).ck ρ) 44=cm.j22 N:=Fx.uJ [49] (ada N) ρ (by rw[ac9];rfl)
theorem ade(K ρ):(jM N).bd K ρ 37=cm.En N ((jM N).kc ρ 15) ((jM N).kc ρ 37):=κ
theorem adf(ρ):(jM N).kc ((jM N).ck ρ) 37=cm.Ig N ((jM N).kc ρ 15) N:=Fx.uL [44,49] (ade N) ρ (cm.Ig N ((jM N).kc ρ 15)) λn ρ' e d=>by rw[e,d 15 rfl];rfl
theorem adg(K ρ):(jM N).bd K ρ 30=cm.wo N ((jM N).kc K 37) ((jM N).kc ρ 15):=κ
theorem adh(ρ):(jM N).kc ((jM N).ck ρ) 30=cm.Cp N ((jM N).kc ρ 15):=Fx.uJ [44,49,37] (adg N) ρ (by rw[adf];rfl)
theorem adi(K ρ):(jM N).bd K ρ 20=cm.Lk N ((jM N).kc K 30) ((jM N).kc ρ 15):=κ
theorem adj(ρ):(jM N).kc ((jM N).ck ρ) 20=cm.Q5 N ((jM N).kc ρ 15):=Fx.uJ [44,49,30,37] (adi N) ρ (by rw[adh];rfl)
theorem adk(K ρ):(jM N).bd K ρ 15=cm.rL N ((jM N).kc K 44) ((jM N).kc K 20) ((jM N).kc ρ 15):=κ
theorem adl(ρ):(jM N).kc ((jM N).ck ρ) 15=cm.l7 N N:=Fx.uL [44,49,20,30,37] (adk N) ρ (cm.l7 N) λn ρ' e d=>by rw[adb,adj,e];rfl
theorem au5(K):(jM N).top K=cm.b N ((jM N).kc K 15):=κ
def au6:Kn prog:=⟨172,(jM N).S false (cm N),Fx.u1 (jM N) aD func172 [15,44,49] (au5 N) (by rw[adl];rfl)⟩
def ap1:Fx:=⟨53,tab,Kn.l [k80 N],N,f191,[.v tE],[.v B],[],none⟩
def ap2:Kn prog:=⟨191,(ap1 N).S true (Xp N),Fx.u0 (ap1 N) aD func191⟩
def ap3:Fx:=⟨7,tab,[],N,f193,[.v I],[.v I,.v I],[],none⟩
def ap4:Kn prog:=⟨193,(ap3 N).S true (K4 N),Fx.u0 (ap3 N) aD func193⟩
def ap5:Fx:=⟨53,tab,Kn.l [ap2 N,k80 N,zH N,Zq N,k57 N,ap4 N,k21 N],N,f192,[.v tE,.v I],[.own su,.v I],[],none⟩
def au7:Kn prog:=⟨192,(ap5 N).S false (QT N),Fx.u0 (ap5 N) aD func192⟩
def CJ:Fx:=⟨107,tab,Kn.l [Kf N,ap2 N,k78 N,au7 N,Px N],N,f173,[.v aA,.v aL,.v LK],[.v aL,.v I],[⟨23,[(2,.v LK),(3,.obj aA),(4,.obj aL),(6,.obj aL),(9,.own oB),(10,.own su),(11,.v I)],[1,1,1,1,1,0,1,0,0],[]⟩,⟨9,[(2,.v LK),(3,.obj aA),(4,.obj aL),(6,.obj aL),(8,.v I)],[1,1,0,1,0,0],[]⟩],none⟩
theorem adm(K ρ):(CJ N).bd K ρ 23=gw.zr N ((CJ N).kc ρ 23):=κ
theorem adn(ρ):(CJ N).kc ((CJ N).ck ρ) 23=gw.Co N N:=Fx.uL [] (adm N) ρ (gw.Co N) λn ρ' e d=>by rw[e];rfl
theorem akb(K ρ):(CJ N).bd K ρ 9=gw.ew N ((CJ N).kc K 23) ((CJ N).kc ρ 9):=κ
theorem akc(ρ):(CJ N).kc ((CJ N).ck ρ) 9=gw.l4 N N:=Fx.uL [23] (akb N) ρ (gw.l4 N) λn ρ' e d=>by rw[adn,e];rfl
theorem au8(K):(CJ N).top K=gw.b N ((CJ N).kc K 9):=κ
def ap6:Kn prog:=⟨173,(CJ N).S false (gw N),Fx.u1 (CJ N) aD func173 [9,23] (au8 N) (by rw[akc];rfl)⟩
def HW:Fx:=⟨85,tab,Kn.l [apZ N,au6 N,ap6 N],N,f151,[.v aA,.v aL,.v m9],[.v aL,.v LK,.v I,.v I],[⟨20,[(3,.obj aA),(4,.obj aL),(5,.obj m9),(6,.obj aL),(12,.own m9),(13,.own tE),(14,.v I)],[1,1,1,1,1],[]⟩,⟨14,[(3,.obj aA),(4,.obj aL),(5,.obj m9),(6,.obj aL)],[1,1,1],[]⟩],none⟩
theorem ado(K ρ):(HW N).bd K ρ 20=ju.Lk N:=κ
theorem adp(ρ):(HW N).kc ((HW N).ck ρ) 20=ju.Q5 N:=Fx.uJ [] (ado N) ρ
theorem adq(K ρ):(HW N).bd K ρ 14=ju.Qc N ((HW N).kc K 20):=κ
theorem ads(ρ):(HW N).kc ((HW N).ck ρ) 14=ju.j7 N:=Fx.uJ [20] (adq N) ρ (by rw[adp];rfl)
theorem au9(K):(HW N).top K=ju.b N ((HW N).kc K 14):=κ
def ava:Kn prog:=⟨151,(HW N).S false (ju N),Fx.u1 (HW N) aD func151 [14,20] (au9 N) (by rw[ads];rfl)⟩
def PE:Fx:=⟨48,tab,Kn.l [k76 N],N,f152,[.v sH,.v I,.v I],[.own m9,.v I],[⟨11,[(0,.v sH),(1,.v I),(2,.v I),(8,.own m9),(9,.v I)],[1,1,1,0,1,0,0],[]⟩],none⟩
theorem adt(K ρ):(PE N).bd K ρ 11=nN.e8 N ((PE N).kc ρ 11):=κ
theorem adu(ρ):(PE N).kc ((PE N).ck ρ) 11=nN.l5 N N:=Fx.uL [] (adt N) ρ (nN.l5 N) λn ρ' e d=>by rw[e];rfl
theorem avb(K):(PE N).top K=nN.b N ((PE N).kc K 11):=κ
def avc:Kn prog:=⟨152,(PE N).S false (nN N),Fx.u1 (PE N) aD func152 [11] (avb N) (by rw[adu];rfl)⟩
def PF:Fx:=⟨76,tab,Kn.l [k50 N,k80 N,zH N,k58 N,k57 N,ap4 N,Zq N],N,f174,[.v eG,.v I,.v I,.v I],[.own su,.v I],[⟨13,[(0,.v eG),(1,.v I),(10,.own su),(11,.obj cP),(12,.v I)],[1,1,1,1,0,1,0,0],[]⟩],none⟩
theorem adv(K ρ):(PF N).bd K ρ 13=nO.vX N ((PF N).kc ρ 13):=κ
theorem adw(ρ):(PF N).kc ((PF N).ck ρ) 13=nO.l6 N N:=Fx.uL [] (adv N) ρ (nO.l6 N) λn ρ' e d=>by rw[e];rfl
theorem avd(K):(PF N).top K=nO.b N ((PF N).kc K 13):=κ
def ave:Kn prog:=⟨174,(PF N).S false (nO N),Fx.u1 (PF N) aD func174 [13] (avd N) (by rw[adw];rfl)⟩
def ap7:Fx:=⟨70,tab,Kn.l [Kf N,k80 N,ave N,Px N],N,f153,[.v aA,.v aL,.v I,.v I],[.v aL,.v oH,.v I],[],some (aL,[.gr 4],I,[5,13])⟩
def avf:Kn prog:=⟨153,(ap7 N).S false (UF N),Fx.u0 (ap7 N) aD func153⟩
def PG:Fx:=⟨50,tab,[],N,f175,[.v c8],[.v B],[⟨5,[(0,.v c8),(3,.v I)],[1,0,1,0,0],[]⟩],none⟩
theorem akd(K ρ):(PG N).bd K ρ 5=qE.gm N ((PG N).kc ρ 5):=κ
theorem ake(ρ):(PG N).kc ((PG N).ck ρ) 5=qE.l2 N N:=Fx.uL [] (akd N) ρ (qE.l2 N) λn ρ' e d=>by rw[e];rfl
theorem avg(K):(PG N).top K=qE.b N ((PG N).kc K 5):=κ
def ap8:Kn prog:=⟨175,(PG N).S true (qE N),Fx.u1 (PG N) aD func175 [5] (avg N) (by rw[ake];rfl)⟩
def qK:Fx:=⟨84,tab,Kn.l [ap8 N,zH N,RH N,YZ N],N,f154,[.v c8,.v oH],[.own hZ,.v I],[⟨29,[(0,.v c8),(1,.v oH),(6,.own hZ),(7,.v I),(8,.obj cP),(10,.v I)],[1,1,1,0,1,0,0,1,0,0,1,1,0,1,0,0],[11]⟩,⟨19,[(0,.v c8),(1,.v oH),(6,.own hZ),(7,.v I),(8,.obj cP),(9,.v I)],[1,1,1,0,1,0,0,1,0,0,1,0,1,0,0],[11]⟩,⟨11,[(0,.v c8),(1,.v oH),(6,.own hZ),(7,.v I)],[1,1,1,0,1,0,0],[]⟩],none⟩
theorem adx(K ρ):(qK N).bd K ρ 29=eS.GY N ((qK N).kc ρ 11) ((qK N).kc ρ 29):=κ
theorem ady(ρ):(qK N).kc ((qK N).ck ρ) 29=eS.JK N ((qK N).kc ρ 11) N:=Fx.uL [] (adx N) ρ (eS.JK N ((qK N).kc ρ 11)) λn ρ' e d=>by rw[e,d 11 rfl];rfl
theorem adz(K ρ):(qK N).bd K ρ 19=eS.zA N ((qK N).kc K 29) ((qK N).kc ρ 11) ((qK N).kc ρ 19):=κ
theorem adA(ρ):(qK N).kc ((qK N).ck ρ) 19=eS.l9 N ((qK N).kc ρ 11) N:=Fx.uL [29] (adz N) ρ (eS.l9 N ((qK N).kc ρ 11)) λn ρ' e d=>by rw[ady,e,d 11 rfl];rfl
theorem adB(K ρ):(qK N).bd K ρ 11=eS.e8 N ((qK N).kc K 19) ((qK N).kc ρ 11):=κ
theorem adC(ρ):(qK N).kc ((qK N).ck ρ) 11=eS.l5 N N:=Fx.uL [19,29] (adB N) ρ (eS.l5 N) λn ρ' e d=>by rw[adA,e];rfl
theorem avh(K):(qK N).top K=eS.b N ((qK N).kc K 11):=κ
def avi:Kn prog:=⟨154,(qK N).S false (eS N),Fx.u1 (qK N) aD func154 [11] (avh N) (by rw[adC];rfl)⟩
def ap9:Fx:=⟨15,tab,Kn.l [zH N,RH N,YZ N],N,f155,[.v dY,.v I],[.v I,.v B],[],none⟩
def akf:Kn prog:=⟨155,(ap9 N).S true (US N),Fx.u0 (ap9 N) aD func155⟩
def aqa:Fx:=⟨41,tab,[],N,f194,[.v I,.v I],[.v I,.v B],[],none⟩
def avj:Kn prog:=⟨194,(aqa N).S true (UC N),Fx.u0 (aqa N) aD func194⟩
def PH:Fx:=⟨51,tab,Kn.l [aci N,Vk N,avj N],N,f176,[.v c8,.v I,.v I],[.own hZ,.v I],[⟨23,[(1,.v I),(9,.v I),(11,.own hZ),(12,.v I)],[1,1,1,1,1,1,1,0,1,0,0],[]⟩],none⟩
theorem adD(K ρ):(PH N).bd K ρ 23=lW.zr N ((PH N).kc ρ 23):=κ
theorem adE(ρ):(PH N).kc ((PH N).ck ρ) 23=lW.Co N N:=Fx.uL [] (adD N) ρ (lW.Co N) λn ρ' e d=>by rw[e];rfl
theorem avk(K):(PH N).top K=lW.b N ((PH N).kc K 23):=κ
def aqb:Kn prog:=⟨176,(PH N).S false (lW N),Fx.u1 (PH N) aD func176 [23] (avk N) (by rw[adE];rfl)⟩
def PI:Fx:=⟨33,tab,Kn.l [Vl N],N,f196,[.v fO,.v I],[.own I],[⟨11,[(0,.v fO),(1,.v I),(5,.own I),(6,.v I)],[1,1,1,0,1,0,0],[]⟩],none⟩
theorem adF(K ρ):(PI N).bd K ρ 11=sf.e8 N ((PI N).kc ρ 11):=κ
theorem adG(ρ):(PI N).kc ((PI N).ck ρ) 11=sf.l5 N N:=Fx.uL [] (adF N) ρ (sf.l5 N) λn ρ' e d=>by rw[e];rfl
theorem avl(K):(PI N).top K=sf.b N ((PI N).kc K 11):=κ
def avm:Kn prog:=⟨196,(PI N).S false (sf N),Fx.u1 (PI N) aD func196 [11] (avl N) (by rw[adG];rfl)⟩
def yK:Fx:=⟨48,tab,Kn.l [k76 N],N,f195,[.v sH,.v LI],[.own m9],[⟨19,[(0,.v sH),(1,.v LI),(5,.own m9),(6,.v I),(7,.v B),(8,.v I)],[1,1,1,0,1,0,0,1,0,0,1,0,1,0,0],[11]⟩,⟨11,[(0,.v sH),(1,.v LI),(5,.own m9),(6,.v I)],[1,1,1,0,1,0,0],[]⟩],none⟩
theorem adH(K ρ):(yK N).bd K ρ 19=fQ.zA N ((yK N).kc ρ 11) ((yK N).kc ρ 19):=κ
theorem adI(ρ):(yK N).kc ((yK N).ck ρ) 19=fQ.l9 N ((yK N).kc ρ 11) N:=Fx.uL [] (adH N) ρ (fQ.l9 N ((yK N).kc ρ 11)) λn ρ' e d=>by rw[e,d 11 rfl];rfl
theorem adJ(K ρ):(yK N).bd K ρ 11=fQ.e8 N ((yK N).kc K 19) ((yK N).kc ρ 11):=κ
theorem adK(ρ):(yK N).kc ((yK N).ck ρ) 11=fQ.l5 N N:=Fx.uL [19] (adJ N) ρ (fQ.l5 N) λn ρ' e d=>by rw[adI,e];rfl
theorem avn(K):(yK N).top K=fQ.b N ((yK N).kc K 11):=κ
def avo:Kn prog:=⟨195,(yK N).S false (fQ N),Fx.u1 (yK N) aD func195 [11] (avn N) (by rw[adK];rfl)⟩
def aqc:Fx:=⟨28,tab,Kn.l [Kf N,k79 N,avm N,avo N],N,f177,[.v aA,.v aL,.v I],[.v aL,.v I],[],none⟩
def avp:Kn prog:=⟨177,(aqc N).S false (Li N),Fx.u0 (aqc N) aD func177⟩
def aqd:Fx:=⟨41,tab,[],N,f214,[.v eD],[.v B],[],none⟩
def aqe:Kn prog:=⟨214,(aqd N).S true (Xc N),Fx.u0 (aqd N) aD func214⟩
def sK:Fx:=⟨67,tab,Kn.l [aqe N],N,f197,[.v fO],[.v B],[⟨19,[(0,.v fO),(3,.v I),(4,.v I)],[1,1,0,1,0,0,1,0,0,1,1,0,0],[9]⟩,⟨16,[(0,.v fO),(3,.v I)],[1,1,0,1,0,0,1,0,0,1],[9]⟩,⟨9,[(0,.v fO),(3,.v I)],[1,1,0,1,0,0],[]⟩],none⟩
theorem adL(K ρ):(sK N).bd K ρ 19=eF.zA N ((sK N).kc ρ 9) ((sK N).kc ρ 19):=κ
theorem adM(ρ):(sK N).kc ((sK N).ck ρ) 19=eF.l9 N ((sK N).kc ρ 9) N:=Fx.uL [] (adL N) ρ (eF.l9 N ((sK N).kc ρ 9)) λn ρ' e d=>by rw[e,d 9 rfl];rfl
theorem adN(K ρ):(sK N).bd K ρ 16=eF.JC N ((sK N).kc K 19) ((sK N).kc ρ 9):=κ
theorem adO(ρ):(sK N).kc ((sK N).ck ρ) 16=eF.j8 N ((sK N).kc ρ 9):=Fx.uJ [19] (adN N) ρ (by rw[adM];rfl)
theorem akg(K ρ):(sK N).bd K ρ 9=eF.ew N ((sK N).kc K 16) ((sK N).kc ρ 9):=κ
theorem akh(ρ):(sK N).kc ((sK N).ck ρ) 9=eF.l4 N N:=Fx.uL [16,19] (akg N) ρ (eF.l4 N) λn ρ' e d=>by rw[adO,e];rfl
theorem avq(K):(sK N).top K=eF.b N ((sK N).kc K 9):=κ
def Y0:Kn prog:=⟨197,(sK N).S true (eF N),Fx.u1 (sK N) aD func197 [9] (avq N) (by rw[akh];rfl)⟩
def PJ:Fx:=⟨32,tab,Kn.l [Y0 N],N,f178,[.v fO,.v I],[.own eD],[⟨11,[(0,.v fO),(1,.v I),(5,.own eD),(6,.v I)],[1,1,1,0,1,0,0],[]⟩],none⟩
theorem adP(K ρ):(PJ N).bd K ρ 11=pG.e8 N ((PJ N).kc ρ 11):=κ
theorem adQ(ρ):(PJ N).kc ((PJ N).ck ρ) 11=pG.l5 N N:=Fx.uL [] (adP N) ρ (pG.l5 N) λn ρ' e d=>by rw[e];rfl
theorem avr(K):(PJ N).top K=pG.b N ((PJ N).kc K 11):=κ
def avs:Kn prog:=⟨178,(PJ N).S false (pG N),Fx.u1 (PJ N) aD func178 [11] (avr N) (by rw[adQ];rfl)⟩
def aqf:Fx:=⟨66,tab,[],N,f179,[.v dY,.v I],[.v B],[],none⟩
def avt:Kn prog:=⟨179,(aqf N).S true (abl N),Fx.u0 (aqf N) aD func179⟩
def aqg:Fx:=⟨9,tab,Kn.l [k79 N],N,f217,[.v aL,.v I],[.v I],[],none⟩
def adR:Kn prog:=⟨217,(aqg N).S true (Ll N),Fx.u0 (aqg N) aD func217⟩
def X82:Fx:=⟨56,tab,Kn.l [k65 N,zH N,k19 N,Zq N,RH N],N,f82,[.v aA,.v c8,.v B],[.v cP,.v I],[⟨11,[(1,.v c8),(2,.v B),(3,.obj aA),(6,.obj cP),(8,.obj cP),(9,.v I)],[1,1,1,0,1,0,0],[]⟩],none⟩
theorem aki(K ρ):(X82 N).bd K ρ 11=Eo.e8 N ((X82 N).kc ρ 11):=κ
theorem akj(ρ):(X82 N).kc ((X82 N).ck ρ) 11=Eo.l5 N N:=Fx.uL [] (aki N) ρ (Eo.l5 N) λn ρ' e d=>by rw[e];rfl
theorem h82(K):(X82 N).top K=Eo.b N ((X82 N).kc K 11):=κ
def k82:Kn prog:=⟨82,(X82 N).S false (Eo N),Fx.u1 (X82 N) aD func82 [11] (h82 N) (by rw[akj];rfl)⟩
def aqh:Fx:=⟨11,tab,Kn.l [k82 N],N,f235,[.v aA,.v c8],[.v cP,.v I],[],none⟩
def avu:Kn prog:=⟨235,(aqh N).S false (aid N),Fx.u0 (aqh N) aD func235⟩
def aqi:Fx:=⟨9,tab,Kn.l [I2 N],N,f219,[.v aL,.v I],[.v I],[],none⟩
def adS:Kn prog:=⟨219,(aqi N).S true (Q7 N),Fx.u0 (aqi N) aD func219⟩
def aqj:Fx:=⟨69,tab,Kn.l [Kf N,RG N,adR N,k14 N,avu N,adS N,zH N,k20 N],N,f215,[.v aA,.v aL,.v I,.v I,.v I],[.v I],[],none⟩
def avv:Kn prog:=⟨215,(aqj N).S true (aa5 N),Fx.u0 (aqj N) aD func215⟩
def PK:Fx:=⟨61,tab,Kn.l [k73 N,acu N,Vk N],N,f216,[.v c8,.v fO,.v I,.v I],[.own eD,.v I],[⟨27,[(2,.v I),(3,.v I),(13,.own eD),(14,.v I)],[1,1,1,1,1,1,1,1,0,1,0,0],[]⟩],none⟩
theorem adT(K ρ):(PK N).bd K ρ 27=nM.m5 N ((PK N).kc ρ 27):=κ
theorem adU(ρ):(PK N).kc ((PK N).ck ρ) 27=nM.oU N N:=Fx.uL [] (adT N) ρ (nM.oU N) λn ρ' e d=>by rw[e];rfl
theorem avw(K):(PK N).top K=nM.b N ((PK N).kc K 27):=κ
def avx:Kn prog:=⟨216,(PK N).S false (nM N),Fx.u1 (PK N) aD func216 [27] (avw N) (by rw[adU];rfl)⟩
def aqk:Fx:=⟨42,tab,Kn.l [avv N,avx N],N,f198,[.v aA,.v aL,.v I,.v I,.v I],[.v aL,.v I],[],none⟩
def avy:Kn prog:=⟨198,(aqk N).S false (UH N),Fx.u0 (aqk N) aD func198⟩
def X40:Fx:=⟨11,tab,Kn.l [k82 N],N,f40,[.v aA,.v c8],[.v cP,.v I],[],none⟩
def k40:Kn prog:=⟨40,(X40 N).S false (F40 N),Fx.u0 (X40 N) aD func40⟩
def aql:Fx:=⟨55,tab,Kn.l [Kf N,RG N,k14 N,k40 N,adS N,YZ N],N,f218,[.v aA,.v aL,.v I],[.v I,.v I],[],none⟩
def avz:Kn prog:=⟨218,(aql N).S true (abi N),Fx.u0 (aql N) aD func218⟩
def PL:Fx:=⟨76,tab,Kn.l [k50 N],N,f220,[.v eG,.v I,.v I],[.own oB],[⟨11,[(0,.v eG),(1,.v I),(2,.v I),(7,.own oB),(8,.v I)],[1,1,1,0,1,0,0],[]⟩],none⟩
theorem adV(K ρ):(PL N).bd K ρ 11=m6.e8 N ((PL N).kc ρ 11):=κ
theorem adW(ρ):(PL N).kc ((PL N).ck ρ) 11=m6.l5 N N:=Fx.uL [] (adV N) ρ (m6.l5 N) λn ρ' e d=>by rw[e];rfl
theorem avA(K):(PL N).top K=m6.b N ((PL N).kc K 11):=κ
def avB:Kn prog:=⟨220,(PL N).S false (m6 N),Fx.u1 (PL N) aD func220 [11] (avA N) (by rw[adW];rfl)⟩
def BG:Fx:=⟨86,tab,Kn.l [Kf N,adR N,avz N,zH N,YY N,adS N,k21 N,avB N,Px N],N,f199,[.v aA,.v aL,.v I],[.v aL,.v I],[⟨30,[(2,.v I),(3,.obj aA),(4,.obj aL),(6,.obj aL),(8,.own oB),(9,.own su),(10,.v I),(11,.obj eD)],[1,1,1,1,1,0,1,0,0,1,0,0,1,1,1],[17]⟩,⟨17,[(2,.v I),(3,.obj aA),(4,.obj aL),(6,.obj aL),(8,.own oB),(9,.own su),(10,.v I)],[1,1,1,1,1,0,1,0,0],[]⟩],none⟩
theorem adX(K ρ):(BG N).bd K ρ 30=gy.wo N ((BG N).kc ρ 17):=κ
theorem adY(ρ):(BG N).kc ((BG N).ck ρ) 30=gy.Cp N ((BG N).kc ρ 17):=Fx.uJ [] (adX N) ρ
theorem adZ(K ρ):(BG N).bd K ρ 17=gy.zo N ((BG N).kc K 30) ((BG N).kc ρ 17):=κ
theorem ad0(ρ):(BG N).kc ((BG N).ck ρ) 17=gy.l8 N N:=Fx.uL [30] (adZ N) ρ (gy.l8 N) λn ρ' e d=>by rw[adY,e];rfl
theorem avC(K):(BG N).top K=gy.b N ((BG N).kc K 17):=κ
def avD:Kn prog:=⟨199,(BG N).S false (gy N),Fx.u1 (BG N) aD func199 [17] (avC N) (by rw[ad0];rfl)⟩
def X15:Fx:=⟨38,tab,Kn.l [k50 N],N,f15,[.v eG,.v I,.v I],[.v I],[⟨9,[(0,.v eG),(1,.v I),(2,.v I),(7,.v I)],[1,1,0,1,0,0],[]⟩],none⟩
theorem aqm(K ρ):(X15 N).bd K ρ 9=Dx.ew N ((X15 N).kc ρ 9):=κ
theorem aqn(ρ):(X15 N).kc ((X15 N).ck ρ) 9=Dx.l4 N N:=Fx.uL [] (aqm N) ρ (Dx.l4 N) λn ρ' e d=>by rw[e];rfl
theorem h15(K):(X15 N).top K=Dx.b N ((X15 N).kc K 9):=κ
def k15:Kn prog:=⟨15,(X15 N).S true (Dx N),Fx.u1 (X15 N) aD func15 [9] (h15 N) (by rw[aqn];rfl)⟩
def PM:Fx:=⟨48,tab,Kn.l [Kf N,k15 N,zH N,Zq N,RH N],N,f221,[.v aA,.v aL],[.own cP,.v I],[⟨11,[(2,.obj aA),(3,.obj aL),(6,.own cP),(7,.v I)],[1,1,1,0,1,0,0],[]⟩],none⟩
theorem ad1(K ρ):(PM N).bd K ρ 11=sd.e8 N ((PM N).kc ρ 11):=κ
theorem ad2(ρ):(PM N).kc ((PM N).ck ρ) 11=sd.l5 N N:=Fx.uL [] (ad1 N) ρ (sd.l5 N) λn ρ' e d=>by rw[e];rfl
theorem avE(K):(PM N).top K=sd.b N ((PM N).kc K 11):=κ
def avF:Kn prog:=⟨221,(PM N).S false (sd N),Fx.u1 (PM N) aD func221 [11] (avE N) (by rw[ad2];rfl)⟩
def PN:Fx:=⟨31,tab,Kn.l [k64 N],N,f222,[.v aA,.v I],[.own I],[⟨11,[(1,.v I),(2,.obj aA),(5,.own I),(6,.v I)],[1,1,1,0,1,0,0],[]⟩],none⟩
theorem ad3(K ρ):(PN N).bd K ρ 11=pz.e8 N ((PN N).kc ρ 11):=κ
theorem ad4(ρ):(PN N).kc ((PN N).ck ρ) 11=pz.l5 N N:=Fx.uL [] (ad3 N) ρ (pz.l5 N) λn ρ' e d=>by rw[e];rfl
theorem avG(K):(PN N).top K=pz.b N ((PN N).kc K 11):=κ
def avH:Kn prog:=⟨222,(PN N).S false (pz N),Fx.u1 (PN N) aD func222 [11] (avG N) (by rw[ad4];rfl)⟩
def PO:Fx:=⟨35,tab,Kn.l [ajB N],N,f158,[.v LU],[.v LU,.v U],[⟨9,[(0,.v LU),(4,.own U),(5,.v U),(6,.v I)],[1,1,1,0,1,0,0],[]⟩],none⟩
theorem akk(K ρ):(PO N).bd K ρ 9=pX.ew N ((PO N).kc ρ 9):=κ
theorem akl(ρ):(PO N).kc ((PO N).ck ρ) 9=pX.l4 N N:=Fx.uL [] (akk N) ρ (pX.l4 N) λn ρ' e d=>by rw[e];rfl
theorem avI(K):(PO N).top K=pX.b N ((PO N).kc K 9):=κ
def avJ:Kn prog:=⟨158,(PO N).S false (pX N),Fx.u1 (PO N) aD func158 [9] (avI N) (by rw[akl];rfl)⟩
def CK:Fx:=⟨77,tab,Kn.l [avJ N,RH N,zH N,k20 N,k58 N,k57 N,k21 N],N,f118,[.v cP,.v cP],[.v cP,.v cP],[⟨19,[(2,.obj cP),(3,.obj cP),(4,.obj cP),(5,.obj cP),(6,.own U),(10,.obj cP),(11,.obj cP),(12,.v I)],[1,1,1,1,0,1,0,0],[]⟩,⟨7,[(2,.obj cP),(3,.obj cP),(4,.obj cP),(5,.obj cP),(6,.own U),(7,.v LU)],[1,1,0,1,0,0],[]⟩],none⟩
theorem ad5(K ρ):(CK N).bd K ρ 19=iE.zA N ((CK N).kc ρ 19):=κ
theorem ad6(ρ):(CK N).kc ((CK N).ck ρ) 19=iE.l9 N N:=Fx.uL [] (ad5 N) ρ (iE.l9 N) λn ρ' e d=>by rw[e];rfl
theorem akm(K ρ):(CK N).bd K ρ 7=iE.lD N ((CK N).kc K 19) ((CK N).kc ρ 7):=κ
theorem akn(ρ):(CK N).kc ((CK N).ck ρ) 7=iE.l3 N N:=Fx.uL [19] (akm N) ρ (iE.l3 N) λn ρ' e d=>by rw[ad6,e];rfl
theorem avK(K):(CK N).top K=iE.b N ((CK N).kc K 7):=κ
def aqo:Kn prog:=⟨118,(CK N).S false (iE N),Fx.u1 (CK N) aD func118 [7,19] (avK N) (by rw[akn];rfl)⟩
def BH:Fx:=⟨104,tab,Kn.l [avF N,avH N,k19 N,zH N,k20 N,aqo N,YZ N,k57 N],N,f200,[.v aA,.v aL,.v I],[.own eD,.v I],[⟨30,[(2,.v I),(3,.obj aA),(4,.obj aL),(8,.own cP),(10,.own eD),(11,.v I),(12,.own I),(16,.v I)],[1,1,1,1,0,1,0,0,1,0,0,1,1,1,1,1,1],[13]⟩,⟨13,[(2,.v I),(3,.obj aA),(4,.obj aL),(8,.own cP),(10,.own eD),(11,.v I)],[1,1,1,1,0,1,0,0],[]⟩],none⟩
theorem ad7(K ρ):(BH N).bd K ρ 30=jf.wo N ((BH N).kc ρ 13):=κ
theorem ad8(ρ):(BH N).kc ((BH N).ck ρ) 30=jf.Cp N ((BH N).kc ρ 13):=Fx.uJ [] (ad7 N) ρ
theorem ad9(K ρ):(BH N).bd K ρ 13=jf.vX N ((BH N).kc K 30) ((BH N).kc ρ 13):=κ
theorem aea(ρ):(BH N).kc ((BH N).ck ρ) 13=jf.l6 N N:=Fx.uL [30] (ad9 N) ρ (jf.l6 N) λn ρ' e d=>by rw[ad8,e];rfl
theorem avL(K):(BH N).top K=jf.b N ((BH N).kc K 13):=κ
def avM:Kn prog:=⟨200,(BH N).S false (jf N),Fx.u1 (BH N) aD func200 [13] (avL N) (by rw[aea];rfl)⟩
def aqp:Fx:=⟨41,tab,[],N,f236,[.v eD],[.v B],[],none⟩
def avN:Kn prog:=⟨236,(aqp N).S true (aaP N),Fx.u0 (aqp N) aD func236⟩
def RI:Fx:=⟨113,tab,Kn.l [Kf N,avN N,apZ N,ap6 N],N,f223,[.v aA,.v aL,.v eD,.v I,.v I,.v I],[.v aL,.v eD,.v I],[⟨28,[(4,.v I),(6,.obj aA),(7,.obj aL),(8,.obj eD),(12,.obj aL),(13,.obj eD),(17,.obj tE)],[1,1,1,1,1,1,1,1],[]⟩],none⟩
theorem aeb(K ρ):(RI N).bd K ρ 28=p5.aaW N:=κ
theorem aec(ρ):(RI N).kc ((RI N).ck ρ) 28=p5.j14 N:=Fx.uJ [] (aeb N) ρ
theorem avO(K):(RI N).top K=p5.b N ((RI N).kc K 28):=κ
def avP:Kn prog:=⟨223,(RI N).S false (p5 N),Fx.u1 (RI N) aD func223 [28] (avO N) (by rw[aec];rfl)⟩
def PQ:Fx:=⟨77,tab,Kn.l [avP N,aco N],N,f201,[.v aA,.v dY,.v pE],[.v dY,.v oB],[⟨11,[(3,.obj aA),(4,.obj dY),(5,.obj pE),(6,.obj dY),(7,.obj oB),(8,.own eD),(9,.v B),(10,.v I),(11,.v I)],[1,1,1,1,0,1,0,0],[]⟩],none⟩
theorem aed(K ρ):(PQ N).bd K ρ 11=nR.e8 N ((PQ N).kc ρ 11):=κ
theorem aee(ρ):(PQ N).kc ((PQ N).ck ρ) 11=nR.l5 N N:=Fx.uL [] (aed N) ρ (nR.l5 N) λn ρ' e d=>by rw[e];rfl
theorem avQ(K):(PQ N).top K=nR.b N ((PQ N).kc K 11):=κ
def avR:Kn prog:=⟨201,(PQ N).S false (nR N),Fx.u1 (PQ N) aD func201 [11] (avQ N) (by rw[aee];rfl)⟩
def X38:Fx:=⟨28,tab,Kn.l [k57 N,zH N,Zq N,k20 N],N,f38,[.v cP,.v I],[.v I],[⟨9,[(1,.v I),(2,.obj cP),(5,.v I)],[1,1,1,0,0,0],[]⟩],none⟩
theorem aqq(K ρ):(X38 N).bd K ρ 9=Hc.ew N ((X38 N).kc ρ 9):=κ
theorem aqr(ρ):(X38 N).kc ((X38 N).ck ρ) 9=Hc.l4 N N:=Fx.uL [] (aqq N) ρ (Hc.l4 N) λn ρ' e d=>by rw[e];rfl
theorem h38(K):(X38 N).top K=Hc.b N ((X38 N).kc K 9):=κ
def k38:Kn prog:=⟨38,(X38 N).S true (Hc N),Fx.u1 (X38 N) aD func38 [9] (h38 N) (by rw[aqr];rfl)⟩
def PS:Fx:=⟨24,tab,[],N,f116,[.v I,.v LI],[.v B],[⟨9,[(1,.v LI),(5,.v I)],[1,1,0,1,0,0],[]⟩],none⟩
theorem ako(K ρ):(PS N).bd K ρ 9=p3.ew N ((PS N).kc ρ 9):=κ
theorem akp(ρ):(PS N).kc ((PS N).ck ρ) 9=p3.l4 N N:=Fx.uL [] (ako N) ρ (p3.l4 N) λn ρ' e d=>by rw[e];rfl
theorem avS(K):(PS N).top K=p3.b N ((PS N).kc K 9):=κ
def aqs:Kn prog:=⟨116,(PS N).S true (p3 N),Fx.u1 (PS N) aD func116 [9] (avS N) (by rw[akp];rfl)⟩
def PU:Fx:=⟨19,tab,Kn.l [zH N,RH N],N,f117,[.v LI],[.v cP],[⟨7,[(0,.v LI),(2,.obj cP),(3,.obj cP),(4,.v I)],[1,1,0,1,0,0],[]⟩],none⟩
theorem akq(K ρ):(PU N).bd K ρ 7=pW.lD N ((PU N).kc ρ 7):=κ
theorem akr(ρ):(PU N).kc ((PU N).ck ρ) 7=pW.l3 N N:=Fx.uL [] (akq N) ρ (pW.l3 N) λn ρ' e d=>by rw[e];rfl
theorem avT(K):(PU N).top K=pW.b N ((PU N).kc K 7):=κ
def aks:Kn prog:=⟨117,(PU N).S false (pW N),Fx.u1 (PU N) aD func117 [7] (avT N) (by rw[akr];rfl)⟩
def sL:Fx:=⟨48,tab,[],N,f119,[.v LI],[.own I],[⟨16,[(0,.v LI),(3,.own I),(4,.v I),(5,.v I)],[1,1,0,1,0,0,1,0,0,1,1],[7]⟩,⟨13,[(0,.v LI),(3,.own I),(4,.v I),(5,.v I)],[1,1,0,1,0,0,1,0,0,1,0,0,0],[7]⟩,⟨7,[(0,.v LI),(3,.own I),(4,.v I)],[1,1,0,1,0,0],[]⟩],none⟩
theorem aef(K ρ):(sL N).bd K ρ 16=fy.JC N ((sL N).kc ρ 7):=κ
theorem aeg(ρ):(sL N).kc ((sL N).ck ρ) 16=fy.j8 N ((sL N).kc ρ 7):=Fx.uJ [] (aef N) ρ
theorem aeh(K ρ):(sL N).bd K ρ 13=fy.vX N ((sL N).kc K 16) ((sL N).kc ρ 7) ((sL N).kc ρ 13):=κ
theorem aei(ρ):(sL N).kc ((sL N).ck ρ) 13=fy.l6 N ((sL N).kc ρ 7) N:=Fx.uL [16] (aeh N) ρ (fy.l6 N ((sL N).kc ρ 7)) λn ρ' e d=>by rw[aeg,e,d 7 rfl];rfl
theorem akt(K ρ):(sL N).bd K ρ 7=fy.lD N ((sL N).kc K 13) ((sL N).kc ρ 7):=κ
theorem aku(ρ):(sL N).kc ((sL N).ck ρ) 7=fy.l3 N N:=Fx.uL [13,16] (akt N) ρ (fy.l3 N) λn ρ' e d=>by rw[aei,e];rfl
theorem avU(K):(sL N).top K=fy.b N ((sL N).kc K 7):=κ
def avV:Kn prog:=⟨119,(sL N).S false (fy N),Fx.u1 (sL N) aD func119 [7] (avU N) (by rw[aku];rfl)⟩
def PV:Fx:=⟨112,tab,Kn.l [aqs N,aks N,k57 N,YZ N,zH N,Zq N,aqo N,avV N],N,f81,[.v I,.v LI],[.own I,.v I],[⟨45,[(9,.own I),(11,.v I),(15,.own I),(16,.v I)],[1,1,1,1,1,1,1,1,1,1,0,1,0,0],[]⟩,⟨29,[(0,.v I),(1,.v LI),(6,.obj cP),(9,.own I),(10,.own I),(11,.v I),(12,.v I)],[1,1,1,1,1,1,1,1,0,1,0,0],[]⟩,⟨12,[(0,.v I),(1,.v LI),(6,.obj cP)],[1,1,1,1],[]⟩],none⟩
theorem akv(K ρ):(PV N).bd K ρ 45=pA.wm N ((PV N).kc ρ 45):=κ
theorem akw(ρ):(PV N).kc ((PV N).ck ρ) 45=pA.xq N N:=Fx.uL [] (akv N) ρ (pA.xq N) λn ρ' e d=>by rw[e];rfl
theorem akx(K ρ):(PV N).bd K ρ 29=pA.GY N ((PV N).kc K 45) ((PV N).kc ρ 29):=κ
theorem aky(ρ):(PV N).kc ((PV N).ck ρ) 29=pA.JK N N:=Fx.uL [45] (akx N) ρ (pA.JK N) λn ρ' e d=>by rw[akw,e];rfl
theorem akz(K ρ):(PV N).bd K ρ 12=pA.T7 N ((PV N).kc K 29):=κ
theorem akA(ρ):(PV N).kc ((PV N).ck ρ) 12=pA.j6 N:=Fx.uJ [29,45] (akz N) ρ (by rw[aky];rfl)
theorem h81(K):(PV N).top K=pA.b N ((PV N).kc K 12):=κ
def k81:Kn prog:=⟨81,(PV N).S false (pA N),Fx.u1 (PV N) aD func81 [12,29,45] (h81 N) (by rw[akA];rfl)⟩
def X39:Fx:=⟨33,tab,Kn.l [k81 N],N,f39,[.v I,.v I],[.own I,.v I],[⟨11,[(0,.v I),(1,.v I),(6,.own I),(7,.v I)],[1,1,1,0,1,0,0],[]⟩],none⟩
theorem akB(K ρ):(X39 N).bd K ρ 11=GZ.e8 N ((X39 N).kc ρ 11):=κ
theorem akC(ρ):(X39 N).kc ((X39 N).ck ρ) 11=GZ.l5 N N:=Fx.uL [] (akB N) ρ (GZ.l5 N) λn ρ' e d=>by rw[e];rfl
theorem h39(K):(X39 N).top K=GZ.b N ((X39 N).kc K 11):=κ
def k39:Kn prog:=⟨39,(X39 N).S false (GZ N),Fx.u1 (X39 N) aD func39 [11] (h39 N) (by rw[akC];rfl)⟩
def oI:Fx:=⟨175,tab,Kn.l [Kf N,k14 N,zH N,k19 N,RH N,k38 N,k39 N,k40 N,k21 N,YZ N],N,f12,[.v aA,.v aL,.v I],[.own fZ,.v I],[⟨64,[(2,.v I),(3,.obj aA),(8,.own hZ),(9,.own fZ),(10,.v I),(11,.own hZ),(14,.v I),(15,.v I),(16,.fv fZ [.gr 1] hZ),(17,.v I),(19,.own I)],[1,1,1,1,1,0,1,0,0,1,0,0,1,1,1,1,1,0,0,1,0,0,1,0,1,0,0,1,0,0,1,1,1,1],[17,41,49]⟩,⟨58,[(2,.v I),(3,.obj aA),(8,.own hZ),(9,.own fZ),(10,.v I),(11,.own hZ),(14,.v I),(15,.v I),(16,.fv fZ [.gr 1] hZ),(17,.v I),(18,.v I)],[1,1,1,1,1,0,1,0,0,1,0,0,1,1,1,1,1,0,0,1,0,0,1,0,1,0,0,1,0,0,1,1],[17,41,49]⟩,⟨49,[(2,.v I),(3,.obj aA),(8,.own hZ),(9,.own fZ),(10,.v I),(11,.own hZ),(14,.v I),(15,.v I),(16,.fv fZ [.gr 1] hZ),(17,.v I)],[1,1,1,1,1,0,1,0,0,1,0,0,1,1,1,1,1,0,0,1,0,0,1,0,1,0,0],[17,41]⟩,⟨41,[(2,.v I),(3,.obj aA),(8,.own hZ),(9,.own fZ),(10,.v I),(11,.own hZ),(14,.v I),(15,.v I)],[1,1,1,1,1,0,1,0,0,1,0,0,1,1,1,1,1,0,0],[17]⟩,⟨27,[(2,.v I),(3,.obj aA),(8,.own hZ),(9,.own fZ),(10,.v I),(11,.own hZ),(12,.obj cP),(13,.v I)],[1,1,1,1,1,0,1,0,0,1,0,0,1,1,0,1,0,0],[17]⟩,⟨17,[(2,.v I),(3,.obj aA),(8,.own hZ),(9,.own fZ),(10,.v I)],[1,1,1,1,1,0,1,0,0],[]⟩],some (fZ,[.gr 1],hZ,[16])⟩
theorem akD(K ρ):(oI N).bd K ρ 64=ei.aif N ((oI N).kc ρ 17) ((oI N).kc ρ 41) ((oI N).kc ρ 49):=κ
theorem akE(ρ):(oI N).kc ((oI N).ck ρ) 64=ei.j32 N ((oI N).kc ρ 17) ((oI N).kc ρ 41) ((oI N).kc ρ 49):=Fx.uJ [] (akD N) ρ
theorem akF(K ρ):(oI N).bd K ρ 58=ei.Ep N ((oI N).kc K 64) ((oI N).kc ρ 17) ((oI N).kc ρ 41) ((oI N).kc ρ 49):=κ
theorem akG(ρ):(oI N).kc ((oI N).ck ρ) 58=ei.L1 N ((oI N).kc ρ 17) ((oI N).kc ρ 41) ((oI N).kc ρ 49):=Fx.uJ [64] (akF N) ρ (by rw[akE];rfl)
theorem akH(K ρ):(oI N).bd K ρ 49=ei.yE N ((oI N).kc K 58) ((oI N).kc ρ 17) ((oI N).kc ρ 41) ((oI N).kc ρ 49):=κ
theorem akI(ρ):(oI N).kc ((oI N).ck ρ) 49=ei.xX N ((oI N).kc ρ 17) ((oI N).kc ρ 41) N:=Fx.uL [58,64] (akH N) ρ (ei.xX N ((oI N).kc ρ 17) ((oI N).kc ρ 41)) λn ρ' e d=>by rw[akG,e,d 17 rfl,d 41 rfl];rfl
theorem akJ(K ρ):(oI N).bd K ρ 41=ei.OB N ((oI N).kc K 49) ((oI N).kc ρ 17) ((oI N).kc ρ 41):=κ
theorem akK(ρ):(oI N).kc ((oI N).ck ρ) 41=ei.IT N ((oI N).kc ρ 17) N:=Fx.uL [49] (akJ N) ρ (ei.IT N ((oI N).kc ρ 17)) λn ρ' e d=>by rw[akI,e,d 17 rfl];rfl
theorem akL(K ρ):(oI N).bd K ρ 27=ei.m5 N ((oI N).kc K 41) ((oI N).kc ρ 17) ((oI N).kc ρ 27):=κ
theorem akM(ρ):(oI N).kc ((oI N).ck ρ) 27=ei.oU N ((oI N).kc ρ 17) N:=Fx.uL [41] (akL N) ρ (ei.oU N ((oI N).kc ρ 17)) λn ρ' e d=>by rw[akK,e,d 17 rfl];rfl
theorem akN(K ρ):(oI N).bd K ρ 17=ei.zo N ((oI N).kc K 27) ((oI N).kc ρ 17):=κ
theorem akO(ρ):(oI N).kc ((oI N).ck ρ) 17=ei.l8 N N:=Fx.uL [27,41] (akN N) ρ (ei.l8 N) λn ρ' e d=>by rw[akM,e];rfl
theorem Y3(K):(oI N).top K=ei.b N ((oI N).kc K 17):=κ
def k12:Kn prog:=⟨12,(oI N).S false (ei N),Fx.u1 (oI N) aD func12 [17] (Y3 N) (by rw[akO];rfl)⟩
def PW:Fx:=⟨48,tab,Kn.l [Kf N,I2 N],N,f202,[.v aA,.v aL],[.own I,.v I],[⟨11,[(3,.obj aL),(6,.own I),(7,.v I)],[1,1,1,0,1,0,0],[]⟩],none⟩
theorem aej(K ρ):(PW N).bd K ρ 11=sh.e8 N ((PW N).kc ρ 11):=κ
theorem aek(ρ):(PW N).kc ((PW N).ck ρ) 11=sh.l5 N N:=Fx.uL [] (aej N) ρ (sh.l5 N) λn ρ' e d=>by rw[e];rfl
theorem avX(K):(PW N).top K=sh.b N ((PW N).kc K 11):=κ
def avY:Kn prog:=⟨202,(PW N).S false (sh N),Fx.u1 (PW N) aD func202 [11] (avX N) (by rw[aek];rfl)⟩
def Th:Fx:=⟨99,tab,Kn.l [k64 N,k65 N],N,f30,[.v aA,.v iC],[.v B],[⟨18,[(1,.v iC),(2,.obj aA),(5,.v I),(6,.obj fZ)],[1,1,0,1,0,0,1,0,0,1,1],[9]⟩,⟨9,[(1,.v iC),(2,.obj aA),(5,.v I)],[1,1,0,1,0,0],[]⟩],none⟩
theorem akP(K ρ):(Th N).bd K ρ 18=uS.NL N ((Th N).kc ρ 9):=κ
theorem akQ(ρ):(Th N).kc ((Th N).ck ρ) 18=uS.j9 N ((Th N).kc ρ 9):=Fx.uJ [] (akP N) ρ
theorem aqt(K ρ):(Th N).bd K ρ 9=uS.ew N ((Th N).kc K 18) ((Th N).kc ρ 9):=κ
theorem aqu(ρ):(Th N).kc ((Th N).ck ρ) 9=uS.l4 N N:=Fx.uL [18] (aqt N) ρ (uS.l4 N) λn ρ' e d=>by rw[akQ,e];rfl
theorem h30(K):(Th N).top K=uS.b N ((Th N).kc K 9):=κ
def k30:Kn prog:=⟨30,(Th N).S true (uS N),Fx.u1 (Th N) aD func30 [9] (h30 N) (by rw[aqu];rfl)⟩
def X28:Fx:=⟨25,tab,[],N,f28,[.v iC,.v I],[.v fZ,.v B],[⟨5,[(0,.v iC),(1,.v I),(4,.obj fZ),(6,.v I)],[1,0,1,0,0],[]⟩],none⟩
theorem aqv(K ρ):(X28 N).bd K ρ 5=E1.gm N ((X28 N).kc ρ 5):=κ
theorem aqw(ρ):(X28 N).kc ((X28 N).ck ρ) 5=E1.l2 N N:=Fx.uL [] (aqv N) ρ (E1.l2 N) λn ρ' e d=>by rw[e];rfl
theorem h28(K):(X28 N).top K=E1.b N ((X28 N).kc K 5):=κ
def k28:Kn prog:=⟨28,(X28 N).S false (E1 N),Fx.u1 (X28 N) aD func28 [5] (h28 N) (by rw[aqw];rfl)⟩
def qL:Fx:=⟨75,tab,Kn.l [zH N,RH N,apx N],N,f237,[.v c8,.v c8],[.own hZ,.v B],[⟨25,[(0,.v c8),(1,.v c8),(6,.own hZ),(7,.v I),(8,.obj cP),(10,.v I)],[1,1,0,1,0,0,1,0,0,1,1,0,1,0,0],[7]⟩,⟨15,[(0,.v c8),(1,.v c8),(6,.own hZ),(7,.v I),(8,.obj cP),(9,.v I)],[1,1,0,1,0,0,1,0,0,1,0,1,0,0],[7]⟩,⟨7,[(0,.v c8),(1,.v c8),(6,.own hZ),(7,.v I)],[1,1,0,1,0,0],[]⟩],none⟩
theorem ael(K ρ):(qL N).bd K ρ 25=eT.pZ N ((qL N).kc ρ 7) ((qL N).kc ρ 25):=κ
theorem aem(ρ):(qL N).kc ((qL N).ck ρ) 25=eT.qA N ((qL N).kc ρ 7) N:=Fx.uL [] (ael N) ρ (eT.qA N ((qL N).kc ρ 7)) λn ρ' e d=>by rw[e,d 7 rfl];rfl
theorem aen(K ρ):(qL N).bd K ρ 15=eT.rL N ((qL N).kc K 25) ((qL N).kc ρ 7) ((qL N).kc ρ 15):=κ
theorem aeo(ρ):(qL N).kc ((qL N).ck ρ) 15=eT.l7 N ((qL N).kc ρ 7) N:=Fx.uL [25] (aen N) ρ (eT.l7 N ((qL N).kc ρ 7)) λn ρ' e d=>by rw[aem,e,d 7 rfl];rfl
theorem akR(K ρ):(qL N).bd K ρ 7=eT.lD N ((qL N).kc K 15) ((qL N).kc ρ 7):=κ
theorem akS(ρ):(qL N).kc ((qL N).ck ρ) 7=eT.l3 N N:=Fx.uL [15,25] (akR N) ρ (eT.l3 N) λn ρ' e d=>by rw[aeo,e];rfl
theorem av0(K):(qL N).top K=eT.b N ((qL N).kc K 7):=κ
def av1:Kn prog:=⟨237,(qL N).S false (eT N),Fx.u1 (qL N) aD func237 [7] (av0 N) (by rw[akS];rfl)⟩
def aqx:Fx:=⟨11,tab,Kn.l [k76 N,aj6 N],N,f238,[.v sH,.v I],[.own oB],[],none⟩
def av2:Kn prog:=⟨238,(aqx N).S false (aie N),Fx.u0 (aqx N) aD func238⟩
def Ex:Fx:=⟨157,tab,Kn.l [Kf N,k30 N,Y0 N,aqe N,adR N,k28 N,YX N,zH N,Zq N,k20 N,k14 N,av1 N,av2 N,apR N,adS N,k58 N],N,f224,[.v aA,.v aL,.v iC,.v fO,.v eD],[.v I],[⟨27,[(3,.v fO),(5,.obj aA),(6,.obj aL),(9,.obj eD),(12,.obj fZ),(14,.v I),(15,.v I)],[1,1,1,1,1,1,1,1,0,1,0,0],[]⟩,⟨6,[(2,.v iC),(3,.v fO),(5,.obj aA),(6,.obj aL),(9,.obj eD)],[1,1],[]⟩],none⟩
theorem aep(K ρ):(Ex N).bd K ρ 27=lh.m5 N ((Ex N).kc ρ 27):=κ
theorem aeq(ρ):(Ex N).kc ((Ex N).ck ρ) 27=lh.oU N N:=Fx.uL [] (aep N) ρ (lh.oU N) λn ρ' e d=>by rw[e];rfl
theorem akT(K ρ):(Ex N).bd K ρ 6=lh.j3b N ((Ex N).kc K 27):=κ
theorem akU(ρ):(Ex N).kc ((Ex N).ck ρ) 6=lh.j3 N:=Fx.uJ [27] (akT N) ρ (by rw[aeq];rfl)
theorem av3(K):(Ex N).top K=lh.b N ((Ex N).kc K 6):=κ
def av4:Kn prog:=⟨224,(Ex N).S true (lh N),Fx.u1 (Ex N) aD func224 [6,27] (av3 N) (by rw[akU];rfl)⟩
def aqy:Fx:=⟨28,tab,Kn.l [av4 N],N,f203,[.v aA,.v aL,.v iC,.v fO,.v eD],[.own eD,.v I],[],none⟩
def av5:Kn prog:=⟨203,(aqy N).S false (aa7 N),Fx.u0 (aqy N) aD func203⟩
def PX:Fx:=⟨46,tab,Kn.l [Y0 N],N,f225,[.v fO,.v I],[.v eD,.v B],[⟨13,[(0,.v fO),(1,.v I),(4,.obj eD),(6,.obj eD),(7,.v B),(8,.v I)],[1,1,1,1,0,1,0,0],[]⟩],none⟩
theorem aer(K ρ):(PX N).bd K ρ 13=sq.vX N ((PX N).kc ρ 13):=κ
theorem aes(ρ):(PX N).kc ((PX N).ck ρ) 13=sq.l6 N N:=Fx.uL [] (aer N) ρ (sq.l6 N) λn ρ' e d=>by rw[e];rfl
theorem av6(K):(PX N).top K=sq.b N ((PX N).kc K 13):=κ
def av7:Kn prog:=⟨225,(PX N).S true (sq N),Fx.u1 (PX N) aD func225 [13] (av6 N) (by rw[aes];rfl)⟩
def yL:Fx:=⟨158,tab,Kn.l [Kf N,k30 N,Y0 N,av7 N,YX N,adR N,zH N,YY N,Px N],N,f204,[.v aA,.v aL,.v iC,.v fO],[.v aL,.own fZ,.v I],[⟨45,[(2,.v iC),(3,.v fO),(5,.obj aL),(8,.obj aL),(11,.own oB),(12,.own su),(13,.own fZ),(14,.v I),(15,.obj fZ),(16,.obj eD),(18,.v I),(19,.v I)],[1,1,1,1,1,0,1,0,0,1,0,0,1,1,1,1,1,1,1,1,0,1,0,0],[15]⟩,⟨15,[(2,.v iC),(3,.v fO),(5,.obj aL),(8,.obj aL),(11,.own oB),(12,.own su),(13,.own fZ),(14,.v I)],[1,1,1,1,1,0,1,0,0],[]⟩],none⟩
theorem aet(K ρ):(yL N).bd K ρ 45=fH.wm N ((yL N).kc ρ 15) ((yL N).kc ρ 45):=κ
theorem aeu(ρ):(yL N).kc ((yL N).ck ρ) 45=fH.xq N ((yL N).kc ρ 15) N:=Fx.uL [] (aet N) ρ (fH.xq N ((yL N).kc ρ 15)) λn ρ' e d=>by rw[e,d 15 rfl];rfl
theorem aev(K ρ):(yL N).bd K ρ 15=fH.rL N ((yL N).kc K 45) ((yL N).kc ρ 15):=κ
theorem aew(ρ):(yL N).kc ((yL N).ck ρ) 15=fH.l7 N N:=Fx.uL [45] (aev N) ρ (fH.l7 N) λn ρ' e d=>by rw[aeu,e];rfl
theorem av8(K):(yL N).top K=fH.b N ((yL N).kc K 15):=κ
def av9:Kn prog:=⟨204,(yL N).S false (fH N),Fx.u1 (yL N) aD func204 [15] (av8 N) (by rw[aew];rfl)⟩
def PY:Fx:=⟨58,tab,[],N,f226,[.v c8],[.v B],[⟨5,[(0,.v c8),(3,.v I)],[1,0,1,0,0],[]⟩],none⟩
theorem akV(K ρ):(PY N).bd K ρ 5=pI.gm N ((PY N).kc ρ 5):=κ
theorem akW(ρ):(PY N).kc ((PY N).ck ρ) 5=pI.l2 N N:=Fx.uL [] (akV N) ρ (pI.l2 N) λn ρ' e d=>by rw[e];rfl
theorem awa(K):(PY N).top K=pI.b N ((PY N).kc K 5):=κ
def aex:Kn prog:=⟨226,(PY N).S true (pI N),Fx.u1 (PY N) aD func226 [5] (awa N) (by rw[akW];rfl)⟩
def PZ:Fx:=⟨38,tab,[],N,f227,[.v LI],[.v B],[⟨5,[(0,.v LI),(3,.v I)],[1,0,1,0,0],[]⟩],none⟩
theorem akX(K ρ):(PZ N).bd K ρ 5=sj.gm N ((PZ N).kc ρ 5):=κ
theorem akY(ρ):(PZ N).kc ((PZ N).ck ρ) 5=sj.l2 N N:=Fx.uL [] (akX N) ρ (sj.l2 N) λn ρ' e d=>by rw[e];rfl
theorem awb(K):(PZ N).top K=sj.b N ((PZ N).kc K 5):=κ
def awc:Kn prog:=⟨227,(PZ N).S true (sj N),Fx.u1 (PZ N) aD func227 [5] (awb N) (by rw[akY];rfl)⟩
def CL:Fx:=⟨72,tab,Kn.l [k28 N],N,f228,[.v I,.v iC,.v fO],[.v I],[⟨25,[(0,.v I),(1,.v iC),(7,.v I),(12,.v I)],[1,1,1,0,1,0,0],[]⟩,⟨7,[(0,.v I),(1,.v iC),(2,.v fO),(7,.v I),(8,.v I)],[1,1,0,1,0,0],[]⟩],none⟩
theorem aey(K ρ):(CL N).bd K ρ 25=jD.pZ N ((CL N).kc ρ 25):=κ
theorem aez(ρ):(CL N).kc ((CL N).ck ρ) 25=jD.qA N N:=Fx.uL [] (aey N) ρ (jD.qA N) λn ρ' e d=>by rw[e];rfl
theorem akZ(K ρ):(CL N).bd K ρ 7=jD.lD N ((CL N).kc K 25) ((CL N).kc ρ 7):=κ
theorem ak0(ρ):(CL N).kc ((CL N).ck ρ) 7=jD.l3 N N:=Fx.uL [25] (akZ N) ρ (jD.l3 N) λn ρ' e d=>by rw[aez,e];rfl
theorem awd(K):(CL N).top K=jD.b N ((CL N).kc K 7):=κ
def awe:Kn prog:=⟨228,(CL N).S true (jD N),Fx.u1 (CL N) aD func228 [7,25] (awd N) (by rw[ak0];rfl)⟩
def lY:Fx:=⟨104,tab,Kn.l [aex N,awc N,k30 N,Y0 N,awe N],N,f205,[.v aA,.v c8,.v LI,.v iC,.v fO],[.own hZ,.v I],[⟨37,[(1,.v c8),(2,.v LI),(3,.v iC),(4,.v fO),(12,.own hZ),(13,.v I),(14,.v I),(15,.v B),(18,.v I)],[1,1,1,0,1,0,0,1,0,0,1,1,1,0,1,0,0],[11]⟩,⟨29,[(1,.v c8),(2,.v LI),(3,.v iC),(4,.v fO),(12,.own hZ),(13,.v I),(14,.v I),(15,.v B),(17,.v I)],[1,1,1,0,1,0,0,1,0,0,1,1,0,1,0,0],[11]⟩,⟨19,[(1,.v c8),(2,.v LI),(3,.v iC),(4,.v fO),(12,.own hZ),(13,.v I),(14,.v I),(15,.v B),(16,.v I)],[1,1,1,0,1,0,0,1,0,0,1,0,1,0,0],[11]⟩,⟨11,[(1,.v c8),(2,.v LI),(3,.v iC),(4,.v fO),(12,.own hZ),(13,.v I)],[1,1,1,0,1,0,0],[]⟩],none⟩
theorem aeA(K ρ):(lY N).bd K ρ 37=dm.En N ((lY N).kc ρ 11) ((lY N).kc ρ 37):=κ
theorem aeB(ρ):(lY N).kc ((lY N).ck ρ) 37=dm.Ig N ((lY N).kc ρ 11) N:=Fx.uL [] (aeA N) ρ (dm.Ig N ((lY N).kc ρ 11)) λn ρ' e d=>by rw[e,d 11 rfl];rfl
theorem aeC(K ρ):(lY N).bd K ρ 29=dm.GY N ((lY N).kc K 37) ((lY N).kc ρ 11) ((lY N).kc ρ 29):=κ
theorem aeD(ρ):(lY N).kc ((lY N).ck ρ) 29=dm.JK N ((lY N).kc ρ 11) N:=Fx.uL [37] (aeC N) ρ (dm.JK N ((lY N).kc ρ 11)) λn ρ' e d=>by rw[aeB,e,d 11 rfl];rfl
theorem aeE(K ρ):(lY N).bd K ρ 19=dm.zA N ((lY N).kc K 29) ((lY N).kc ρ 11) ((lY N).kc ρ 19):=κ
theorem aeF(ρ):(lY N).kc ((lY N).ck ρ) 19=dm.l9 N ((lY N).kc ρ 11) N:=Fx.uL [29,37] (aeE N) ρ (dm.l9 N ((lY N).kc ρ 11)) λn ρ' e d=>by rw[aeD,e,d 11 rfl];rfl
theorem aeG(K ρ):(lY N).bd K ρ 11=dm.e8 N ((lY N).kc K 19) ((lY N).kc ρ 11):=κ
theorem aeH(ρ):(lY N).kc ((lY N).ck ρ) 11=dm.l5 N N:=Fx.uL [19,29,37] (aeG N) ρ (dm.l5 N) λn ρ' e d=>by rw[aeF,e];rfl
theorem awf(K):(lY N).top K=dm.b N ((lY N).kc K 11):=κ
def awg:Kn prog:=⟨205,(lY N).S false (dm N),Fx.u1 (lY N) aD func205 [11] (awf N) (by rw[aeH];rfl)⟩
def aqz:Fx:=⟨28,tab,Kn.l [I2 N],N,f239,[.own tE,.v aL,.v I,.v I,.v I],[.own tE],[],none⟩
def awh:Kn prog:=⟨239,(aqz N).S false (Lo N),Fx.u0 (aqz N) aD func239⟩
def aqA:Fx:=⟨9,tab,[],N,f241,[.v I],[.v B],[],none⟩
def aqB:Kn prog:=⟨241,(aqA N).S true (XW N),Fx.u0 (aqA N) aD func241⟩
def P0:Fx:=⟨27,tab,Kn.l [aex N],N,f244,[.v c8,.v I],[.v I],[⟨9,[(0,.v c8),(1,.v I),(5,.v I)],[1,1,0,1,0,0],[]⟩],none⟩
theorem ak1(K ρ):(P0 N).bd K ρ 9=sl.ew N ((P0 N).kc ρ 9):=κ
theorem ak2(ρ):(P0 N).kc ((P0 N).ck ρ) 9=sl.l4 N N:=Fx.uL [] (ak1 N) ρ (sl.l4 N) λn ρ' e d=>by rw[e];rfl
theorem awi(K):(P0 N).top K=sl.b N ((P0 N).kc K 9):=κ
def awj:Kn prog:=⟨244,(P0 N).S true (sl N),Fx.u1 (P0 N) aD func244 [9] (awi N) (by rw[ak2];rfl)⟩
def P1:Fx:=⟨67,tab,Kn.l [Kf N,aex N,aqB N,I2 N,awj N],N,f240,[.v aA,.v aL,.v c8,.v I,.v I],[.own I,.v I],[⟨11,[(2,.v c8),(3,.v I),(4,.v I),(6,.obj aL),(12,.own I),(13,.v I)],[1,1,1,0,1,0,0],[]⟩],none⟩
theorem aeI(K ρ):(P1 N).bd K ρ 11=sm.e8 N ((P1 N).kc ρ 11):=κ
theorem aeJ(ρ):(P1 N).kc ((P1 N).ck ρ) 11=sm.l5 N N:=Fx.uL [] (aeI N) ρ (sm.l5 N) λn ρ' e d=>by rw[e];rfl
theorem awk(K):(P1 N).top K=sm.b N ((P1 N).kc K 11):=κ
def awl:Kn prog:=⟨240,(P1 N).S false (sm N),Fx.u1 (P1 N) aD func240 [11] (awk N) (by rw[aeJ];rfl)⟩
def m7:Fx:=⟨188,tab,Kn.l [Kf N,aex N,ap8 N,k79 N,YX N,awh N,awl N,aqB N,zH N,I2 N,Zq N,YZ N,RG N],N,f229,[.v aA,.v aL,.v I,.v c8,.v c8],[.own tE,.v I],[⟨33,[(2,.v I),(3,.v c8),(4,.v c8),(5,.obj aA),(6,.obj aL),(12,.own tE),(14,.v I),(15,.own I),(17,.v I)],[1,1,1,1,1,1,1,0,1,0,0,1,0,0,1,1,0,0],[25]⟩,⟨61,[(2,.v I),(4,.v c8),(6,.obj aL),(12,.own tE),(22,.v I)],[1,1,1,1,1,1,1,1,1,0,1,0,0],[]⟩,⟨41,[(2,.v I),(4,.v c8),(5,.obj aA),(6,.obj aL),(12,.own tE),(18,.v I)],[1,1,1,1,1,1,1,1,0,1,0,0],[]⟩,⟨25,[(2,.v I),(3,.v c8),(4,.v c8),(5,.obj aA),(6,.obj aL),(12,.own tE),(14,.v I)],[1,1,1,1,1,1,1,0,1,0,0],[]⟩,⟨18,[(2,.v I),(3,.v c8),(4,.v c8),(5,.obj aA),(6,.obj aL),(12,.own tE)],[1,1,1,1,1],[]⟩],none⟩
theorem aeK(K ρ):(m7 N).bd K ρ 33=cH.KW N ((m7 N).kc ρ 25) ((m7 N).kc ρ 33):=κ
theorem aeL(ρ):(m7 N).kc ((m7 N).ck ρ) 33=cH.LZ N ((m7 N).kc ρ 25) N:=Fx.uL [41,61] (aeK N) ρ (cH.LZ N ((m7 N).kc ρ 25)) λn ρ' e d=>by rw[e,d 25 rfl];rfl
theorem aeM(K ρ):(m7 N).bd K ρ 61=cH.abb N ((m7 N).kc ρ 61):=κ
theorem aeN(ρ):(m7 N).kc ((m7 N).ck ρ) 61=cH.l30 N N:=Fx.uL [] (aeM N) ρ (cH.l30 N) λn ρ' e d=>by rw[e];rfl
theorem aeO(K ρ):(m7 N).bd K ρ 41=cH.OB N ((m7 N).kc K 61) ((m7 N).kc ρ 41):=κ
theorem aeP(ρ):(m7 N).kc ((m7 N).ck ρ) 41=cH.IT N N:=Fx.uL [61] (aeO N) ρ (cH.IT N) λn ρ' e d=>by rw[aeN,e];rfl
theorem aeQ(K ρ):(m7 N).bd K ρ 25=cH.pZ N ((m7 N).kc K 33) ((m7 N).kc K 41) ((m7 N).kc ρ 25):=κ
theorem aeR(ρ):(m7 N).kc ((m7 N).ck ρ) 25=cH.qA N N:=Fx.uL [41,61,33] (aeQ N) ρ (cH.qA N) λn ρ' e d=>by rw[aeL,aeP,e];rfl
theorem aeS(K ρ):(m7 N).bd K ρ 18=cH.NL N ((m7 N).kc K 25):=κ
theorem aeT(ρ):(m7 N).kc ((m7 N).ck ρ) 18=cH.j9 N:=Fx.uJ [25,41,61] (aeS N) ρ (by rw[aeR];rfl)
theorem awm(K):(m7 N).top K=cH.b N ((m7 N).kc K 18):=κ
def awn:Kn prog:=⟨229,(m7 N).S false (cH N),Fx.u1 (m7 N) aD func229 [18,25,41,61] (awm N) (by rw[aeT];rfl)⟩
def aqC:Fx:=⟨19,tab,Kn.l [Kf N,I2 N],N,f230,[.v aA,.v aL],[.v I,.v I],[],none⟩
def awo:Kn prog:=⟨230,(aqC N).S true (abc N),Fx.u0 (aqC N) aD func230⟩
def P2:Fx:=⟨97,tab,Kn.l [apB N],N,f242,[.v LK],[.v B],[⟨9,[(0,.v LK),(3,.v I)],[1,1,0,1,0,0],[]⟩],none⟩
theorem ak3(K ρ):(P2 N).bd K ρ 9=so.ew N ((P2 N).kc ρ 9):=κ
theorem ak4(ρ):(P2 N).kc ((P2 N).ck ρ) 9=so.l4 N N:=Fx.uL [] (ak3 N) ρ (so.l4 N) λn ρ' e d=>by rw[e];rfl
theorem awp(K):(P2 N).top K=so.b N ((P2 N).kc K 9):=κ
def awq:Kn prog:=⟨242,(P2 N).S true (so N),Fx.u1 (P2 N) aD func242 [9] (awp N) (by rw[ak4];rfl)⟩
def m8:Fx:=⟨106,tab,Kn.l [awq N,aks N,YZ N,k81 N],N,f231,[.v LK,.v I],[.own tE,.v I,.v I],[⟨37,[(7,.own tE),(8,.v I),(9,.v I),(10,.v I),(14,.own I),(16,.v I)],[1,1,1,0,1,0,0,1,0,1,1,1,1,1,1,1,0,1,0,0],[11]⟩,⟨22,[(7,.own tE),(8,.v I),(9,.v I),(10,.v I),(11,.own I)],[1,1,1,0,1,0,0,1,0,1,1,1],[11]⟩,⟨17,[(7,.own tE),(8,.v I),(9,.v I),(10,.v I),(11,.own I)],[1,1,1,0,1,0,0,1,0,1,1,0,0,0],[11]⟩,⟨11,[(7,.own tE),(8,.v I),(9,.v I)],[1,1,1,0,1,0,0],[]⟩],none⟩
theorem aeU(K ρ):(m8 N).bd K ρ 37=dw.En N ((m8 N).kc ρ 11) ((m8 N).kc ρ 37):=κ
theorem aeV(ρ):(m8 N).kc ((m8 N).ck ρ) 37=dw.Ig N ((m8 N).kc ρ 11) N:=Fx.uL [] (aeU N) ρ (dw.Ig N ((m8 N).kc ρ 11)) λn ρ' e d=>by rw[e,d 11 rfl];rfl
theorem aeW(K ρ):(m8 N).bd K ρ 22=dw.Cs N ((m8 N).kc K 37) ((m8 N).kc ρ 11):=κ
theorem aeX(ρ):(m8 N).kc ((m8 N).ck ρ) 22=dw.JW N ((m8 N).kc ρ 11):=Fx.uJ [37] (aeW N) ρ (by rw[aeV];rfl)
theorem aeY(K ρ):(m8 N).bd K ρ 17=dw.zo N ((m8 N).kc K 22) ((m8 N).kc ρ 11) ((m8 N).kc ρ 17):=κ
theorem aeZ(ρ):(m8 N).kc ((m8 N).ck ρ) 17=dw.l8 N ((m8 N).kc ρ 11) N:=Fx.uL [22,37] (aeY N) ρ (dw.l8 N ((m8 N).kc ρ 11)) λn ρ' e d=>by rw[aeX,e,d 11 rfl];rfl
theorem ae0(K ρ):(m8 N).bd K ρ 11=dw.e8 N ((m8 N).kc K 17) ((m8 N).kc ρ 11):=κ
theorem ae1(ρ):(m8 N).kc ((m8 N).ck ρ) 11=dw.l5 N N:=Fx.uL [17,22,37] (ae0 N) ρ (dw.l5 N) λn ρ' e d=>by rw[aeZ,e];rfl
theorem awr(K):(m8 N).top K=dw.b N ((m8 N).kc K 11):=κ
def aws:Kn prog:=⟨231,(m8 N).S false (dw N),Fx.u1 (m8 N) aD func231 [11] (awr N) (by rw[ae1];rfl)⟩
def aqD:Fx:=⟨14,tab,Kn.l [Kf N,I2 N],N,f232,[.v aA,.v aL],[.v I,.v I],[],none⟩
def awt:Kn prog:=⟨232,(aqD N).S true (abd N),Fx.u0 (aqD N) aD func232⟩
def Ey:Fx:=⟨156,tab,Kn.l [awn N,awo N,aws N,zH N,YY N,awt N,YX N,Px N],N,f206,[.v aA,.v aL,.v I,.v c8,.v c8],[.v aL,.v gN,.v I],[⟨52,[(6,.obj aL),(10,.obj aL),(11,.obj gN),(18,.own su),(19,.fv gN [.gr 2] tE),(21,.v I),(23,.v I),(24,.v I)],[1,1,1,1,1,1,1,1,1,1,1,1,1,1,1],[]⟩,⟨31,[(2,.v I),(5,.obj aA),(6,.obj aL),(10,.obj aL),(11,.obj gN),(13,.own tE),(17,.v I),(18,.own su),(19,.fv gN [.gr 2] tE),(20,.v I)],[1,1,1,1,1,1,1,1,1,1,0,1,0,0],[]⟩],some (gN,[.gr 2],tE,[19])⟩
theorem ae2(K ρ):(Ey N).bd K ρ 52=iz.abf N:=κ
theorem ae3(ρ):(Ey N).kc ((Ey N).ck ρ) 52=iz.j26 N:=Fx.uJ [] (ae2 N) ρ
theorem ae4(K ρ):(Ey N).bd K ρ 31=iz.Bf N ((Ey N).kc K 52) ((Ey N).kc ρ 31):=κ
theorem ae5(ρ):(Ey N).kc ((Ey N).ck ρ) 31=iz.yc N N:=Fx.uL [52] (ae4 N) ρ (iz.yc N) λn ρ' e d=>by rw[ae3,e];rfl
theorem awu(K):(Ey N).top K=iz.b N ((Ey N).kc K 31):=κ
def awv:Kn prog:=⟨206,(Ey N).S false (iz N),Fx.u1 (Ey N) aD func206 [31,52] (awu N) (by rw[ae5];rfl)⟩
def qM:Fx:=⟨129,tab,Kn.l [aqs N,aks N,YZ N,k81 N],N,f243,[.v I,.v LI,.v LI],[.own I,.v I,.v I],[⟨39,[(1,.v LI),(2,.v LI),(11,.own I),(12,.v I),(13,.v I),(17,.own I),(19,.v I)],[1,1,1,1,0,1,0,0,1,0,0,1,1,1,1,1,0,0],[17]⟩,⟨25,[(1,.v LI),(2,.v LI),(11,.own I),(12,.v I),(13,.v I),(14,.own I),(15,.v B),(16,.v I)],[1,1,1,1,0,1,0,0,1,0,0,1,0,1,0,0],[17]⟩,⟨17,[(1,.v LI),(2,.v LI),(11,.own I),(12,.v I),(13,.v I)],[1,1,1,1,0,1,0,0],[]⟩],none⟩
theorem ae6(K ρ):(qM N).bd K ρ 39=eI.QZ N ((qM N).kc ρ 17) ((qM N).kc ρ 39):=κ
theorem ae7(ρ):(qM N).kc ((qM N).ck ρ) 39=eI.Oh N ((qM N).kc ρ 17) N:=Fx.uL [] (ae6 N) ρ (eI.Oh N ((qM N).kc ρ 17)) λn ρ' e d=>by rw[e,d 17 rfl];rfl
theorem ae8(K ρ):(qM N).bd K ρ 25=eI.pZ N ((qM N).kc K 39) ((qM N).kc ρ 17) ((qM N).kc ρ 25):=κ
theorem ae9(ρ):(qM N).kc ((qM N).ck ρ) 25=eI.qA N ((qM N).kc ρ 17) N:=Fx.uL [39] (ae8 N) ρ (eI.qA N ((qM N).kc ρ 17)) λn ρ' e d=>by rw[ae7,e,d 17 rfl];rfl
theorem afa(K ρ):(qM N).bd K ρ 17=eI.zo N ((qM N).kc K 25) ((qM N).kc ρ 17):=κ
theorem afb(ρ):(qM N).kc ((qM N).ck ρ) 17=eI.l8 N N:=Fx.uL [25,39] (afa N) ρ (eI.l8 N) λn ρ' e d=>by rw[ae9,e];rfl
theorem aww(K):(qM N).top K=eI.b N ((qM N).kc K 17):=κ
def awx:Kn prog:=⟨243,(qM N).S false (eI N),Fx.u1 (qM N) aD func243 [17] (aww N) (by rw[afb];rfl)⟩
def CN:Fx:=⟨127,tab,Kn.l [Kf N,k15 N,awx N],N,f233,[.v aA,.v aL,.v I],[.own oB,.v I],[⟨43,[(2,.v I),(8,.v I),(9,.own I),(13,.own I),(16,.own oB),(17,.v I)],[1,1,1,1,1,1,1,1,1,1,1,0,1,0,0],[]⟩,⟨23,[(2,.v I),(4,.obj aL),(8,.v I),(9,.own I),(10,.own I),(11,.v I)],[1,1,1,1,1,1,1,0,1,0,0],[]⟩],none⟩
theorem afc(K ρ):(CN N).bd K ρ 43=fA.Bo N ((CN N).kc ρ 43):=κ
theorem afd(ρ):(CN N).kc ((CN N).ck ρ) 43=fA.yF N N:=Fx.uL [] (afc N) ρ (fA.yF N) λn ρ' e d=>by rw[e];rfl
theorem afe(K ρ):(CN N).bd K ρ 23=fA.zr N ((CN N).kc K 43) ((CN N).kc ρ 23):=κ
theorem aff(ρ):(CN N).kc ((CN N).ck ρ) 23=fA.Co N N:=Fx.uL [43] (afe N) ρ (fA.Co N) λn ρ' e d=>by rw[afd,e];rfl
theorem awy(K):(CN N).top K=fA.b N ((CN N).kc K 23):=κ
def awz:Kn prog:=⟨233,(CN N).S false (fA N),Fx.u1 (CN N) aD func233 [23,43] (awy N) (by rw[aff];rfl)⟩
def P3:Fx:=⟨41,tab,Kn.l [Kf N,awz N,Px N],N,f207,[.v aA,.v aL],[.v aL,.v I],[⟨11,[(2,.obj aA),(3,.obj aL),(4,.obj aL),(6,.own oB),(7,.v I)],[1,1,1,0,1,0,0],[]⟩],none⟩
theorem afg(K ρ):(P3 N).bd K ρ 11=nQ.e8 N ((P3 N).kc ρ 11):=κ
theorem afh(ρ):(P3 N).kc ((P3 N).ck ρ) 11=nQ.l5 N N:=Fx.uL [] (afg N) ρ (nQ.l5 N) λn ρ' e d=>by rw[e];rfl
theorem awA(K):(P3 N).top K=nQ.b N ((P3 N).kc K 11):=κ
def awB:Kn prog:=⟨207,(P3 N).S false (nQ N),Fx.u1 (P3 N) aD func207 [11] (awA N) (by rw[afh];rfl)⟩
def P4:Fx:=⟨325,tab,Kn.l [avy N,aco N,avD N,avM N,avR N,k12 N,akf N,avY N,av5 N,av9 N,awg N,awv N,awB N,aqb N],N,f180,[.v aA,.v dY,.v pE],[.v dY,.v oB],[⟨83,[(4,.obj dY),(6,.obj dY),(7,.obj oB),(14,.v iC),(16,.v I),(17,.v I)],[1,1,0,1,0,1,1,1,1,1,1,1,1,1,1,1,1,1,0,1,1,1,1,1,1,0,1,0,0],[]⟩],none⟩
theorem afi(K ρ):(P4 N).bd K ρ 83=nS.abk N ((P4 N).kc ρ 83):=κ
theorem afj(ρ):(P4 N).kc ((P4 N).ck ρ) 83=nS.l41 N N:=Fx.uL [] (afi N) ρ (nS.l41 N) λn ρ' e d=>by rw[e];rfl
theorem awC(K):(P4 N).top K=nS.b N ((P4 N).kc K 83):=κ
def awD:Kn prog:=⟨180,(P4 N).S false (nS N),Fx.u1 (P4 N) aD func180 [83] (awC N) (by rw[afj];rfl)⟩
def RJ:Fx:=⟨141,tab,Kn.l [aqb N,avp N,avs N,aco N,apW N,akf N,avt N,awD N],N,f156,[.v aA,.v dY,.v pE],[.v dY,.v oB],[⟨58,[(3,.obj aA),(4,.obj dY),(5,.obj pE),(6,.obj dY),(7,.obj oB)],[1,1,1],[]⟩],none⟩
theorem afk(K ρ):(RJ N).bd K ρ 58=p6.Ep N:=κ
theorem afl(ρ):(RJ N).kc ((RJ N).ck ρ) 58=p6.L1 N:=Fx.uJ [] (afk N) ρ
theorem awE(K):(RJ N).top K=p6.b N ((RJ N).kc K 58):=κ
def awF:Kn prog:=⟨156,(RJ N).S false (p6 N),Fx.u1 (RJ N) aD func156 [58] (awE N) (by rw[afl];rfl)⟩
def aqE:Fx:=⟨295,tab,Kn.l [auA N,aco N,auG N,auH N,auP N,auY N,apW N,I2 N,zH N,k21 N,k20 N,au0 N,ava N,avc N,avf N,avi N,akf N,awF N],N,f108,[.v aA,.v dY,.v pE],[.v dY,.v oB],[],none⟩
def awG:Kn prog:=⟨108,(aqE N).S false (UU N),Fx.u0 (aqE N) aD func108⟩
def X72:Fx:=⟨36,tab,Kn.l [k64 N,auv N,awG N],N,f72,[.v aA,.v dY,.v pE],[.v dY,.v oB],[],none⟩
def k72:Kn prog:=⟨72,(X72 N).S false (F72 N),Fx.u0 (X72 N) aD func72⟩
def X36:Fx:=⟨43,tab,Kn.l [k71 N,k72 N],N,f36,[.v aA,.v aiu],[.v dY,.own oB],[⟨13,[(1,.v aiu),(2,.obj aA),(4,.obj dY),(6,.obj dY),(8,.own oB),(9,.v I)],[1,1,1,1,0,1,0,0],[]⟩],none⟩
theorem ak5(K ρ):(X36 N).bd K ρ 13=HD.vX N ((X36 N).kc ρ 13):=κ
theorem ak6(ρ):(X36 N).kc ((X36 N).ck ρ) 13=HD.l6 N N:=Fx.uL [] (ak5 N) ρ (HD.l6 N) λn ρ' e d=>by rw[e];rfl
theorem h36(K):(X36 N).top K=HD.b N ((X36 N).kc K 13):=κ
def k36:Kn prog:=⟨36,(X36 N).S false (HD N),Fx.u1 (X36 N) aD func36 [13] (h36 N) (by rw[ak6];rfl)⟩
def X11:Fx:=⟨46,tab,Kn.l [k34 N,k31 N,k35 N,k36 N],N,f11,[.io fB,.v aA,.v I],[.v dY,.io fB],[],none⟩
def UT:Kn prog:=⟨11,(X11 N).S false (F11 N),Fx.u0 (X11 N) aD func11⟩
def X6:Fx:=⟨183,tab,Kn.l [k7 N,k9 N,Rc N,UT N,k13 N],N,f6,[.v LU],[.v B],[⟨49,[(4,.obj aA),(6,.own fZ),(9,.v I),(10,.v I),(11,.v I),(12,.v I),(13,.v I),(14,.v I),(15,.v I)],[1,1,1,1,1,1,1,1,0,1,0,0,1,0,0,1,0,1,0,0,1,0,0,1,1,1,0,0],[31,39]⟩,⟨39,[(4,.obj aA),(6,.own fZ),(9,.v I),(10,.v I),(11,.v I),(12,.v I),(13,.v I),(14,.v I)],[1,1,1,1,1,1,1,1,0,1,0,0,1,0,0,1,0,1,0,0],[31]⟩,⟨31,[(4,.obj aA),(6,.own fZ),(9,.v I)],[1,1,1,1,1,1,1,1,0,1,0,0],[]⟩,⟨21,[(4,.obj aA),(6,.own fZ),(8,.v I)],[1,1,1,1,1,1,1,0,1,0,0],[]⟩],none⟩
theorem awH:p8 prog (X6 N).E:=Fx.Np (X6 N) aD (Kn.all _) κ
theorem aqF(K ρ):(X6 N).bd K ρ 49=F6.yE N ((X6 N).kc ρ 31) ((X6 N).kc ρ 39) ((X6 N).kc ρ 49):=κ
theorem aqG(ρ):(X6 N).kc ((X6 N).ck ρ) 49=F6.xX N ((X6 N).kc ρ 31) ((X6 N).kc ρ 39) N:=Fx.uL [] (aqF N) ρ (F6.xX N ((X6 N).kc ρ 31) ((X6 N).kc ρ 39)) λn ρ' e d=>by rw[e,d 31 rfl,d 39 rfl];rfl
theorem aqH(K ρ):(X6 N).bd K ρ 39=F6.QZ N ((X6 N).kc K 49) ((X6 N).kc ρ 31) ((X6 N).kc ρ 39):=κ
theorem aqI(ρ):(X6 N).kc ((X6 N).ck ρ) 39=F6.Oh N ((X6 N).kc ρ 31) N:=Fx.uL [49] (aqH N) ρ (F6.Oh N ((X6 N).kc ρ 31)) λn ρ' e d=>by rw[aqG,e,d 31 rfl];rfl
theorem aqJ(K ρ):(X6 N).bd K ρ 31=F6.Bf N ((X6 N).kc K 39) ((X6 N).kc ρ 31):=κ
theorem aqK(ρ):(X6 N).kc ((X6 N).ck ρ) 31=F6.yc N N:=Fx.uL [39] (aqJ N) ρ (F6.yc N) λn ρ' e d=>by rw[aqI,e];rfl
theorem aqL(K ρ):(X6 N).bd K ρ 21=F6.aiq N ((X6 N).kc K 31) ((X6 N).kc ρ 21):=κ
theorem agM(ρ):(X6 N).kc ((X6 N).ck ρ) 21=F6.l10 N N:=Fx.uL [31] (aqL N) ρ (F6.l10 N) λn ρ' e d=>by rw[aqK,e];rfl
theorem h6(K):(X6 N).top K=F6.b N ((X6 N).kc K 21):=κ
theorem awI: ∀x,Kk (X6 N).E (X6 N).fn (X6 N).args (X6 N).res x=ID (X6 N).args (F6 N) x:=Fx.amS κ [21,31] (λK=>κ) (h6 N) (by rw[agM];rfl)
def k6:Kn prog:=⟨6,(X6 N).S true (F6 N),Fx.u1 (X6 N) aD func6 [21,31] (h6 N) (by rw[agM];rfl)⟩
end
end VM.F
