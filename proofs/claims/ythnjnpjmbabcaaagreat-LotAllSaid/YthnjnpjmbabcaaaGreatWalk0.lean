/- A part of the proof of LotAll of layer 23: each function of the program does what its equation says; printed by a program. -/
import Derived.Test.YthnjnpjmbabcaaaGreatText
import Derived.Test.YthnjnpjmbabcaaaGreatVm9
import Derived.Test.YthnjnpjmbabcaaaGreatProg
import Derived.KernelRfl
import Derived.Test.YthnjnpjmbabcaaaGreatPlain0
import Derived.Deep.RegionWith
import Derived.Deep.DeepCutAuto
import Derived.Lib.Hide
set_option linter.all false
noncomputable section
namespace VM.F
open Go VM Go.Proofs
open Tryz
set_option maxRecDepth 100000
abbrev I:Ty:= .int .i64
abbrev U:Ty:= .int .u64
abbrev B:Ty:= .bool
abbrev Z:Ty:= .str
abbrev KS:Ty:= .slice oq
abbrev Dz:Ty:= .slice gm
abbrev gp:Ty:= .slice mG
abbrev EP:Ty:= .slice cZ
abbrev aa0:Ty:= .slice cD
abbrev YR:Ty:= .slice Ka
abbrev ig:Ty:= .slice JO
abbrev KT:Ty:= .slice ot
abbrev ow:Ty:= .slice A4
abbrev adW:Ty:= .slice Up
abbrev YS:Ty:= .slice Kb
abbrev ES:Ty:= .slice MD
abbrev adX:Ty:= .slice YC
abbrev gf:Ty:= .slice gH
abbrev UO:Ty:= .slice wk
abbrev UP:Ty:= .slice aU
abbrev YT:Ty:= .slice fc
abbrev SL:Ty:= .slice tb
abbrev W1:Ty:= .slice AY
abbrev LI:Ty:= .slice I
abbrev LU:Ty:= .slice U
def tab:List (Nat×Ty):=[(2,I),(3,I),(4,B),(5,(.int .u8)),(9,Z),(22,ow),(24,aU),(25,gp),(26,ow),(27,ig),(28,ig),(29,LI),(30,ES),(32,fc),(33,gf),(35,gp),(37,gH),(39,LU),(45,LI),(56,I),(60,mG),(65,cD),(67,A4),(81,U),(83,cZ),(110,(.slice gp)),(117,JO),(123,U),(128,mG),(130,A4),(148,JO),(153,MD),(183,EP),(223,(.arr 13 B)),(227,(.int .u32))]
theorem aD:xD prog tab:=⟨κ,κ⟩
section
variable(N:Nat)
abbrev Kv:jU:=mi.S N
abbrev Kw:jU:=mh.S N
theorem Kx:gy prog 94 (Kw N):=GM N func94 κ κ κ κ
def A7:Kn prog:=⟨94,Kw N,Kx N⟩
theorem Ky:gy prog 136 (Kv N):=GN N func136 κ κ κ κ
def ET:Kn prog:=⟨136,Kv N,Ky N⟩
abbrev DA:jU:=iu (.int .i64) N
def A8.ren:Go.Shelf.Ren:={f:=λi=>cond (Nat.beq i 29) 182 (cond (Nat.beq i 30) 183 0),t:=λi=>cond (Nat.beq i 24) 45 (cond (Nat.beq i 9) 3 (cond (Nat.beq i 3) 3 (cond (Nat.beq i 4) 4 0))),g:=λ_=>0}
theorem A8.YU:Je prog (.int .i64) A8.ren 162 f162 f182:=⟨Tryz.func162.trans κ,underlying3,underlying4,underlying45,iB (x:= .inl 3) κ,δ,κ⟩
theorem EU:gy prog 162 (DA N):=El A8.YU ⟨func182,κ,κ,κ,κ⟩ κ κ N
def Kz:Kn prog:=⟨162,DA N,EU N⟩
def ML:Fx:=⟨21,tab,[],N,f23,[],[.v aU,.v fc],[],none⟩
theorem aa1:jF prog (ML N).E:=Fx.zE (ML N) aD trivial κ
theorem aa2: ∀x,zl (ML N).E (ML N).fn (ML N).args (ML N).res x=xE (ML N).args (WY N) x:=Fx.Jc κ
def k23:Kn prog:=⟨23,(ML N).S false (WY N),Fx.u0 (ML N) aD func23⟩
def UQ:Fx:=⟨15,tab,[],N,f101,[.v I,.v I,.v I],[.v B],[],none⟩
def YV:Kn prog:=⟨101,(UQ N).S true (vz N),Fx.u0 (UQ N) aD func101⟩
def Oa:Fx:=⟨68,tab,Kn.l [YV N],N,f59,[.v aU],[.v B],[⟨9,[(1,.obj aU),(11,.v ow),(12,.v I),(13,.v I)],[1,1,0,1,0,0],[]⟩],none⟩
theorem UR(K ρ):(Oa N).bd K ρ 9=tM.dF N ((Oa N).kc ρ 9):=κ
theorem US(ρ):(Oa N).kc ((Oa N).cE ρ) 9=tM.l4 N N:=Fx.uL [] (UR N) ρ (tM.l4 N) λn ρ' e d=>by rw[e];rfl
theorem h59(K):(Oa N).top K=tM.b N ((Oa N).kc K 9):=κ
def YW:Kn prog:=⟨59,(Oa N).S true (tM N),Fx.u1 (Oa N) aD func59 [9] (h59 N) (by rw[US];rfl)⟩
def DB:Fx:=⟨46,tab,[],N,f120,[.v gp],[.v B],[⟨5,[(0,.v gp),(5,.v gp),(6,.v I),(7,.v I)],[1,0,1,0,0],[]⟩],none⟩
theorem Qe(K ρ):(DB N).bd K ρ 5=jL.dV N ((DB N).kc ρ 5):=κ
theorem Qf(ρ):(DB N).kc ((DB N).cE ρ) 5=jL.l2 N N:=Fx.uL [] (Qe N) ρ (jL.l2 N) λn ρ' e d=>by rw[e];rfl
theorem YX(K):(DB N).top K=jL.b N ((DB N).kc K 5):=κ
def UT:Kn prog:=⟨120,(DB N).S true (jL N),Fx.u1 (DB N) aD func120 [5] (YX N) (by rw[Qf];rfl)⟩
def DC:Fx:=⟨77,tab,[],N,f121,[.v ow],[.v B],[⟨7,[(0,.v ow),(3,.obj (.arr 13 B)),(6,.v ow),(7,.v I),(8,.v I)],[1,1,0,1,0,0],[]⟩],none⟩
theorem Qg(K ρ):(DC N).bd K ρ 7=ic.qJ N ((DC N).kc ρ 7):=κ
theorem Qh(ρ):(DC N).kc ((DC N).cE ρ) 7=ic.l3 N N:=Fx.uL [] (Qg N) ρ (ic.l3 N) λn ρ' e d=>by rw[e];rfl
theorem YY(K):(DC N).top K=ic.b N ((DC N).kc K 7):=κ
def UU:Kn prog:=⟨121,(DC N).S true (ic N),Fx.u1 (DC N) aD func121 [7] (YY N) (by rw[Qh];rfl)⟩
def Ob:Fx:=⟨23,tab,Kn.l [UT N],N,f89,[.v gp,.v I],[.v I],[⟨9,[(1,.v I),(10,.v gp),(11,.v I),(12,.v I)],[1,1,0,1,0,0],[]⟩],none⟩
theorem UW(K ρ):(Ob N).bd K ρ 9=tg.dF N ((Ob N).kc ρ 9):=κ
theorem UX(ρ):(Ob N).kc ((Ob N).cE ρ) 9=tg.l4 N N:=Fx.uL [] (UW N) ρ (tg.l4 N) λn ρ' e d=>by rw[e];rfl
theorem h89(K):(Ob N).top K=tg.b N ((Ob N).kc K 9):=κ
def k89:Kn prog:=⟨89,(Ob N).S true (tg N),Fx.u1 (Ob N) aD func89 [9] (h89 N) (by rw[UX];rfl)⟩
def Oc:Fx:=⟨27,tab,Kn.l [UT N,UU N,k89 N],N,f83,[.v gp,.v ow],[.v B],[⟨9,[(0,.v gp),(15,.v ow),(16,.v I),(17,.v I)],[1,1,0,1,0,0],[]⟩],none⟩
theorem UY(K ρ):(Oc N).bd K ρ 9=vC.dF N ((Oc N).kc ρ 9):=κ
theorem UZ(ρ):(Oc N).kc ((Oc N).cE ρ) 9=vC.l4 N N:=Fx.uL [] (UY N) ρ (vC.l4 N) λn ρ' e d=>by rw[e];rfl
theorem h83(K):(Oc N).top K=vC.b N ((Oc N).kc K 9):=κ
def k83:Kn prog:=⟨83,(Oc N).S true (vC N),Fx.u1 (Oc N) aD func83 [9] (h83 N) (by rw[UZ];rfl)⟩
def U0:Fx:=⟨30,tab,[],N,f122,[.v I,.v I],[.v B],[],none⟩
def YZ:Kn prog:=⟨122,(U0 N).S true (Ju N),Fx.u0 (U0 N) aD func122⟩
def U1:Fx:=⟨19,tab,[],N,f123,[.v I,.v I,.v JO],[.v I],[],none⟩
def Y0:Kn prog:=⟨123,(U1 N).S true (L1 N),Fx.u0 (U1 N) aD func123⟩
def Od:Fx:=⟨41,tab,Kn.l [YZ N,Y0 N],N,f84,[.v ig],[.v B],[⟨5,[(0,.v ig),(5,.v ig),(6,.v I),(7,.v I)],[1,0,1,0,0],[]⟩],none⟩
theorem U2(K ρ):(Od N).bd K ρ 5=uV.dV N ((Od N).kc ρ 5):=κ
theorem U3(ρ):(Od N).kc ((Od N).cE ρ) 5=uV.l2 N N:=Fx.uL [] (U2 N) ρ (uV.l2 N) λn ρ' e d=>by rw[e];rfl
theorem h84(K):(Od N).top K=uV.b N ((Od N).kc K 5):=κ
def k84:Kn prog:=⟨84,(Od N).S true (uV N),Fx.u1 (Od N) aD func84 [5] (h84 N) (by rw[U3];rfl)⟩
def X27:Fx:=⟨8,tab,[],N,f27,[.v I],[.v cZ],[],none⟩
def W2:Kn prog:=⟨27,(X27 N).S true (NX N),Fx.u0 (X27 N) aD func27⟩
def DD:Fx:=⟨51,tab,Kn.l [A7 N],N,f124,[.v EP],[.v cZ,.v B],[⟨7,[(2,.obj cZ),(4,.v I),(5,.v U),(6,.v U),(10,.v EP),(11,.v I),(12,.v I)],[1,1,0,1,0,0],[]⟩],none⟩
theorem Qi(K ρ):(DD N).bd K ρ 7=jK.qJ N ((DD N).kc ρ 7):=κ
theorem Qj(ρ):(DD N).kc ((DD N).cE ρ) 7=jK.l3 N N:=Fx.uL [] (Qi N) ρ (jK.l3 N) λn ρ' e d=>by rw[e];rfl
theorem Y1(K):(DD N).top K=jK.b N ((DD N).kc K 7):=κ
def Qk:Kn prog:=⟨124,(DD N).S true (jK N),Fx.u1 (DD N) aD func124 [7] (Y1 N) (by rw[Qj];rfl)⟩
def Oe:Fx:=⟨31,tab,Kn.l [k84 N,W2 N,Qk N],N,f85,[.v ig],[.v cZ],[⟨11,[(2,.obj cZ),(3,.own cZ),(12,.v ig),(13,.v I),(14,.v I)],[1,1,1,0,1,0,0],[]⟩],none⟩
theorem Ql(K ρ):(Oe N).bd K ρ 11=uY.mP N ((Oe N).kc ρ 11):=κ
theorem Qm(ρ):(Oe N).kc ((Oe N).cE ρ) 11=uY.l5 N N:=Fx.uL [] (Ql N) ρ (uY.l5 N) λn ρ' e d=>by rw[e];rfl
theorem h85(K):(Oe N).top K=uY.b N ((Oe N).kc K 11):=κ
def k85:Kn prog:=⟨85,(Oe N).S true (uY N),Fx.u1 (Oe N) aD func85 [11] (h85 N) (by rw[Qm];rfl)⟩
def X62:Fx:=⟨27,tab,[],N,f62,[.v cZ,.v cZ],[.v I],[],none⟩
def k62:Kn prog:=⟨62,(X62 N).S true (Uh N),Fx.u0 (X62 N) aD func62⟩
def X61:Fx:=⟨6,tab,Kn.l [k62 N],N,f61,[.v cZ],[.v I],[],none⟩
def Y2:Kn prog:=⟨61,(X61 N).S true (SD N),Fx.u0 (X61 N) aD func61⟩
def U4:Fx:=⟨19,tab,[],N,f129,[.v I,.v I],[.v B],[],none⟩
def Y3:Kn prog:=⟨129,(U4 N).S true (L3 N),Fx.u0 (U4 N) aD func129⟩
def U5:Fx:=⟨5,tab,[],N,f102,[.v I],[.v B],[],none⟩
def U6:Kn prog:=⟨102,(U5 N).S true (Jv N),Fx.u0 (U5 N) aD func102⟩
def U7:Fx:=⟨19,tab,[],N,f130,[.v I,.v I,.v JO],[.v I],[],none⟩
def Y4:Kn prog:=⟨130,(U7 N).S true (PS N),Fx.u0 (U7 N) aD func130⟩
def Of:Fx:=⟨47,tab,Kn.l [Y3 N,U6 N,Y4 N],N,f93,[.v ig],[.v B],[⟨5,[(0,.v ig),(5,.v ig),(6,.v I),(7,.v I)],[1,0,1,0,0],[]⟩],none⟩
theorem U8(K ρ):(Of N).bd K ρ 5=tO.dV N ((Of N).kc ρ 5):=κ
theorem U9(ρ):(Of N).kc ((Of N).cE ρ) 5=tO.l2 N N:=Fx.uL [] (U8 N) ρ (tO.l2 N) λn ρ' e d=>by rw[e];rfl
theorem h93(K):(Of N).top K=tO.b N ((Of N).kc K 5):=κ
def Y5:Kn prog:=⟨93,(Of N).S true (tO N),Fx.u1 (Of N) aD func93 [5] (h93 N) (by rw[U9];rfl)⟩
def DE:Fx:=⟨37,tab,Kn.l [Y5 N,W2 N,Qk N],N,f125,[.v ig,.v I],[.v cZ],[⟨11,[(1,.v I),(4,.obj cZ),(5,.own cZ),(14,.v ig),(15,.v I),(16,.v I)],[1,1,1,0,1,0,0],[]⟩],none⟩
theorem MM(K ρ):(DE N).bd K ρ 11=jP.mP N ((DE N).kc ρ 11):=κ
theorem MN(ρ):(DE N).kc ((DE N).cE ρ) 11=jP.l5 N N:=Fx.uL [] (MM N) ρ (jP.l5 N) λn ρ' e d=>by rw[e];rfl
theorem Y6(K):(DE N).top K=jP.b N ((DE N).kc K 11):=κ
def Y7:Kn prog:=⟨125,(DE N).S true (jP N),Fx.u1 (DE N) aD func125 [11] (Y6 N) (by rw[MN];rfl)⟩
def Og:Fx:=⟨15,tab,Kn.l [Y7 N,Y2 N,Y5 N],N,f86,[.v ig],[.v B],[⟨5,[(0,.v ig),(4,.v I)],[1,0,1,0,0],[]⟩],none⟩
theorem Va(K ρ):(Og N).bd K ρ 5=vF.dV N ((Og N).kc ρ 5):=κ
theorem Vb(ρ):(Og N).kc ((Og N).cE ρ) 5=vF.l2 N N:=Fx.uL [] (Va N) ρ (vF.l2 N) λn ρ' e d=>by rw[e];rfl
theorem h86(K):(Og N).top K=vF.b N ((Og N).kc K 5):=κ
def k86:Kn prog:=⟨86,(Og N).S true (vF N),Fx.u1 (Og N) aD func86 [5] (h86 N) (by rw[Vb];rfl)⟩
def Vc:Fx:=⟨61,tab,[],N,f126,[.v MD],[.v B],[],none⟩
def Y8:Kn prog:=⟨126,(Vc N).S true (L4 N),Fx.u0 (Vc N) aD func126⟩
def Oh:Fx:=⟨34,tab,Kn.l [Y8 N],N,f87,[.v ES],[.v B],[⟨5,[(0,.v ES),(5,.v ES),(6,.v I),(7,.v I)],[1,0,1,0,0],[]⟩],none⟩
theorem Vd(K ρ):(Oh N).bd K ρ 5=vA.dV N ((Oh N).kc ρ 5):=κ
theorem Ve(ρ):(Oh N).kc ((Oh N).cE ρ) 5=vA.l2 N N:=Fx.uL [] (Vd N) ρ (vA.l2 N) λn ρ' e d=>by rw[e];rfl
theorem h87(K):(Oh N).top K=vA.b N ((Oh N).kc K 5):=κ
def k87:Kn prog:=⟨87,(Oh N).S true (vA N),Fx.u1 (Oh N) aD func87 [5] (h87 N) (by rw[Ve];rfl)⟩
def DF:Fx:=⟨25,tab,Kn.l [UU N],N,f127,[.v ow,.v I],[.v A4,.v B],[⟨9,[(1,.v I),(4,.obj A4),(12,.v ow),(13,.v I),(14,.v I)],[1,1,0,1,0,0],[]⟩],none⟩
theorem Qn(K ρ):(DF N).bd K ρ 9=jO.dF N ((DF N).kc ρ 9):=κ
theorem Qo(ρ):(DF N).kc ((DF N).cE ρ) 9=jO.l4 N N:=Fx.uL [] (Qn N) ρ (jO.l4 N) λn ρ' e d=>by rw[e];rfl
theorem Y9(K):(DF N).top K=jO.b N ((DF N).kc K 9):=κ
def Za:Kn prog:=⟨127,(DF N).S true (jO N),Fx.u1 (DF N) aD func127 [9] (Y9 N) (by rw[Qo];rfl)⟩
def X88:Fx:=⟨15,tab,Kn.l [Za N],N,f88,[.v fc,.v I],[.v B],[],none⟩
def k88:Kn prog:=⟨88,(X88 N).S true (SE N),Fx.u0 (X88 N) aD func88⟩
def X92:Fx:=⟨9,tab,[],N,f92,[.v I],[.v B],[],none⟩
def k92:Kn prog:=⟨92,(X92 N).S true (WK N),Fx.u0 (X92 N) aD func92⟩
def X91:Fx:=⟨6,tab,Kn.l [k92 N],N,f91,[.v I],[.v B],[],none⟩
def k91:Kn prog:=⟨91,(X91 N).S true (WL N),Fx.u0 (X91 N) aD func91⟩
def DG:Fx:=⟨19,tab,Kn.l [k91 N],N,f128,[.v LI,.fn 91 .unit],[.v I],[⟨5,[(0,.v LI),(1,.fn 91 .unit),(7,.v I),(8,.v I)],[1,0,1,0,0],[]⟩],none⟩
theorem Qp(K ρ):(DG N).bd K ρ 5=lR.dV N ((DG N).kc ρ 5):=κ
theorem Qq(ρ):(DG N).kc ((DG N).cE ρ) 5=lR.l2 N N:=Fx.uL [] (Qp N) ρ (lR.l2 N) λn ρ' e d=>by rw[e];rfl
theorem Mo(K):(DG N).top K=lR.b N ((DG N).kc K 5):=κ
def Zb:Kn prog:=⟨128,(DG N).S true (lR N),Fx.u1 (DG N) aD func128 [5] (Mo N) (by rw[Qq];rfl)⟩
def X90:Fx:=⟨9,tab,Kn.l [Zb N],N,f90,[.v LI,.fn 91 .unit],[.v B],[],none⟩
def k90:Kn prog:=⟨90,(X90 N).S true (WM N),Fx.u0 (X90 N) aD func90⟩
def Bl:Fx:=⟨133,tab,Kn.l [YW N,k83 N,k84 N,k85 N,Y2 N,k86 N,k87 N,k88 N,k89 N,k90 N],N,f42,[.v aU,.v fc],[.v B],[⟨45,[(2,.obj aU),(3,.obj fc),(109,.v ES),(110,.v I),(111,.v I)],[1,1,1,1,0,1,0,0],[]⟩,⟨33,[(2,.obj aU),(3,.obj fc),(83,.v ig),(84,.v I),(85,.v I)],[1,1,1,0,1,0,0],[]⟩,⟨9,[(2,.obj aU),(3,.obj fc),(57,.v ig),(58,.v I),(59,.v I)],[1,1,0,1,0,0],[]⟩],none⟩
theorem Qr(K ρ):(Bl N).bd K ρ 45=gQ.tT N ((Bl N).kc ρ 45):=κ
theorem Qs(ρ):(Bl N).kc ((Bl N).cE ρ) 45=gQ.u6 N N:=Fx.uL [] (Qr N) ρ (gQ.u6 N) λn ρ' e d=>by rw[e];rfl
theorem Qt(K ρ):(Bl N).bd K ρ 33=gQ.Md N ((Bl N).kc K 45) ((Bl N).kc ρ 33):=κ
theorem Qu(ρ):(Bl N).kc ((Bl N).cE ρ) 33=gQ.Mc N N:=Fx.uL [45] (Qt N) ρ (gQ.Mc N) λn ρ' e d=>by rw[Qs,e];rfl
theorem Vf(K ρ):(Bl N).bd K ρ 9=gQ.dF N ((Bl N).kc K 33) ((Bl N).kc ρ 9):=κ
theorem Vg(ρ):(Bl N).kc ((Bl N).cE ρ) 9=gQ.l4 N N:=Fx.uL [33,45] (Vf N) ρ (gQ.l4 N) λn ρ' e d=>by rw[Qu,e];rfl
theorem h42(K):(Bl N).top K=gQ.b N ((Bl N).kc K 9):=κ
def k42:Kn prog:=⟨42,(Bl N).S true (gQ N),Fx.u1 (Bl N) aD func42 [9,33,45] (h42 N) (by rw[Vg];rfl)⟩
def Oi:Fx:=⟨31,tab,Kn.l [Y5 N],N,f43,[.v ig,.v I],[.own mG],[⟨11,[(1,.v I),(5,.own mG),(11,.v ig),(12,.v I),(13,.v I)],[1,1,1,0,1,0,0],[]⟩],none⟩
theorem Qv(K ρ):(Oi N).bd K ρ 11=u9.mP N ((Oi N).kc ρ 11):=κ
theorem Qw(ρ):(Oi N).kc ((Oi N).cE ρ) 11=u9.l5 N N:=Fx.uL [] (Qv N) ρ (u9.l5 N) λn ρ' e d=>by rw[e];rfl
theorem h43(K):(Oi N).top K=u9.b N ((Oi N).kc K 11):=κ
def k43:Kn prog:=⟨43,(Oi N).S false (u9 N),Fx.u1 (Oi N) aD func43 [11] (h43 N) (by rw[Qw];rfl)⟩
def X45:Fx:=⟨10,tab,[],N,f45,[.v I],[.v U],[],none⟩
def Zc:Kn prog:=⟨45,(X45 N).S true (NQ N),Fx.u0 (X45 N) aD func45⟩
def X44:Fx:=⟨52,tab,Kn.l [A7 N],N,f44,[.v cZ,.v cZ],[.v cZ,.v B],[],none⟩
def k44:Kn prog:=⟨44,(X44 N).S true (WQ N),Fx.u0 (X44 N) aD func44⟩
def Vh:Fx:=⟨51,tab,[],N,f103,[.v U,.v U],[.v U,.v U],[],none⟩
def Vi:Kn prog:=⟨103,(Vh N).S true (Ji N),Fx.u0 (Vh N) aD func103⟩
def zi:Fx:=⟨30,tab,Kn.l [Vi N],N,f135,[.v U,.v U],[.v U,.v U],[],none⟩
theorem Qx:jF prog (zi N).E:=Fx.zE (zi N) aD (Kn.all _) κ
theorem Qy: ∀x,zl (zi N).E (zi N).fn (zi N).args (zi N).res x=xE (zi N).args (LD N) x:=Fx.Jc κ
def ael:Kn prog:=⟨135,(zi N).S true (LD N),Fx.u0 (zi N) aD func135⟩
theorem EV.mul(w:World)(n:Int)(h0:0<n)(h1:n<1048576):Calls prog 135 #[.int .u64 1,.int .u64 n] w λe w'=>e= .returned (.tuple #[.int .u64 0,.int .u64 n])∧RowKit.Below w.heap.size w w':=
 LC (Qx 0) rfl func135 κ (show zl (zi 0).E f135 [.v (.int .u64),.v (.int .u64)] [.v (.int .u64),.v (.int .u64)] ((1:Int),n)=some (0,n)from(Qy 0 ((1:Int),n)).trans (AA 0 n h0 h1))
open Go.RowKit in
set_option maxHeartbeats 2000000 in
set_option maxRecDepth 100000 in
theorem EV.walk(w:World)(a n:Int)(b off c:Nat)(h0:0<n)(h1:n<1048576)(ha:w.cell? ⟨b,off,none⟩=some (.int .i64 a))(hc:1≤c):Calls prog 96 #[.slice (some ⟨b,off,none⟩) 1 c,.int .i64 n] w λe w'=> ∃rb,e= .returned (.slice (some ⟨rb,0,none⟩) n.toNat n.toNat)∧w.heap.size≤rb∧w'.heap[rb]? =some (.cells (gX n.toNat n.toNat a) 2 (0,0))∧Below w.heap.size w w':=by
 have Wp: ¬(n<0):=ω
 have hu:IntKind.u64.wrap n=n:=by simp[IntKind.wrap,IntKind.bits,IntKind.signed];omega
 have hi:IntKind.i64.wrap n=n:=by rw[IntKind.wrap_i64];omega
 obtain⟨m,rfl⟩:=lZ (kT h0)
 have nL:fe prog (.int .i64) 2:=iB (τ:= .int .i64) (x:= .inl 2) κ
 have Zd:=λW=>GU (W:=W) (a:=a) underlying29 nL m ω
 have Oj: ∀W,(Go.sizeOf 2).run prog W= .ok 1 W:=λW=>bL nL W
 have mixed:Tryz.prog.follows Departure.mixedOrders=true:=κ
 go_enter func96,ntmps96
 go_upto_region 4 with(go_at_call 135;refine(EV.mul _ _ h0 h1).mono ?_;rintro e w1 ⟨rfl,cg⟩)
 obtain⟨B,hB⟩: ∃B:Int,B=9223372036854775807:=⟨_,rfl⟩
 rw[←hB]
 have hgt: ¬(B<(m:Int)):=ω
 clear hB
 go_upto_region 6 with fail
 have c6:b<w.heap.size:=D4 ha
 have WC:w.heap.size≤w1.heap.size:=cg.size
 have Ze:=Zd w1
 have vW: ∀W,(Go.sizeOf 2).run prog W= .ok 1 W:=Oj
 have hcp: ∀ty,(Builtin.copy_ #[29,29] ty #[.slice (some ⟨w1.heap.size,0,none⟩) m m,.slice (some ⟨b,off,none⟩) 1 c]).run prog (w1.alloc (.cells (gX 0 m a) 2))= .ok (goInt (1:Nat)) ((w1.alloc (.cells (gX 0 m a) 2)).setRow w1.heap.size (gX 1 m a)):=λty=>by
  have h:=run_copy_row (P:=prog) (t:=29) (e:=2) (te:=2) (k:=1) (W:=w1.alloc (.cells (gX 0 m a) 2)) (b:=w1.heap.size) (o:=0) (dLen:=m) (dCap:=m) (sLen:=1) (sCap:=c) (n:=1) (a:=⟨b,off,none⟩) (cs:=gX 0 m a) underlying29 vW (iX _ _)
   (news:=[.int .i64 a]) (du ω) rfl (λj u hj=>by
    cases j with
    |zero=>
     cases hj
     show World.cell? _ ⟨b,off,none⟩=_
     rw[World.cell?_of_block (w:=w) ((alloc_old _ _ (fP c6 WC)).trans (cg.block b c6))];exact ha
    |succ j=>cases hj) (λu hu=>by rw[dK]at hu;subst hu;rfl) (by rw[tL (fk _)];simp;omega) ty
  rw[h]
  have:=zF (k:=0) (m:=1) (n:=m) (a:=a) ω
  rw[wQ,c7]at this
  rw[←this];rfl
 go_wp2_with fail
 have vt:((w1.alloc (.cells (gX 0 m a) 2)).setRow w1.heap.size (gX 1 m a)).heap[w1.heap.size]? =some (.cells (gX 1 m a) 2 (0,0)):=setRow_heap _ _ _ _ _ _ (iX w1 _)
 have hB:Below w.heap.size w ((w1.alloc (.cells (gX 0 m a) 2)).setRow w1.heap.size (gX 1 m a)):=⟨cg.os,cg.tape,cg.output,by rw[setRow_size,nU];omega,λk hk=>(setRow_other _ _ ω).trans ((alloc_old _ _ ω).trans (cg.block k hk))⟩
 clear hcp Ze Zd
 generalize (w1.alloc (.cells (gX 0 m a) 2)).setRow w1.heap.size (gX 1 m a)=W at*
 generalize Zf:w1.heap.size=nb at*
 clear Zf cg
 have hg: ∀(k:Nat) (W:World),0<k→k<m→W.heap[nb]? =some (.cells (gX k m a) 2 (0,0))→ ∀ty dc sc,(Builtin.copy_ #[29,29] ty #[.slice (some ⟨nb,k,none⟩) (m-k) dc,.slice (some ⟨nb,0,none⟩) k sc]).run prog W.drew= .ok (goInt ((Nat.min k (m-k):Nat):Int)) (W.drew.setRow nb (gX (k+Nat.min k (m-k)) m a)):=λk W h0 hk hW ty dc sc=>by
  have hle:Nat.min k (m-k)≤k:=Nat.min_le_left _ _
  have Zg:Nat.min k (m-k)≤m-k:=Nat.min_le_right _ _
  rw[run_copy_row (P:=prog) (t:=29) (e:=2) (te:=2) (k:=1) (W:=W.drew) (b:=nb) (o:=k) (dLen:=m-k) (dCap:=dc) (sLen:=k) (sCap:=sc) (n:=Nat.min k (m-k)) (a:=⟨nb,0,none⟩) (cs:=gX k m a) underlying29 Oj hW
   (news:=List.replicate (Nat.min k (m-k)) (.int .i64 a)) rfl (by simp) (Em (w:=W.drew) hW _ hle) (λu hu=>by rw[rE hu];rfl) (by rw[tL (Nat.le_of_lt hk),a5];omega) ty]
  have:=zF (k:=k) (m:=Nat.min k (m-k)) (n:=m) (a:=a) ω
  rw[o8]at this
  rw[this]
 have HG:=Lib.hid hg
 clear hg
 have HR:=Lib.hid vt
 clear vt
 go_loopw [8] (λv W'=> ∃k:Nat,0<k∧k≤m∧v= .int .i64 k∧Hid (W'.heap[nb]? =some (.cells (gX k m a) 2 (0,0)))∧Below w.heap.size w W') (λv _=>m-(RowKit.intOf v).toNat)
 case atStart=>exact⟨1,ω,ω,rfl,HR,hB⟩
 case round=>
  obtain⟨k,PA,hkm,rfl,HK,HB⟩:=hrel
  by_cases K2:k<m
  ·have hle:Nat.min k (m-k)≤k:=Nat.min_le_left _ _
   have Zg:Nat.min k (m-k)≤m-k:=Nat.min_le_right _ _
   have Il:0<Nat.min k (m-k):=by simp only[Nat.min_def];split<;>omega
   have h2:=HG.out k _ PA K2 HK.out
   have uN:=setRow_heap (wr.drew) nb _ (gX (k+Nat.min k (m-k)) m a) 2 (0,0) HK.out
   have HR2:=Lib.hid uN
   have hB2:Below w.heap.size w (wr.drew.setRow nb (gX (k+Nat.min k (m-k)) m a)):=⟨HB.os,HB.tape,HB.output,by rw[setRow_size];exact HB.size,λj hj=>(setRow_other _ _ ω).trans (HB.block j hj)⟩
   clear uN
   generalize WJ:Nat.min k (m-k)=q at*
   clear WJ
   have Zd: ¬(m=k):=ω
   have hw:IntKind.i64.wrap ((k:Int)+(q:Int))=(k:Int)+(q:Int):=by rw[IntKind.wrap_i64];omega
   go_wp2_with fail
   go_region_law_o (refine Go.Proofs.step_copy_runI rfl _ _ 29 29 rfl _ _ (by simp[Act.eval,Act.put]) (by simp[Act.eval,Act.put]) (h2 _ _ _) ?_)
   simp only[List.getElem_toArray,List.getElem_cons_succ,rH,Act.put,List.setIfInBounds_toArray,List.set_cons_succ,List.set_cons_zero]
   go_wp2
   go_roundw
   case rel=>exact⟨k+q,ω,ω,by go_num,HR2,hB2⟩
   case measure=>simp[RowKit.intOf];omega
  ·obtain rfl:k=m:=ω
   go_wp2
   go_ret
   exact⟨nb,rfl,WC,HK.out,HB⟩
abbrev FU:jU:=vO (.int .i64) N
theorem Hu:gy prog 96 (FU N):=En func96 κ κ 2 N (λw a n b off c h0 h1 ha hc=>EV.walk w a n b off c h0 h1 ha hc)
def MO:Kn prog:=⟨96,FU N,Hu N⟩
def EW:Fx:=⟨47,tab,Kn.l [ET N],N,f104,[.v B,.v U,.v U],[.v cZ,.v B],[⟨14,[(1,.v U),(2,.v U),(6,.obj cZ)],[1,1,1],[]⟩],none⟩
theorem MP(K ρ):(EW N).bd K ρ 14=ly.Jj N:=κ
theorem MQ(ρ):(EW N).kc ((EW N).cE ρ) 14=ly.j7 N:=Fx.uJ [] (MP N) ρ
theorem Zh(K):(EW N).top K=ly.b N ((EW N).kc K 14):=κ
def Vj:Kn prog:=⟨104,(EW N).S true (ly N),Fx.u1 (EW N) aD func104 [14] (Zh N) (by rw[MQ];rfl)⟩
def X63:Fx:=⟨29,tab,Kn.l [Zc N,Vi N,Vj N],N,f63,[.v I,.v I],[.v cZ],[],none⟩
def Zi:Kn prog:=⟨63,(X63 N).S true (SB N),Fx.u0 (X63 N) aD func63⟩
def Ok:Fx:=⟨26,tab,Kn.l [Y2 N,Zi N,k62 N],N,f26,[.v cZ,.v I],[.v I],[⟨9,[(1,.v I),(2,.obj cZ),(5,.v I)],[1,1,1,0,0,0],[]⟩],none⟩
theorem Vk(K ρ):(Ok N).bd K ρ 9=rr.dF N ((Ok N).kc ρ 9):=κ
theorem Vl(ρ):(Ok N).kc ((Ok N).cE ρ) 9=rr.l4 N N:=Fx.uL [] (Vk N) ρ (rr.l4 N) λn ρ' e d=>by rw[e];rfl
theorem h26(K):(Ok N).top K=rr.b N ((Ok N).kc K 9):=κ
def k26:Kn prog:=⟨26,(Ok N).S true (rr N),Fx.u1 (Ok N) aD func26 [9] (h26 N) (by rw[Vl];rfl)⟩
def Vm:Fx:=⟨5,tab,[],N,f159,[.v I],[.v B],[],none⟩
def Zj:Kn prog:=⟨159,(Vm N).S true (PZ N),Fx.u0 (Vm N) aD func159⟩
def vi:Fx:=⟨19,tab,Kn.l [Zj N],N,f128,[.v LI,.fn 159 .unit],[.v I],[⟨5,[(0,.v LI),(1,.fn 159 .unit),(7,.v I),(8,.v I)],[1,0,1,0,0],[]⟩],none⟩
theorem MR(K ρ):(vi N).bd K ρ 5=gd.dV N ((vi N).kc ρ 5):=κ
theorem MS(ρ):(vi N).kc ((vi N).cE ρ) 5=gd.l2 N N:=Fx.uL [] (MR N) ρ (gd.l2 N) λn ρ' e d=>by rw[e];rfl
theorem Vn(K):(vi N).top K=gd.b N ((vi N).kc K 5):=κ
def Vo:Kn prog:=⟨128,(vi N).S true (gd N),Fx.u1 (vi N) aD func128 [5] (Vn N) (by rw[MS];rfl)⟩
def Vp:Fx:=⟨9,tab,Kn.l [Vo N],N,f90,[.v LI,.fn 159 .unit],[.v B],[],none⟩
def Zk:Kn prog:=⟨90,(Vp N).S true (P1 N),Fx.u0 (Vp N) aD func90⟩
def Vq:Fx:=⟨11,tab,Kn.l [Zk N],N,f131,[.v LI],[.v B],[],none⟩
def Zl:Kn prog:=⟨131,(Vq N).S true (Mq N),Fx.u0 (Vq N) aD func131⟩
def DH:Fx:=⟨39,tab,Kn.l [A7 N],N,f132,[.v LI],[.v I,.v B],[⟨7,[(4,.v I),(5,.v U),(10,.v LI),(11,.v I),(12,.v I)],[1,1,0,1,0,0],[]⟩],none⟩
theorem Qz(K ρ):(DH N).bd K ρ 7=lz.qJ N ((DH N).kc ρ 7):=κ
theorem QA(ρ):(DH N).kc ((DH N).cE ρ) 7=lz.l3 N N:=Fx.uL [] (Qz N) ρ (lz.l3 N) λn ρ' e d=>by rw[e];rfl
theorem Zm(K):(DH N).top K=lz.b N ((DH N).kc K 7):=κ
def Zn:Kn prog:=⟨132,(DH N).S true (lz N),Fx.u1 (DH N) aD func132 [7] (Zm N) (by rw[QA];rfl)⟩
def Vr:Fx:=⟨32,tab,Kn.l [ET N],N,f160,[.v cZ],[.v U,.v U],[],none⟩
def Zo:Kn prog:=⟨160,(Vr N).S true (LR N),Fx.u0 (Vr N) aD func160⟩
def yA:Fx:=⟨25,tab,[],N,f208,[.v U],[.v I],[⟨14,[(0,.v U),(2,.v I)],[1,1,1],[]⟩,⟨8,[(0,.v U),(2,.v I)],[1,1],[]⟩],none⟩
theorem MT(K ρ):(yA N).bd K ρ 14=ib.Jj N:=κ
theorem MU(ρ):(yA N).kc ((yA N).cE ρ) 14=ib.j7 N:=Fx.uJ [] (MT N) ρ
theorem QB(K ρ):(yA N).bd K ρ 8=ib.Yd N ((yA N).kc K 14):=κ
theorem QC(ρ):(yA N).kc ((yA N).cE ρ) 8=ib.j4 N:=Fx.uJ [14] (QB N) ρ (by rw[MU];rfl)
theorem Zp(K):(yA N).top K=ib.b N ((yA N).kc K 8):=κ
def Zq:Kn prog:=⟨208,(yA N).S true (ib N),Fx.u1 (yA N) aD func208 [8,14] (Zp N) (by rw[QC];rfl)⟩
def Vs:Fx:=⟨6,tab,Kn.l [Zq N],N,f181,[.v U],[.v I],[],none⟩
def Zr:Kn prog:=⟨181,(Vs N).S true (LG N),Fx.u0 (Vs N) aD func181⟩
def mR:Fx:=⟨135,tab,Kn.l [Zr N],N,f161,[.v U,.v U,.v U],[.v U,.v U],[⟨56,[(2,.v U),(8,.v U),(14,.v U),(15,.v U),(17,.v U),(18,.v U)],[1,1,1,1,1,1,1,1,1,1,1,1,1,1,1,1,1,1,1],[]⟩,⟨49,[(2,.v U),(8,.v U),(9,.v U),(10,.v U),(14,.v U),(15,.v U),(16,.v U),(17,.v U),(18,.v U)],[1,1,1,1,1,1,1,1,1,1,1,1,1,1,1,1,1,1,0,0,0],[]⟩,⟨42,[(2,.v U),(8,.v U),(9,.v U),(10,.v U),(11,.v U),(13,.v U),(14,.v U),(15,.v U)],[1,1,1,1,1,1,1,1,1,1,1,1,1,1,1],[]⟩,⟨35,[(2,.v U),(8,.v U),(9,.v U),(10,.v U),(11,.v U),(13,.v U),(14,.v U),(15,.v U),(16,.v U)],[1,1,1,1,1,1,1,1,1,1,1,1,1,1,0,0,0],[]⟩],none⟩
theorem MV(K ρ):(mR N).bd K ρ 56=cv.PL N:=κ
theorem MW(ρ):(mR N).kc ((mR N).cE ρ) 56=cv.NS N:=Fx.uJ [] (MV N) ρ
theorem MX(K ρ):(mR N).bd K ρ 49=cv.CB N ((mR N).kc K 56) ((mR N).kc ρ 49):=κ
theorem MY(ρ):(mR N).kc ((mR N).cE ρ) 49=cv.AB N N:=Fx.uL [56] (MX N) ρ (cv.AB N) λn ρ' e d=>by rw[MW,e];rfl
theorem MZ(K ρ):(mR N).bd K ρ 42=cv.PK N ((mR N).kc K 49):=κ
theorem M4(ρ):(mR N).kc ((mR N).cE ρ) 42=cv.NR N:=Fx.uJ [49,56] (MZ N) ρ (by rw[MY];rfl)
theorem M5(K ρ):(mR N).bd K ρ 35=cv.CA N ((mR N).kc K 42) ((mR N).kc ρ 35):=κ
theorem M6(ρ):(mR N).kc ((mR N).cE ρ) 35=cv.Cz N N:=Fx.uL [42,49,56] (M5 N) ρ (cv.Cz N) λn ρ' e d=>by rw[M4,e];rfl
theorem Zs(K):(mR N).top K=cv.b N ((mR N).kc K 35):=κ
def Zt:Kn prog:=⟨161,(mR N).S true (cv N),Fx.u1 (mR N) aD func161 [35,42,49,56] (Zs N) (by rw[M6];rfl)⟩
def EX:Fx:=⟨70,tab,Kn.l [Zo N,Zt N,A7 N,Vj N],N,f133,[.v cZ,.v I],[.v cZ,.v I,.v B],[⟨26,[(4,.obj cZ),(10,.v U),(11,.v U),(12,.v U)],[1,1,1,1,1,1,1,1],[]⟩],none⟩
theorem M7(K ρ):(EX N).bd K ρ 26=nq.LW N:=κ
theorem M8(ρ):(EX N).kc ((EX N).cE ρ) 26=nq.SC N:=Fx.uJ [] (M7 N) ρ
theorem Zu(K):(EX N).top K=nq.b N ((EX N).kc K 26):=κ
def Zv:Kn prog:=⟨133,(EX N).S true (nq N),Fx.u1 (EX N) aD func133 [26] (Zu N) (by rw[M8];rfl)⟩
def X49:Fx:=⟨14,tab,[],N,f49,[.v cZ],[.v I,.v B],[],none⟩
def k49:Kn prog:=⟨49,(X49 N).S true (PQ N),Fx.u0 (X49 N) aD func49⟩
def Vt:Fx:=⟨9,tab,[],N,f163,[.v LI],[.v LI],[],none⟩
def Zw:Kn prog:=⟨163,(Vt N).S false (PY N),Fx.u0 (Vt N) aD func163⟩
def qB:Fx:=⟨43,tab,Kn.l [Kz N,Zw N],N,f134,[.v LI],[.v LI],[⟨13,[(0,.v LI),(3,.own I),(4,.v I),(5,.v I),(10,.v I),(11,.v I)],[1,1,0,1,0,0,1,1,0,0,1,1,0,0,0],[7]⟩,⟨7,[(0,.v LI),(3,.own I),(10,.v I),(11,.v I)],[1,1,0,1,0,0],[]⟩],none⟩
theorem M9(K ρ):(qB N).bd K ρ 13=eu.y7 N ((qB N).kc ρ 7) ((qB N).kc ρ 13):=κ
theorem Na(ρ):(qB N).kc ((qB N).cE ρ) 13=eu.l6 N ((qB N).kc ρ 7) N:=Fx.uL [] (M9 N) ρ (eu.l6 N ((qB N).kc ρ 7)) λn ρ' e d=>by rw[e,d 7 rfl];rfl
theorem QD(K ρ):(qB N).bd K ρ 7=eu.qJ N ((qB N).kc K 13) ((qB N).kc ρ 7):=κ
theorem QE(ρ):(qB N).kc ((qB N).cE ρ) 7=eu.l3 N N:=Fx.uL [13] (QD N) ρ (eu.l3 N) λn ρ' e d=>by rw[Na,e];rfl
theorem Zx(K):(qB N).top K=eu.b N ((qB N).kc K 7):=κ
def Zy:Kn prog:=⟨134,(qB N).S false (eu N),Fx.u1 (qB N) aD func134 [7] (Zx N) (by rw[QE];rfl)⟩
def DI:Fx:=⟨102,tab,Kn.l [Zl N,Zn N,Zi N,Zv N,k49 N,Zy N],N,f95,[.v I,.v LI],[.own I,.v I],[⟨43,[(8,.own I),(88,.v LI),(89,.v I),(90,.v I)],[1,1,1,1,1,1,1,1,0,1,0,0],[]⟩,⟨27,[(0,.v I),(6,.v I),(8,.own I),(9,.own I),(10,.v I),(50,.v LI),(51,.v I),(52,.v I)],[1,1,1,1,1,1,1,0,1,0,0],[]⟩,⟨16,[(0,.v I),(1,.v LI),(6,.v I)],[1,1,1,1],[]⟩],none⟩
theorem QF(K ρ):(DI N).bd K ρ 43=kk.Db N ((DI N).kc ρ 43):=κ
theorem QG(ρ):(DI N).kc ((DI N).cE ρ) 43=kk.AU N N:=Fx.uL [] (QF N) ρ (kk.AU N) λn ρ' e d=>by rw[e];rfl
theorem QH(K ρ):(DI N).bd K ρ 27=kk.tY N ((DI N).kc K 43) ((DI N).kc ρ 27):=κ
theorem QI(ρ):(DI N).kc ((DI N).cE ρ) 27=kk.wi N N:=Fx.uL [43] (QH N) ρ (kk.wi N) λn ρ' e d=>by rw[QG,e];rfl
theorem QJ(K ρ):(DI N).bd K ρ 16=kk.HH N ((DI N).kc K 27):=κ
theorem QK(ρ):(DI N).kc ((DI N).cE ρ) 16=kk.j8 N:=Fx.uJ [27,43] (QJ N) ρ (by rw[QI];rfl)
theorem h95(K):(DI N).top K=kk.b N ((DI N).kc K 16):=κ
def k95:Kn prog:=⟨95,(DI N).S false (kk N),Fx.u1 (DI N) aD func95 [16,27,43] (h95 N) (by rw[QK];rfl)⟩
def X46:Fx:=⟨23,tab,Kn.l [MO N,k95 N],N,f46,[.v I,.v I],[.own I,.v I],[],none⟩
def k46:Kn prog:=⟨46,(X46 N).S false (WS N),Fx.u0 (X46 N) aD func46⟩
def Ol:Fx:=⟨54,tab,Kn.l [U6 N,YW N],N,f60,[.v aU,.v gp],[.v B],[⟨5,[(1,.v gp),(2,.obj aU),(7,.v gp),(8,.v I),(9,.v I)],[1,0,1,0,0],[]⟩],none⟩
theorem Vu(K ρ):(Ol N).bd K ρ 5=tU.dV N ((Ol N).kc ρ 5):=κ
theorem Vv(ρ):(Ol N).kc ((Ol N).cE ρ) 5=tU.l2 N N:=Fx.uL [] (Vu N) ρ (tU.l2 N) λn ρ' e d=>by rw[e];rfl
theorem h60(K):(Ol N).top K=tU.b N ((Ol N).kc K 5):=κ
def k60:Kn prog:=⟨60,(Ol N).S true (tU N),Fx.u1 (Ol N) aD func60 [5] (h60 N) (by rw[Vv];rfl)⟩
def X98:Fx:=⟨5,tab,[],N,f98,[.v A4],[.v I],[],none⟩
def k98:Kn prog:=⟨98,(X98 N).S true (Yw N),Fx.u0 (X98 N) aD func98⟩
def Om:Fx:=⟨47,tab,Kn.l [k60 N,Zc N,k98 N,Zi N,Qk N],N,f97,[.v aU,.v gp,.fn 98 .unit],[.v cZ,.v I],[⟨11,[(2,.fn 98 .unit),(3,.obj aU),(6,.obj cZ),(8,.own cZ),(18,.v gp),(19,.v I),(20,.v I)],[1,1,1,0,1,0,0],[]⟩],none⟩
theorem QL(K ρ):(Om N).bd K ρ 11=vI.mP N ((Om N).kc ρ 11):=κ
theorem QM(ρ):(Om N).kc ((Om N).cE ρ) 11=vI.l5 N N:=Fx.uL [] (QL N) ρ (vI.l5 N) λn ρ' e d=>by rw[e];rfl
theorem h97(K):(Om N).top K=vI.b N ((Om N).kc K 11):=κ
def k97:Kn prog:=⟨97,(Om N).S true (vI N),Fx.u1 (Om N) aD func97 [11] (h97 N) (by rw[QM];rfl)⟩
def X47:Fx:=⟨11,tab,Kn.l [k97 N],N,f47,[.v aU,.v gp],[.v cZ,.v I],[],none⟩
def k47:Kn prog:=⟨47,(X47 N).S true (WN N),Fx.u0 (X47 N) aD func47⟩
def X99:Fx:=⟨52,tab,Kn.l [ET N],N,f99,[.v cZ,.v cZ],[.v cZ,.v B],[],none⟩
def k99:Kn prog:=⟨99,(X99 N).S true (Yz N),Fx.u0 (X99 N) aD func99⟩
def X48:Fx:=⟨9,tab,Kn.l [k99 N],N,f48,[.v cZ],[.v cZ,.v B],[],none⟩
def k48:Kn prog:=⟨48,(X48 N).S true (WT N),Fx.u0 (X48 N) aD func48⟩
def jS:Fx:=⟨169,tab,Kn.l [k42 N,k43 N,Zc N,W2 N,k44 N,k26 N,k46 N,k47 N,k48 N,k49 N],N,f13,[.v aU,.v fc,.v I],[.own gH,.v I],[⟨58,[(2,.v I),(3,.obj aU),(8,.own mG),(9,.own gH),(15,.cV mG),(17,.obj mG),(20,.v I),(21,.v I),(46,.v I),(84,.own mG),(85,.v I),(86,.v I),(100,.own I),(101,.v I),(102,.v I)],[1,1,1,1,1,0,1,0,0,1,1,0,0,1,1,1,1,1,0,1,0,0,1,1,0,0,1,1,1,0,0,1,1,0,0,1,1],[17,43,51]⟩,⟨51,[(2,.v I),(3,.obj aU),(8,.own mG),(9,.own gH),(15,.cV mG),(17,.obj mG),(46,.v I),(84,.own mG),(85,.v I),(86,.v I),(100,.own I),(101,.v I),(102,.v I)],[1,1,1,1,1,0,1,0,0,1,1,0,0,1,1,1,1,1,0,1,0,0,1,1,0,0,1,1,1,0,0],[17,43]⟩,⟨69,[(2,.v I),(3,.obj aU),(8,.own mG),(9,.own gH),(46,.v I),(129,.v (.slice gp)),(130,.v I),(131,.v I)],[1,1,1,1,1,0,1,0,0,1,1,0,0,1,1,1,1,1,1,1,0,0],[17]⟩,⟨43,[(2,.v I),(3,.obj aU),(8,.own mG),(9,.own gH),(15,.cV mG),(46,.v I),(84,.own mG),(85,.v I),(86,.v I)],[1,1,1,1,1,0,1,0,0,1,1,0,0,1,1,1,1,1,0,1,0,0],[17]⟩,⟨27,[(2,.v I),(3,.obj aU),(8,.own mG),(9,.own gH),(10,.v I),(11,.own mG),(12,.obj cZ),(46,.v I),(49,.same 8),(50,.v I),(51,.v I)],[1,1,1,1,1,0,1,0,0,1,1,0,0,1,1,1,0,1,0,0],[17]⟩,⟨17,[(2,.v I),(3,.obj aU),(8,.own mG),(9,.own gH),(46,.v I)],[1,1,1,1,1,0,1,0,0],[]⟩],some (.unit,[],.unit,[1000002,3000083,4000129])⟩
theorem QN(K ρ):(jS N).bd K ρ 58=ck.EJ N ((jS N).kc ρ 17) ((jS N).kc ρ 43) ((jS N).kc ρ 51):=κ
theorem QO(ρ):(jS N).kc ((jS N).cE ρ) 58=ck.J0 N ((jS N).kc ρ 17) ((jS N).kc ρ 43) ((jS N).kc ρ 51):=Fx.uJ [69] (QN N) ρ
theorem QP(K ρ):(jS N).bd K ρ 51=ck.Mv N ((jS N).kc K 58) ((jS N).kc ρ 17) ((jS N).kc ρ 43) ((jS N).kc ρ 51):=κ
theorem QQ(ρ):(jS N).kc ((jS N).cE ρ) 51=ck.KM N ((jS N).kc ρ 17) ((jS N).kc ρ 43) N:=Fx.uL [69,58] (QP N) ρ (ck.KM N ((jS N).kc ρ 17) ((jS N).kc ρ 43)) λn ρ' e d=>by rw[QO,e,d 17 rfl,d 43 rfl];rfl
theorem QR(K ρ):(jS N).bd K ρ 69=ck.MA N ((jS N).kc ρ 17) ((jS N).kc ρ 69):=κ
theorem QS(ρ):(jS N).kc ((jS N).cE ρ) 69=ck.KN N ((jS N).kc ρ 17) N:=Fx.uL [] (QR N) ρ (ck.KN N ((jS N).kc ρ 17)) λn ρ' e d=>by rw[e,d 17 rfl];rfl
theorem QT(K ρ):(jS N).bd K ρ 43=ck.Db N ((jS N).kc K 51) ((jS N).kc K 69) ((jS N).kc ρ 17) ((jS N).kc ρ 43):=κ
theorem QU(ρ):(jS N).kc ((jS N).cE ρ) 43=ck.AU N ((jS N).kc ρ 17) N:=Fx.uL [69,51] (QT N) ρ (ck.AU N ((jS N).kc ρ 17)) λn ρ' e d=>by rw[QQ,QS,e,d 17 rfl];rfl
theorem QV(K ρ):(jS N).bd K ρ 27=ck.tY N ((jS N).kc K 43) ((jS N).kc ρ 17) ((jS N).kc ρ 27):=κ
theorem QW(ρ):(jS N).kc ((jS N).cE ρ) 27=ck.wi N ((jS N).kc ρ 17) N:=Fx.uL [43,69] (QV N) ρ (ck.wi N ((jS N).kc ρ 17)) λn ρ' e d=>by rw[QU,e,d 17 rfl];rfl
theorem QX(K ρ):(jS N).bd K ρ 17=ck.G2 N ((jS N).kc K 27) ((jS N).kc ρ 17):=κ
theorem QY(ρ):(jS N).kc ((jS N).cE ρ) 17=ck.l8 N N:=Fx.uL [27,43,69] (QX N) ρ (ck.l8 N) λn ρ' e d=>by rw[QW,e];rfl
theorem XG(K):(jS N).top K=ck.b N ((jS N).kc K 17):=κ
def k13:Kn prog:=⟨13,(jS N).S false (ck N),Fx.u1 (jS N) aD func13 [17] (XG N) (by rw[QY];rfl)⟩
def On:Fx:=⟨25,tab,[],N,f24,[.v gf,.v I],[.v gH,.v B],[⟨5,[(1,.v I),(4,.obj gH),(8,.v gf),(9,.v I),(10,.v I)],[1,0,1,0,0],[]⟩],none⟩
theorem Vw(K ρ):(On N).bd K ρ 5=ub.dV N ((On N).kc ρ 5):=κ
theorem Vx(ρ):(On N).kc ((On N).cE ρ) 5=ub.l2 N N:=Fx.uL [] (Vw N) ρ (ub.l2 N) λn ρ' e d=>by rw[e];rfl
theorem h24(K):(On N).top K=ub.b N ((On N).kc K 5):=κ
def k24:Kn prog:=⟨24,(On N).S false (ub N),Fx.u1 (On N) aD func24 [5] (h24 N) (by rw[Vx];rfl)⟩
def Oo:Fx:=⟨26,tab,[],N,f25,[.v gp,.v gp],[.v B],[⟨9,[(0,.v gp),(1,.v gp),(5,.v I)],[1,1,0,1,0,0],[]⟩],none⟩
theorem Vy(K ρ):(Oo N).bd K ρ 9=ru.dF N ((Oo N).kc ρ 9):=κ
theorem Vz(ρ):(Oo N).kc ((Oo N).cE ρ) 9=ru.l4 N N:=Fx.uL [] (Vy N) ρ (ru.l4 N) λn ρ' e d=>by rw[e];rfl
theorem h25(K):(Oo N).top K=ru.b N ((Oo N).kc K 9):=κ
def k25:Kn prog:=⟨25,(Oo N).S true (ru N),Fx.u1 (Oo N) aD func25 [9] (h25 N) (by rw[Vz];rfl)⟩
def FV:Fx:=⟨97,tab,Kn.l [YW N,k60 N],N,f22,[.v aU,.v gf],[.v B],[⟨16,[(1,.v gf),(2,.obj aU),(6,.obj gH),(15,.v gf),(16,.v I),(17,.v I)],[1,1,0,1,0,0,1,1,0,0,1,1],[9]⟩,⟨9,[(1,.v gf),(2,.obj aU),(15,.v gf),(16,.v I),(17,.v I)],[1,1,0,1,0,0],[]⟩],none⟩
theorem QZ(K ρ):(FV N).bd K ρ 16=ns.HH N ((FV N).kc ρ 9):=κ
theorem Q0(ρ):(FV N).kc ((FV N).cE ρ) 16=ns.j8 N ((FV N).kc ρ 9):=Fx.uJ [] (QZ N) ρ
theorem VA(K ρ):(FV N).bd K ρ 9=ns.dF N ((FV N).kc K 16) ((FV N).kc ρ 9):=κ
theorem VB(ρ):(FV N).kc ((FV N).cE ρ) 9=ns.l4 N N:=Fx.uL [16] (VA N) ρ (ns.l4 N) λn ρ' e d=>by rw[Q0,e];rfl
theorem h22(K):(FV N).top K=ns.b N ((FV N).kc K 9):=κ
def k22:Kn prog:=⟨22,(FV N).S true (ns N),Fx.u1 (FV N) aD func22 [9] (h22 N) (by rw[VB];rfl)⟩
def X7:Fx:=⟨106,tab,Kn.l [k23 N,k13 N,k24 N,k25 N,k22 N,W2 N,k26 N],N,f7,[],[.v B],[],none⟩
theorem aeE:jF prog (X7 N).E:=Fx.zE (X7 N) aD (Kn.all _) κ
theorem aeF: ∀x,zl (X7 N).E (X7 N).fn (X7 N).args (X7 N).res x=xE (X7 N).args (F7 N) x:=Fx.Jc κ
def k7:Kn prog:=⟨7,(X7 N).S true (F7 N),Fx.u0 (X7 N) aD func7⟩
def VC:Fx:=⟨15,tab,[],N,f105,[.v I,.v I,.v I],[.v B],[],none⟩
def Zz:Kn prog:=⟨105,(VC N).S true (za N),Fx.u0 (VC N) aD func105⟩
def Oq:Fx:=⟨77,tab,Kn.l [Zz N],N,f64,[.v aU],[.v B],[⟨9,[(1,.obj aU),(3,.v I)],[1,1,0,1,0,0],[]⟩],none⟩
theorem VE(K ρ):(Oq N).bd K ρ 9=tN.dF N ((Oq N).kc ρ 9):=κ
theorem VF(ρ):(Oq N).kc ((Oq N).cE ρ) 9=tN.l4 N N:=Fx.uL [] (VE N) ρ (tN.l4 N) λn ρ' e d=>by rw[e];rfl
theorem sZ(K):(Oq N).top K=tN.b N ((Oq N).kc K 9):=κ
def ZA:Kn prog:=⟨64,(Oq N).S true (tN N),Fx.u1 (Oq N) aD func64 [9] (sZ N) (by rw[VF];rfl)⟩
def DJ:Fx:=⟨58,tab,[],N,f109,[.v gp],[.v B],[⟨5,[(0,.v gp),(3,.v I)],[1,0,1,0,0],[]⟩],none⟩
theorem Q1(K ρ):(DJ N).bd K ρ 5=jM.dV N ((DJ N).kc ρ 5):=κ
theorem Q2(ρ):(DJ N).kc ((DJ N).cE ρ) 5=jM.l2 N N:=Fx.uL [] (Q1 N) ρ (jM.l2 N) λn ρ' e d=>by rw[e];rfl
theorem ZB(K):(DJ N).top K=jM.b N ((DJ N).kc K 5):=κ
def VG:Kn prog:=⟨109,(DJ N).S true (jM N),Fx.u1 (DJ N) aD func109 [5] (ZB N) (by rw[Q2];rfl)⟩
def lU:Fx:=⟨95,tab,[],N,f110,[.v ow],[.v B],[⟨17,[(0,.v ow),(3,.v I),(4,.obj A4),(5,.v I)],[1,0,1,0,0,1,0,0,1,1,1,0,0],[5]⟩,⟨14,[(0,.v ow),(3,.v I),(4,.obj A4)],[1,0,1,0,0,1,0,0,1,1],[5]⟩,⟨5,[(0,.v ow),(3,.v I)],[1,0,1,0,0],[]⟩],none⟩
theorem Nb(K ρ):(lU N).bd K ρ 17=cY.G2 N ((lU N).kc ρ 5) ((lU N).kc ρ 17):=κ
theorem Nc(ρ):(lU N).kc ((lU N).cE ρ) 17=cY.l8 N ((lU N).kc ρ 5) N:=Fx.uL [] (Nb N) ρ (cY.l8 N ((lU N).kc ρ 5)) λn ρ' e d=>by rw[e,d 5 rfl];rfl
theorem Nd(K ρ):(lU N).bd K ρ 14=cY.Jj N ((lU N).kc K 17) ((lU N).kc ρ 5):=κ
theorem Nf(ρ):(lU N).kc ((lU N).cE ρ) 14=cY.j7 N ((lU N).kc ρ 5):=Fx.uJ [17] (Nd N) ρ (by rw[Nc];rfl)
theorem Q3(K ρ):(lU N).bd K ρ 5=cY.dV N ((lU N).kc K 14) ((lU N).kc ρ 5):=κ
theorem Q4(ρ):(lU N).kc ((lU N).cE ρ) 5=cY.l2 N N:=Fx.uL [14,17] (Q3 N) ρ (cY.l2 N) λn ρ' e d=>by rw[Nf,e];rfl
theorem ZC(K):(lU N).top K=cY.b N ((lU N).kc K 5):=κ
def VH:Kn prog:=⟨110,(lU N).S true (cY N),Fx.u1 (lU N) aD func110 [5] (ZC N) (by rw[Q4];rfl)⟩
def DK:Fx:=⟨24,tab,[],N,f111,[.v gp,.v I],[.v I],[⟨5,[(0,.v gp),(1,.v I),(5,.v I)],[1,0,1,0,0],[]⟩],none⟩
theorem Q5(K ρ):(DK N).bd K ρ 5=jN.dV N ((DK N).kc ρ 5):=κ
theorem Q6(ρ):(DK N).kc ((DK N).cE ρ) 5=jN.l2 N N:=Fx.uL [] (Q5 N) ρ (jN.l2 N) λn ρ' e d=>by rw[e];rfl
theorem ZD(K):(DK N).top K=jN.b N ((DK N).kc K 5):=κ
def VI:Kn prog:=⟨111,(DK N).S true (jN N),Fx.u1 (DK N) aD func111 [5] (ZD N) (by rw[Q6];rfl)⟩
def Ot:Fx:=⟨28,tab,Kn.l [VG N,VH N,VI N],N,f73,[.v gp,.v ow],[.v B],[⟨9,[(0,.v gp),(1,.v ow),(5,.v I)],[1,1,0,1,0,0],[]⟩],none⟩
theorem VJ(K ρ):(Ot N).bd K ρ 9=vD.dF N ((Ot N).kc ρ 9):=κ
theorem VK(ρ):(Ot N).kc ((Ot N).cE ρ) 9=vD.l4 N N:=Fx.uL [] (VJ N) ρ (vD.l4 N) λn ρ' e d=>by rw[e];rfl
theorem h73(K):(Ot N).top K=vD.b N ((Ot N).kc K 9):=κ
def k73:Kn prog:=⟨73,(Ot N).S true (vD N),Fx.u1 (Ot N) aD func73 [9] (h73 N) (by rw[VK];rfl)⟩
def VL:Fx:=⟨30,tab,[],N,f112,[.v I,.v I],[.v B],[],none⟩
def ZE:Kn prog:=⟨112,(VL N).S true (L0 N),Fx.u0 (VL N) aD func112⟩
def Ou:Fx:=⟨74,tab,Kn.l [ZE N],N,f74,[.v ig],[.v B],[⟨5,[(0,.v ig),(3,.v I)],[1,0,1,0,0],[]⟩],none⟩
theorem VN(K ρ):(Ou N).bd K ρ 5=uW.dV N ((Ou N).kc ρ 5):=κ
theorem VO(ρ):(Ou N).kc ((Ou N).cE ρ) 5=uW.l2 N N:=Fx.uL [] (VN N) ρ (uW.l2 N) λn ρ' e d=>by rw[e];rfl
theorem h74(K):(Ou N).top K=uW.b N ((Ou N).kc K 5):=κ
def k74:Kn prog:=⟨74,(Ou N).S true (uW N),Fx.u1 (Ou N) aD func74 [5] (h74 N) (by rw[VO];rfl)⟩
def Ov:Fx:=⟨78,tab,[],N,f50,[.v ig],[.v B],[⟨5,[(0,.v ig),(3,.v I)],[1,0,1,0,0],[]⟩],none⟩
theorem VP(K ρ):(Ov N).bd K ρ 5=tQ.dV N ((Ov N).kc ρ 5):=κ
theorem VQ(ρ):(Ov N).kc ((Ov N).cE ρ) 5=tQ.l2 N N:=Fx.uL [] (VP N) ρ (tQ.l2 N) λn ρ' e d=>by rw[e];rfl
theorem h50(K):(Ov N).top K=tQ.b N ((Ov N).kc K 5):=κ
def ZF:Kn prog:=⟨50,(Ov N).S true (tQ N),Fx.u1 (Ov N) aD func50 [5] (h50 N) (by rw[VQ];rfl)⟩
def DL:Fx:=⟨22,tab,[],N,f100,[.v LU],[.v LU],[⟨5,[(0,.v LU),(3,.v I)],[1,1,0,0,0],[]⟩],none⟩
theorem Q7(K ρ):(DL N).bd K ρ 5=iY.dV N ((DL N).kc ρ 5):=κ
theorem Q8(ρ):(DL N).kc ((DL N).cE ρ) 5=iY.l2 N N:=Fx.uL [] (Q7 N) ρ (iY.l2 N) λn ρ' e d=>by rw[e];rfl
theorem ZG(K):(DL N).top K=iY.b N ((DL N).kc K 5):=κ
def Q9:Kn prog:=⟨100,(DL N).S false (iY N),Fx.u1 (DL N) aD func100 [5] (ZG N) (by rw[Q8];rfl)⟩
def X55:Fx:=⟨9,tab,Kn.l [Q9 N],N,f55,[.v U],[.v LU],[],none⟩
def k55:Kn prog:=⟨55,(X55 N).S false (T9 N),Fx.u0 (X55 N) aD func55⟩
def X51:Fx:=⟨15,tab,Kn.l [Q9 N],N,f51,[.v B,.v LU],[.v cD],[],none⟩
def VS:Kn prog:=⟨51,(X51 N).S false (Jm N),Fx.u0 (X51 N) aD func51⟩
def X17:Fx:=⟨15,tab,Kn.l [k55 N,VS N],N,f17,[.v I],[.v cD],[],none⟩
def Ow:Kn prog:=⟨17,(X17 N).S false (AF N),Fx.u0 (X17 N) aD func17⟩
def X56:Fx:=⟨13,tab,[],N,f56,[.v LU,.v I],[.v U],[],none⟩
def W3:Kn prog:=⟨56,(X56 N).S true (LH N),Fx.u0 (X56 N) aD func56⟩
def FW:Fx:=⟨41,tab,Kn.l [W3 N],N,f52,[.v LU,.v LU],[.own U],[⟨12,[(0,.v LU),(1,.v LU),(5,.own U),(6,.v U),(7,.v I)],[1,1,1,0,1,0,0,1],[9]⟩,⟨9,[(0,.v LU),(1,.v LU),(5,.own U),(6,.v U),(7,.v I)],[1,1,1,0,1,0,0],[]⟩],none⟩
theorem Ra(K ρ):(FW N).bd K ρ 12=oF.NU N ((FW N).kc ρ 9):=κ
theorem Rb(ρ):(FW N).kc ((FW N).cE ρ) 12=oF.j6 N ((FW N).kc ρ 9):=Fx.uJ [] (Ra N) ρ
theorem VT(K ρ):(FW N).bd K ρ 9=oF.dF N ((FW N).kc K 12) ((FW N).kc ρ 9):=κ
theorem VU(ρ):(FW N).kc ((FW N).cE ρ) 9=oF.l4 N N:=Fx.uL [12] (VT N) ρ (oF.l4 N) λn ρ' e d=>by rw[Rb,e];rfl
theorem h52(K):(FW N).top K=oF.b N ((FW N).kc K 9):=κ
def k52:Kn prog:=⟨52,(FW N).S false (oF N),Fx.u1 (FW N) aD func52 [9] (h52 N) (by rw[VU];rfl)⟩
def Ox:Fx:=⟨41,tab,[],N,f53,[.v LU,.v LU],[.v I],[⟨13,[(0,.v LU),(1,.v LU),(5,.v I)],[1,1,0,1,0,0],[]⟩],none⟩
theorem Rc(K ρ):(Ox N).bd K ρ 13=vx.y7 N ((Ox N).kc ρ 13):=κ
theorem Re(ρ):(Ox N).kc ((Ox N).cE ρ) 13=vx.l6 N N:=Fx.uL [] (Rc N) ρ (vx.l6 N) λn ρ' e d=>by rw[e];rfl
theorem h53(K):(Ox N).top K=vx.b N ((Ox N).kc K 13):=κ
def k53:Kn prog:=⟨53,(Ox N).S true (vx N),Fx.u1 (Ox N) aD func53 [13] (h53 N) (by rw[Re];rfl)⟩
def Oy:Fx:=⟨37,tab,Kn.l [W3 N],N,f54,[.v LU,.v LU],[.own U],[⟨9,[(0,.v LU),(1,.v LU),(5,.own U),(6,.v U),(7,.v I)],[1,1,1,0,1,0,0],[]⟩],none⟩
theorem VV(K ρ):(Oy N).bd K ρ 9=vY.dF N ((Oy N).kc ρ 9):=κ
theorem VW(ρ):(Oy N).kc ((Oy N).cE ρ) 9=vY.l4 N N:=Fx.uL [] (VV N) ρ (vY.l4 N) λn ρ' e d=>by rw[e];rfl
theorem h54(K):(Oy N).top K=vY.b N ((Oy N).kc K 9):=κ
def k54:Kn prog:=⟨54,(Oy N).S false (vY N),Fx.u1 (Oy N) aD func54 [9] (h54 N) (by rw[VW];rfl)⟩
def X16:Fx:=⟨40,tab,Kn.l [k52 N,VS N,k53 N,k54 N],N,f16,[.v cD,.v cD],[.v cD],[],none⟩
def Rf:Kn prog:=⟨16,(X16 N).S false (DZ N),Fx.u0 (X16 N) aD func16⟩
def DM:Fx:=⟨33,tab,Kn.l [ZF N,Ow N,Rf N],N,f113,[.v ig,.v I],[.v cD],[⟨11,[(0,.v ig),(1,.v I),(4,.obj cD),(5,.obj cD),(6,.v I)],[1,1,1,0,1,0,0],[]⟩],none⟩
theorem Ng(K ρ):(DM N).bd K ρ 11=jQ.mP N ((DM N).kc ρ 11):=κ
theorem Nh(ρ):(DM N).kc ((DM N).cE ρ) 11=jQ.l5 N N:=Fx.uL [] (Ng N) ρ (jQ.l5 N) λn ρ' e d=>by rw[e];rfl
theorem ZH(K):(DM N).top K=jQ.b N ((DM N).kc K 11):=κ
def ZI:Kn prog:=⟨113,(DM N).S false (jQ N),Fx.u1 (DM N) aD func113 [11] (ZH N) (by rw[Nh];rfl)⟩
def X57:Fx:=⟨9,tab,[],N,f57,[.v cD],[.v I],[],none⟩
def SM:Kn prog:=⟨57,(X57 N).S true (KL N),Fx.u0 (X57 N) aD func57⟩
def Oz:Fx:=⟨15,tab,Kn.l [ZI N,SM N,ZF N],N,f75,[.v ig],[.v B],[⟨5,[(0,.v ig),(3,.v I)],[1,0,1,0,0],[]⟩],none⟩
theorem VX(K ρ):(Oz N).bd K ρ 5=vG.dV N ((Oz N).kc ρ 5):=κ
theorem VY(ρ):(Oz N).kc ((Oz N).cE ρ) 5=vG.l2 N N:=Fx.uL [] (VX N) ρ (vG.l2 N) λn ρ' e d=>by rw[e];rfl
theorem h75(K):(Oz N).top K=vG.b N ((Oz N).kc K 5):=κ
def k75:Kn prog:=⟨75,(Oz N).S true (vG N),Fx.u1 (Oz N) aD func75 [5] (h75 N) (by rw[VY];rfl)⟩
def X80:Fx:=⟨9,tab,[],N,f80,[.v I],[.v B],[],none⟩
def k80:Kn prog:=⟨80,(X80 N).S true (Ug N),Fx.u0 (X80 N) aD func80⟩
def VZ:Fx:=⟨56,tab,Kn.l [k80 N],N,f114,[.v MD],[.v B],[],none⟩
def ZJ:Kn prog:=⟨114,(VZ N).S true (L6 N),Fx.u0 (VZ N) aD func114⟩
def OA:Fx:=⟨37,tab,Kn.l [ZJ N],N,f76,[.v ES],[.v B],[⟨9,[(0,.v ES),(3,.v I)],[1,1,0,1,0,0],[]⟩],none⟩
theorem V0(K ρ):(OA N).bd K ρ 9=vB.dF N ((OA N).kc ρ 9):=κ
theorem V1(ρ):(OA N).kc ((OA N).cE ρ) 9=vB.l4 N N:=Fx.uL [] (V0 N) ρ (vB.l4 N) λn ρ' e d=>by rw[e];rfl
theorem h76(K):(OA N).top K=vB.b N ((OA N).kc K 9):=κ
def k76:Kn prog:=⟨76,(OA N).S true (vB N),Fx.u1 (OA N) aD func76 [9] (h76 N) (by rw[V1];rfl)⟩
def OB:Fx:=⟨24,tab,Kn.l [k74 N,Ow N,Rf N],N,f77,[.v ig],[.v cD],[⟨11,[(0,.v ig),(2,.obj cD),(3,.obj cD),(4,.v I)],[1,1,1,0,1,0,0],[]⟩],none⟩
theorem Rg(K ρ):(OB N).bd K ρ 11=uZ.mP N ((OB N).kc ρ 11):=κ
theorem Rh(ρ):(OB N).kc ((OB N).cE ρ) 11=uZ.l5 N N:=Fx.uL [] (Rg N) ρ (uZ.l5 N) λn ρ' e d=>by rw[e];rfl
theorem h77(K):(OB N).top K=uZ.b N ((OB N).kc K 11):=κ
def k77:Kn prog:=⟨77,(OB N).S false (uZ N),Fx.u1 (OB N) aD func77 [11] (h77 N) (by rw[Rh];rfl)⟩
def DN:Fx:=⟨25,tab,[],N,f157,[.v ow,.v I],[.v A4,.v B],[⟨5,[(0,.v ow),(1,.v I),(4,.obj A4),(6,.v I)],[1,0,1,0,0],[]⟩],none⟩
theorem Ri(K ρ):(DN N).bd K ρ 5=j2.dV N ((DN N).kc ρ 5):=κ
theorem Rj(ρ):(DN N).kc ((DN N).cE ρ) 5=j2.l2 N N:=Fx.uL [] (Ri N) ρ (j2.l2 N) λn ρ' e d=>by rw[e];rfl
theorem ZK(K):(DN N).top K=j2.b N ((DN N).kc K 5):=κ
def ZL:Kn prog:=⟨157,(DN N).S true (j2 N),Fx.u1 (DN N) aD func157 [5] (ZK N) (by rw[Rj];rfl)⟩
def V2:Fx:=⟨15,tab,Kn.l [VH N,ZL N],N,f115,[.v ow,.v I],[.v A4,.v B],[],none⟩
def ZM:Kn prog:=⟨115,(V2 N).S true (L8 N),Fx.u0 (V2 N) aD func115⟩
def X78:Fx:=⟨19,tab,Kn.l [ZM N],N,f78,[.v fc,.v I],[.v B],[],none⟩
def k78:Kn prog:=⟨78,(X78 N).S true (SF N),Fx.u0 (X78 N) aD func78⟩
def X79:Fx:=⟨11,tab,Kn.l [VG N,VI N],N,f79,[.v gp,.v I],[.v I],[],none⟩
def k79:Kn prog:=⟨79,(X79 N).S true (PU N),Fx.u0 (X79 N) aD func79⟩
def yB:Fx:=⟨163,tab,Kn.l [ZA N,k73 N,k74 N,k75 N,k76 N,k77 N,SM N,k78 N,k79 N,k80 N],N,f37,[.v aU,.v fc],[.v B],[⟨45,[(2,.obj aU),(3,.obj fc),(9,.v I)],[1,1,1,1,1,1,0,1,0,0],[]⟩,⟨35,[(2,.obj aU),(3,.obj fc),(8,.v I)],[1,1,1,1,1,0,1,0,0],[]⟩,⟨25,[(2,.obj aU),(3,.obj fc),(7,.v I)],[1,1,1,1,0,1,0,0],[]⟩,⟨13,[(2,.obj aU),(3,.obj fc),(5,.v I)],[1,1,1,0,1,0,0],[]⟩],none⟩
theorem Rk(K ρ):(yB N).bd K ρ 45=et.tT N ((yB N).kc ρ 45):=κ
theorem Rl(ρ):(yB N).kc ((yB N).cE ρ) 45=et.u6 N N:=Fx.uL [] (Rk N) ρ (et.u6 N) λn ρ' e d=>by rw[e];rfl
theorem Rm(K ρ):(yB N).bd K ρ 35=et.CA N ((yB N).kc K 45) ((yB N).kc ρ 35):=κ
theorem Rn(ρ):(yB N).kc ((yB N).cE ρ) 35=et.Cz N N:=Fx.uL [45] (Rm N) ρ (et.Cz N) λn ρ' e d=>by rw[Rl,e];rfl
theorem Ro(K ρ):(yB N).bd K ρ 25=et.Mg N ((yB N).kc K 35) ((yB N).kc ρ 25):=κ
theorem Rp(ρ):(yB N).kc ((yB N).cE ρ) 25=et.Mf N N:=Fx.uL [35,45] (Ro N) ρ (et.Mf N) λn ρ' e d=>by rw[Rn,e];rfl
theorem Rq(K ρ):(yB N).bd K ρ 13=et.y7 N ((yB N).kc K 25) ((yB N).kc ρ 13):=κ
theorem Rr(ρ):(yB N).kc ((yB N).cE ρ) 13=et.l6 N N:=Fx.uL [25,35,45] (Rq N) ρ (et.l6 N) λn ρ' e d=>by rw[Rp,e];rfl
theorem h37(K):(yB N).top K=et.b N ((yB N).kc K 13):=κ
def k37:Kn prog:=⟨37,(yB N).S true (et N),Fx.u1 (yB N) aD func37 [13,25,35,45] (h37 N) (by rw[Rr];rfl)⟩
def OC:Fx:=⟨39,tab,Kn.l [ZF N],N,f14,[.v ig,.v I],[.own mG],[⟨11,[(0,.v ig),(1,.v I),(5,.own mG),(6,.v I)],[1,1,1,0,1,0,0],[]⟩],none⟩
theorem Rs(K ρ):(OC N).bd K ρ 11=vb.mP N ((OC N).kc ρ 11):=κ
theorem Rt(ρ):(OC N).kc ((OC N).cE ρ) 11=vb.l5 N N:=Fx.uL [] (Rs N) ρ (vb.l5 N) λn ρ' e d=>by rw[e];rfl
theorem XH(K):(OC N).top K=vb.b N ((OC N).kc K 11):=κ
def k14:Kn prog:=⟨14,(OC N).S false (vb N),Fx.u1 (OC N) aD func14 [11] (XH N) (by rw[Rt];rfl)⟩
def X19:Fx:=⟨6,tab,Kn.l [VS N],N,f19,[.v cD],[.v cD],[],none⟩
def k19:Kn prog:=⟨19,(X19 N).S false (Sy N),Fx.u0 (X19 N) aD func19⟩
def wo:Fx:=⟨71,tab,Kn.l [W3 N,VS N],N,f18,[.v cD,.v cD],[.v cD],[⟨18,[(2,.obj cD),(3,.obj cD),(4,.obj cD),(5,.own U),(6,.v I),(7,.v U),(8,.v I)],[1,1,0,1,0,0,1,0,0,1,1,0,0,1],[7,15]⟩,⟨15,[(2,.obj cD),(3,.obj cD),(4,.obj cD),(5,.own U),(6,.v I),(7,.v U),(8,.v I)],[1,1,0,1,0,0,1,0,0,1,1,0,0],[7]⟩,⟨7,[(2,.obj cD),(3,.obj cD),(4,.obj cD),(5,.own U),(6,.v I)],[1,1,0,1,0,0],[]⟩],none⟩
theorem Ru(K ρ):(wo N).bd K ρ 18=g8.PO N ((wo N).kc ρ 7) ((wo N).kc ρ 15):=κ
theorem Rv(ρ):(wo N).kc ((wo N).cE ρ) 18=g8.j9 N ((wo N).kc ρ 7) ((wo N).kc ρ 15):=Fx.uJ [] (Ru N) ρ
theorem Rw(K ρ):(wo N).bd K ρ 15=g8.Yo N ((wo N).kc K 18) ((wo N).kc ρ 7) ((wo N).kc ρ 15):=κ
theorem Rx(ρ):(wo N).kc ((wo N).cE ρ) 15=g8.l7 N ((wo N).kc ρ 7) N:=Fx.uL [18] (Rw N) ρ (g8.l7 N ((wo N).kc ρ 7)) λn ρ' e d=>by rw[Rv,e,d 7 rfl];rfl
theorem V3(K ρ):(wo N).bd K ρ 7=g8.qJ N ((wo N).kc K 15) ((wo N).kc ρ 7):=κ
theorem V4(ρ):(wo N).kc ((wo N).cE ρ) 7=g8.l3 N N:=Fx.uL [15] (V3 N) ρ (g8.l3 N) λn ρ' e d=>by rw[Rx,e];rfl
theorem h18(K):(wo N).top K=g8.b N ((wo N).kc K 7):=κ
def ZN:Kn prog:=⟨18,(wo N).S false (g8 N),Fx.u1 (wo N) aD func18 [7] (h18 N) (by rw[V4];rfl)⟩
def X21:Fx:=⟨9,tab,Kn.l [VS N],N,f21,[.v cD],[.v cD],[],none⟩
def ZO:Kn prog:=⟨21,(X21 N).S false (PM N),Fx.u0 (X21 N) aD func21⟩
def X58:Fx:=⟨9,tab,Kn.l [ZO N,Rf N],N,f58,[.v cD,.v cD],[.v cD],[],none⟩
def k58:Kn prog:=⟨58,(X58 N).S false (NV N),Fx.u0 (X58 N) aD func58⟩
def X20:Fx:=⟨9,tab,Kn.l [k58 N,SM N],N,f20,[.v cD,.v cD],[.v I],[],none⟩
def k20:Kn prog:=⟨20,(X20 N).S true (Sz N),Fx.u0 (X20 N) aD func20⟩
def OD:Fx:=⟨28,tab,Kn.l [SM N,Ow N,ZN N,k20 N],N,f38,[.v cD,.v I],[.v I],[⟨9,[(1,.v I),(2,.obj cD),(5,.v I)],[1,1,1,0,0,0],[]⟩],none⟩
theorem V5(K ρ):(OD N).bd K ρ 9=th.dF N ((OD N).kc ρ 9):=κ
theorem V6(ρ):(OD N).kc ((OD N).cE ρ) 9=th.l4 N N:=Fx.uL [] (V5 N) ρ (th.l4 N) λn ρ' e d=>by rw[e];rfl
theorem h38(K):(OD N).top K=th.b N ((OD N).kc K 9):=κ
def k38:Kn prog:=⟨38,(OD N).S true (th N),Fx.u1 (OD N) aD func38 [9] (h38 N) (by rw[V6];rfl)⟩
def DO:Fx:=⟨24,tab,[],N,f116,[.v I,.v LI],[.v B],[⟨9,[(1,.v LI),(5,.v I)],[1,1,0,1,0,0],[]⟩],none⟩
theorem Ry(K ρ):(DO N).bd K ρ 9=lG.dF N ((DO N).kc ρ 9):=κ
theorem Rz(ρ):(DO N).kc ((DO N).cE ρ) 9=lG.l4 N N:=Fx.uL [] (Ry N) ρ (lG.l4 N) λn ρ' e d=>by rw[e];rfl
theorem ZP(K):(DO N).top K=lG.b N ((DO N).kc K 9):=κ
def ZQ:Kn prog:=⟨116,(DO N).S true (lG N),Fx.u1 (DO N) aD func116 [9] (ZP N) (by rw[Rz];rfl)⟩
def DP:Fx:=⟨19,tab,Kn.l [Ow N,Rf N],N,f117,[.v LI],[.v cD],[⟨7,[(0,.v LI),(2,.obj cD),(3,.obj cD),(4,.v I)],[1,1,0,1,0,0],[]⟩],none⟩
theorem RA(K ρ):(DP N).bd K ρ 7=lx.qJ N ((DP N).kc ρ 7):=κ
theorem RC(ρ):(DP N).kc ((DP N).cE ρ) 7=lx.l3 N N:=Fx.uL [] (RA N) ρ (lx.l3 N) λn ρ' e d=>by rw[e];rfl
theorem ZR(K):(DP N).top K=lx.b N ((DP N).kc K 7):=κ
def ZS:Kn prog:=⟨117,(DP N).S false (lx N),Fx.u1 (DP N) aD func117 [7] (ZR N) (by rw[RC];rfl)⟩
def X41:Fx:=⟨28,tab,Kn.l [W3 N],N,f41,[.v cD],[.v I,.v B],[],none⟩
def k41:Kn prog:=⟨41,(X41 N).S true (PN N),Fx.u0 (X41 N) aD func41⟩
def DQ:Fx:=⟨35,tab,Kn.l [Q9 N],N,f158,[.v LU],[.v LU,.v U],[⟨9,[(0,.v LU),(4,.own U),(5,.v U),(6,.v I)],[1,1,1,0,1,0,0],[]⟩],none⟩
theorem RD(K ρ):(DQ N).bd K ρ 9=jZ.dF N ((DQ N).kc ρ 9):=κ
theorem RE(ρ):(DQ N).kc ((DQ N).cE ρ) 9=jZ.l4 N N:=Fx.uL [] (RD N) ρ (jZ.l4 N) λn ρ' e d=>by rw[e];rfl
theorem ZT(K):(DQ N).top K=jZ.b N ((DQ N).kc K 9):=κ
def ZU:Kn prog:=⟨158,(DQ N).S false (jZ N),Fx.u1 (DQ N) aD func158 [9] (ZT N) (by rw[RE];rfl)⟩
def uc:Fx:=⟨77,tab,Kn.l [ZU N,Rf N,Ow N,k20 N,k58 N,SM N,ZO N],N,f118,[.v cD,.v cD],[.v cD,.v cD],[⟨19,[(2,.obj cD),(3,.obj cD),(4,.obj cD),(5,.obj cD),(6,.own U),(10,.obj cD),(11,.obj cD),(12,.v I)],[1,1,1,1,0,1,0,0],[]⟩,⟨7,[(2,.obj cD),(3,.obj cD),(4,.obj cD),(5,.obj cD),(6,.own U),(7,.v LU)],[1,1,0,1,0,0],[]⟩],none⟩
theorem Ni(K ρ):(uc N).bd K ρ 19=ek.WG N ((uc N).kc ρ 19):=κ
theorem Nj(ρ):(uc N).kc ((uc N).cE ρ) 19=ek.l9 N N:=Fx.uL [] (Ni N) ρ (ek.l9 N) λn ρ' e d=>by rw[e];rfl
theorem RF(K ρ):(uc N).bd K ρ 7=ek.qJ N ((uc N).kc K 19) ((uc N).kc ρ 7):=κ
theorem RG(ρ):(uc N).kc ((uc N).cE ρ) 7=ek.l3 N N:=Fx.uL [19] (RF N) ρ (ek.l3 N) λn ρ' e d=>by rw[Nj,e];rfl
theorem ZV(K):(uc N).top K=ek.b N ((uc N).kc K 7):=κ
def ZW:Kn prog:=⟨118,(uc N).S false (ek N),Fx.u1 (uc N) aD func118 [7,19] (ZV N) (by rw[RG];rfl)⟩
def lV:Fx:=⟨48,tab,[],N,f119,[.v LI],[.own I],[⟨16,[(0,.v LI),(3,.own I),(4,.v I),(5,.v I)],[1,1,0,1,0,0,1,0,0,1,1],[7]⟩,⟨13,[(0,.v LI),(3,.own I),(4,.v I),(5,.v I)],[1,1,0,1,0,0,1,0,0,1,0,0,0],[7]⟩,⟨7,[(0,.v LI),(3,.own I),(4,.v I)],[1,1,0,1,0,0],[]⟩],none⟩
theorem Nk(K ρ):(lV N).bd K ρ 16=dd.HH N ((lV N).kc ρ 7):=κ
theorem Nl(ρ):(lV N).kc ((lV N).cE ρ) 16=dd.j8 N ((lV N).kc ρ 7):=Fx.uJ [] (Nk N) ρ
theorem Nm(K ρ):(lV N).bd K ρ 13=dd.y7 N ((lV N).kc K 16) ((lV N).kc ρ 7) ((lV N).kc ρ 13):=κ
theorem Nn(ρ):(lV N).kc ((lV N).cE ρ) 13=dd.l6 N ((lV N).kc ρ 7) N:=Fx.uL [16] (Nm N) ρ (dd.l6 N ((lV N).kc ρ 7)) λn ρ' e d=>by rw[Nl,e,d 7 rfl];rfl
theorem RH(K ρ):(lV N).bd K ρ 7=dd.qJ N ((lV N).kc K 13) ((lV N).kc ρ 7):=κ
theorem RI(ρ):(lV N).kc ((lV N).cE ρ) 7=dd.l3 N N:=Fx.uL [13,16] (RH N) ρ (dd.l3 N) λn ρ' e d=>by rw[Nn,e];rfl
theorem ZX(K):(lV N).top K=dd.b N ((lV N).kc K 7):=κ
def ZY:Kn prog:=⟨119,(lV N).S false (dd N),Fx.u1 (lV N) aD func119 [7] (ZX N) (by rw[RI];rfl)⟩
def DR:Fx:=⟨112,tab,Kn.l [ZQ N,ZS N,SM N,k41 N,Ow N,ZN N,ZW N,ZY N],N,f81,[.v I,.v LI],[.own I,.v I],[⟨45,[(9,.own I),(11,.v I),(15,.own I),(16,.v I)],[1,1,1,1,1,1,1,1,1,1,0,1,0,0],[]⟩,⟨29,[(0,.v I),(1,.v LI),(6,.obj cD),(9,.own I),(10,.own I),(11,.v I),(12,.v I)],[1,1,1,1,1,1,1,1,0,1,0,0],[]⟩,⟨12,[(0,.v I),(1,.v LI),(6,.obj cD)],[1,1,1,1],[]⟩],none⟩
theorem RJ(K ρ):(DR N).bd K ρ 45=ke.tT N ((DR N).kc ρ 45):=κ
theorem RK(ρ):(DR N).kc ((DR N).cE ρ) 45=ke.u6 N N:=Fx.uL [] (RJ N) ρ (ke.u6 N) λn ρ' e d=>by rw[e];rfl
theorem RL(K ρ):(DR N).bd K ρ 29=ke.P4 N ((DR N).kc K 45) ((DR N).kc ρ 29):=κ
theorem RM(ρ):(DR N).kc ((DR N).cE ρ) 29=ke.SI N N:=Fx.uL [45] (RL N) ρ (ke.SI N) λn ρ' e d=>by rw[RK,e];rfl
theorem RN(K ρ):(DR N).bd K ρ 12=ke.NU N ((DR N).kc K 29):=κ
theorem RO(ρ):(DR N).kc ((DR N).cE ρ) 12=ke.j6 N:=Fx.uJ [29,45] (RN N) ρ (by rw[RM];rfl)
theorem h81(K):(DR N).top K=ke.b N ((DR N).kc K 12):=κ
def k81:Kn prog:=⟨81,(DR N).S false (ke N),Fx.u1 (DR N) aD func81 [12,29,45] (h81 N) (by rw[RO];rfl)⟩
def OE:Fx:=⟨33,tab,Kn.l [k81 N],N,f39,[.v I,.v I],[.own I,.v I],[⟨11,[(0,.v I),(1,.v I),(6,.own I),(7,.v I)],[1,1,1,0,1,0,0],[]⟩],none⟩
theorem RP(K ρ):(OE N).bd K ρ 11=yk.mP N ((OE N).kc ρ 11):=κ
theorem RQ(ρ):(OE N).kc ((OE N).cE ρ) 11=yk.l5 N N:=Fx.uL [] (RP N) ρ (yk.l5 N) λn ρ' e d=>by rw[e];rfl
theorem h39(K):(OE N).top K=yk.b N ((OE N).kc K 11):=κ
def k39:Kn prog:=⟨39,(OE N).S false (yk N),Fx.u1 (OE N) aD func39 [11] (h39 N) (by rw[RQ];rfl)⟩
def OF:Fx:=⟨66,tab,Kn.l [ZA N],N,f65,[.v aU,.v gp],[.v B],[⟨9,[(1,.v gp),(2,.obj aU),(5,.v I)],[1,1,0,1,0,0],[]⟩],none⟩
theorem V7(K ρ):(OF N).bd K ρ 9=tV.dF N ((OF N).kc ρ 9):=κ
theorem V8(ρ):(OF N).kc ((OF N).cE ρ) 9=tV.l4 N N:=Fx.uL [] (V7 N) ρ (tV.l4 N) λn ρ' e d=>by rw[e];rfl
theorem h65(K):(OF N).top K=tV.b N ((OF N).kc K 9):=κ
def k65:Kn prog:=⟨65,(OF N).S true (tV N),Fx.u1 (OF N) aD func65 [9] (h65 N) (by rw[V8];rfl)⟩
def OG:Fx:=⟨56,tab,Kn.l [k65 N,Ow N,k19 N,ZN N,Rf N],N,f82,[.v aU,.v gp,.v B],[.v cD,.v I],[⟨11,[(1,.v gp),(2,.v B),(3,.obj aU),(6,.obj cD),(8,.obj cD),(9,.v I)],[1,1,1,0,1,0,0],[]⟩],none⟩
theorem RS(K ρ):(OG N).bd K ρ 11=wc.mP N ((OG N).kc ρ 11):=κ
theorem RT(ρ):(OG N).kc ((OG N).cE ρ) 11=wc.l5 N N:=Fx.uL [] (RS N) ρ (wc.l5 N) λn ρ' e d=>by rw[e];rfl
theorem h82(K):(OG N).top K=wc.b N ((OG N).kc K 11):=κ
def k82:Kn prog:=⟨82,(OG N).S false (wc N),Fx.u1 (OG N) aD func82 [11] (h82 N) (by rw[RT];rfl)⟩
def X40:Fx:=⟨11,tab,Kn.l [k82 N],N,f40,[.v aU,.v gp],[.v cD,.v I],[],none⟩
def k40:Kn prog:=⟨40,(X40 N).S false (WO N),Fx.u0 (X40 N) aD func40⟩
def je:Fx:=⟨175,tab,Kn.l [k37 N,k14 N,Ow N,k19 N,Rf N,k38 N,k39 N,k40 N,ZO N,k41 N],N,f12,[.v aU,.v fc,.v I],[.own gH,.v I],[⟨64,[(2,.v I),(3,.obj aU),(8,.own mG),(9,.own gH),(10,.v I),(11,.own mG),(14,.v I),(15,.v I),(16,.dj gH [.dS 1] mG),(17,.v I),(19,.own I)],[1,1,1,1,1,0,1,0,0,1,0,0,1,1,1,1,1,0,0,1,0,0,1,0,1,0,0,1,0,0,1,1,1,1],[17,41,49]⟩,⟨58,[(2,.v I),(3,.obj aU),(8,.own mG),(9,.own gH),(10,.v I),(11,.own mG),(14,.v I),(15,.v I),(16,.dj gH [.dS 1] mG),(17,.v I),(18,.v I)],[1,1,1,1,1,0,1,0,0,1,0,0,1,1,1,1,1,0,0,1,0,0,1,0,1,0,0,1,0,0,1,1],[17,41,49]⟩,⟨49,[(2,.v I),(3,.obj aU),(8,.own mG),(9,.own gH),(10,.v I),(11,.own mG),(14,.v I),(15,.v I),(16,.dj gH [.dS 1] mG),(17,.v I)],[1,1,1,1,1,0,1,0,0,1,0,0,1,1,1,1,1,0,0,1,0,0,1,0,1,0,0],[17,41]⟩,⟨41,[(2,.v I),(3,.obj aU),(8,.own mG),(9,.own gH),(10,.v I),(11,.own mG),(14,.v I),(15,.v I)],[1,1,1,1,1,0,1,0,0,1,0,0,1,1,1,1,1,0,0],[17]⟩,⟨27,[(2,.v I),(3,.obj aU),(8,.own mG),(9,.own gH),(10,.v I),(11,.own mG),(12,.obj cD),(13,.v I)],[1,1,1,1,1,0,1,0,0,1,0,0,1,1,0,1,0,0],[17]⟩,⟨17,[(2,.v I),(3,.obj aU),(8,.own mG),(9,.own gH),(10,.v I)],[1,1,1,1,1,0,1,0,0],[]⟩],some (gH,[.dS 1],mG,[16])⟩
theorem RU(K ρ):(je N).bd K ρ 64=cw.P8 N ((je N).kc ρ 17) ((je N).kc ρ 41) ((je N).kc ρ 49):=κ
theorem RV(ρ):(je N).kc ((je N).cE ρ) 64=cw.WX N ((je N).kc ρ 17) ((je N).kc ρ 41) ((je N).kc ρ 49):=Fx.uJ [] (RU N) ρ
theorem RW(K ρ):(je N).bd K ρ 58=cw.EJ N ((je N).kc K 64) ((je N).kc ρ 17) ((je N).kc ρ 41) ((je N).kc ρ 49):=κ
theorem RX(ρ):(je N).kc ((je N).cE ρ) 58=cw.J0 N ((je N).kc ρ 17) ((je N).kc ρ 41) ((je N).kc ρ 49):=Fx.uJ [64] (RW N) ρ (by rw[RV];rfl)
theorem RY(K ρ):(je N).bd K ρ 49=cw.CB N ((je N).kc K 58) ((je N).kc ρ 17) ((je N).kc ρ 41) ((je N).kc ρ 49):=κ
theorem RZ(ρ):(je N).kc ((je N).cE ρ) 49=cw.AB N ((je N).kc ρ 17) ((je N).kc ρ 41) N:=Fx.uL [58,64] (RY N) ρ (cw.AB N ((je N).kc ρ 17) ((je N).kc ρ 41)) λn ρ' e d=>by rw[RX,e,d 17 rfl,d 41 rfl];rfl
theorem R0(K ρ):(je N).bd K ρ 41=cw.MC N ((je N).kc K 49) ((je N).kc ρ 17) ((je N).kc ρ 41):=κ
theorem R1(ρ):(je N).kc ((je N).cE ρ) 41=cw.HI N ((je N).kc ρ 17) N:=Fx.uL [49] (R0 N) ρ (cw.HI N ((je N).kc ρ 17)) λn ρ' e d=>by rw[RZ,e,d 17 rfl];rfl
theorem R2(K ρ):(je N).bd K ρ 27=cw.tY N ((je N).kc K 41) ((je N).kc ρ 17) ((je N).kc ρ 27):=κ
theorem R3(ρ):(je N).kc ((je N).cE ρ) 27=cw.wi N ((je N).kc ρ 17) N:=Fx.uL [41] (R2 N) ρ (cw.wi N ((je N).kc ρ 17)) λn ρ' e d=>by rw[R1,e,d 17 rfl];rfl
theorem R4(K ρ):(je N).bd K ρ 17=cw.G2 N ((je N).kc K 27) ((je N).kc ρ 17):=κ
theorem R5(ρ):(je N).kc ((je N).cE ρ) 17=cw.l8 N N:=Fx.uL [27,41] (R4 N) ρ (cw.l8 N) λn ρ' e d=>by rw[R3,e];rfl
theorem K1(K):(je N).top K=cw.b N ((je N).kc K 17):=κ
def k12:Kn prog:=⟨12,(je N).S false (cw N),Fx.u1 (je N) aD func12 [17] (K1 N) (by rw[R5];rfl)⟩
def OH:Fx:=⟨25,tab,[],N,f28,[.v gf,.v I],[.v gH,.v B],[⟨5,[(0,.v gf),(1,.v I),(4,.obj gH),(6,.v I)],[1,0,1,0,0],[]⟩],none⟩
theorem V9(K ρ):(OH N).bd K ρ 5=vJ.dV N ((OH N).kc ρ 5):=κ
theorem Wa(ρ):(OH N).kc ((OH N).cE ρ) 5=vJ.l2 N N:=Fx.uL [] (V9 N) ρ (vJ.l2 N) λn ρ' e d=>by rw[e];rfl
theorem h28(K):(OH N).top K=vJ.b N ((OH N).kc K 5):=κ
def k28:Kn prog:=⟨28,(OH N).S false (vJ N),Fx.u1 (OH N) aD func28 [5] (h28 N) (by rw[Wa];rfl)⟩
def D1:Fx:=⟨88,tab,[],N,f29,[.v gf,.v gf],[.v B],[⟨21,[(0,.v gf),(1,.v gf),(5,.v I),(6,.obj gH),(7,.obj gH),(8,.v I)],[1,1,0,1,0,0,1,0,0,1,1,1,0,0],[9]⟩,⟨9,[(0,.v gf),(1,.v gf),(5,.v I)],[1,1,0,1,0,0],[]⟩],none⟩
theorem R6(K ρ):(D1 N).bd K ρ 21=kM.Mj N ((D1 N).kc ρ 9) ((D1 N).kc ρ 21):=κ
theorem R7(ρ):(D1 N).kc ((D1 N).cE ρ) 21=kM.NZ N ((D1 N).kc ρ 9) N:=Fx.uL [] (R6 N) ρ (kM.NZ N ((D1 N).kc ρ 9)) λn ρ' e d=>by rw[e,d 9 rfl];rfl
theorem Wb(K ρ):(D1 N).bd K ρ 9=kM.dF N ((D1 N).kc K 21) ((D1 N).kc ρ 9):=κ
theorem Wc(ρ):(D1 N).kc ((D1 N).cE ρ) 9=kM.l4 N N:=Fx.uL [21] (Wb N) ρ (kM.l4 N) λn ρ' e d=>by rw[R7,e];rfl
theorem h29(K):(D1 N).top K=kM.b N ((D1 N).kc K 9):=κ
def k29:Kn prog:=⟨29,(D1 N).S true (kM N),Fx.u1 (D1 N) aD func29 [9] (h29 N) (by rw[Wc];rfl)⟩
def FX:Fx:=⟨99,tab,Kn.l [ZA N,k65 N],N,f30,[.v aU,.v gf],[.v B],[⟨18,[(1,.v gf),(2,.obj aU),(5,.v I),(6,.obj gH)],[1,1,0,1,0,0,1,0,0,1,1],[9]⟩,⟨9,[(1,.v gf),(2,.obj aU),(5,.v I)],[1,1,0,1,0,0],[]⟩],none⟩
theorem R8(K ρ):(FX N).bd K ρ 18=oG.PO N ((FX N).kc ρ 9):=κ
theorem R9(ρ):(FX N).kc ((FX N).cE ρ) 18=oG.j9 N ((FX N).kc ρ 9):=Fx.uJ [] (R8 N) ρ
theorem Wd(K ρ):(FX N).bd K ρ 9=oG.dF N ((FX N).kc K 18) ((FX N).kc ρ 9):=κ
theorem We(ρ):(FX N).kc ((FX N).cE ρ) 9=oG.l4 N N:=Fx.uL [18] (Wd N) ρ (oG.l4 N) λn ρ' e d=>by rw[R9,e];rfl
theorem h30(K):(FX N).top K=oG.b N ((FX N).kc K 9):=κ
def k30:Kn prog:=⟨30,(FX N).S true (oG N),Fx.u1 (FX N) aD func30 [9] (h30 N) (by rw[We];rfl)⟩
def X8:Fx:=⟨74,tab,Kn.l [k13 N,k12 N,k24 N,k28 N,k29 N,k22 N,k30 N],N,f8,[.v aU,.v fc,.v gf,.v I,.v I],[.v B],[],none⟩
theorem afk:jF prog (X8 N).E:=Fx.zE (X8 N) aD (Kn.all _) κ
theorem afl: ∀x,zl (X8 N).E (X8 N).fn (X8 N).args (X8 N).res x=xE (X8 N).args (F8 N) x:=Fx.Jc κ
def k8:Kn prog:=⟨8,(X8 N).S true (F8 N),Fx.u0 (X8 N) aD func8⟩
def X3:Fx:=⟨78,tab,Kn.l [k7 N,k8 N],N,f3,[.v aU,.v fc,.v gf,.v I,.v I],[.v B],[⟨13,[(2,.v gf),(3,.v I),(4,.v I),(5,.obj aU),(6,.obj fc),(11,.v I)],[1,1,1,0,1,0,0],[]⟩],none⟩
theorem ZZ:jF prog (X3 N).E:=Fx.zE (X3 N) aD (Kn.all _) κ
theorem Wf(K ρ):(X3 N).bd K ρ 13=F3.y7 N ((X3 N).kc ρ 13):=κ
theorem OI(ρ):(X3 N).kc ((X3 N).cE ρ) 13=F3.l6 N N:=Fx.uL [] (Wf N) ρ (F3.l6 N) λn ρ' e d=>by rw[e];rfl
theorem h3(K):(X3 N).top K=F3.b N ((X3 N).kc K 13):=κ
theorem Z0: ∀x,zl (X3 N).E (X3 N).fn (X3 N).args (X3 N).res x=xE (X3 N).args (F3 N) x:=Fx.TR κ [13] (λK=>κ) (h3 N) (by rw[OI];rfl)
def k3:Kn prog:=⟨3,(X3 N).S true (F3 N),Fx.u1 (X3 N) aD func3 [13] (h3 N) (by rw[OI];rfl)⟩
end
end VM.F
