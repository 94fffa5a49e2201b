/- A part of the proof of LotSlices of layer 23: each function of the program does what its equation says; printed by a program. -/
import Derived.Test.YthnjnpjmbabcaaaText
import Derived.Test.YthnjnpjmbabcaaaVm9
import Derived.Test.YthnjnpjmbabcaaaProg
import Derived.KernelRfl
import Derived.Test.YthnjnpjmbabcaaaPlain0
import Derived.Deep.RegionWith
import Derived.Deep.DeepCutAuto
import Derived.Lib.Hide
set_option linter.all false
noncomputable section
namespace VM.F
open Go VM Go.Proofs
open Try
set_option maxRecDepth 100000
abbrev I:Ty:= .int .i64
abbrev U:Ty:= .int .u64
abbrev B:Ty:= .bool
abbrev Z:Ty:= .str
abbrev GV:Ty:= .slice mc
abbrev Af:Ty:= .slice eP
abbrev ki:Ty:= .slice sH
abbrev Be:Ty:= .slice bU
abbrev TY:Ty:= .slice e8
abbrev mJ:Ty:= .slice GP
abbrev GW:Ty:= .slice me
abbrev wb:Ty:= .slice DQ
abbrev Gs:Ty:= .slice Lb
abbrev sn:Ty:= .slice qy
abbrev OV:Ty:= .slice bQ
abbrev Sv:Ty:= .slice mz
abbrev LI:Ty:= .slice I
abbrev LU:Ty:= .slice U
def tab:List (Nat×Ty):=[(2,I),(3,I),(4,B),(5,(.int .u8)),(9,Z),(22,U),(24,bU),(25,(.int .u16)),(29,LU),(31,e8),(36,wb),(38,bQ),(39,ki),(40,wb),(41,mJ),(42,mJ),(43,LI),(44,Gs),(46,mz),(49,sn),(50,I),(53,ki),(55,qy),(60,sH),(70,U),(72,DQ),(74,sH),(76,DQ),(78,GP),(84,(.slice ki)),(107,GP),(111,Lb),(125,Be),(137,LI),(141,(.arr 13 B)),(145,(.int .u32))]
theorem aM:uz prog tab:=⟨κ,κ⟩
section
variable(N:Nat)
abbrev Gt:gV:=jF.S N
abbrev Gu:gV:=jE.S N
theorem Gv:eV prog 53 (Gu N):=CZ N func53 κ κ κ κ
def xV:Kn prog:=⟨53,Gu N,Gv N⟩
theorem Gw:eV prog 61 (Gt N):=C0 N func61 κ κ κ κ
def Bf:Kn prog:=⟨61,Gt N,Gw N⟩
abbrev B9:gV:=fL (.int .i64) N
def Bh.WQ:Go.Shelf.Ren:={f:=λi=>cond (Nat.beq i 29) 86 (cond (Nat.beq i 30) 87 0),t:=λi=>cond (Nat.beq i 24) 137 (cond (Nat.beq i 9) 3 (cond (Nat.beq i 3) 3 (cond (Nat.beq i 4) 4 0))),g:=λ_=>0}
theorem Bh.Sw:E9 prog (.int .i64) Bh.WQ 82 f82 f86:=⟨Try.func82.trans κ,underlying3,underlying4,underlying137,fR (x:= .inl 3) κ,δ,κ⟩
theorem DC:eV prog 82 (B9 N):=AN Bh.Sw ⟨func86,κ,κ,κ,κ⟩ κ κ N
def Iz:Kn prog:=⟨82,B9 N,DC N⟩
def IA:Fx:=⟨21,tab,[],N,f10,[],[.v bQ,.v mz],[],none⟩
theorem TZ:g9 prog (IA N).E:=Fx.zt (IA N) aM trivial κ
theorem T0: ∀x,w7 (IA N).E (IA N).fn (IA N).args (IA N).res x=vT (IA N).args (QB N) x:=Fx.E7 κ
def WR:Kn prog:=⟨10,(IA N).S false (QB N),Fx.u0 (IA N) aM func10⟩
def T1:Fx:=⟨15,tab,[],N,f59,[.v I,.v I,.v I],[.v B],[],none⟩
def WS:Kn prog:=⟨59,(T1 N).S true (DP N),Fx.u0 (T1 N) aM func59⟩
def Jn:Fx:=⟨68,tab,Kn.l [WS N],N,f32,[.v bQ],[.v B],[⟨9,[(1,.obj bQ),(11,.v wb),(12,.v I),(13,.v I)],[1,1,0,1,0,0],[]⟩],none⟩
theorem OW(K ρ):(Jn N).bd K ρ 9=q6.gN N ((Jn N).kc ρ 9):=κ
theorem OX(ρ):(Jn N).kc ((Jn N).dn ρ) 9=q6.l4 N N:=Fx.uL [] (OW N) ρ (q6.l4 N) λn ρ' e d=>by rw[e];rfl
theorem WT(K):(Jn N).top K=q6.b N ((Jn N).kc K 9):=κ
def Sx:Kn prog:=⟨32,(Jn N).S true (q6 N),Fx.u1 (Jn N) aM func32 [9] (WT N) (by rw[OX];rfl)⟩
def Jo:Fx:=⟨46,tab,[],N,f63,[.v ki],[.v B],[⟨5,[(0,.v ki),(5,.v ki),(6,.v I),(7,.v I)],[1,0,1,0,0],[]⟩],none⟩
theorem OY(K ρ):(Jo N).bd K ρ 5=sa.jg N ((Jo N).kc ρ 5):=κ
theorem OZ(ρ):(Jo N).kc ((Jo N).dn ρ) 5=sa.l2 N N:=Fx.uL [] (OY N) ρ (sa.l2 N) λn ρ' e d=>by rw[e];rfl
theorem IS(K):(Jo N).top K=sa.b N ((Jo N).kc K 5):=κ
def T2:Kn prog:=⟨63,(Jo N).S true (sa N),Fx.u1 (Jo N) aM func63 [5] (IS N) (by rw[OZ];rfl)⟩
def Jp:Fx:=⟨77,tab,[],N,f64,[.v wb],[.v B],[⟨7,[(0,.v wb),(3,.obj (.arr 13 B)),(6,.v wb),(7,.v I),(8,.v I)],[1,1,0,1,0,0],[]⟩],none⟩
theorem O0(K ρ):(Jp N).bd K ρ 7=oP.wH N ((Jp N).kc ρ 7):=κ
theorem O1(ρ):(Jp N).kc ((Jp N).dn ρ) 7=oP.l3 N N:=Fx.uL [] (O0 N) ρ (oP.l3 N) λn ρ' e d=>by rw[e];rfl
theorem wP(K):(Jp N).top K=oP.b N ((Jp N).kc K 7):=κ
def T3:Kn prog:=⟨64,(Jp N).S true (oP N),Fx.u1 (Jp N) aM func64 [7] (wP N) (by rw[O1];rfl)⟩
def Jq:Fx:=⟨23,tab,Kn.l [T2 N],N,f48,[.v ki,.v I],[.v I],[⟨9,[(1,.v I),(10,.v ki),(11,.v I),(12,.v I)],[1,1,0,1,0,0],[]⟩],none⟩
theorem O2(K ρ):(Jq N).bd K ρ 9=qC.gN N ((Jq N).kc ρ 9):=κ
theorem O3(ρ):(Jq N).kc ((Jq N).dn ρ) 9=qC.l4 N N:=Fx.uL [] (O2 N) ρ (qC.l4 N) λn ρ' e d=>by rw[e];rfl
theorem WU(K):(Jq N).top K=qC.b N ((Jq N).kc K 9):=κ
def T4:Kn prog:=⟨48,(Jq N).S true (qC N),Fx.u1 (Jq N) aM func48 [9] (WU N) (by rw[O3];rfl)⟩
def Jr:Fx:=⟨27,tab,Kn.l [T2 N,T3 N,T4 N],N,f42,[.v ki,.v wb],[.v B],[⟨9,[(0,.v ki),(15,.v wb),(16,.v I),(17,.v I)],[1,1,0,1,0,0],[]⟩],none⟩
theorem O4(K ρ):(Jr N).bd K ρ 9=sE.gN N ((Jr N).kc ρ 9):=κ
theorem O5(ρ):(Jr N).kc ((Jr N).dn ρ) 9=sE.l4 N N:=Fx.uL [] (O4 N) ρ (sE.l4 N) λn ρ' e d=>by rw[e];rfl
theorem WV(K):(Jr N).top K=sE.b N ((Jr N).kc K 9):=κ
def WW:Kn prog:=⟨42,(Jr N).S true (sE N),Fx.u1 (Jr N) aM func42 [9] (WV N) (by rw[O5];rfl)⟩
def T5:Fx:=⟨30,tab,[],N,f65,[.v I,.v I],[.v B],[],none⟩
def WX:Kn prog:=⟨65,(T5 N).S true (Ql N),Fx.u0 (T5 N) aM func65⟩
def T6:Fx:=⟨19,tab,[],N,f66,[.v I,.v I,.v GP],[.v I],[],none⟩
def WY:Kn prog:=⟨66,(T6 N).S true (Qm N),Fx.u0 (T6 N) aM func66⟩
def Js:Fx:=⟨41,tab,Kn.l [WX N,WY N],N,f43,[.v mJ],[.v B],[⟨5,[(0,.v mJ),(5,.v mJ),(6,.v I),(7,.v I)],[1,0,1,0,0],[]⟩],none⟩
theorem O6(K ρ):(Js N).bd K ρ 5=sb.jg N ((Js N).kc ρ 5):=κ
theorem O7(ρ):(Js N).kc ((Js N).dn ρ) 5=sb.l2 N N:=Fx.uL [] (O6 N) ρ (sb.l2 N) λn ρ' e d=>by rw[e];rfl
theorem WZ(K):(Js N).top K=sb.b N ((Js N).kc K 5):=κ
def T7:Kn prog:=⟨43,(Js N).S true (sb N),Fx.u1 (Js N) aM func43 [5] (WZ N) (by rw[O7];rfl)⟩
def X8:Fx:=⟨8,tab,[],N,f8,[.v I],[.v bU],[],none⟩
def k8:Kn prog:=⟨8,(X8 N).S true (F8 N),Fx.u0 (X8 N) aM func8⟩
def Jt:Fx:=⟨51,tab,Kn.l [xV N],N,f67,[.v Be],[.v bU,.v B],[⟨7,[(2,.obj bU),(4,.v I),(5,.v U),(6,.v U),(10,.v Be),(11,.v I),(12,.v I)],[1,1,0,1,0,0],[]⟩],none⟩
theorem O8(K ρ):(Jt N).bd K ρ 7=rZ.wH N ((Jt N).kc ρ 7):=κ
theorem O9(ρ):(Jt N).kc ((Jt N).dn ρ) 7=rZ.l3 N N:=Fx.uL [] (O8 N) ρ (rZ.l3 N) λn ρ' e d=>by rw[e];rfl
theorem W0(K):(Jt N).top K=rZ.b N ((Jt N).kc K 7):=κ
def Sy:Kn prog:=⟨67,(Jt N).S true (rZ N),Fx.u1 (Jt N) aM func67 [7] (W0 N) (by rw[O9];rfl)⟩
def Ju:Fx:=⟨31,tab,Kn.l [T7 N,k8 N,Sy N],N,f44,[.v mJ],[.v bU],[⟨11,[(2,.obj bU),(3,.own bU),(12,.v mJ),(13,.v I),(14,.v I)],[1,1,1,0,1,0,0],[]⟩],none⟩
theorem Ll(K ρ):(Ju N).bd K ρ 11=sf.xE N ((Ju N).kc ρ 11):=κ
theorem Lm(ρ):(Ju N).kc ((Ju N).dn ρ) 11=sf.l5 N N:=Fx.uL [] (Ll N) ρ (sf.l5 N) λn ρ' e d=>by rw[e];rfl
theorem W1(K):(Ju N).top K=sf.b N ((Ju N).kc K 11):=κ
def W2:Kn prog:=⟨44,(Ju N).S true (sf N),Fx.u1 (Ju N) aM func44 [11] (W1 N) (by rw[Lm];rfl)⟩
def T8:Fx:=⟨27,tab,[],N,f16,[.v bU,.v bU],[.v I],[],none⟩
def T9:Kn prog:=⟨16,(T8 N).S true (Ou N),Fx.u0 (T8 N) aM func16⟩
def Ua:Fx:=⟨6,tab,Kn.l [T9 N],N,f15,[.v bU],[.v I],[],none⟩
def Sz:Kn prog:=⟨15,(Ua N).S true (MO N),Fx.u0 (Ua N) aM func15⟩
def Ub:Fx:=⟨19,tab,[],N,f72,[.v I,.v I],[.v B],[],none⟩
def W3:Kn prog:=⟨72,(Ub N).S true (Qn N),Fx.u0 (Ub N) aM func72⟩
def Uc:Fx:=⟨5,tab,[],N,f60,[.v I],[.v B],[],none⟩
def Ud:Kn prog:=⟨60,(Uc N).S true (Ot N),Fx.u0 (Uc N) aM func60⟩
def Ue:Fx:=⟨19,tab,[],N,f73,[.v I,.v I,.v GP],[.v I],[],none⟩
def W4:Kn prog:=⟨73,(Ue N).S true (Sa N),Fx.u0 (Ue N) aM func73⟩
def Jv:Fx:=⟨47,tab,Kn.l [W3 N,Ud N,W4 N],N,f52,[.v mJ],[.v B],[⟨5,[(0,.v mJ),(5,.v mJ),(6,.v I),(7,.v I)],[1,0,1,0,0],[]⟩],none⟩
theorem Pb(K ρ):(Jv N).bd K ρ 5=q8.jg N ((Jv N).kc ρ 5):=κ
theorem Pd(ρ):(Jv N).kc ((Jv N).dn ρ) 5=q8.l2 N N:=Fx.uL [] (Pb N) ρ (q8.l2 N) λn ρ' e d=>by rw[e];rfl
theorem W5(K):(Jv N).top K=q8.b N ((Jv N).kc K 5):=κ
def SA:Kn prog:=⟨52,(Jv N).S true (q8 N),Fx.u1 (Jv N) aM func52 [5] (W5 N) (by rw[Pd];rfl)⟩
def Jw:Fx:=⟨37,tab,Kn.l [SA N,k8 N,Sy N],N,f68,[.v mJ,.v I],[.v bU],[⟨11,[(1,.v I),(4,.obj bU),(5,.own bU),(14,.v mJ),(15,.v I),(16,.v I)],[1,1,1,0,1,0,0],[]⟩],none⟩
theorem Ln(K ρ):(Jw N).bd K ρ 11=sg.xE N ((Jw N).kc ρ 11):=κ
theorem Lo(ρ):(Jw N).kc ((Jw N).dn ρ) 11=sg.l5 N N:=Fx.uL [] (Ln N) ρ (sg.l5 N) λn ρ' e d=>by rw[e];rfl
theorem W6(K):(Jw N).top K=sg.b N ((Jw N).kc K 11):=κ
def W7:Kn prog:=⟨68,(Jw N).S true (sg N),Fx.u1 (Jw N) aM func68 [11] (W6 N) (by rw[Lo];rfl)⟩
def Jx:Fx:=⟨15,tab,Kn.l [W7 N,Sz N,SA N],N,f45,[.v mJ],[.v B],[⟨5,[(0,.v mJ),(4,.v I)],[1,0,1,0,0],[]⟩],none⟩
theorem Pe(K ρ):(Jx N).bd K ρ 5=sF.jg N ((Jx N).kc ρ 5):=κ
theorem Pf(ρ):(Jx N).kc ((Jx N).dn ρ) 5=sF.l2 N N:=Fx.uL [] (Pe N) ρ (sF.l2 N) λn ρ' e d=>by rw[e];rfl
theorem W8(K):(Jx N).top K=sF.b N ((Jx N).kc K 5):=κ
def W9:Kn prog:=⟨45,(Jx N).S true (sF N),Fx.u1 (Jx N) aM func45 [5] (W8 N) (by rw[Pf];rfl)⟩
def Uf:Fx:=⟨61,tab,[],N,f69,[.v Lb],[.v B],[],none⟩
def Xa:Kn prog:=⟨69,(Uf N).S true (Qo N),Fx.u0 (Uf N) aM func69⟩
def Jy:Fx:=⟨34,tab,Kn.l [Xa N],N,f46,[.v Gs],[.v B],[⟨5,[(0,.v Gs),(5,.v Gs),(6,.v I),(7,.v I)],[1,0,1,0,0],[]⟩],none⟩
theorem Pg(K ρ):(Jy N).bd K ρ 5=sD.jg N ((Jy N).kc ρ 5):=κ
theorem Ph(ρ):(Jy N).kc ((Jy N).dn ρ) 5=sD.l2 N N:=Fx.uL [] (Pg N) ρ (sD.l2 N) λn ρ' e d=>by rw[e];rfl
theorem Xb(K):(Jy N).top K=sD.b N ((Jy N).kc K 5):=κ
def Xc:Kn prog:=⟨46,(Jy N).S true (sD N),Fx.u1 (Jy N) aM func46 [5] (Xb N) (by rw[Ph];rfl)⟩
def Jz:Fx:=⟨25,tab,Kn.l [T3 N],N,f70,[.v wb,.v I],[.v DQ,.v B],[⟨9,[(1,.v I),(4,.obj DQ),(12,.v wb),(13,.v I),(14,.v I)],[1,1,0,1,0,0],[]⟩],none⟩
theorem Pj(K ρ):(Jz N).bd K ρ 9=se.gN N ((Jz N).kc ρ 9):=κ
theorem Pk(ρ):(Jz N).kc ((Jz N).dn ρ) 9=se.l4 N N:=Fx.uL [] (Pj N) ρ (se.l4 N) λn ρ' e d=>by rw[e];rfl
theorem Xd(K):(Jz N).top K=se.b N ((Jz N).kc K 9):=κ
def Xe:Kn prog:=⟨70,(Jz N).S true (se N),Fx.u1 (Jz N) aM func70 [9] (Xd N) (by rw[Pk];rfl)⟩
def Ug:Fx:=⟨15,tab,Kn.l [Xe N],N,f47,[.v mz,.v I],[.v B],[],none⟩
def Xf:Kn prog:=⟨47,(Ug N).S true (MP N),Fx.u0 (Ug N) aM func47⟩
def Uh:Fx:=⟨9,tab,[],N,f51,[.v I],[.v B],[],none⟩
def Xg:Kn prog:=⟨51,(Uh N).S true (Qp N),Fx.u0 (Uh N) aM func51⟩
def Ui:Fx:=⟨6,tab,Kn.l [Xg N],N,f50,[.v I],[.v B],[],none⟩
def Xh:Kn prog:=⟨50,(Ui N).S true (Qq N),Fx.u0 (Ui N) aM func50⟩
def JA:Fx:=⟨19,tab,Kn.l [Xh N],N,f71,[.v LI,.fn 50 .unit],[.v I],[⟨5,[(0,.v LI),(1,.fn 50 .unit),(7,.v I),(8,.v I)],[1,0,1,0,0],[]⟩],none⟩
theorem Pl(K ρ):(JA N).bd K ρ 5=vz.jg N ((JA N).kc ρ 5):=κ
theorem Pm(ρ):(JA N).kc ((JA N).dn ρ) 5=vz.l2 N N:=Fx.uL [] (Pl N) ρ (vz.l2 N) λn ρ' e d=>by rw[e];rfl
theorem Xi(K):(JA N).top K=vz.b N ((JA N).kc K 5):=κ
def Xj:Kn prog:=⟨71,(JA N).S true (vz N),Fx.u1 (JA N) aM func71 [5] (Xi N) (by rw[Pm];rfl)⟩
def Uj:Fx:=⟨9,tab,Kn.l [Xj N],N,f49,[.v LI,.fn 50 .unit],[.v B],[],none⟩
def Xk:Kn prog:=⟨49,(Uj N).S true (Qr N),Fx.u0 (Uj N) aM func49⟩
def yi:Fx:=⟨133,tab,Kn.l [Sx N,WW N,T7 N,W2 N,Sz N,W9 N,Xc N,Xf N,T4 N,Xk N],N,f24,[.v bQ,.v mz],[.v B],[⟨45,[(2,.obj bQ),(3,.obj mz),(109,.v Gs),(110,.v I),(111,.v I)],[1,1,1,1,0,1,0,0],[]⟩,⟨33,[(2,.obj bQ),(3,.obj mz),(83,.v mJ),(84,.v I),(85,.v I)],[1,1,1,0,1,0,0],[]⟩,⟨9,[(2,.obj bQ),(3,.obj mz),(57,.v mJ),(58,.v I),(59,.v I)],[1,1,0,1,0,0],[]⟩],none⟩
theorem Lp(K ρ):(yi N).bd K ρ 45=fi.H8 N ((yi N).kc ρ 45):=κ
theorem Lq(ρ):(yi N).kc ((yi N).dn ρ) 45=fi.H6 N N:=Fx.uL [] (Lp N) ρ (fi.H6 N) λn ρ' e d=>by rw[e];rfl
theorem Lr(K ρ):(yi N).bd K ρ 33=fi.H7 N ((yi N).kc K 45) ((yi N).kc ρ 33):=κ
theorem Ls(ρ):(yi N).kc ((yi N).dn ρ) 33=fi.H5 N N:=Fx.uL [45] (Lr N) ρ (fi.H5 N) λn ρ' e d=>by rw[Lq,e];rfl
theorem Pn(K ρ):(yi N).bd K ρ 9=fi.gN N ((yi N).kc K 33) ((yi N).kc ρ 9):=κ
theorem Po(ρ):(yi N).kc ((yi N).dn ρ) 9=fi.l4 N N:=Fx.uL [33,45] (Pn N) ρ (fi.l4 N) λn ρ' e d=>by rw[Ls,e];rfl
theorem Xl(K):(yi N).top K=fi.b N ((yi N).kc K 9):=κ
def Xm:Kn prog:=⟨24,(yi N).S true (fi N),Fx.u1 (yi N) aM func24 [9,33,45] (Xl N) (by rw[Po];rfl)⟩
def JB:Fx:=⟨31,tab,Kn.l [SA N],N,f25,[.v mJ,.v I],[.own sH],[⟨11,[(1,.v I),(5,.own sH),(11,.v mJ),(12,.v I),(13,.v I)],[1,1,1,0,1,0,0],[]⟩],none⟩
theorem Lt(K ρ):(JB N).bd K ρ 11=sh.xE N ((JB N).kc ρ 11):=κ
theorem Lu(ρ):(JB N).kc ((JB N).dn ρ) 11=sh.l5 N N:=Fx.uL [] (Lt N) ρ (sh.l5 N) λn ρ' e d=>by rw[e];rfl
theorem Xn(K):(JB N).top K=sh.b N ((JB N).kc K 11):=κ
def Xo:Kn prog:=⟨25,(JB N).S false (sh N),Fx.u1 (JB N) aM func25 [11] (Xn N) (by rw[Lu];rfl)⟩
def Uk:Fx:=⟨10,tab,[],N,f27,[.v I],[.v U],[],none⟩
def SB:Kn prog:=⟨27,(Uk N).S true (I7 N),Fx.u0 (Uk N) aM func27⟩
def Ul:Fx:=⟨52,tab,Kn.l [xV N],N,f26,[.v bU,.v bU],[.v bU,.v B],[],none⟩
def Xp:Kn prog:=⟨26,(Ul N).S true (Qt N),Fx.u0 (Ul N) aM func26⟩
def Um:Fx:=⟨51,tab,[],N,f34,[.v U,.v U],[.v U,.v U],[],none⟩
def Un:Kn prog:=⟨34,(Um N).S true (Oc N),Fx.u0 (Um N) aM func34⟩
def GX:Fx:=⟨30,tab,Kn.l [Un N],N,f78,[.v U,.v U],[.v U,.v U],[],none⟩
theorem Pp:g9 prog (GX N).E:=Fx.zt (GX N) aM (Kn.all _) κ
theorem Pq: ∀x,w7 (GX N).E (GX N).fn (GX N).args (GX N).res x=vT (GX N).args (Qd N) x:=Fx.E7 κ
def Y3:Kn prog:=⟨78,(GX N).S true (Qd N),Fx.u0 (GX N) aM func78⟩
theorem Bi.mul(w:World)(n:Int)(h0:0<n)(h1:n<1048576):Calls prog 78 #[.int .u64 1,.int .u64 n] w λe w'=>e= .returned (.tuple #[.int .u64 0,.int .u64 n])∧RowKit.Below w.heap.size w w':=
 HJ (Pp 0) rfl func78 κ (show w7 (GX 0).E f78 [.v (.int .u64),.v (.int .u64)] [.v (.int .u64),.v (.int .u64)] ((1:Int),n)=some (0,n)from(Pq 0 ((1:Int),n)).trans (xx 0 n h0 h1))
open Go.RowKit in
set_option maxHeartbeats 2000000 in
set_option maxRecDepth 100000 in
theorem Bi.walk(w:World)(a n:Int)(b off c:Nat)(h0:0<n)(h1:n<1048576)(ha:w.cell? ⟨b,off,none⟩=some (.int .i64 a))(hc:1≤c):Calls prog 55 #[.slice (some ⟨b,off,none⟩) 1 c,.int .i64 n] w λe w'=> ∃rb,e= .returned (.slice (some ⟨rb,0,none⟩) n.toNat n.toNat)∧w.heap.size≤rb∧w'.heap[rb]? =some (.cells (fu n.toNat n.toNat a) 2 (0,0))∧Below w.heap.size w w':=by
 have Q3: ¬(n<0):=ω
 have hu:IntKind.u64.wrap n=n:=by simp[IntKind.wrap,IntKind.bits,IntKind.signed];omega
 have hi:IntKind.i64.wrap n=n:=by rw[IntKind.wrap_i64];omega
 obtain⟨m,rfl⟩:=jA (iL h0)
 have lE:dY prog (.int .i64) 2:=fR (τ:= .int .i64) (x:= .inl 2) κ
 have SC:=λW=>C4 (W:=W) (a:=a) underlying43 lE m ω
 have JC: ∀W,(Go.sizeOf 2).run prog W= .ok 1 W:=λW=>bp lE W
 have mixed:Try.prog.follows Departure.mixedOrders=true:=κ
 go_enter func55,ntmps55
 go_upto_region 4 with(go_at_call 78;refine(Bi.mul _ _ h0 h1).mono ?_;rintro e w1 ⟨rfl,bL⟩)
 obtain⟨B,hB⟩: ∃B:Int,B=9223372036854775807:=⟨_,rfl⟩
 rw[←hB]
 have Y4: ¬(B<(m:Int)):=ω
 clear hB
 go_upto_region 6 with fail
 have cy:b<w.heap.size:=Av ha
 have Qb:w.heap.size≤w1.heap.size:=bL.size
 have SD:=SC w1
 have sT: ∀W,(Go.sizeOf 2).run prog W= .ok 1 W:=JC
 have Xq: ∀ty,(Builtin.copy_ #[43,43] ty #[.slice (some ⟨w1.heap.size,0,none⟩) m m,.slice (some ⟨b,off,none⟩) 1 c]).run prog (w1.alloc (.cells (fu 0 m a) 2))= .ok (goInt (1:Nat)) ((w1.alloc (.cells (fu 0 m a) 2)).setRow w1.heap.size (fu 1 m a)):=λty=>by
  have h:=run_copy_row (P:=prog) (t:=43) (e:=2) (te:=2) (k:=1) (W:=w1.alloc (.cells (fu 0 m a) 2)) (b:=w1.heap.size) (o:=0) (dLen:=m) (dCap:=m) (sLen:=1) (sCap:=c) (n:=1) (a:=⟨b,off,none⟩) (cs:=fu 0 m a) underlying43 sT (gi _ _)
   (news:=[.int .i64 a]) (c5 ω) rfl (λj u hj=>by
    cases j with
    |zero=>
     cases hj
     show World.cell? _ ⟨b,off,none⟩=_
     rw[World.cell?_of_block (w:=w) ((alloc_old _ _ (fe cy Qb)).trans (bL.block b cy))];exact ha
    |succ j=>cases hj) (λu hu=>by rw[eC]at hu;subst hu;rfl) (by rw[qY (gE _)];simp;omega) ty
  rw[h]
  have:=wF (k:=0) (m:=1) (n:=m) (a:=a) ω
  rw[tA,cF]at this
  rw[←this];rfl
 go_wp2_with fail
 have sA:((w1.alloc (.cells (fu 0 m a) 2)).setRow w1.heap.size (fu 1 m a)).heap[w1.heap.size]? =some (.cells (fu 1 m a) 2 (0,0)):=setRow_heap _ _ _ _ _ _ (gi w1 _)
 have hB:Below w.heap.size w ((w1.alloc (.cells (fu 0 m a) 2)).setRow w1.heap.size (fu 1 m a)):=⟨bL.os,bL.tape,bL.output,by rw[setRow_size,lN];omega,λk hk=>(setRow_other _ _ ω).trans ((alloc_old _ _ ω).trans (bL.block k hk))⟩
 clear Xq SD SC
 generalize (w1.alloc (.cells (fu 0 m a) 2)).setRow w1.heap.size (fu 1 m a)=W at*
 generalize SE:w1.heap.size=nb at*
 clear SE bL
 have hg: ∀(k:Nat) (W:World),0<k→k<m→W.heap[nb]? =some (.cells (fu k m a) 2 (0,0))→ ∀ty dc sc,(Builtin.copy_ #[43,43] ty #[.slice (some ⟨nb,k,none⟩) (m-k) dc,.slice (some ⟨nb,0,none⟩) k sc]).run prog W.drew= .ok (goInt ((Nat.min k (m-k):Nat):Int)) (W.drew.setRow nb (fu (k+Nat.min k (m-k)) m a)):=λk W h0 hk hW ty dc sc=>by
  have hle:Nat.min k (m-k)≤k:=Nat.min_le_left _ _
  have SF:Nat.min k (m-k)≤m-k:=Nat.min_le_right _ _
  rw[run_copy_row (P:=prog) (t:=43) (e:=2) (te:=2) (k:=1) (W:=W.drew) (b:=nb) (o:=k) (dLen:=m-k) (dCap:=dc) (sLen:=k) (sCap:=sc) (n:=Nat.min k (m-k)) (a:=⟨nb,0,none⟩) (cs:=fu k m a) underlying43 JC hW
   (news:=List.replicate (Nat.min k (m-k)) (.int .i64 a)) rfl (by simp) (AO (w:=W.drew) hW _ hle) (λu hu=>by rw[oW hu];rfl) (by rw[qY (Nat.le_of_lt hk),a8];omega) ty]
  have:=wF (k:=k) (m:=Nat.min k (m-k)) (n:=m) (a:=a) ω
  rw[mV]at this
  rw[this]
 have HG:=Lib.hid hg
 clear hg
 have HR:=Lib.hid sA
 clear sA
 go_loopw [8] (λv W'=> ∃k:Nat,0<k∧k≤m∧v= .int .i64 k∧Hid (W'.heap[nb]? =some (.cells (fu k m a) 2 (0,0)))∧Below w.heap.size w W') (λv _=>m-(RowKit.intOf v).toNat)
 case atStart=>exact⟨1,ω,ω,rfl,HR,hB⟩
 case round=>
  obtain⟨k,KC,Y5,rfl,HK,HB⟩:=hrel
  by_cases G6:k<m
  ·have hle:Nat.min k (m-k)≤k:=Nat.min_le_left _ _
   have SF:Nat.min k (m-k)≤m-k:=Nat.min_le_right _ _
   have Hf:0<Nat.min k (m-k):=by simp only[Nat.min_def];split<;>omega
   have h2:=HG.out k _ KC G6 HK.out
   have rT:=setRow_heap (wr.drew) nb _ (fu (k+Nat.min k (m-k)) m a) 2 (0,0) HK.out
   have Xr:=Lib.hid rT
   have Xs:Below w.heap.size w (wr.drew.setRow nb (fu (k+Nat.min k (m-k)) m a)):=⟨HB.os,HB.tape,HB.output,by rw[setRow_size];exact HB.size,λj hj=>(setRow_other _ _ ω).trans (HB.block j hj)⟩
   clear rT
   generalize Qk:Nat.min k (m-k)=q at*
   clear Qk
   have SC: ¬(m=k):=ω
   have hw:IntKind.i64.wrap ((k:Int)+(q:Int))=(k:Int)+(q:Int):=by rw[IntKind.wrap_i64];omega
   go_wp2_with fail
   go_region_law_o (refine Go.Proofs.step_copy_runI rfl _ _ 43 43 rfl _ _ (by simp[Act.eval,Act.put]) (by simp[Act.eval,Act.put]) (h2 _ _ _) ?_)
   simp only[List.getElem_toArray,List.getElem_cons_succ,oZ,Act.put,List.setIfInBounds_toArray,List.set_cons_succ,List.set_cons_zero]
   go_wp2
   go_roundw
   case rel=>exact⟨k+q,ω,ω,by go_num,Xr,Xs⟩
   case measure=>simp[RowKit.intOf];omega
  ·obtain rfl:k=m:=ω
   go_wp2
   go_ret
   exact⟨nb,rfl,Qb,HK.out,HB⟩
abbrev Ca:gV:=sM (.int .i64) N
theorem DD:eV prog 55 (Ca N):=AP func55 κ κ 2 N (λw a n b off c h0 h1 ha hc=>Bi.walk w a n b off c h0 h1 ha hc)
def IB:Kn prog:=⟨55,Ca N,DD N⟩
def Lv:Fx:=⟨47,tab,Kn.l [Bf N],N,f35,[.v B,.v U,.v U],[.v bU,.v B],[⟨14,[(1,.v U),(2,.v U),(6,.obj bU)],[1,1,1],[]⟩],none⟩
theorem Lw(K ρ):(Lv N).bd K ρ 14=uH.KN N:=κ
theorem Lx(ρ):(Lv N).kc ((Lv N).dn ρ) 14=uH.j7 N:=Fx.uJ [] (Lw N) ρ
theorem Xt(K):(Lv N).top K=uH.b N ((Lv N).kc K 14):=κ
def Uo:Kn prog:=⟨35,(Lv N).S true (uH N),Fx.u1 (Lv N) aM func35 [14] (Xt N) (by rw[Lx];rfl)⟩
def Up:Fx:=⟨29,tab,Kn.l [SB N,Un N,Uo N],N,f17,[.v I,.v I],[.v bU],[],none⟩
def SG:Kn prog:=⟨17,(Up N).S true (MM N),Fx.u0 (Up N) aM func17⟩
def X5:Fx:=⟨26,tab,Kn.l [Sz N,SG N,T9 N],N,f5,[.v bU,.v I],[.v I],[⟨9,[(1,.v I),(2,.obj bU),(5,.v I)],[1,1,1,0,0,0],[]⟩],none⟩
theorem SH(K ρ):(X5 N).bd K ρ 9=F5.gN N ((X5 N).kc ρ 9):=κ
theorem SI(ρ):(X5 N).kc ((X5 N).dn ρ) 9=F5.l4 N N:=Fx.uL [] (SH N) ρ (F5.l4 N) λn ρ' e d=>by rw[e];rfl
theorem h5(K):(X5 N).top K=F5.b N ((X5 N).kc K 9):=κ
def k5:Kn prog:=⟨5,(X5 N).S true (F5 N),Fx.u1 (X5 N) aM func5 [9] (h5 N) (by rw[SI];rfl)⟩
def Uq:Fx:=⟨5,tab,[],N,f79,[.v I],[.v B],[],none⟩
def Xu:Kn prog:=⟨79,(Uq N).S true (Sf N),Fx.u0 (Uq N) aM func79⟩
def Ah:Fx:=⟨19,tab,Kn.l [Xu N],N,f71,[.v LI,.fn 79 .unit],[.v I],[⟨5,[(0,.v LI),(1,.fn 79 .unit),(7,.v I),(8,.v I)],[1,0,1,0,0],[]⟩],none⟩
theorem Ly(K ρ):(Ah N).bd K ρ 5=jx.jg N ((Ah N).kc ρ 5):=κ
theorem LA(ρ):(Ah N).kc ((Ah N).dn ρ) 5=jx.l2 N N:=Fx.uL [] (Ly N) ρ (jx.l2 N) λn ρ' e d=>by rw[e];rfl
theorem SJ(K):(Ah N).top K=jx.b N ((Ah N).kc K 5):=κ
def SK:Kn prog:=⟨71,(Ah N).S true (jx N),Fx.u1 (Ah N) aM func71 [5] (SJ N) (by rw[LA];rfl)⟩
def Pr:Fx:=⟨9,tab,Kn.l [SK N],N,f49,[.v LI,.fn 79 .unit],[.v B],[],none⟩
def SL:Kn prog:=⟨49,(Pr N).S true (K6 N),Fx.u0 (Pr N) aM func49⟩
def Ur:Fx:=⟨11,tab,Kn.l [SL N],N,f74,[.v LI],[.v B],[],none⟩
def Xv:Kn prog:=⟨74,(Ur N).S true (Qu N),Fx.u0 (Ur N) aM func74⟩
def JD:Fx:=⟨39,tab,Kn.l [xV N],N,f75,[.v LI],[.v I,.v B],[⟨7,[(4,.v I),(5,.v U),(10,.v LI),(11,.v I),(12,.v I)],[1,1,0,1,0,0],[]⟩],none⟩
theorem Ps(K ρ):(JD N).bd K ρ 7=uI.wH N ((JD N).kc ρ 7):=κ
theorem Pu(ρ):(JD N).kc ((JD N).dn ρ) 7=uI.l3 N N:=Fx.uL [] (Ps N) ρ (uI.l3 N) λn ρ' e d=>by rw[e];rfl
theorem Xw(K):(JD N).top K=uI.b N ((JD N).kc K 7):=κ
def Xx:Kn prog:=⟨75,(JD N).S true (uI N),Fx.u1 (JD N) aM func75 [7] (Xw N) (by rw[Pu];rfl)⟩
def Us:Fx:=⟨32,tab,Kn.l [Bf N],N,f80,[.v bU],[.v U,.v U],[],none⟩
def Xy:Kn prog:=⟨80,(Us N).S true (Qj N),Fx.u0 (Us N) aM func80⟩
def Gx:Fx:=⟨25,tab,[],N,f88,[.v U],[.v I],[⟨14,[(0,.v U),(2,.v I)],[1,1,1],[]⟩,⟨8,[(0,.v U),(2,.v I)],[1,1],[]⟩],none⟩
theorem LB(K ρ):(Gx N).bd K ρ 14=oO.KN N:=κ
theorem LC(ρ):(Gx N).kc ((Gx N).dn ρ) 14=oO.j7 N:=Fx.uJ [] (LB N) ρ
theorem Pv(K ρ):(Gx N).bd K ρ 8=oO.RQ N ((Gx N).kc K 14):=κ
theorem Pw(ρ):(Gx N).kc ((Gx N).dn ρ) 8=oO.j4 N:=Fx.uJ [14] (Pv N) ρ (by rw[LC];rfl)
theorem Xz(K):(Gx N).top K=oO.b N ((Gx N).kc K 8):=κ
def XA:Kn prog:=⟨88,(Gx N).S true (oO N),Fx.u1 (Gx N) aM func88 [8,14] (Xz N) (by rw[Pw];rfl)⟩
def Ut:Fx:=⟨6,tab,Kn.l [XA N],N,f85,[.v U],[.v I],[],none⟩
def XB:Kn prog:=⟨85,(Ut N).S true (Qe N),Fx.u0 (Ut N) aM func85⟩
def wc:Fx:=⟨135,tab,Kn.l [XB N],N,f81,[.v U,.v U,.v U],[.v U,.v U],[⟨56,[(2,.v U),(8,.v U),(14,.v U),(15,.v U),(17,.v U),(18,.v U)],[1,1,1,1,1,1,1,1,1,1,1,1,1,1,1,1,1,1,1],[]⟩,⟨49,[(2,.v U),(8,.v U),(9,.v U),(10,.v U),(14,.v U),(15,.v U),(16,.v U),(17,.v U),(18,.v U)],[1,1,1,1,1,1,1,1,1,1,1,1,1,1,1,1,1,1,0,0,0],[]⟩,⟨42,[(2,.v U),(8,.v U),(9,.v U),(10,.v U),(11,.v U),(13,.v U),(14,.v U),(15,.v U)],[1,1,1,1,1,1,1,1,1,1,1,1,1,1,1],[]⟩,⟨35,[(2,.v U),(8,.v U),(9,.v U),(10,.v U),(11,.v U),(13,.v U),(14,.v U),(15,.v U),(16,.v U)],[1,1,1,1,1,1,1,1,1,1,1,1,1,1,0,0,0],[]⟩],none⟩
theorem LD(K ρ):(wc N).bd K ρ 56=eO.KT N:=κ
theorem LF(ρ):(wc N).kc ((wc N).dn ρ) 56=eO.I9 N:=Fx.uJ [] (LD N) ρ
theorem LG(K ρ):(wc N).bd K ρ 49=eO.KR N ((wc N).kc K 56) ((wc N).kc ρ 49):=κ
theorem LH(ρ):(wc N).kc ((wc N).dn ρ) 49=eO.KQ N N:=Fx.uL [56] (LG N) ρ (eO.KQ N) λn ρ' e d=>by rw[LF,e];rfl
theorem LJ(K ρ):(wc N).bd K ρ 42=eO.KS N ((wc N).kc K 49):=κ
theorem LK(ρ):(wc N).kc ((wc N).dn ρ) 42=eO.I8 N:=Fx.uJ [49,56] (LJ N) ρ (by rw[LH];rfl)
theorem LL(K ρ):(wc N).bd K ρ 35=eO.KP N ((wc N).kc K 42) ((wc N).kc ρ 35):=κ
theorem LM(ρ):(wc N).kc ((wc N).dn ρ) 35=eO.KO N N:=Fx.uL [42,49,56] (LL N) ρ (eO.KO N) λn ρ' e d=>by rw[LK,e];rfl
theorem XC(K):(wc N).top K=eO.b N ((wc N).kc K 35):=κ
def XD:Kn prog:=⟨81,(wc N).S true (eO N),Fx.u1 (wc N) aM func81 [35,42,49,56] (XC N) (by rw[LM];rfl)⟩
def LN:Fx:=⟨70,tab,Kn.l [Xy N,XD N,xV N,Uo N],N,f76,[.v bU,.v I],[.v bU,.v I,.v B],[⟨26,[(4,.obj bU),(10,.v U),(11,.v U),(12,.v U)],[1,1,1,1,1,1,1,1],[]⟩],none⟩
theorem LO(K ρ):(LN N).bd K ρ 26=wI.HT N:=κ
theorem LP(ρ):(LN N).kc ((LN N).dn ρ) 26=wI.MN N:=Fx.uJ [] (LO N) ρ
theorem XE(K):(LN N).top K=wI.b N ((LN N).kc K 26):=κ
def XF:Kn prog:=⟨76,(LN N).S true (wI N),Fx.u1 (LN N) aM func76 [26] (XE N) (by rw[LP];rfl)⟩
def Uu:Fx:=⟨14,tab,[],N,f31,[.v bU],[.v I,.v B],[],none⟩
def Uv:Kn prog:=⟨31,(Uu N).S true (KW N),Fx.u0 (Uu N) aM func31⟩
def Uw:Fx:=⟨9,tab,[],N,f83,[.v LI],[.v LI],[],none⟩
def XG:Kn prog:=⟨83,(Uw N).S false (Se N),Fx.u0 (Uw N) aM func83⟩
def Aq:Fx:=⟨43,tab,Kn.l [Iz N,XG N],N,f77,[.v LI],[.v LI],[⟨13,[(0,.v LI),(3,.own I),(4,.v I),(5,.v I),(10,.v I),(11,.v I)],[1,1,0,1,0,0,1,1,0,0,1,1,0,0,0],[7]⟩,⟨7,[(0,.v LI),(3,.own I),(10,.v I),(11,.v I)],[1,1,0,1,0,0],[]⟩],none⟩
theorem LR(K ρ):(Aq N).bd K ρ 13=kT.Ja N ((Aq N).kc ρ 7) ((Aq N).kc ρ 13):=κ
theorem LS(ρ):(Aq N).kc ((Aq N).dn ρ) 13=kT.l6 N ((Aq N).kc ρ 7) N:=Fx.uL [] (LR N) ρ (kT.l6 N ((Aq N).kc ρ 7)) λn ρ' e d=>by rw[e,d 7 rfl];rfl
theorem Px(K ρ):(Aq N).bd K ρ 7=kT.wH N ((Aq N).kc K 13) ((Aq N).kc ρ 7):=κ
theorem Py(ρ):(Aq N).kc ((Aq N).dn ρ) 7=kT.l3 N N:=Fx.uL [13] (Px N) ρ (kT.l3 N) λn ρ' e d=>by rw[LS,e];rfl
theorem XH(K):(Aq N).top K=kT.b N ((Aq N).kc K 7):=κ
def XI:Kn prog:=⟨77,(Aq N).S false (kT N),Fx.u1 (Aq N) aM func77 [7] (XH N) (by rw[Py];rfl)⟩
def Ai:Fx:=⟨102,tab,Kn.l [Xv N,Xx N,SG N,XF N,Uv N,XI N],N,f54,[.v I,.v LI],[.own I,.v I],[⟨43,[(8,.own I),(88,.v LI),(89,.v I),(90,.v I)],[1,1,1,1,1,1,1,1,0,1,0,0],[]⟩,⟨27,[(0,.v I),(6,.v I),(8,.own I),(9,.own I),(10,.v I),(50,.v LI),(51,.v I),(52,.v I)],[1,1,1,1,1,1,1,0,1,0,0],[]⟩,⟨16,[(0,.v I),(1,.v LI),(6,.v I)],[1,1,1,1],[]⟩],none⟩
theorem LV(K ρ):(Ai N).bd K ρ 43=hZ.z2 N ((Ai N).kc ρ 43):=κ
theorem LW(ρ):(Ai N).kc ((Ai N).dn ρ) 43=hZ.xO N N:=Fx.uL [] (LV N) ρ (hZ.xO N) λn ρ' e d=>by rw[e];rfl
theorem LX(K ρ):(Ai N).bd K ρ 27=hZ.z5 N ((Ai N).kc K 43) ((Ai N).kc ρ 27):=κ
theorem LY(ρ):(Ai N).kc ((Ai N).dn ρ) 27=hZ.A2 N N:=Fx.uL [43] (LX N) ρ (hZ.A2 N) λn ρ' e d=>by rw[LW,e];rfl
theorem LZ(K ρ):(Ai N).bd K ρ 16=hZ.Jb N ((Ai N).kc K 27):=κ
theorem L0(ρ):(Ai N).kc ((Ai N).dn ρ) 16=hZ.j8 N:=Fx.uJ [27,43] (LZ N) ρ (by rw[LY];rfl)
theorem XJ(K):(Ai N).top K=hZ.b N ((Ai N).kc K 16):=κ
def XK:Kn prog:=⟨54,(Ai N).S false (hZ N),Fx.u1 (Ai N) aM func54 [16,27,43] (XJ N) (by rw[L0];rfl)⟩
def Ux:Fx:=⟨23,tab,Kn.l [IB N,XK N],N,f28,[.v I,.v I],[.own I,.v I],[],none⟩
def XL:Kn prog:=⟨28,(Ux N).S false (Qv N),Fx.u0 (Ux N) aM func28⟩
def JE:Fx:=⟨54,tab,Kn.l [Ud N,Sx N],N,f33,[.v bQ,.v ki],[.v B],[⟨5,[(1,.v ki),(2,.obj bQ),(7,.v ki),(8,.v I),(9,.v I)],[1,0,1,0,0],[]⟩],none⟩
theorem Pz(K ρ):(JE N).bd K ρ 5=rf.jg N ((JE N).kc ρ 5):=κ
theorem PA(ρ):(JE N).kc ((JE N).dn ρ) 5=rf.l2 N N:=Fx.uL [] (Pz N) ρ (rf.l2 N) λn ρ' e d=>by rw[e];rfl
theorem XM(K):(JE N).top K=rf.b N ((JE N).kc K 5):=κ
def Uy:Kn prog:=⟨33,(JE N).S true (rf N),Fx.u1 (JE N) aM func33 [5] (XM N) (by rw[PA];rfl)⟩
def Uz:Fx:=⟨5,tab,[],N,f57,[.v DQ],[.v I],[],none⟩
def XN:Kn prog:=⟨57,(Uz N).S true (Sb N),Fx.u0 (Uz N) aM func57⟩
def JF:Fx:=⟨47,tab,Kn.l [Uy N,SB N,XN N,SG N,Sy N],N,f56,[.v bQ,.v ki,.fn 57 .unit],[.v bU,.v I],[⟨11,[(2,.fn 57 .unit),(3,.obj bQ),(6,.obj bU),(8,.own bU),(18,.v ki),(19,.v I),(20,.v I)],[1,1,1,0,1,0,0],[]⟩],none⟩
theorem L1(K ρ):(JF N).bd K ρ 11=sG.xE N ((JF N).kc ρ 11):=κ
theorem L2(ρ):(JF N).kc ((JF N).dn ρ) 11=sG.l5 N N:=Fx.uL [] (L1 N) ρ (sG.l5 N) λn ρ' e d=>by rw[e];rfl
theorem XO(K):(JF N).top K=sG.b N ((JF N).kc K 11):=κ
def XP:Kn prog:=⟨56,(JF N).S true (sG N),Fx.u1 (JF N) aM func56 [11] (XO N) (by rw[L2];rfl)⟩
def UA:Fx:=⟨11,tab,Kn.l [XP N],N,f29,[.v bQ,.v ki],[.v bU,.v I],[],none⟩
def XQ:Kn prog:=⟨29,(UA N).S true (Qs N),Fx.u0 (UA N) aM func29⟩
def UB:Fx:=⟨52,tab,Kn.l [Bf N],N,f58,[.v bU,.v bU],[.v bU,.v B],[],none⟩
def XR:Kn prog:=⟨58,(UB N).S true (Si N),Fx.u0 (UB N) aM func58⟩
def UC:Fx:=⟨9,tab,Kn.l [XR N],N,f30,[.v bU],[.v bU,.v B],[],none⟩
def XS:Kn prog:=⟨30,(UC N).S true (Qw N),Fx.u0 (UC N) aM func30⟩
def gS:Fx:=⟨169,tab,Kn.l [Xm N,Xo N,SB N,k8 N,Xp N,k5 N,XL N,XQ N,XS N,Uv N],N,f11,[.v bQ,.v mz,.v I],[.own qy,.v I],[⟨58,[(2,.v I),(3,.obj bQ),(8,.own sH),(9,.own qy),(15,.cq sH),(17,.obj sH),(20,.v I),(21,.v I),(46,.v I),(84,.own sH),(85,.v I),(86,.v I),(100,.own I),(101,.v I),(102,.v I)],[1,1,1,1,1,0,1,0,0,1,1,0,0,1,1,1,1,1,0,1,0,0,1,1,0,0,1,1,1,0,0,1,1,0,0,1,1],[17,43,51]⟩,⟨51,[(2,.v I),(3,.obj bQ),(8,.own sH),(9,.own qy),(15,.cq sH),(17,.obj sH),(46,.v I),(84,.own sH),(85,.v I),(86,.v I),(100,.own I),(101,.v I),(102,.v I)],[1,1,1,1,1,0,1,0,0,1,1,0,0,1,1,1,1,1,0,1,0,0,1,1,0,0,1,1,1,0,0],[17,43]⟩,⟨69,[(2,.v I),(3,.obj bQ),(8,.own sH),(9,.own qy),(46,.v I),(129,.v (.slice ki)),(130,.v I),(131,.v I)],[1,1,1,1,1,0,1,0,0,1,1,0,0,1,1,1,1,1,1,1,0,0],[17]⟩,⟨43,[(2,.v I),(3,.obj bQ),(8,.own sH),(9,.own qy),(15,.cq sH),(46,.v I),(84,.own sH),(85,.v I),(86,.v I)],[1,1,1,1,1,0,1,0,0,1,1,0,0,1,1,1,1,1,0,1,0,0],[17]⟩,⟨27,[(2,.v I),(3,.obj bQ),(8,.own sH),(9,.own qy),(10,.v I),(11,.own sH),(12,.obj bU),(46,.v I),(49,.same 8),(50,.v I),(51,.v I)],[1,1,1,1,1,0,1,0,0,1,1,0,0,1,1,1,0,1,0,0],[17]⟩,⟨17,[(2,.v I),(3,.obj bQ),(8,.own sH),(9,.own qy),(46,.v I)],[1,1,1,1,1,0,1,0,0],[]⟩],some (.unit,[],.unit,[1000002,3000083,4000129])⟩
theorem L3(K ρ):(gS N).bd K ρ 58=bM.K9 N ((gS N).kc ρ 17) ((gS N).kc ρ 43) ((gS N).kc ρ 51):=κ
theorem L4(ρ):(gS N).kc ((gS N).dn ρ) 58=bM.MR N ((gS N).kc ρ 17) ((gS N).kc ρ 43) ((gS N).kc ρ 51):=Fx.uJ [69] (L3 N) ρ
theorem L5(K ρ):(gS N).bd K ρ 51=bM.Iq N ((gS N).kc K 58) ((gS N).kc ρ 17) ((gS N).kc ρ 43) ((gS N).kc ρ 51):=κ
theorem L6(ρ):(gS N).kc ((gS N).dn ρ) 51=bM.GN N ((gS N).kc ρ 17) ((gS N).kc ρ 43) N:=Fx.uL [69,58] (L5 N) ρ (bM.GN N ((gS N).kc ρ 17) ((gS N).kc ρ 43)) λn ρ' e d=>by rw[L4,e,d 17 rfl,d 43 rfl];rfl
theorem L7(K ρ):(gS N).bd K ρ 69=bM.It N ((gS N).kc ρ 17) ((gS N).kc ρ 69):=κ
theorem L8(ρ):(gS N).kc ((gS N).dn ρ) 69=bM.GO N ((gS N).kc ρ 17) N:=Fx.uL [] (L7 N) ρ (bM.GO N ((gS N).kc ρ 17)) λn ρ' e d=>by rw[e,d 17 rfl];rfl
theorem L9(K ρ):(gS N).bd K ρ 43=bM.z2 N ((gS N).kc K 51) ((gS N).kc K 69) ((gS N).kc ρ 17) ((gS N).kc ρ 43):=κ
theorem Ma(ρ):(gS N).kc ((gS N).dn ρ) 43=bM.xO N ((gS N).kc ρ 17) N:=Fx.uL [69,51] (L9 N) ρ (bM.xO N ((gS N).kc ρ 17)) λn ρ' e d=>by rw[L6,L8,e,d 17 rfl];rfl
theorem Mb(K ρ):(gS N).bd K ρ 27=bM.z5 N ((gS N).kc K 43) ((gS N).kc ρ 17) ((gS N).kc ρ 27):=κ
theorem Mc(ρ):(gS N).kc ((gS N).dn ρ) 27=bM.A2 N ((gS N).kc ρ 17) N:=Fx.uL [43,69] (Mb N) ρ (bM.A2 N ((gS N).kc ρ 17)) λn ρ' e d=>by rw[Ma,e,d 17 rfl];rfl
theorem Md(K ρ):(gS N).bd K ρ 17=bM.QA N ((gS N).kc K 27) ((gS N).kc ρ 17):=κ
theorem Me(ρ):(gS N).kc ((gS N).dn ρ) 17=bM.l8 N N:=Fx.uL [27,43,69] (Md N) ρ (bM.l8 N) λn ρ' e d=>by rw[Mc,e];rfl
theorem XT(K):(gS N).top K=bM.b N ((gS N).kc K 17):=κ
def XU:Kn prog:=⟨11,(gS N).S false (bM N),Fx.u1 (gS N) aM func11 [17] (XT N) (by rw[Me];rfl)⟩
def JG:Fx:=⟨25,tab,[],N,f12,[.v sn,.v I],[.v qy,.v B],[⟨5,[(1,.v I),(4,.obj qy),(8,.v sn),(9,.v I),(10,.v I)],[1,0,1,0,0],[]⟩],none⟩
theorem PB(K ρ):(JG N).bd K ρ 5=sl.jg N ((JG N).kc ρ 5):=κ
theorem PC(ρ):(JG N).kc ((JG N).dn ρ) 5=sl.l2 N N:=Fx.uL [] (PB N) ρ (sl.l2 N) λn ρ' e d=>by rw[e];rfl
theorem Nb(K):(JG N).top K=sl.b N ((JG N).kc K 5):=κ
def XV:Kn prog:=⟨12,(JG N).S false (sl N),Fx.u1 (JG N) aM func12 [5] (Nb N) (by rw[PC];rfl)⟩
def JH:Fx:=⟨26,tab,[],N,f13,[.v ki,.v ki],[.v B],[⟨9,[(0,.v ki),(1,.v ki),(5,.v I)],[1,1,0,1,0,0],[]⟩],none⟩
theorem PD(K ρ):(JH N).bd K ρ 9=oQ.gN N ((JH N).kc ρ 9):=κ
theorem PE(ρ):(JH N).kc ((JH N).dn ρ) 9=oQ.l4 N N:=Fx.uL [] (PD N) ρ (oQ.l4 N) λn ρ' e d=>by rw[e];rfl
theorem Rj(K):(JH N).top K=oQ.b N ((JH N).kc K 9):=κ
def XW:Kn prog:=⟨13,(JH N).S true (oQ N),Fx.u1 (JH N) aM func13 [9] (Rj N) (by rw[PE];rfl)⟩
def Cb:Fx:=⟨97,tab,Kn.l [Sx N,Uy N],N,f14,[.v bQ,.v sn],[.v B],[⟨16,[(1,.v sn),(2,.obj bQ),(6,.obj qy),(15,.v sn),(16,.v I),(17,.v I)],[1,1,0,1,0,0,1,1,0,0,1,1],[9]⟩,⟨9,[(1,.v sn),(2,.obj bQ),(15,.v sn),(16,.v I),(17,.v I)],[1,1,0,1,0,0],[]⟩],none⟩
theorem Mf(K ρ):(Cb N).bd K ρ 16=kX.Jb N ((Cb N).kc ρ 9):=κ
theorem Mg(ρ):(Cb N).kc ((Cb N).dn ρ) 16=kX.j8 N ((Cb N).kc ρ 9):=Fx.uJ [] (Mf N) ρ
theorem PF(K ρ):(Cb N).bd K ρ 9=kX.gN N ((Cb N).kc K 16) ((Cb N).kc ρ 9):=κ
theorem PG(ρ):(Cb N).kc ((Cb N).dn ρ) 9=kX.l4 N N:=Fx.uL [16] (PF N) ρ (kX.l4 N) λn ρ' e d=>by rw[Mg,e];rfl
theorem Rk(K):(Cb N).top K=kX.b N ((Cb N).kc K 9):=κ
def XX:Kn prog:=⟨14,(Cb N).S true (kX N),Fx.u1 (Cb N) aM func14 [9] (Rk N) (by rw[PG];rfl)⟩
def X4:Fx:=⟨106,tab,Kn.l [WR N,XU N,XV N,XW N,XX N,k8 N,k5 N],N,f4,[],[.v B],[],none⟩
theorem XY:g9 prog (X4 N).E:=Fx.zt (X4 N) aM (Kn.all _) κ
theorem XZ: ∀x,w7 (X4 N).E (X4 N).fn (X4 N).args (X4 N).res x=vT (X4 N).args (F4 N) x:=Fx.E7 κ
def k4:Kn prog:=⟨4,(X4 N).S true (F4 N),Fx.u0 (X4 N) aM func4⟩
def JI:Fx:=⟨22,tab,[],N,f38,[.v LU],[.v LU],[⟨5,[(0,.v LU),(3,.v I)],[1,1,0,0,0],[]⟩],none⟩
theorem PH(K ρ):(JI N).bd K ρ 5=rV.jg N ((JI N).kc ρ 5):=κ
theorem PI(ρ):(JI N).kc ((JI N).dn ρ) 5=rV.l2 N N:=Fx.uL [] (PH N) ρ (rV.l2 N) λn ρ' e d=>by rw[e];rfl
theorem X0(K):(JI N).top K=rV.b N ((JI N).kc K 5):=κ
def UD:Kn prog:=⟨38,(JI N).S false (rV N),Fx.u1 (JI N) aM func38 [5] (X0 N) (by rw[PI];rfl)⟩
def UE:Fx:=⟨9,tab,Kn.l [UD N],N,f23,[.v U],[.v LU],[],none⟩
def UF:Kn prog:=⟨23,(UE N).S false (ML N),Fx.u0 (UE N) aM func23⟩
def UG:Fx:=⟨15,tab,Kn.l [UD N],N,f21,[.v B,.v LU],[.v e8],[],none⟩
def PJ:Kn prog:=⟨21,(UG N).S false (DO N),Fx.u0 (UG N) aM func21⟩
def X9:Fx:=⟨15,tab,Kn.l [UF N,PJ N],N,f9,[.v I],[.v e8],[],none⟩
def k9:Kn prog:=⟨9,(X9 N).S false (F9 N),Fx.u0 (X9 N) aM func9⟩
def UH:Fx:=⟨13,tab,[],N,f37,[.v LU,.v I],[.v U],[],none⟩
def SM:Kn prog:=⟨37,(UH N).S true (KU N),Fx.u0 (UH N) aM func37⟩
def s5:Fx:=⟨71,tab,Kn.l [SM N,PJ N],N,f20,[.v e8,.v e8],[.v e8],[⟨18,[(2,.obj e8),(3,.obj e8),(4,.obj e8),(5,.own U),(6,.v I),(7,.v U),(8,.v I)],[1,1,0,1,0,0,1,0,0,1,1,0,0,1],[7,15]⟩,⟨15,[(2,.obj e8),(3,.obj e8),(4,.obj e8),(5,.own U),(6,.v I),(7,.v U),(8,.v I)],[1,1,0,1,0,0,1,0,0,1,1,0,0],[7]⟩,⟨7,[(2,.obj e8),(3,.obj e8),(4,.obj e8),(5,.own U),(6,.v I)],[1,1,0,1,0,0],[]⟩],none⟩
theorem Mh(K ρ):(s5 N).bd K ρ 18=fD.R4 N ((s5 N).kc ρ 7) ((s5 N).kc ρ 15):=κ
theorem Mi(ρ):(s5 N).kc ((s5 N).dn ρ) 18=fD.j9 N ((s5 N).kc ρ 7) ((s5 N).kc ρ 15):=Fx.uJ [] (Mh N) ρ
theorem Mj(K ρ):(s5 N).bd K ρ 15=fD.R3 N ((s5 N).kc K 18) ((s5 N).kc ρ 7) ((s5 N).kc ρ 15):=κ
theorem Mk(ρ):(s5 N).kc ((s5 N).dn ρ) 15=fD.l7 N ((s5 N).kc ρ 7) N:=Fx.uL [18] (Mj N) ρ (fD.l7 N ((s5 N).kc ρ 7)) λn ρ' e d=>by rw[Mi,e,d 7 rfl];rfl
theorem PK(K ρ):(s5 N).bd K ρ 7=fD.wH N ((s5 N).kc K 15) ((s5 N).kc ρ 7):=κ
theorem PL(ρ):(s5 N).kc ((s5 N).dn ρ) 7=fD.l3 N N:=Fx.uL [15] (PK N) ρ (fD.l3 N) λn ρ' e d=>by rw[Mk,e];rfl
theorem RC(K):(s5 N).top K=fD.b N ((s5 N).kc K 7):=κ
def UI:Kn prog:=⟨20,(s5 N).S false (fD N),Fx.u1 (s5 N) aM func20 [7] (RC N) (by rw[PL];rfl)⟩
def Cc:Fx:=⟨41,tab,Kn.l [SM N],N,f39,[.v LU,.v LU],[.own U],[⟨12,[(0,.v LU),(1,.v LU),(5,.own U),(6,.v U),(7,.v I)],[1,1,1,0,1,0,0,1],[9]⟩,⟨9,[(0,.v LU),(1,.v LU),(5,.own U),(6,.v U),(7,.v I)],[1,1,1,0,1,0,0],[]⟩],none⟩
theorem Ml(K ρ):(Cc N).bd K ρ 12=mu.R1 N ((Cc N).kc ρ 9):=κ
theorem Mm(ρ):(Cc N).kc ((Cc N).dn ρ) 12=mu.j6 N ((Cc N).kc ρ 9):=Fx.uJ [] (Ml N) ρ
theorem PM(K ρ):(Cc N).bd K ρ 9=mu.gN N ((Cc N).kc K 12) ((Cc N).kc ρ 9):=κ
theorem PN(ρ):(Cc N).kc ((Cc N).dn ρ) 9=mu.l4 N N:=Fx.uL [12] (PM N) ρ (mu.l4 N) λn ρ' e d=>by rw[Mm,e];rfl
theorem X1(K):(Cc N).top K=mu.b N ((Cc N).kc K 9):=κ
def X2:Kn prog:=⟨39,(Cc N).S false (mu N),Fx.u1 (Cc N) aM func39 [9] (X1 N) (by rw[PN];rfl)⟩
def JJ:Fx:=⟨41,tab,[],N,f40,[.v LU,.v LU],[.v I],[⟨13,[(0,.v LU),(1,.v LU),(5,.v I)],[1,1,0,1,0,0],[]⟩],none⟩
theorem Mn(K ρ):(JJ N).bd K ρ 13=sC.Ja N ((JJ N).kc ρ 13):=κ
theorem Mo(ρ):(JJ N).kc ((JJ N).dn ρ) 13=sC.l6 N N:=Fx.uL [] (Mn N) ρ (sC.l6 N) λn ρ' e d=>by rw[e];rfl
theorem Ya(K):(JJ N).top K=sC.b N ((JJ N).kc K 13):=κ
def Yb:Kn prog:=⟨40,(JJ N).S true (sC N),Fx.u1 (JJ N) aM func40 [13] (Ya N) (by rw[Mo];rfl)⟩
def JK:Fx:=⟨37,tab,Kn.l [SM N],N,f41,[.v LU,.v LU],[.own U],[⟨9,[(0,.v LU),(1,.v LU),(5,.own U),(6,.v U),(7,.v I)],[1,1,1,0,1,0,0],[]⟩],none⟩
theorem PO(K ρ):(JK N).bd K ρ 9=sW.gN N ((JK N).kc ρ 9):=κ
theorem PQ(ρ):(JK N).kc ((JK N).dn ρ) 9=sW.l4 N N:=Fx.uL [] (PO N) ρ (sW.l4 N) λn ρ' e d=>by rw[e];rfl
theorem Yc(K):(JK N).top K=sW.b N ((JK N).kc K 9):=κ
def Yd:Kn prog:=⟨41,(JK N).S false (sW N),Fx.u1 (JK N) aM func41 [9] (Yc N) (by rw[PQ];rfl)⟩
def UJ:Fx:=⟨40,tab,Kn.l [X2 N,PJ N,Yb N,Yd N],N,f22,[.v e8,.v e8],[.v e8],[],none⟩
def UK:Kn prog:=⟨22,(UJ N).S false (Om N),Fx.u0 (UJ N) aM func22⟩
def X7:Fx:=⟨16,tab,Kn.l [k9 N,PJ N,UI N,UF N,UK N],N,f7,[.v bU],[.v e8],[],none⟩
def k7:Kn prog:=⟨7,(X7 N).S false (F7 N),Fx.u0 (X7 N) aM func7⟩
def UL:Fx:=⟨9,tab,[],N,f18,[.v e8],[.v I],[],none⟩
def UM:Kn prog:=⟨18,(UL N).S true (Oo N),Fx.u0 (UL N) aM func18⟩
def UN:Fx:=⟨9,tab,Kn.l [PJ N],N,f62,[.v e8],[.v e8],[],none⟩
def Ye:Kn prog:=⟨62,(UN N).S false (Qg N),Fx.u0 (UN N) aM func62⟩
def UO:Fx:=⟨9,tab,Kn.l [Ye N,UK N],N,f36,[.v e8,.v e8],[.v e8],[],none⟩
def Yf:Kn prog:=⟨36,(UO N).S false (Qh N),Fx.u0 (UO N) aM func36⟩
def UP:Fx:=⟨9,tab,Kn.l [Yf N,UM N],N,f19,[.v e8,.v e8],[.v I],[],none⟩
def Yg:Kn prog:=⟨19,(UP N).S true (Qi N),Fx.u0 (UP N) aM func19⟩
def X6:Fx:=⟨28,tab,Kn.l [UM N,k9 N,UI N,Yg N],N,f6,[.v e8,.v I],[.v I],[⟨9,[(1,.v I),(2,.obj e8),(5,.v I)],[1,1,1,0,0,0],[]⟩],none⟩
theorem SN(K ρ):(X6 N).bd K ρ 9=F6.gN N ((X6 N).kc ρ 9):=κ
theorem SO(ρ):(X6 N).kc ((X6 N).dn ρ) 9=F6.l4 N N:=Fx.uL [] (SN N) ρ (F6.l4 N) λn ρ' e d=>by rw[e];rfl
theorem h6(K):(X6 N).top K=F6.b N ((X6 N).kc K 9):=κ
def k6:Kn prog:=⟨6,(X6 N).S true (F6 N),Fx.u1 (X6 N) aM func6 [9] (h6 N) (by rw[SO];rfl)⟩
def X3:Fx:=⟨34,tab,Kn.l [k4 N,k5 N,k7 N,k6 N,k8 N,k9 N],N,f3,[.v bU,.v I,.v (.int .u16),.v (.int .u8)],[.v B],[],none⟩
theorem SP:g9 prog (X3 N).E:=Fx.zt (X3 N) aM (Kn.all _) κ
theorem SQ: ∀x,w7 (X3 N).E (X3 N).fn (X3 N).args (X3 N).res x=vT (X3 N).args (F3 N) x:=Fx.E7 κ
def k3:Kn prog:=⟨3,(X3 N).S true (F3 N),Fx.u0 (X3 N) aM func3⟩
end
end VM.F
