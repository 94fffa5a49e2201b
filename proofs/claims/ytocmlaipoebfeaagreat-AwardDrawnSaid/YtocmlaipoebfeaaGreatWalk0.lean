/- A part of the proof of AwardDrawn of layer 25: each function of the program does what its equation says; printed by a program. -/
import Derived.Test.YtocmlaipoebfeaaGreatText
import Derived.Test.YtocmlaipoebfeaaGreatVm7
import Derived.Test.YtocmlaipoebfeaaGreatProg
import Derived.KernelRfl
set_option linter.all false
namespace VM.F
open Go VM Go.Proofs
set_option maxRecDepth 100000
abbrev I:Ty:= .int .i64
abbrev U:Ty:= .int .u64
abbrev B:Ty:= .bool
abbrev Z:Ty:= .str
abbrev P0:Ty:= .slice pP
abbrev Fy:Ty:= .slice gN
abbrev cj:Ty:= .slice gB
abbrev IG:Ty:= .slice gJ
abbrev aeh:Ty:= .slice bN
abbrev ajk:Ty:= .slice c3
abbrev bK:Ty:= .slice fN
abbrev P1:Ty:= .slice pQ
abbrev cD:Ty:= .slice cL
abbrev fK:Ty:= .slice qX
abbrev CP:Ty:= .slice oQ
abbrev jU:Ty:= .slice ng
abbrev kU:Ty:= .slice jv
abbrev YT:Ty:= .slice mm
abbrev dm:Ty:= .slice dM
abbrev aei:Ty:= .slice dS
abbrev aej:Ty:= .slice an
abbrev ajl:Ty:= .slice aC
abbrev ab8:Ty:= .slice kQ
abbrev ahH:Ty:= .slice bM
abbrev LI:Ty:= .slice I
abbrev LU:Ty:= .slice U
def tab:List (Nat×Ty):=[(2,I),(3,I),(4,B),(5,(.int .u8)),(9,Z),(22,LU),(26,cD),(28,an),(29,cj),(30,cD),(31,bK),(32,bK),(33,LI),(34,kU),(36,aC),(37,cD),(38,dm),(39,cD),(40,LI),(41,cj),(42,cj),(44,kQ),(45,CP),(47,dS),(49,bM),(53,cj),(55,dM),(57,I),(62,cL),(64,bN),(69,gB),(83,bK),(88,fN),(95,cL),(96,U),(99,IG),(105,gJ),(112,jv),(118,c3),(127,fK),(131,qX),(137,fN),(139,fN),(142,cL),(158,cL),(160,YT),(163,mm),(165,bK),(173,aeh),(191,oQ),(193,CP),(197,bK),(206,gB),(212,jU),(240,fN),(258,fN),(265,ng),(271,(.arr 13 B)),(340,gB),(374,gB),(382,oQ)]
theorem ar:yt Tryz.prog tab:=⟨by kernel_rfl,by kernel_rfl⟩
section
variable(N:Nat)
noncomputable abbrev Pp:gP:=rW.S N
theorem Pq:eI Tryz.prog 170 (Pp N):=KK N Tryz.func170 (by kernel_rfl) (by kernel_rfl) (by kernel_rfl) (by kernel_rfl)
noncomputable def YU:Kn Tryz.prog:=⟨170,Pp N,Pq N⟩
noncomputable abbrev FA:gP:=n9 (.pair (.int .i64) (.pair (.slice (.pair (.int .i64) (.pair (.int .i64) .unit))) (.pair (.int .i64) (.pair (.int .i64) (.pair (.int .i64) (.pair (.int .i64) .unit)))))) N
noncomputable def CQ.CR:Go.Shelf.Ren:={f:=fun i=>0,t:=fun i=>cond (Nat.beq i 3) 55 (cond (Nat.beq i 4) 4 38),g:=fun _=>0}
theorem CQ.pS:yz Tryz.prog (.pair (.int .i64) (.pair (.slice (.pair (.int .i64) (.pair (.int .i64) .unit))) (.pair (.int .i64) (.pair (.int .i64) (.pair (.int .i64) (.pair (.int .i64) .unit)))))) CQ.CR 141 Tryz.f141:=⟨Tryz.func141.trans (by kernel_rfl),Tryz.underlying4,Tryz.underlying38,dO (x:= .inl 55) (by kernel_rfl),by decide,by kernel_rfl⟩
theorem IH:eI Tryz.prog 141 (FA N):=iA CQ.pS (by kernel_rfl) (by kernel_rfl) N
noncomputable def Pr:Kn Tryz.prog:=⟨141,FA N,IH N⟩
noncomputable abbrev FB:gP:=n9 (.pair (.int .i64) (.pair (.int .i64) .unit)) N
noncomputable def CS.CR:Go.Shelf.Ren:={f:=fun i=>0,t:=fun i=>cond (Nat.beq i 3) 69 (cond (Nat.beq i 4) 4 53),g:=fun _=>0}
theorem CS.pS:yz Tryz.prog (.pair (.int .i64) (.pair (.int .i64) .unit)) CS.CR 142 Tryz.f142:=⟨Tryz.func142.trans (by kernel_rfl),Tryz.underlying4,Tryz.underlying53,dO (x:= .inl 69) (by kernel_rfl),by decide,by kernel_rfl⟩
theorem II:eI Tryz.prog 142 (FB N):=iA CS.pS (by kernel_rfl) (by kernel_rfl) N
noncomputable def Ps:Kn Tryz.prog:=⟨142,FB N,II N⟩
noncomputable abbrev FC:gP:=n9 (.pair (.int .i64) (.pair (.int .i64) .unit)) N
noncomputable def CT.CR:Go.Shelf.Ren:={f:=fun i=>0,t:=fun i=>cond (Nat.beq i 3) 206 (cond (Nat.beq i 4) 4 29),g:=fun _=>0}
theorem CT.pS:yz Tryz.prog (.pair (.int .i64) (.pair (.int .i64) .unit)) CT.CR 201 Tryz.f201:=⟨Tryz.func201.trans (by kernel_rfl),Tryz.underlying4,Tryz.underlying29,dO (x:= .inl 206) (by kernel_rfl),by decide,by kernel_rfl⟩
theorem IJ:eI Tryz.prog 201 (FC N):=iA CT.pS (by kernel_rfl) (by kernel_rfl) N
noncomputable def Pu:Kn Tryz.prog:=⟨201,FC N,IJ N⟩
noncomputable abbrev FD:gP:=n9 (.pair (.int .i64) (.pair (.int .i64) (.pair (.int .i64) (.pair (.int .i64) .unit)))) N
noncomputable def CU.CR:Go.Shelf.Ren:={f:=fun i=>0,t:=fun i=>cond (Nat.beq i 3) 142 (cond (Nat.beq i 4) 4 30),g:=fun _=>0}
theorem CU.pS:yz Tryz.prog (.pair (.int .i64) (.pair (.int .i64) (.pair (.int .i64) (.pair (.int .i64) .unit)))) CU.CR 202 Tryz.f202:=⟨Tryz.func202.trans (by kernel_rfl),Tryz.underlying4,Tryz.underlying30,dO (x:= .inl 142) (by kernel_rfl),by decide,by kernel_rfl⟩
theorem IK:eI Tryz.prog 202 (FD N):=iA CU.pS (by kernel_rfl) (by kernel_rfl) N
noncomputable def Pv:Kn Tryz.prog:=⟨202,FD N,IK N⟩
noncomputable abbrev FE:gP:=n9 (.pair (.int .i64) (.pair (.int .i64) (.pair (.int .i64) .unit))) N
noncomputable def CV.CR:Go.Shelf.Ren:={f:=fun i=>0,t:=fun i=>cond (Nat.beq i 3) 137 (cond (Nat.beq i 4) 4 31),g:=fun _=>0}
theorem CV.pS:yz Tryz.prog (.pair (.int .i64) (.pair (.int .i64) (.pair (.int .i64) .unit))) CV.CR 203 Tryz.f203:=⟨Tryz.func203.trans (by kernel_rfl),Tryz.underlying4,Tryz.underlying31,dO (x:= .inl 137) (by kernel_rfl),by decide,by kernel_rfl⟩
theorem IL:eI Tryz.prog 203 (FE N):=iA CV.pS (by kernel_rfl) (by kernel_rfl) N
noncomputable def FF:Kn Tryz.prog:=⟨203,FE N,IL N⟩
noncomputable abbrev FG:gP:=n9 (.pair (.int .i64) (.pair (.int .i64) (.pair (.int .i64) .unit))) N
noncomputable def CW.CR:Go.Shelf.Ren:={f:=fun i=>0,t:=fun i=>cond (Nat.beq i 3) 139 (cond (Nat.beq i 4) 4 32),g:=fun _=>0}
theorem CW.pS:yz Tryz.prog (.pair (.int .i64) (.pair (.int .i64) (.pair (.int .i64) .unit))) CW.CR 204 Tryz.f204:=⟨Tryz.func204.trans (by kernel_rfl),Tryz.underlying4,Tryz.underlying32,dO (x:= .inl 139) (by kernel_rfl),by decide,by kernel_rfl⟩
theorem IM:eI Tryz.prog 204 (FG N):=iA CW.pS (by kernel_rfl) (by kernel_rfl) N
noncomputable def FH:Kn Tryz.prog:=⟨204,FG N,IM N⟩
noncomputable abbrev FI:gP:=n9 (.int .i64) N
noncomputable def CX.CR:Go.Shelf.Ren:={f:=fun i=>0,t:=fun i=>cond (Nat.beq i 3) 2 (cond (Nat.beq i 4) 4 33),g:=fun _=>0}
theorem CX.pS:yz Tryz.prog (.int .i64) CX.CR 205 Tryz.f205:=⟨Tryz.func205.trans (by kernel_rfl),Tryz.underlying4,Tryz.underlying33,dO (x:= .inl 2) (by kernel_rfl),by decide,by kernel_rfl⟩
theorem IN:eI Tryz.prog 205 (FI N):=iA CX.pS (by kernel_rfl) (by kernel_rfl) N
noncomputable def Pw:Kn Tryz.prog:=⟨205,FI N,IN N⟩
noncomputable abbrev FJ:gP:=n9 (.pair (.int .i64) (.pair (.int .i64) (.pair (.int .i64) (.pair (.int .i64) (.pair (.int .i64) (.pair (.int .i64) .unit)))))) N
noncomputable def CY.CR:Go.Shelf.Ren:={f:=fun i=>0,t:=fun i=>cond (Nat.beq i 3) 112 (cond (Nat.beq i 4) 4 34),g:=fun _=>0}
theorem CY.pS:yz Tryz.prog (.pair (.int .i64) (.pair (.int .i64) (.pair (.int .i64) (.pair (.int .i64) (.pair (.int .i64) (.pair (.int .i64) .unit)))))) CY.CR 206 Tryz.f206:=⟨Tryz.func206.trans (by kernel_rfl),Tryz.underlying4,Tryz.underlying34,dO (x:= .inl 112) (by kernel_rfl),by decide,by kernel_rfl⟩
theorem IP:eI Tryz.prog 206 (FJ N):=iA CY.pS (by kernel_rfl) (by kernel_rfl) N
noncomputable def Px:Kn Tryz.prog:=⟨206,FJ N,IP N⟩
noncomputable abbrev FK:gP:=g5 (.pair (.int .i64) (.pair (.int .i64) (.pair (.int .i64) .unit))) N
noncomputable def CZ.CR:Go.Shelf.Ren:={f:=fun i=>cond (Nat.beq i 29) 242 (cond (Nat.beq i 30) 243 0),t:=fun i=>cond (Nat.beq i 24) 32 (cond (Nat.beq i 9) 139 (cond (Nat.beq i 3) 3 (cond (Nat.beq i 4) 4 0))),g:=fun _=>0}
theorem CZ.pS:KL Tryz.prog (.pair (.int .i64) (.pair (.int .i64) (.pair (.int .i64) .unit))) CZ.CR 210 Tryz.f210 Tryz.f242:=⟨Tryz.func210.trans (by kernel_rfl),Tryz.underlying3,Tryz.underlying4,Tryz.underlying32,dO (x:= .inl 139) (by kernel_rfl),by decide,by kernel_rfl⟩
theorem IQ:eI Tryz.prog 210 (FK N):=yx CZ.pS ⟨Tryz.func242,by kernel_rfl,by kernel_rfl,by kernel_rfl,by kernel_rfl⟩ (by kernel_rfl) (by kernel_rfl) N
noncomputable def Py:Kn Tryz.prog:=⟨210,FK N,IQ N⟩
noncomputable abbrev FL:gP:=g5 (.pair (.int .i64) (.pair (.int .i64) (.pair (.int .i64) .unit))) N
noncomputable def C0.CR:Go.Shelf.Ren:={f:=fun i=>cond (Nat.beq i 29) 244 (cond (Nat.beq i 30) 245 0),t:=fun i=>cond (Nat.beq i 24) 31 (cond (Nat.beq i 9) 137 (cond (Nat.beq i 3) 3 (cond (Nat.beq i 4) 4 0))),g:=fun _=>0}
theorem C0.pS:KL Tryz.prog (.pair (.int .i64) (.pair (.int .i64) (.pair (.int .i64) .unit))) C0.CR 212 Tryz.f212 Tryz.f244:=⟨Tryz.func212.trans (by kernel_rfl),Tryz.underlying3,Tryz.underlying4,Tryz.underlying31,dO (x:= .inl 137) (by kernel_rfl),by decide,by kernel_rfl⟩
theorem IS:eI Tryz.prog 212 (FL N):=yx C0.pS ⟨Tryz.func244,by kernel_rfl,by kernel_rfl,by kernel_rfl,by kernel_rfl⟩ (by kernel_rfl) (by kernel_rfl) N
noncomputable def Pz:Kn Tryz.prog:=⟨212,FL N,IS N⟩
noncomputable def Sm:Fx:=⟨28,tab,[],N,Tryz.f51,[],[.v an,.v aC,.own dM],[],none⟩
theorem anC:mF Tryz.prog (Sm N).E:=Fx.AT (Sm N) ar trivial (by kernel_rfl)
theorem anD: ∀x,C3 (Sm N).E (Sm N).fn (Sm N).args (Sm N).res x=yu (Sm N).args (F51 N) x:=Fx.QJ (by kernel_rfl)
noncomputable def k51:Kn Tryz.prog:=⟨51,(Sm N).S false (F51 N),Fx.u0 (Sm N) ar Tryz.func51⟩
noncomputable def aek:Fx:=⟨41,tab,[],N,Tryz.f139,[.v cL],[.v B],[],none⟩
noncomputable def ajm:Kn Tryz.prog:=⟨139,(aek N).S true (Q9 N),Fx.u0 (aek N) ar Tryz.func139⟩
noncomputable def ael:Fx:=⟨15,tab,[],N,Tryz.f200,[.v cL,.fc I,.fc I],[.v B],[],none⟩
noncomputable def ajn:Kn Tryz.prog:=⟨200,(ael N).S true (Rb N),Fx.u0 (ael N) ar Tryz.func200⟩
noncomputable def FM:Fx:=⟨19,tab,Kn.l [ajn N],N,Tryz.f241,[.v cD,.fn 200 (.pair (.pair I .unit) (.pair (.pair I .unit) .unit))],[.v I],[⟨5,[(0,.v cD),(1,.fn 200 (.pair (.pair I .unit) (.pair (.pair I .unit) .unit))),(7,.v I),(8,.v I)],[1,0,1,0,0],[]⟩],none⟩
theorem YV(K ρ):(FM N).bd K ρ 5=nx.dI N ((FM N).kc ρ 5):=by kernel_rfl
theorem YW(ρ):(FM N).kc ((FM N).bp ρ) 5=nx.l2 N N:=Fx.uL [] (YV N) ρ (nx.l2 N) fun n ρ' e d=>by rw[e];rfl
theorem ajo(K):(FM N).top K=nx.b N ((FM N).kc K 5):=by kernel_rfl
noncomputable def ajp:Kn Tryz.prog:=⟨241,(FM N).S true (nx N),Fx.u1 (FM N) ar Tryz.func241 [5] (ajo N) (by rw[YW];rfl)⟩
noncomputable def aem:Fx:=⟨9,tab,Kn.l [ajp N],N,Tryz.f199,[.v cD,.fn 200 (.pair (.pair I .unit) (.pair (.pair I .unit) .unit))],[.v B],[],none⟩
noncomputable def ajq:Kn Tryz.prog:=⟨199,(aem N).S true (Yl N),Fx.u0 (aem N) ar Tryz.func199⟩
noncomputable def aen:Fx:=⟨10,tab,Kn.l [ajq N],N,Tryz.f140,[.v cD,.v I,.v I],[.v B],[],none⟩
noncomputable def ajr:Kn Tryz.prog:=⟨140,(aen N).S true (NO N),Fx.u0 (aen N) ar Tryz.func140⟩
noncomputable def WQ:Fx:=⟨44,tab,Kn.l [ajm N,ajr N],N,Tryz.f60,[.v cD],[.v B],[⟨5,[(0,.v cD),(5,.v cD),(6,.v I),(7,.v I)],[1,0,1,0,0],[]⟩],none⟩
theorem aeo(K ρ):(WQ N).bd K ρ 5=wo.dI N ((WQ N).kc ρ 5):=by kernel_rfl
theorem aep(ρ):(WQ N).kc ((WQ N).bp ρ) 5=wo.l2 N N:=Fx.uL [] (aeo N) ρ (wo.l2 N) fun n ρ' e d=>by rw[e];rfl
theorem h60(K):(WQ N).top K=wo.b N ((WQ N).kc K 5):=by kernel_rfl
noncomputable def k60:Kn Tryz.prog:=⟨60,(WQ N).S true (wo N),Fx.u1 (WQ N) ar Tryz.func60 [5] (h60 N) (by rw[aep];rfl)⟩
noncomputable def WR:Fx:=⟨41,tab,Kn.l [k60 N],N,Tryz.f52,[.v cD,.v I],[.v cL,.v B],[⟨11,[(1,.v I),(4,.obj cL),(6,.obj cL),(13,.v cD),(14,.v I),(15,.v I)],[1,1,1,0,1,0,0],[]⟩],none⟩
theorem YX(K ρ):(WR N).bd K ρ 11=ti.dn N ((WR N).kc ρ 11):=by kernel_rfl
theorem YY(ρ):(WR N).kc ((WR N).bp ρ) 11=ti.l5 N N:=Fx.uL [] (YX N) ρ (ti.l5 N) fun n ρ' e d=>by rw[e];rfl
theorem h52(K):(WR N).top K=ti.b N ((WR N).kc K 11):=by kernel_rfl
noncomputable def k52:Kn Tryz.prog:=⟨52,(WR N).S true (ti N),Fx.u1 (WR N) ar Tryz.func52 [11] (h52 N) (by rw[YY];rfl)⟩
noncomputable def aeq:Fx:=⟨15,tab,[],N,Tryz.f150,[.v I,.v I,.v I],[.v B],[],none⟩
noncomputable def ajt:Kn Tryz.prog:=⟨150,(aeq N).S true (w4 N),Fx.u0 (aeq N) ar Tryz.func150⟩
noncomputable def WS:Fx:=⟨68,tab,Kn.l [ajt N],N,Tryz.f75,[.v an],[.v B],[⟨9,[(1,.obj an),(11,.v cD),(12,.v I),(13,.v I)],[1,1,0,1,0,0],[]⟩],none⟩
theorem aer(K ρ):(WS N).bd K ρ 9=vj.ca N ((WS N).kc ρ 9):=by kernel_rfl
theorem aes(ρ):(WS N).kc ((WS N).bp ρ) 9=vj.l4 N N:=Fx.uL [] (aer N) ρ (vj.l4 N) fun n ρ' e d=>by rw[e];rfl
theorem h75(K):(WS N).top K=vj.b N ((WS N).kc K 9):=by kernel_rfl
noncomputable def k75:Kn Tryz.prog:=⟨75,(WS N).S true (vj N),Fx.u1 (WS N) ar Tryz.func75 [9] (h75 N) (by rw[aes];rfl)⟩
noncomputable def FN:Fx:=⟨46,tab,[],N,Tryz.f144,[.v cj],[.v B],[⟨5,[(0,.v cj),(5,.v cj),(6,.v I),(7,.v I)],[1,0,1,0,0],[]⟩],none⟩
theorem YZ(K ρ):(FN N).bd K ρ 5=ko.dI N ((FN N).kc ρ 5):=by kernel_rfl
theorem Y0(ρ):(FN N).kc ((FN N).bp ρ) 5=ko.l2 N N:=Fx.uL [] (YZ N) ρ (ko.l2 N) fun n ρ' e d=>by rw[e];rfl
theorem ajv(K):(FN N).top K=ko.b N ((FN N).kc K 5):=by kernel_rfl
noncomputable def aet:Kn Tryz.prog:=⟨144,(FN N).S true (ko N),Fx.u1 (FN N) ar Tryz.func144 [5] (ajv N) (by rw[Y0];rfl)⟩
noncomputable def FO:Fx:=⟨77,tab,[],N,Tryz.f143,[.v cD],[.v B],[⟨7,[(0,.v cD),(3,.obj (.arr 13 B)),(6,.v cD),(7,.v I),(8,.v I)],[1,1,0,1,0,0],[]⟩],none⟩
theorem Y1(K ρ):(FO N).bd K ρ 7=iq.ig N ((FO N).kc ρ 7):=by kernel_rfl
theorem Y2(ρ):(FO N).kc ((FO N).bp ρ) 7=iq.l3 N N:=Fx.uL [] (Y1 N) ρ (iq.l3 N) fun n ρ' e d=>by rw[e];rfl
theorem ajw(K):(FO N).top K=iq.b N ((FO N).kc K 7):=by kernel_rfl
noncomputable def Y3:Kn Tryz.prog:=⟨143,(FO N).S true (iq N),Fx.u1 (FO N) ar Tryz.func143 [7] (ajw N) (by rw[Y2];rfl)⟩
noncomputable def WT:Fx:=⟨23,tab,Kn.l [aet N],N,Tryz.f63,[.v cj,.v I],[.v I],[⟨9,[(1,.v I),(10,.v cj),(11,.v I),(12,.v I)],[1,1,0,1,0,0],[]⟩],none⟩
theorem aeu(K ρ):(WT N).bd K ρ 9=ub.ca N ((WT N).kc ρ 9):=by kernel_rfl
theorem aev(ρ):(WT N).kc ((WT N).bp ρ) 9=ub.l4 N N:=Fx.uL [] (aeu N) ρ (ub.l4 N) fun n ρ' e d=>by rw[e];rfl
theorem Wj(K):(WT N).top K=ub.b N ((WT N).kc K 9):=by kernel_rfl
noncomputable def k63:Kn Tryz.prog:=⟨63,(WT N).S true (ub N),Fx.u1 (WT N) ar Tryz.func63 [9] (Wj N) (by rw[aev];rfl)⟩
noncomputable def WU:Fx:=⟨27,tab,Kn.l [aet N,Y3 N,k63 N],N,Tryz.f76,[.v cj,.v cD],[.v B],[⟨9,[(0,.v cj),(15,.v cD),(16,.v I),(17,.v I)],[1,1,0,1,0,0],[]⟩],none⟩
theorem aew(K ρ):(WU N).bd K ρ 9=w8.ca N ((WU N).kc ρ 9):=by kernel_rfl
theorem aex(ρ):(WU N).kc ((WU N).bp ρ) 9=w8.l4 N N:=Fx.uL [] (aew N) ρ (w8.l4 N) fun n ρ' e d=>by rw[e];rfl
theorem h76(K):(WU N).top K=w8.b N ((WU N).kc K 9):=by kernel_rfl
noncomputable def k76:Kn Tryz.prog:=⟨76,(WU N).S true (w8 N),Fx.u1 (WU N) ar Tryz.func76 [9] (h76 N) (by rw[aex];rfl)⟩
noncomputable def aey:Fx:=⟨30,tab,[],N,Tryz.f151,[.v I,.v I],[.v B],[],none⟩
noncomputable def aez:Kn Tryz.prog:=⟨151,(aey N).S true (HC N),Fx.u0 (aey N) ar Tryz.func151⟩
noncomputable def aeA:Fx:=⟨19,tab,[],N,Tryz.f152,[.v I,.v I,.v fN],[.v I],[],none⟩
noncomputable def aeB:Kn Tryz.prog:=⟨152,(aeA N).S true (HE N),Fx.u0 (aeA N) ar Tryz.func152⟩
noncomputable def WV:Fx:=⟨41,tab,Kn.l [aez N,aeB N],N,Tryz.f77,[.v bK],[.v B],[⟨5,[(0,.v bK),(5,.v bK),(6,.v I),(7,.v I)],[1,0,1,0,0],[]⟩],none⟩
theorem aeC(K ρ):(WV N).bd K ρ 5=vl.dI N ((WV N).kc ρ 5):=by kernel_rfl
theorem aeD(ρ):(WV N).kc ((WV N).bp ρ) 5=vl.l2 N N:=Fx.uL [] (aeC N) ρ (vl.l2 N) fun n ρ' e d=>by rw[e];rfl
theorem h77(K):(WV N).top K=vl.b N ((WV N).kc K 5):=by kernel_rfl
noncomputable def k77:Kn Tryz.prog:=⟨77,(WV N).S true (vl N),Fx.u1 (WV N) ar Tryz.func77 [5] (h77 N) (by rw[aeD];rfl)⟩
noncomputable def X64:Fx:=⟨8,tab,[],N,Tryz.f64,[.v I],[.v gJ],[],none⟩
noncomputable def k64:Kn Tryz.prog:=⟨64,(X64 N).S true (NB N),Fx.u0 (X64 N) ar Tryz.func64⟩
noncomputable def FP:Fx:=⟨51,tab,Kn.l [YU N],N,Tryz.f153,[.v IG],[.v gJ,.v B],[⟨7,[(2,.obj gJ),(4,.v I),(5,.v U),(6,.v U),(10,.v IG),(11,.v I),(12,.v I)],[1,1,0,1,0,0],[]⟩],none⟩
theorem Y4(K ρ):(FP N).bd K ρ 7=jb.ig N ((FP N).kc ρ 7):=by kernel_rfl
theorem Y5(ρ):(FP N).kc ((FP N).bp ρ) 7=jb.l3 N N:=Fx.uL [] (Y4 N) ρ (jb.l3 N) fun n ρ' e d=>by rw[e];rfl
theorem ajz(K):(FP N).top K=jb.b N ((FP N).kc K 7):=by kernel_rfl
noncomputable def PA:Kn Tryz.prog:=⟨153,(FP N).S true (jb N),Fx.u1 (FP N) ar Tryz.func153 [7] (ajz N) (by rw[Y5];rfl)⟩
noncomputable def WW:Fx:=⟨31,tab,Kn.l [k77 N,k64 N,PA N],N,Tryz.f79,[.v bK],[.v gJ],[⟨11,[(2,.obj gJ),(3,.own gJ),(12,.v bK),(13,.v I),(14,.v I)],[1,1,1,0,1,0,0],[]⟩],none⟩
theorem Y6(K ρ):(WW N).bd K ρ 11=wm.dn N ((WW N).kc ρ 11):=by kernel_rfl
theorem Y7(ρ):(WW N).kc ((WW N).bp ρ) 11=wm.l5 N N:=Fx.uL [] (Y6 N) ρ (wm.l5 N) fun n ρ' e d=>by rw[e];rfl
theorem h79(K):(WW N).top K=wm.b N ((WW N).kc K 11):=by kernel_rfl
noncomputable def k79:Kn Tryz.prog:=⟨79,(WW N).S true (wm N),Fx.u1 (WW N) ar Tryz.func79 [11] (h79 N) (by rw[Y7];rfl)⟩
noncomputable def aeE:Fx:=⟨27,tab,[],N,Tryz.f111,[.v gJ,.v gJ],[.v I],[],none⟩
noncomputable def ajA:Kn Tryz.prog:=⟨111,(aeE N).S true (Q2 N),Fx.u0 (aeE N) ar Tryz.func111⟩
noncomputable def X78:Fx:=⟨6,tab,Kn.l [ajA N],N,Tryz.f78,[.v gJ],[.v I],[],none⟩
noncomputable def k78:Kn Tryz.prog:=⟨78,(X78 N).S true (Yj N),Fx.u0 (X78 N) ar Tryz.func78⟩
noncomputable def aeF:Fx:=⟨19,tab,[],N,Tryz.f207,[.v I,.v I],[.v B],[],none⟩
noncomputable def aeG:Kn Tryz.prog:=⟨207,(aeF N).S true (ND N),Fx.u0 (aeF N) ar Tryz.func207⟩
noncomputable def aeH:Fx:=⟨5,tab,[],N,Tryz.f198,[.v I],[.v B],[],none⟩
noncomputable def Y8:Kn Tryz.prog:=⟨198,(aeH N).S true (HG N),Fx.u0 (aeH N) ar Tryz.func198⟩
noncomputable def aeI:Fx:=⟨19,tab,[],N,Tryz.f209,[.v I,.v I,.v fN],[.v I],[],none⟩
noncomputable def aeJ:Kn Tryz.prog:=⟨209,(aeI N).S true (KT N),Fx.u0 (aeI N) ar Tryz.func209⟩
noncomputable def FQ:Fx:=⟨47,tab,Kn.l [aeG N,Y8 N,aeJ N],N,Tryz.f155,[.v bK],[.v B],[⟨5,[(0,.v bK),(5,.v bK),(6,.v I),(7,.v I)],[1,0,1,0,0],[]⟩],none⟩
theorem Y9(K ρ):(FQ N).bd K ρ 5=jJ.dI N ((FQ N).kc ρ 5):=by kernel_rfl
theorem Za(ρ):(FQ N).kc ((FQ N).bp ρ) 5=jJ.l2 N N:=Fx.uL [] (Y9 N) ρ (jJ.l2 N) fun n ρ' e d=>by rw[e];rfl
theorem ajB(K):(FQ N).top K=jJ.b N ((FQ N).kc K 5):=by kernel_rfl
noncomputable def Zb:Kn Tryz.prog:=⟨155,(FQ N).S true (jJ N),Fx.u1 (FQ N) ar Tryz.func155 [5] (ajB N) (by rw[Za];rfl)⟩
noncomputable def FR:Fx:=⟨37,tab,Kn.l [Zb N,k64 N,PA N],N,Tryz.f154,[.v bK,.v I],[.v gJ],[⟨11,[(1,.v I),(4,.obj gJ),(5,.own gJ),(14,.v bK),(15,.v I),(16,.v I)],[1,1,1,0,1,0,0],[]⟩],none⟩
theorem Sn(K ρ):(FR N).bd K ρ 11=kt.dn N ((FR N).kc ρ 11):=by kernel_rfl
theorem So(ρ):(FR N).kc ((FR N).bp ρ) 11=kt.l5 N N:=Fx.uL [] (Sn N) ρ (kt.l5 N) fun n ρ' e d=>by rw[e];rfl
theorem ajC(K):(FR N).top K=kt.b N ((FR N).kc K 11):=by kernel_rfl
noncomputable def ajD:Kn Tryz.prog:=⟨154,(FR N).S true (kt N),Fx.u1 (FR N) ar Tryz.func154 [11] (ajC N) (by rw[So];rfl)⟩
noncomputable def WX:Fx:=⟨15,tab,Kn.l [ajD N,k78 N,Zb N],N,Tryz.f80,[.v bK],[.v B],[⟨5,[(0,.v bK),(4,.v I)],[1,0,1,0,0],[]⟩],none⟩
theorem aeK(K ρ):(WX N).bd K ρ 5=w9.dI N ((WX N).kc ρ 5):=by kernel_rfl
theorem aeL(ρ):(WX N).kc ((WX N).bp ρ) 5=w9.l2 N N:=Fx.uL [] (aeK N) ρ (w9.l2 N) fun n ρ' e d=>by rw[e];rfl
theorem h80(K):(WX N).top K=w9.b N ((WX N).kc K 5):=by kernel_rfl
noncomputable def k80:Kn Tryz.prog:=⟨80,(WX N).S true (w9 N),Fx.u1 (WX N) ar Tryz.func80 [5] (h80 N) (by rw[aeL];rfl)⟩
noncomputable def aeM:Fx:=⟨61,tab,[],N,Tryz.f118,[.v jv],[.v B],[],none⟩
noncomputable def ajE:Kn Tryz.prog:=⟨118,(aeM N).S true (QY N),Fx.u0 (aeM N) ar Tryz.func118⟩
noncomputable def WY:Fx:=⟨34,tab,Kn.l [ajE N],N,Tryz.f81,[.v kU],[.v B],[⟨5,[(0,.v kU),(5,.v kU),(6,.v I),(7,.v I)],[1,0,1,0,0],[]⟩],none⟩
theorem aeN(K ρ):(WY N).bd K ρ 5=w7.dI N ((WY N).kc ρ 5):=by kernel_rfl
theorem aeO(ρ):(WY N).kc ((WY N).bp ρ) 5=w7.l2 N N:=Fx.uL [] (aeN N) ρ (w7.l2 N) fun n ρ' e d=>by rw[e];rfl
theorem h81(K):(WY N).top K=w7.b N ((WY N).kc K 5):=by kernel_rfl
noncomputable def k81:Kn Tryz.prog:=⟨81,(WY N).S true (w7 N),Fx.u1 (WY N) ar Tryz.func81 [5] (h81 N) (by rw[aeO];rfl)⟩
noncomputable def FT:Fx:=⟨25,tab,Kn.l [Y3 N],N,Tryz.f119,[.v cD,.v I],[.v cL,.v B],[⟨9,[(1,.v I),(4,.obj cL),(12,.v cD),(13,.v I),(14,.v I)],[1,1,0,1,0,0],[]⟩],none⟩
theorem Zc(K ρ):(FT N).bd K ρ 9=kp.ca N ((FT N).kc ρ 9):=by kernel_rfl
theorem Zd(ρ):(FT N).kc ((FT N).bp ρ) 9=kp.l4 N N:=Fx.uL [] (Zc N) ρ (kp.l4 N) fun n ρ' e d=>by rw[e];rfl
theorem ajF(K):(FT N).top K=kp.b N ((FT N).kc K 9):=by kernel_rfl
noncomputable def ajG:Kn Tryz.prog:=⟨119,(FT N).S true (kp N),Fx.u1 (FT N) ar Tryz.func119 [9] (ajF N) (by rw[Zd];rfl)⟩
noncomputable def X82:Fx:=⟨15,tab,Kn.l [ajG N],N,Tryz.f82,[.v aC,.v I],[.v B],[],none⟩
noncomputable def k82:Kn Tryz.prog:=⟨82,(X82 N).S true (F82 N),Fx.u0 (X82 N) ar Tryz.func82⟩
noncomputable def X85:Fx:=⟨9,tab,[],N,Tryz.f85,[.v I],[.v B],[],none⟩
noncomputable def k85:Kn Tryz.prog:=⟨85,(X85 N).S true (F85 N),Fx.u0 (X85 N) ar Tryz.func85⟩
noncomputable def X84:Fx:=⟨6,tab,Kn.l [k85 N],N,Tryz.f84,[.v I],[.v B],[],none⟩
noncomputable def k84:Kn Tryz.prog:=⟨84,(X84 N).S true (F84 N),Fx.u0 (X84 N) ar Tryz.func84⟩
noncomputable def FU:Fx:=⟨19,tab,Kn.l [k84 N],N,Tryz.f156,[.v LI,.fn 84 .unit],[.v I],[⟨5,[(0,.v LI),(1,.fn 84 .unit),(7,.v I),(8,.v I)],[1,0,1,0,0],[]⟩],none⟩
theorem Ze(K ρ):(FU N).bd K ρ 5=nw.dI N ((FU N).kc ρ 5):=by kernel_rfl
theorem Zf(ρ):(FU N).kc ((FU N).bp ρ) 5=nw.l2 N N:=Fx.uL [] (Ze N) ρ (nw.l2 N) fun n ρ' e d=>by rw[e];rfl
theorem ajH(K):(FU N).top K=nw.b N ((FU N).kc K 5):=by kernel_rfl
noncomputable def ajI:Kn Tryz.prog:=⟨156,(FU N).S true (nw N),Fx.u1 (FU N) ar Tryz.func156 [5] (ajH N) (by rw[Zf];rfl)⟩
noncomputable def X83:Fx:=⟨9,tab,Kn.l [ajI N],N,Tryz.f83,[.v LI,.fn 84 .unit],[.v B],[],none⟩
noncomputable def k83:Kn Tryz.prog:=⟨83,(X83 N).S true (F83 N),Fx.u0 (X83 N) ar Tryz.func83⟩
noncomputable def Dh:Fx:=⟨133,tab,Kn.l [k75 N,k76 N,k77 N,k79 N,k78 N,k80 N,k81 N,k82 N,k63 N,k83 N],N,Tryz.f25,[.v an,.v aC],[.v B],[⟨45,[(2,.obj an),(3,.obj aC),(109,.v kU),(110,.v I),(111,.v I)],[1,1,1,1,0,1,0,0],[]⟩,⟨33,[(2,.obj an),(3,.obj aC),(83,.v bK),(84,.v I),(85,.v I)],[1,1,1,0,1,0,0],[]⟩,⟨9,[(2,.obj an),(3,.obj aC),(57,.v bK),(58,.v I),(59,.v I)],[1,1,0,1,0,0],[]⟩],none⟩
theorem Zg(K ρ):(Dh N).bd K ρ 45=g9.pq N ((Dh N).kc ρ 45):=by kernel_rfl
theorem Zh(ρ):(Dh N).kc ((Dh N).bp ρ) 45=g9.qc N N:=Fx.uL [] (Zg N) ρ (g9.qc N) fun n ρ' e d=>by rw[e];rfl
theorem Zi(K ρ):(Dh N).bd K ρ 33=g9.qM N ((Dh N).kc K 45) ((Dh N).kc ρ 33):=by kernel_rfl
theorem Zj(ρ):(Dh N).kc ((Dh N).bp ρ) 33=g9.rP N N:=Fx.uL [45] (Zi N) ρ (g9.rP N) fun n ρ' e d=>by rw[Zh,e];rfl
theorem aeP(K ρ):(Dh N).bd K ρ 9=g9.ca N ((Dh N).kc K 33) ((Dh N).kc ρ 9):=by kernel_rfl
theorem aeQ(ρ):(Dh N).kc ((Dh N).bp ρ) 9=g9.l4 N N:=Fx.uL [33,45] (aeP N) ρ (g9.l4 N) fun n ρ' e d=>by rw[Zj,e];rfl
theorem h25(K):(Dh N).top K=g9.b N ((Dh N).kc K 9):=by kernel_rfl
noncomputable def k25:Kn Tryz.prog:=⟨25,(Dh N).S true (g9 N),Fx.u1 (Dh N) ar Tryz.func25 [9,33,45] (h25 N) (by rw[aeQ];rfl)⟩
noncomputable def FV:Fx:=⟨54,tab,Kn.l [Y8 N,k75 N],N,Tryz.f138,[.v an,.v cj],[.v B],[⟨5,[(1,.v cj),(2,.obj an),(7,.v cj),(8,.v I),(9,.v I)],[1,0,1,0,0],[]⟩],none⟩
theorem Zk(K ρ):(FV N).bd K ρ 5=kz.dI N ((FV N).kc ρ 5):=by kernel_rfl
theorem Zl(ρ):(FV N).kc ((FV N).bp ρ) 5=kz.l2 N N:=Fx.uL [] (Zk N) ρ (kz.l2 N) fun n ρ' e d=>by rw[e];rfl
theorem ajJ(K):(FV N).top K=kz.b N ((FV N).kc K 5):=by kernel_rfl
noncomputable def ajK:Kn Tryz.prog:=⟨138,(FV N).S true (kz N),Fx.u1 (FV N) ar Tryz.func138 [5] (ajJ N) (by rw[Zl];rfl)⟩
noncomputable def J4:Fx:=⟨97,tab,Kn.l [k75 N,ajK N],N,Tryz.f59,[.v an,.v dm],[.v B],[⟨16,[(1,.v dm),(2,.obj an),(6,.obj dM),(15,.v dm),(16,.v I),(17,.v I)],[1,1,0,1,0,0,1,1,0,0,1,1],[9]⟩,⟨9,[(1,.v dm),(2,.obj an),(15,.v dm),(16,.v I),(17,.v I)],[1,1,0,1,0,0],[]⟩],none⟩
theorem Zm(K ρ):(J4 N).bd K ρ 16=pZ.HW N ((J4 N).kc ρ 9):=by kernel_rfl
theorem Zn(ρ):(J4 N).kc ((J4 N).bp ρ) 16=pZ.j8 N ((J4 N).kc ρ 9):=Fx.uJ [] (Zm N) ρ
theorem aeR(K ρ):(J4 N).bd K ρ 9=pZ.ca N ((J4 N).kc K 16) ((J4 N).kc ρ 9):=by kernel_rfl
theorem aeS(ρ):(J4 N).kc ((J4 N).bp ρ) 9=pZ.l4 N N:=Fx.uL [16] (aeR N) ρ (pZ.l4 N) fun n ρ' e d=>by rw[Zn,e];rfl
theorem h59(K):(J4 N).top K=pZ.b N ((J4 N).kc K 9):=by kernel_rfl
noncomputable def k59:Kn Tryz.prog:=⟨59,(J4 N).S true (pZ N),Fx.u1 (J4 N) ar Tryz.func59 [9] (h59 N) (by rw[aeS];rfl)⟩
noncomputable def WZ:Fx:=⟨24,tab,Kn.l [Pr N,Ps N],N,Tryz.f61,[.v dm],[.own dM],[⟨7,[(3,.own dM),(8,.v I),(9,.v I)],[1,1,0,1,0,0],[]⟩],none⟩
theorem aeT(K ρ):(WZ N).bd K ρ 7=xc.ig N ((WZ N).kc ρ 7):=by kernel_rfl
theorem aeU(ρ):(WZ N).kc ((WZ N).bp ρ) 7=xc.l3 N N:=Fx.uL [] (aeT N) ρ (xc.l3 N) fun n ρ' e d=>by rw[e];rfl
theorem h61(K):(WZ N).top K=xc.b N ((WZ N).kc K 7):=by kernel_rfl
noncomputable def k61:Kn Tryz.prog:=⟨61,(WZ N).S false (xc N),Fx.u1 (WZ N) ar Tryz.func61 [7] (h61 N) (by rw[aeU];rfl)⟩
noncomputable def W0:Fx:=⟨28,tab,Kn.l [Y3 N],N,Tryz.f62,[.v cD,.v I],[.v I],[⟨9,[(1,.v I),(10,.v cD),(11,.v I),(12,.v I)],[1,1,0,1,0,0],[]⟩],none⟩
theorem aeV(K ρ):(W0 N).bd K ρ 9=wk.ca N ((W0 N).kc ρ 9):=by kernel_rfl
theorem aeW(ρ):(W0 N).kc ((W0 N).bp ρ) 9=wk.l4 N N:=Fx.uL [] (aeV N) ρ (wk.l4 N) fun n ρ' e d=>by rw[e];rfl
theorem h62(K):(W0 N).top K=wk.b N ((W0 N).kc K 9):=by kernel_rfl
noncomputable def k62:Kn Tryz.prog:=⟨62,(W0 N).S true (wk N),Fx.u1 (W0 N) ar Tryz.func62 [9] (h62 N) (by rw[aeW];rfl)⟩
noncomputable def aeX:Fx:=⟨22,tab,Kn.l [Pu N,Pv N,FF N,FH N,Pw N,Px N],N,Tryz.f145,[.v aC],[.v aC],[],none⟩
noncomputable def ajL:Kn Tryz.prog:=⟨145,(aeX N).S false (Rp N),Fx.u0 (aeX N) ar Tryz.func145⟩
noncomputable def rS:Fx:=⟨42,tab,Kn.l [k64 N,PA N,k78 N],N,Tryz.f208,[.v bK],[.v B],[⟨13,[(0,.v bK),(3,.v I),(4,.own gJ),(9,.v I),(12,.v bK),(13,.v I),(14,.v I)],[1,0,1,0,0,1,1,0,0,1,1,0,1,0,0],[5]⟩,⟨5,[(0,.v bK),(9,.v I)],[1,0,1,0,0],[]⟩],none⟩
theorem Sp(K ρ):(rS N).bd K ρ 13=dW.mg N ((rS N).kc ρ 5) ((rS N).kc ρ 13):=by kernel_rfl
theorem Sq(ρ):(rS N).kc ((rS N).bp ρ) 13=dW.l6 N ((rS N).kc ρ 5) N:=Fx.uL [] (Sp N) ρ (dW.l6 N ((rS N).kc ρ 5)) fun n ρ' e d=>by rw[e,d 5 rfl];rfl
theorem Zo(K ρ):(rS N).bd K ρ 5=dW.dI N ((rS N).kc K 13) ((rS N).kc ρ 5):=by kernel_rfl
theorem Zp(ρ):(rS N).kc ((rS N).bp ρ) 5=dW.l2 N N:=Fx.uL [13] (Zo N) ρ (dW.l2 N) fun n ρ' e d=>by rw[Sq,e];rfl
theorem ajM(K):(rS N).top K=dW.b N ((rS N).kc K 5):=by kernel_rfl
noncomputable def ajN:Kn Tryz.prog:=⟨208,(rS N).S true (dW N),Fx.u1 (rS N) ar Tryz.func208 [5] (ajM N) (by rw[Zp];rfl)⟩
noncomputable def aeY:Fx:=⟨14,tab,[],N,Tryz.f114,[.v gJ],[.v I,.v B],[],none⟩
noncomputable def aeZ:Kn Tryz.prog:=⟨114,(aeY N).S true (Hy N),Fx.u0 (aeY N) ar Tryz.func114⟩
noncomputable def ae0:Fx:=⟨9,tab,[],N,Tryz.f211,[.v bK],[.v bK],[],none⟩
noncomputable def ajO:Kn Tryz.prog:=⟨211,(ae0 N).S false (Rc N),Fx.u0 (ae0 N) ar Tryz.func211⟩
noncomputable def fa:Fx:=⟨173,tab,Kn.l [Zb N,aeG N,Y8 N,ajN N,FH N,aeJ N,Py N,k64 N,PA N,aeZ N,ajO N],N,Tryz.f146,[.v bK,.v bK],[.v bK,.v I],[⟨36,[(1,.v bK),(8,.own fN),(10,.obj fN),(11,.v I),(54,.v bK),(55,.v I),(56,.v I)],[1,1,1,1,1,0,1,0,0,1,1,0,0,1,1,1],[27]⟩,⟨33,[(1,.v bK),(8,.own fN),(10,.obj fN),(11,.v I),(54,.v bK),(55,.v I),(56,.v I)],[1,1,1,1,1,0,1,0,0,1,1,0,0,1,1,0,0,0],[27]⟩,⟨55,[(1,.v bK),(12,.own fN),(14,.obj fN),(15,.own gJ),(107,.own fN),(108,.v I),(109,.v I),(117,.v bK),(118,.v I),(119,.v I)],[1,1,1,1,1,1,1,0,1,0,0,1,1,0,0,1,1,0,1,0,0],[47]⟩,⟨47,[(1,.v bK),(12,.own fN),(107,.own fN),(108,.v I),(109,.v I)],[1,1,1,1,1,1,1,0,1,0,0],[]⟩,⟨27,[(1,.v bK),(8,.own fN),(54,.v bK),(55,.v I),(56,.v I)],[1,1,1,1,1,0,1,0,0],[]⟩,⟨9,[(0,.v bK),(1,.v bK),(30,.v bK),(31,.v I),(32,.v I)],[1,1,0,1,0,0],[]⟩],none⟩
theorem Sr(K ρ):(fa N).bd K ρ 36=bt.Ym N ((fa N).kc ρ 27):=by kernel_rfl
theorem Ss(ρ):(fa N).kc ((fa N).bp ρ) 36=bt.j18 N ((fa N).kc ρ 27):=Fx.uJ [47] (Sr N) ρ
theorem Su(K ρ):(fa N).bd K ρ 33=bt.qM N ((fa N).kc K 36) ((fa N).kc ρ 27) ((fa N).kc ρ 33):=by kernel_rfl
theorem Sv(ρ):(fa N).kc ((fa N).bp ρ) 33=bt.rP N ((fa N).kc ρ 27) N:=Fx.uL [47,36] (Su N) ρ (bt.rP N ((fa N).kc ρ 27)) fun n ρ' e d=>by rw[Ss,e,d 27 rfl];rfl
theorem Sw(K ρ):(fa N).bd K ρ 55=bt.Re N ((fa N).kc ρ 47) ((fa N).kc ρ 55):=by kernel_rfl
theorem Sx(ρ):(fa N).kc ((fa N).bp ρ) 55=bt.Wv N ((fa N).kc ρ 47) N:=Fx.uL [] (Sw N) ρ (bt.Wv N ((fa N).kc ρ 47)) fun n ρ' e d=>by rw[e,d 47 rfl];rfl
theorem Sy(K ρ):(fa N).bd K ρ 47=bt.Rg N ((fa N).kc K 55) ((fa N).kc ρ 47):=by kernel_rfl
theorem Sz(ρ):(fa N).kc ((fa N).bp ρ) 47=bt.Rf N N:=Fx.uL [55] (Sy N) ρ (bt.Rf N) fun n ρ' e d=>by rw[Sx,e];rfl
theorem SA(K ρ):(fa N).bd K ρ 27=bt.lN N ((fa N).kc K 33) ((fa N).kc K 47) ((fa N).kc ρ 27):=by kernel_rfl
theorem SB(ρ):(fa N).kc ((fa N).bp ρ) 27=bt.nV N N:=Fx.uL [47,33,36] (SA N) ρ (bt.nV N) fun n ρ' e d=>by rw[Sv,Sz,e];rfl
theorem Zq(K ρ):(fa N).bd K ρ 9=bt.ca N ((fa N).kc K 27) ((fa N).kc ρ 9):=by kernel_rfl
theorem Zr(ρ):(fa N).kc ((fa N).bp ρ) 9=bt.l4 N N:=Fx.uL [27,47] (Zq N) ρ (bt.l4 N) fun n ρ' e d=>by rw[SB,e];rfl
theorem ajP(K):(fa N).top K=bt.b N ((fa N).kc K 9):=by kernel_rfl
noncomputable def ajQ:Kn Tryz.prog:=⟨146,(fa N).S false (bt N),Fx.u1 (fa N) ar Tryz.func146 [9,27,47] (ajP N) (by rw[Zr];rfl)⟩
noncomputable def ae1:Fx:=⟨9,tab,[],N,Tryz.f213,[.v bK],[.v bK],[],none⟩
noncomputable def ajR:Kn Tryz.prog:=⟨213,(ae1 N).S false (Yo N),Fx.u0 (ae1 N) ar Tryz.func213⟩
noncomputable def fb:Fx:=⟨185,tab,Kn.l [k77 N,aez N,PA N,k78 N,FF N,aeB N,Pz N,k64 N,aeZ N,ajR N],N,Tryz.f147,[.v bK,.v fK],[.v bK,.v I],[⟨42,[(1,.v fK),(11,.own fN),(13,.obj qX),(14,.v I),(68,.v fK),(69,.v I),(70,.v I)],[1,1,1,1,1,1,0,1,0,0,1,1,0,0,1,1,1],[33]⟩,⟨39,[(1,.v fK),(11,.own fN),(13,.obj qX),(14,.v I),(68,.v fK),(69,.v I),(70,.v I)],[1,1,1,1,1,1,0,1,0,0,1,1,0,0,1,1,0,0,0],[33]⟩,⟨61,[(1,.v fK),(15,.own fN),(17,.obj fN),(18,.own gJ),(121,.own fN),(122,.v I),(123,.v I),(131,.v fK),(132,.v I),(133,.v I)],[1,1,1,1,1,1,1,1,0,1,0,0,1,1,0,0,1,1,0,1,0,0],[53]⟩,⟨53,[(1,.v fK),(15,.own fN),(121,.own fN),(122,.v I),(123,.v I)],[1,1,1,1,1,1,1,1,0,1,0,0],[]⟩,⟨33,[(1,.v fK),(11,.own fN),(68,.v fK),(69,.v I),(70,.v I)],[1,1,1,1,1,1,0,1,0,0],[]⟩,⟨11,[(0,.v bK),(1,.v fK),(6,.own gJ),(36,.v fK),(37,.v I),(38,.v I)],[1,1,1,0,1,0,0],[]⟩],none⟩
theorem SC(K ρ):(fb N).bd K ρ 42=bu.Yp N ((fb N).kc ρ 33):=by kernel_rfl
theorem SD(ρ):(fb N).kc ((fb N).bp ρ) 42=bu.j21 N ((fb N).kc ρ 33):=Fx.uJ [53] (SC N) ρ
theorem SE(K ρ):(fb N).bd K ρ 39=bu.HU N ((fb N).kc K 42) ((fb N).kc ρ 33) ((fb N).kc ρ 39):=by kernel_rfl
theorem SF(ρ):(fb N).kc ((fb N).bp ρ) 39=bu.K9 N ((fb N).kc ρ 33) N:=Fx.uL [53,42] (SE N) ρ (bu.K9 N ((fb N).kc ρ 33)) fun n ρ' e d=>by rw[SD,e,d 33 rfl];rfl
theorem SG(K ρ):(fb N).bd K ρ 61=bu.EB N ((fb N).kc ρ 53) ((fb N).kc ρ 61):=by kernel_rfl
theorem SH(ρ):(fb N).kc ((fb N).bp ρ) 61=bu.HT N ((fb N).kc ρ 53) N:=Fx.uL [] (SG N) ρ (bu.HT N ((fb N).kc ρ 53)) fun n ρ' e d=>by rw[e,d 53 rfl];rfl
theorem SI(K ρ):(fb N).bd K ρ 53=bu.Rk N ((fb N).kc K 61) ((fb N).kc ρ 53):=by kernel_rfl
theorem SJ(ρ):(fb N).kc ((fb N).bp ρ) 53=bu.Rj N N:=Fx.uL [61] (SI N) ρ (bu.Rj N) fun n ρ' e d=>by rw[SH,e];rfl
theorem SK(K ρ):(fb N).bd K ρ 33=bu.qM N ((fb N).kc K 39) ((fb N).kc K 53) ((fb N).kc ρ 33):=by kernel_rfl
theorem SL(ρ):(fb N).kc ((fb N).bp ρ) 33=bu.rP N N:=Fx.uL [53,39,42] (SK N) ρ (bu.rP N) fun n ρ' e d=>by rw[SF,SJ,e];rfl
theorem SM(K ρ):(fb N).bd K ρ 11=bu.dn N ((fb N).kc K 33) ((fb N).kc ρ 11):=by kernel_rfl
theorem SN(ρ):(fb N).kc ((fb N).bp ρ) 11=bu.l5 N N:=Fx.uL [33,53] (SM N) ρ (bu.l5 N) fun n ρ' e d=>by rw[SL,e];rfl
theorem ajS(K):(fb N).top K=bu.b N ((fb N).kc K 11):=by kernel_rfl
noncomputable def ajT:Kn Tryz.prog:=⟨147,(fb N).S false (bu N),Fx.u1 (fb N) ar Tryz.func147 [11,33,53] (ajS N) (by rw[SN];rfl)⟩
noncomputable def X65:Fx:=⟨37,tab,Kn.l [ajL N,ajQ N,ajT N],N,Tryz.f65,[.v aC,.v bK,.v fK],[.v aC,.v I],[],none⟩
noncomputable def k65:Kn Tryz.prog:=⟨65,(X65 N).S false (F65 N),Fx.u0 (X65 N) ar Tryz.func65⟩
noncomputable def G7:Fx:=⟨146,tab,Kn.l [k25 N,k59 N,k60 N,k61 N,k52 N,k62 N,k63 N,k64 N,k65 N],N,Tryz.f16,[.v an,.v aC,.v dm,.v cD],[.v aC,.own dM,.v I],[⟨37,[(3,.v cD),(5,.obj aC),(8,.obj aC),(11,.own dM),(12,.own fN),(13,.own qX),(16,.obj cL),(18,.v I),(41,.v dm),(42,.v I),(43,.v I),(97,.v cj),(98,.v I),(99,.v I)],[1,0,1,1,1,1,1,0,1,0,0,1,1,0,0,1,1,1,1,1,1,1,0,1,0,0],[15]⟩,⟨15,[(3,.v cD),(5,.obj aC),(8,.obj aC),(11,.own dM),(12,.own fN),(13,.own qX),(41,.v dm),(42,.v I),(43,.v I)],[1,0,1,1,1,1,1,0,1,0,0],[]⟩],none⟩
theorem Zs(K ρ):(G7 N).bd K ρ 37=lP.rQ N ((G7 N).kc ρ 15) ((G7 N).kc ρ 37):=by kernel_rfl
theorem Zt(ρ):(G7 N).kc ((G7 N).bp ρ) 37=lP.uB N ((G7 N).kc ρ 15) N:=Fx.uL [] (Zs N) ρ (lP.uB N ((G7 N).kc ρ 15)) fun n ρ' e d=>by rw[e,d 15 rfl];rfl
theorem Zu(K ρ):(G7 N).bd K ρ 15=lP.lD N ((G7 N).kc K 37) ((G7 N).kc ρ 15):=by kernel_rfl
theorem Zv(ρ):(G7 N).kc ((G7 N).bp ρ) 15=lP.l7 N N:=Fx.uL [37] (Zu N) ρ (lP.l7 N) fun n ρ' e d=>by rw[Zt,e];rfl
theorem h16(K):(G7 N).top K=lP.b N ((G7 N).kc K 15):=by kernel_rfl
noncomputable def k16:Kn Tryz.prog:=⟨16,(G7 N).S false (lP N),Fx.u1 (G7 N) ar Tryz.func16 [15] (h16 N) (by rw[Zv];rfl)⟩
noncomputable def W1:Fx:=⟨78,tab,[],N,Tryz.f69,[.v bK],[.v B],[⟨5,[(0,.v bK),(3,.v I)],[1,0,1,0,0],[]⟩],none⟩
theorem ae2(K ρ):(W1 N).bd K ρ 5=th.dI N ((W1 N).kc ρ 5):=by kernel_rfl
theorem ae3(ρ):(W1 N).kc ((W1 N).bp ρ) 5=th.l2 N N:=Fx.uL [] (ae2 N) ρ (th.l2 N) fun n ρ' e d=>by rw[e];rfl
theorem h69(K):(W1 N).top K=th.b N ((W1 N).kc K 5):=by kernel_rfl
noncomputable def k69:Kn Tryz.prog:=⟨69,(W1 N).S true (th N),Fx.u1 (W1 N) ar Tryz.func69 [5] (h69 N) (by rw[ae3];rfl)⟩
noncomputable def W2:Fx:=⟨38,tab,Kn.l [k69 N],N,Tryz.f20,[.v bK,.v I,.v I],[.v I],[⟨9,[(0,.v bK),(1,.v I),(2,.v I),(7,.v I)],[1,1,0,1,0,0],[]⟩],none⟩
theorem ae4(K ρ):(W2 N).bd K ρ 9=tj.ca N ((W2 N).kc ρ 9):=by kernel_rfl
theorem ae5(ρ):(W2 N).kc ((W2 N).bp ρ) 9=tj.l4 N N:=Fx.uL [] (ae4 N) ρ (tj.l4 N) fun n ρ' e d=>by rw[e];rfl
theorem h20(K):(W2 N).top K=tj.b N ((W2 N).kc K 9):=by kernel_rfl
noncomputable def k20:Kn Tryz.prog:=⟨20,(W2 N).S true (tj N),Fx.u1 (W2 N) ar Tryz.func20 [9] (h20 N) (by rw[ae5];rfl)⟩
noncomputable def ae6:Fx:=⟨30,tab,[],N,Tryz.f149,[.v I,.v I],[.v B],[],none⟩
noncomputable def ae7:Kn Tryz.prog:=⟨149,(ae6 N).S true (HD N),Fx.u0 (ae6 N) ar Tryz.func149⟩
noncomputable def W3:Fx:=⟨74,tab,Kn.l [ae7 N],N,Tryz.f68,[.v bK],[.v B],[⟨5,[(0,.v bK),(3,.v I)],[1,0,1,0,0],[]⟩],none⟩
theorem ae8(K ρ):(W3 N).bd K ρ 5=vm.dI N ((W3 N).kc ρ 5):=by kernel_rfl
theorem ae9(ρ):(W3 N).kc ((W3 N).bp ρ) 5=vm.l2 N N:=Fx.uL [] (ae8 N) ρ (vm.l2 N) fun n ρ' e d=>by rw[e];rfl
theorem h68(K):(W3 N).top K=vm.b N ((W3 N).kc K 5):=by kernel_rfl
noncomputable def k68:Kn Tryz.prog:=⟨68,(W3 N).S true (vm N),Fx.u1 (W3 N) ar Tryz.func68 [5] (h68 N) (by rw[ae9];rfl)⟩
noncomputable def W4:Fx:=⟨38,tab,Kn.l [k68 N],N,Tryz.f19,[.v bK,.v I,.v I],[.v I],[⟨9,[(0,.v bK),(1,.v I),(2,.v I),(7,.v I)],[1,1,0,1,0,0],[]⟩],none⟩
theorem afa(K ρ):(W4 N).bd K ρ 9=oU.ca N ((W4 N).kc ρ 9):=by kernel_rfl
theorem afb(ρ):(W4 N).kc ((W4 N).bp ρ) 9=oU.l4 N N:=Fx.uL [] (afa N) ρ (oU.l4 N) fun n ρ' e d=>by rw[e];rfl
theorem h19(K):(W4 N).top K=oU.b N ((W4 N).kc K 9):=by kernel_rfl
noncomputable def PB:Kn Tryz.prog:=⟨19,(W4 N).S true (oU N),Fx.u1 (W4 N) ar Tryz.func19 [9] (h19 N) (by rw[afb];rfl)⟩
noncomputable def SO:Fx:=⟨110,tab,Kn.l [k51 N,k52 N,k16 N,k20 N,PB N],N,Tryz.f12,[],[.v B],[],none⟩
theorem anN:mF Tryz.prog (SO N).E:=Fx.AT (SO N) ar (Kn.all _) (by kernel_rfl)
theorem anO: ∀x,C3 (SO N).E (SO N).fn (SO N).args (SO N).res x=yu (SO N).args (F12 N) x:=Fx.QJ (by kernel_rfl)
noncomputable def k12:Kn Tryz.prog:=⟨12,(SO N).S true (F12 N),Fx.u0 (SO N) ar Tryz.func12⟩
noncomputable def X13:Fx:=⟨6,tab,[],N,Tryz.f13,[.v LU],[.ptr c3],[],none⟩
noncomputable def k13:Kn Tryz.prog:=⟨13,(X13 N).S false (F13 N),Fx.u0 (X13 N) ar Tryz.func13⟩
noncomputable def X42:Fx:=⟨32,tab,[],N,Tryz.f42,[.io c3],[.v U,.io c3],[],none⟩
noncomputable def k42:Kn Tryz.prog:=⟨42,(X42 N).S false (F42 N),Fx.u0 (X42 N) ar Tryz.func42⟩
noncomputable def X41:Fx:=⟨11,tab,Kn.l [k42 N],N,Tryz.f41,[.io c3,.v I],[.v I,.io c3],[],none⟩
noncomputable def P2:Kn Tryz.prog:=⟨41,(X41 N).S false (n4 N),Fx.u0 (X41 N) ar Tryz.func41⟩
noncomputable def X54:Fx:=⟨11,tab,Kn.l [P2 N],N,Tryz.f54,[.io c3,.v I],[.v B,.io c3],[],none⟩
noncomputable def k54:Kn Tryz.prog:=⟨54,(X54 N).S false (Ik N),Fx.u0 (X54 N) ar Tryz.func54⟩
noncomputable def X89:Fx:=⟨29,tab,Kn.l [k42 N],N,Tryz.f89,[.io c3],[.v I,.io c3],[],none⟩
noncomputable def k89:Kn Tryz.prog:=⟨89,(X89 N).S false (GX N),Fx.u0 (X89 N) ar Tryz.func89⟩
noncomputable def J5:Fx:=⟨71,tab,Kn.l [P2 N,k54 N,k89 N],N,Tryz.f27,[.io c3],[.v an,.io c3],[⟨16,[(0,.io c3),(2,.obj an),(3,.dN an [.gk 0] cL),(4,.v I),(5,.obj cL)],[1,1,0,1,0,0,1,0,0,1,1],[7]⟩,⟨7,[(0,.io c3),(2,.obj an),(3,.dN an [.gk 0] cL),(4,.v I)],[1,1,0,1,0,0],[]⟩],some (an,[.gk 0],cL,[3])⟩
theorem Zw(K ρ):(J5 N).bd K ρ 16=pM.HW N ((J5 N).kc ρ 7):=by kernel_rfl
theorem Zx(ρ):(J5 N).kc ((J5 N).bp ρ) 16=pM.j8 N ((J5 N).kc ρ 7):=Fx.uJ [] (Zw N) ρ
theorem afc(K ρ):(J5 N).bd K ρ 7=pM.ig N ((J5 N).kc K 16) ((J5 N).kc ρ 7):=by kernel_rfl
theorem afd(ρ):(J5 N).kc ((J5 N).bp ρ) 7=pM.l3 N N:=Fx.uL [16] (afc N) ρ (pM.l3 N) fun n ρ' e d=>by rw[Zx,e];rfl
theorem h27(K):(J5 N).top K=pM.b N ((J5 N).kc K 7):=by kernel_rfl
noncomputable def k27:Kn Tryz.prog:=⟨27,(J5 N).S false (pM N),Fx.u1 (J5 N) ar Tryz.func27 [7] (h27 N) (by rw[afd];rfl)⟩
noncomputable def qd:Fx:=⟨62,tab,Kn.l [k54 N,P2 N],N,Tryz.f157,[.io c3,.v an],[.own mm,.io c3],[⟨27,[(0,.io c3),(5,.own mm),(8,.v I)],[1,1,1,1,0,1,0,0],[]⟩,⟨19,[(0,.io c3),(5,.own mm),(7,.v I)],[1,1,1,0,1,0,0],[]⟩,⟨7,[(0,.io c3),(5,.own mm),(6,.v I)],[1,1,0,1,0,0],[]⟩],none⟩
theorem SP(K ρ):(qd N).bd K ρ 27=dA.lN N ((qd N).kc ρ 27):=by kernel_rfl
theorem SQ(ρ):(qd N).kc ((qd N).bp ρ) 27=dA.nV N N:=Fx.uL [] (SP N) ρ (dA.nV N) fun n ρ' e d=>by rw[e];rfl
theorem SS(K ρ):(qd N).bd K ρ 19=dA.sd N ((qd N).kc K 27) ((qd N).kc ρ 19):=by kernel_rfl
theorem SU(ρ):(qd N).kc ((qd N).bp ρ) 19=dA.l9 N N:=Fx.uL [27] (SS N) ρ (dA.l9 N) fun n ρ' e d=>by rw[SQ,e];rfl
theorem Zy(K ρ):(qd N).bd K ρ 7=dA.ig N ((qd N).kc K 19) ((qd N).kc ρ 7):=by kernel_rfl
theorem Zz(ρ):(qd N).kc ((qd N).bp ρ) 7=dA.l3 N N:=Fx.uL [19,27] (Zy N) ρ (dA.l3 N) fun n ρ' e d=>by rw[SU,e];rfl
theorem ajW(K):(qd N).top K=dA.b N ((qd N).kc K 7):=by kernel_rfl
noncomputable def ajX:Kn Tryz.prog:=⟨157,(qd N).S false (dA N),Fx.u1 (qd N) ar Tryz.func157 [7,19,27] (ajW N) (by rw[Zz];rfl)⟩
noncomputable def afe:Fx:=⟨30,tab,Kn.l [P2 N,k54 N,k89 N],N,Tryz.f159,[.io c3,.v an,.v I],[.v mm,.io c3],[],none⟩
noncomputable def ZA:Kn Tryz.prog:=⟨159,(afe N).S false (Lu N),Fx.u0 (afe N) ar Tryz.func159⟩
noncomputable def aff:Fx:=⟨48,tab,Kn.l [P2 N,k54 N,k89 N],N,Tryz.f160,[.io c3,.v an],[.v mm,.io c3],[],none⟩
noncomputable def afg:Kn Tryz.prog:=⟨160,(aff N).S false (Ot N),Fx.u0 (aff N) ar Tryz.func160⟩
noncomputable def afh:Fx:=⟨133,tab,Kn.l [P2 N,k89 N,ZA N,afg N],N,Tryz.f158,[.io c3,.v an],[.v mm,.io c3],[],none⟩
noncomputable def afi:Kn Tryz.prog:=⟨158,(afh N).S false (Ou N),Fx.u0 (afh N) ar Tryz.func158⟩
noncomputable def W5:Fx:=⟨50,tab,Kn.l [ajX N,P2 N,afi N,ZA N,afg N],N,Tryz.f90,[.io c3,.v an,.v I],[.own mm,.io c3],[⟨7,[(0,.io c3),(4,.obj an),(7,.own mm),(8,.v I)],[1,1,0,1,0,0],[]⟩],none⟩
theorem afj(K ρ):(W5 N).bd K ρ 7=xK.ig N ((W5 N).kc ρ 7):=by kernel_rfl
theorem afk(ρ):(W5 N).kc ((W5 N).bp ρ) 7=xK.l3 N N:=Fx.uL [] (afj N) ρ (xK.l3 N) fun n ρ' e d=>by rw[e];rfl
theorem h90(K):(W5 N).top K=xK.b N ((W5 N).kc K 7):=by kernel_rfl
noncomputable def k90:Kn Tryz.prog:=⟨90,(W5 N).S false (xK N),Fx.u1 (W5 N) ar Tryz.func90 [7] (h90 N) (by rw[afk];rfl)⟩
noncomputable def W6:Fx:=⟨33,tab,Kn.l [P2 N,k54 N,ZA N,afi N],N,Tryz.f91,[.io c3,.v an],[.own mm,.io c3],[⟨7,[(0,.io c3),(3,.obj an),(5,.own mm),(6,.v I)],[1,1,0,1,0,0],[]⟩],none⟩
theorem afl(K ρ):(W6 N).bd K ρ 7=xj.ig N ((W6 N).kc ρ 7):=by kernel_rfl
theorem afm(ρ):(W6 N).kc ((W6 N).bp ρ) 7=xj.l3 N N:=Fx.uL [] (afl N) ρ (xj.l3 N) fun n ρ' e d=>by rw[e];rfl
theorem h91(K):(W6 N).top K=xj.b N ((W6 N).kc K 7):=by kernel_rfl
noncomputable def k91:Kn Tryz.prog:=⟨91,(W6 N).S false (xj N),Fx.u1 (W6 N) ar Tryz.func91 [7] (h91 N) (by rw[afm];rfl)⟩
noncomputable def afn:Fx:=⟨15,tab,[],N,Tryz.f176,[.v I,.v I,.v I],[.v B],[],none⟩
noncomputable def ajY:Kn Tryz.prog:=⟨176,(afn N).S true (Ah N),Fx.u0 (afn N) ar Tryz.func176⟩
noncomputable def FW:Fx:=⟨77,tab,Kn.l [ajY N],N,Tryz.f115,[.v an],[.v B],[⟨9,[(1,.obj an),(3,.v I)],[1,1,0,1,0,0],[]⟩],none⟩
theorem ZB(K ρ):(FW N).bd K ρ 9=ij.ca N ((FW N).kc ρ 9):=by kernel_rfl
theorem ZC(ρ):(FW N).kc ((FW N).bp ρ) 9=ij.l4 N N:=Fx.uL [] (ZB N) ρ (ij.l4 N) fun n ρ' e d=>by rw[e];rfl
theorem ajZ(K):(FW N).top K=ij.b N ((FW N).kc K 9):=by kernel_rfl
noncomputable def IT:Kn Tryz.prog:=⟨115,(FW N).S true (ij N),Fx.u1 (FW N) ar Tryz.func115 [9] (ajZ N) (by rw[ZC];rfl)⟩
noncomputable def xm:Fx:=⟨41,tab,Kn.l [IT N],N,Tryz.f214,[.v an],[.v aC,.v I],[⟨15,[(1,.obj an),(2,.obj aC),(4,.dN aC [.gk 4] I),(5,.v I)],[1,1,1,1,0,1,0,0],[]⟩,⟨12,[(1,.obj an),(2,.obj aC),(4,.dN aC [.gk 4] I)],[1,1,1,1],[]⟩],some (aC,[.gk 4],I,[4])⟩
theorem SV(K ρ):(xm N).bd K ρ 15=gi.lD N ((xm N).kc ρ 15):=by kernel_rfl
theorem SW(ρ):(xm N).kc ((xm N).bp ρ) 15=gi.l7 N N:=Fx.uL [] (SV N) ρ (gi.l7 N) fun n ρ' e d=>by rw[e];rfl
theorem SX(K ρ):(xm N).bd K ρ 12=gi.Mf N ((xm N).kc K 15):=by kernel_rfl
theorem SY(ρ):(xm N).kc ((xm N).bp ρ) 12=gi.j6 N:=Fx.uJ [15] (SX N) ρ (by rw[SW];rfl)
theorem aj0(K):(xm N).top K=gi.b N ((xm N).kc K 12):=by kernel_rfl
noncomputable def aj1:Kn Tryz.prog:=⟨214,(xm N).S false (gi N),Fx.u1 (xm N) ar Tryz.func214 [12,15] (aj0 N) (by rw[SY];rfl)⟩
noncomputable def afo:Fx:=⟨17,tab,Kn.l [aj1 N],N,Tryz.f161,[.v an],[.v bM,.v I],[],none⟩
noncomputable def aj2:Kn Tryz.prog:=⟨161,(afo N).S false (YO N),Fx.u0 (afo N) ar Tryz.func161⟩
noncomputable def afp:Fx:=⟨9,tab,[],N,Tryz.f246,[.v I],[.v B],[],none⟩
noncomputable def aj3:Kn Tryz.prog:=⟨246,(afp N).S true (YC N),Fx.u0 (afp N) ar Tryz.func246⟩
noncomputable def afq:Fx:=⟨32,tab,[],N,Tryz.f247,[.v I],[.v Z],[],none⟩
noncomputable def aj4:Kn Tryz.prog:=⟨247,(afq N).S true (RK N),Fx.u0 (afq N) ar Tryz.func247⟩
noncomputable def afr:Fx:=⟨12,tab,[],N,Tryz.f275,[.v I],[.v I,.v I],[],none⟩
noncomputable def aj5:Kn Tryz.prog:=⟨275,(afr N).S true (YA N),Fx.u0 (afr N) ar Tryz.func275⟩
noncomputable def afs:Fx:=⟨6,tab,[],N,Tryz.f276,[.v I],[.v I,.v I],[],none⟩
noncomputable def aj6:Kn Tryz.prog:=⟨276,(afs N).S true (YB N),Fx.u0 (afs N) ar Tryz.func276⟩
noncomputable def aft:Fx:=⟨27,tab,Kn.l [aj5 N,aj6 N],N,Tryz.f248,[.v I,.v (.int .u8)],[.v I,.v I],[],none⟩
noncomputable def aj7:Kn Tryz.prog:=⟨248,(aft N).S true (RL N),Fx.u0 (aft N) ar Tryz.func248⟩
noncomputable def afu:Fx:=⟨32,tab,[],N,Tryz.f249,[.v mm,.v (.int .u8)],[.v I],[],none⟩
noncomputable def aj8:Kn Tryz.prog:=⟨249,(afu N).S true (RM N),Fx.u0 (afu N) ar Tryz.func249⟩
noncomputable def afv:Fx:=⟨35,tab,[],N,Tryz.f250,[.v mm,.v (.int .u8),.v I],[.v mm],[],none⟩
noncomputable def aj9:Kn Tryz.prog:=⟨250,(afv N).S true (RN N),Fx.u0 (afv N) ar Tryz.func250⟩
noncomputable def FX:Fx:=⟨56,tab,Kn.l [aj3 N,aj4 N,aj7 N,aj8 N,aj9 N],N,Tryz.f215,[.v mm],[.v B],[⟨13,[(1,.obj mm),(3,.v Z),(4,.obj mm),(5,.v I)],[1,1,1,1,0,1,0,0],[]⟩],none⟩
theorem SZ(K ρ):(FX N).bd K ρ 13=mY.mg N ((FX N).kc ρ 13):=by kernel_rfl
theorem S1(ρ):(FX N).kc ((FX N).bp ρ) 13=mY.l6 N N:=Fx.uL [] (SZ N) ρ (mY.l6 N) fun n ρ' e d=>by rw[e];rfl
theorem aka(K):(FX N).top K=mY.b N ((FX N).kc K 13):=by kernel_rfl
noncomputable def akb:Kn Tryz.prog:=⟨215,(FX N).S true (mY N),Fx.u1 (FX N) ar Tryz.func215 [13] (aka N) (by rw[S1];rfl)⟩
noncomputable def FY:Fx:=⟨58,tab,[],N,Tryz.f235,[.v cj],[.v B],[⟨5,[(0,.v cj),(3,.v I)],[1,0,1,0,0],[]⟩],none⟩
theorem ZD(K ρ):(FY N).bd K ρ 5=jt.dI N ((FY N).kc ρ 5):=by kernel_rfl
theorem ZE(ρ):(FY N).kc ((FY N).bp ρ) 5=jt.l2 N N:=Fx.uL [] (ZD N) ρ (jt.l2 N) fun n ρ' e d=>by rw[e];rfl
theorem akc(K):(FY N).top K=jt.b N ((FY N).kc K 5):=by kernel_rfl
noncomputable def S2:Kn Tryz.prog:=⟨235,(FY N).S true (jt N),Fx.u1 (FY N) ar Tryz.func235 [5] (akc N) (by rw[ZE];rfl)⟩
noncomputable def FZ:Fx:=⟨24,tab,[],N,Tryz.f236,[.v cj,.v I],[.v I],[⟨5,[(0,.v cj),(1,.v I),(5,.v I)],[1,0,1,0,0],[]⟩],none⟩
theorem ZF(K ρ):(FZ N).bd K ρ 5=iM.dI N ((FZ N).kc ρ 5):=by kernel_rfl
theorem ZG(ρ):(FZ N).kc ((FZ N).bp ρ) 5=iM.l2 N N:=Fx.uL [] (ZF N) ρ (iM.l2 N) fun n ρ' e d=>by rw[e];rfl
theorem akd(K):(FZ N).top K=iM.b N ((FZ N).kc K 5):=by kernel_rfl
noncomputable def L7:Kn Tryz.prog:=⟨236,(FZ N).S true (iM N),Fx.u1 (FZ N) ar Tryz.func236 [5] (akd N) (by rw[ZG];rfl)⟩
noncomputable def xn:Fx:=⟨53,tab,Kn.l [S2 N,L7 N],N,Tryz.f251,[.v cj,.v I],[.own gB,.v I],[⟨18,[(0,.v cj),(1,.v I),(6,.own gB),(7,.v I)],[1,1,1,1,1,1],[]⟩,⟨15,[(0,.v cj),(1,.v I),(6,.own gB),(7,.v I)],[1,1,1,1,1,0,0,0],[]⟩],none⟩
theorem S3(K ρ):(xn N).bd K ρ 18=gC.Hw N:=by kernel_rfl
theorem S4(ρ):(xn N).kc ((xn N).bp ρ) 18=gC.j9 N:=Fx.uJ [] (S3 N) ρ
theorem S5(K ρ):(xn N).bd K ρ 15=gC.lD N ((xn N).kc K 18) ((xn N).kc ρ 15):=by kernel_rfl
theorem S6(ρ):(xn N).kc ((xn N).bp ρ) 15=gC.l7 N N:=Fx.uL [18] (S5 N) ρ (gC.l7 N) fun n ρ' e d=>by rw[S4,e];rfl
theorem ake(K):(xn N).top K=gC.b N ((xn N).kc K 15):=by kernel_rfl
noncomputable def akf:Kn Tryz.prog:=⟨251,(xn N).S false (gC N),Fx.u1 (xn N) ar Tryz.func251 [15,18] (ake N) (by rw[S6];rfl)⟩
noncomputable def afw:Fx:=⟨5,tab,[],N,Tryz.f252,[.v I],[.v fN],[],none⟩
noncomputable def S7:Kn Tryz.prog:=⟨252,(afw N).S true (dT N),Fx.u0 (afw N) ar Tryz.func252⟩
noncomputable def zR:Fx:=⟨95,tab,[],N,Tryz.f71,[.v cD],[.v B],[⟨17,[(0,.v cD),(3,.v I),(4,.obj cL),(5,.v I)],[1,0,1,0,0,1,0,0,1,1,1,0,0],[5]⟩,⟨14,[(0,.v cD),(3,.v I),(4,.obj cL)],[1,0,1,0,0,1,0,0,1,1],[5]⟩,⟨5,[(0,.v cD),(3,.v I)],[1,0,1,0,0],[]⟩],none⟩
theorem ZH(K ρ):(zR N).bd K ρ 17=g7.xC N ((zR N).kc ρ 5) ((zR N).kc ρ 17):=by kernel_rfl
theorem ZI(ρ):(zR N).kc ((zR N).bp ρ) 17=g7.l8 N ((zR N).kc ρ 5) N:=Fx.uL [] (ZH N) ρ (g7.l8 N ((zR N).kc ρ 5)) fun n ρ' e d=>by rw[e,d 5 rfl];rfl
theorem ZJ(K ρ):(zR N).bd K ρ 14=g7.Yi N ((zR N).kc K 17) ((zR N).kc ρ 5):=by kernel_rfl
theorem ZK(ρ):(zR N).kc ((zR N).bp ρ) 14=g7.j7 N ((zR N).kc ρ 5):=Fx.uJ [17] (ZJ N) ρ (by rw[ZI];rfl)
theorem afx(K ρ):(zR N).bd K ρ 5=g7.dI N ((zR N).kc K 14) ((zR N).kc ρ 5):=by kernel_rfl
theorem afy(ρ):(zR N).kc ((zR N).bp ρ) 5=g7.l2 N N:=Fx.uL [14,17] (afx N) ρ (g7.l2 N) fun n ρ' e d=>by rw[ZK,e];rfl
theorem h71(K):(zR N).top K=g7.b N ((zR N).kc K 5):=by kernel_rfl
noncomputable def k71:Kn Tryz.prog:=⟨71,(zR N).S true (g7 N),Fx.u1 (zR N) ar Tryz.func71 [5] (h71 N) (by rw[afy];rfl)⟩
noncomputable def F0:Fx:=⟨28,tab,Kn.l [S2 N,k71 N,L7 N],N,Tryz.f185,[.v cj,.v cD],[.v B],[⟨9,[(0,.v cj),(1,.v cD),(5,.v I)],[1,1,0,1,0,0],[]⟩],none⟩
theorem ZL(K ρ):(F0 N).bd K ρ 9=jM.ca N ((F0 N).kc ρ 9):=by kernel_rfl
theorem ZM(ρ):(F0 N).kc ((F0 N).bp ρ) 9=jM.l4 N N:=Fx.uL [] (ZL N) ρ (jM.l4 N) fun n ρ' e d=>by rw[e];rfl
theorem akg(K):(F0 N).top K=jM.b N ((F0 N).kc K 9):=by kernel_rfl
noncomputable def ZN:Kn Tryz.prog:=⟨185,(F0 N).S true (jM N),Fx.u1 (F0 N) ar Tryz.func185 [9] (akg N) (by rw[ZM];rfl)⟩
noncomputable def F1:Fx:=⟨25,tab,[],N,Tryz.f267,[.v cD,.v I],[.v cL,.v B],[⟨5,[(0,.v cD),(1,.v I),(4,.obj cL),(6,.v I)],[1,0,1,0,0],[]⟩],none⟩
theorem ZO(K ρ):(F1 N).bd K ρ 5=ju.dI N ((F1 N).kc ρ 5):=by kernel_rfl
theorem ZP(ρ):(F1 N).kc ((F1 N).bp ρ) 5=ju.l2 N N:=Fx.uL [] (ZO N) ρ (ju.l2 N) fun n ρ' e d=>by rw[e];rfl
theorem akh(K):(F1 N).top K=ju.b N ((F1 N).kc K 5):=by kernel_rfl
noncomputable def S8:Kn Tryz.prog:=⟨267,(F1 N).S true (ju N),Fx.u1 (F1 N) ar Tryz.func267 [5] (akh N) (by rw[ZP];rfl)⟩
noncomputable def W7:Fx:=⟨35,tab,Kn.l [k71 N],N,Tryz.f22,[.v cD,.v I],[.v I],[⟨9,[(0,.v cD),(1,.v I),(5,.v I)],[1,1,0,1,0,0],[]⟩],none⟩
theorem afz(K ρ):(W7 N).bd K ρ 9=sQ.ca N ((W7 N).kc ρ 9):=by kernel_rfl
theorem afA(ρ):(W7 N).kc ((W7 N).bp ρ) 9=sQ.l4 N N:=Fx.uL [] (afz N) ρ (sQ.l4 N) fun n ρ' e d=>by rw[e];rfl
theorem h22(K):(W7 N).top K=sQ.b N ((W7 N).kc K 9):=by kernel_rfl
noncomputable def k22:Kn Tryz.prog:=⟨22,(W7 N).S true (sQ N),Fx.u1 (W7 N) ar Tryz.func22 [9] (h22 N) (by rw[afA];rfl)⟩
noncomputable def rT:Fx:=⟨81,tab,Kn.l [ZN N,k71 N,L7 N,S8 N,k22 N],N,Tryz.f253,[.v cj,.v cD,.v cL],[.own cL,.v I],[⟨30,[(1,.v cD),(5,.obj cL),(11,.own cL),(12,.v I)],[1,1,1,1,1,1,1,1,1],[]⟩,⟨27,[(1,.v cD),(5,.obj cL),(11,.own cL),(12,.v I)],[1,1,1,1,1,1,1,1,0,0,0],[]⟩,⟨22,[(1,.v cD),(5,.obj cL)],[1,1,1,1,1,1],[]⟩],none⟩
theorem S9(K ρ):(rT N).bd K ρ 30=eu.ta N:=by kernel_rfl
theorem Ta(ρ):(rT N).kc ((rT N).bp ρ) 30=eu.Ar N:=Fx.uJ [] (S9 N) ρ
theorem Tb(K ρ):(rT N).bd K ρ 27=eu.lN N ((rT N).kc K 30) ((rT N).kc ρ 27):=by kernel_rfl
theorem Tc(ρ):(rT N).kc ((rT N).bp ρ) 27=eu.nV N N:=Fx.uL [30] (Tb N) ρ (eu.nV N) fun n ρ' e d=>by rw[Ta,e];rfl
theorem Td(K ρ):(rT N).bd K ρ 22=eu.zl N ((rT N).kc K 27):=by kernel_rfl
theorem Te(ρ):(rT N).kc ((rT N).bp ρ) 22=eu.GY N:=Fx.uJ [27,30] (Td N) ρ (by rw[Tc];rfl)
theorem aki(K):(rT N).top K=eu.b N ((rT N).kc K 22):=by kernel_rfl
noncomputable def akj:Kn Tryz.prog:=⟨253,(rT N).S false (eu N),Fx.u1 (rT N) ar Tryz.func253 [22,27,30] (aki N) (by rw[Te];rfl)⟩
noncomputable def afC:Fx:=⟨15,tab,Kn.l [k71 N,S8 N],N,Tryz.f222,[.v cD,.v I],[.v cL,.v B],[],none⟩
noncomputable def IU:Kn Tryz.prog:=⟨222,(afC N).S true (yK N),Fx.u0 (afC N) ar Tryz.func222⟩
noncomputable def afD:Fx:=⟨16,tab,Kn.l [IU N],N,Tryz.f254,[.v bM,.v I],[.v B],[],none⟩
noncomputable def akk:Kn Tryz.prog:=⟨254,(afD N).S true (O0 N),Fx.u0 (afD N) ar Tryz.func254⟩
noncomputable def F2:Fx:=⟨22,tab,[],N,Tryz.f148,[.v LU],[.v LU],[⟨5,[(0,.v LU),(3,.v I)],[1,1,0,0,0],[]⟩],none⟩
theorem ZQ(K ρ):(F2 N).bd K ρ 5=jI.dI N ((F2 N).kc ρ 5):=by kernel_rfl
theorem ZR(ρ):(F2 N).kc ((F2 N).bp ρ) 5=jI.l2 N N:=Fx.uL [] (ZQ N) ρ (jI.l2 N) fun n ρ' e d=>by rw[e];rfl
theorem akl(K):(F2 N).top K=jI.b N ((F2 N).kc K 5):=by kernel_rfl
noncomputable def ZS:Kn Tryz.prog:=⟨148,(F2 N).S false (jI N),Fx.u1 (F2 N) ar Tryz.func148 [5] (akl N) (by rw[ZR];rfl)⟩
noncomputable def X67:Fx:=⟨9,tab,Kn.l [ZS N],N,Tryz.f67,[.v U],[.v LU],[],none⟩
noncomputable def k67:Kn Tryz.prog:=⟨67,(X67 N).S false (F67 N),Fx.u0 (X67 N) ar Tryz.func67⟩
noncomputable def X66:Fx:=⟨15,tab,Kn.l [ZS N],N,Tryz.f66,[.v B,.v LU],[.v bN],[],none⟩
noncomputable def k66:Kn Tryz.prog:=⟨66,(X66 N).S false (Nw N),Fx.u0 (X66 N) ar Tryz.func66⟩
noncomputable def X18:Fx:=⟨15,tab,Kn.l [k67 N,k66 N],N,Tryz.f18,[.v I],[.v bN],[],none⟩
noncomputable def tk:Kn Tryz.prog:=⟨18,(X18 N).S false (fY N),Fx.u0 (X18 N) ar Tryz.func18⟩
noncomputable def X70:Fx:=⟨9,tab,Kn.l [k66 N],N,Tryz.f70,[.v bN],[.v bN],[],none⟩
noncomputable def ZT:Kn Tryz.prog:=⟨70,(X70 N).S false (Mg N),Fx.u0 (X70 N) ar Tryz.func70⟩
noncomputable def afF:Fx:=⟨21,tab,Kn.l [ZT N],N,Tryz.f134,[.v I,.v I,.v I,.v I,.v bN],[.own ng],[],none⟩
noncomputable def PC:Kn Tryz.prog:=⟨134,(afF N).S false (xd N),Fx.u0 (afF N) ar Tryz.func134⟩
noncomputable def X98:Fx:=⟨13,tab,[],N,Tryz.f98,[.v LU,.v I],[.v U],[],none⟩
noncomputable def k98:Kn Tryz.prog:=⟨98,(X98 N).S true (QO N),Fx.u0 (X98 N) ar Tryz.func98⟩
noncomputable def J6:Fx:=⟨41,tab,Kn.l [k98 N],N,Tryz.f72,[.v LU,.v LU],[.own U],[⟨12,[(0,.v LU),(1,.v LU),(5,.own U),(6,.v U),(7,.v I)],[1,1,1,0,1,0,0,1],[9]⟩,⟨9,[(0,.v LU),(1,.v LU),(5,.own U),(6,.v U),(7,.v I)],[1,1,1,0,1,0,0],[]⟩],none⟩
theorem ZU(K ρ):(J6 N).bd K ρ 12=pY.Mf N ((J6 N).kc ρ 9):=by kernel_rfl
theorem ZV(ρ):(J6 N).kc ((J6 N).bp ρ) 12=pY.j6 N ((J6 N).kc ρ 9):=Fx.uJ [] (ZU N) ρ
theorem afG(K ρ):(J6 N).bd K ρ 9=pY.ca N ((J6 N).kc K 12) ((J6 N).kc ρ 9):=by kernel_rfl
theorem afH(ρ):(J6 N).kc ((J6 N).bp ρ) 9=pY.l4 N N:=Fx.uL [12] (afG N) ρ (pY.l4 N) fun n ρ' e d=>by rw[ZV,e];rfl
theorem h72(K):(J6 N).top K=pY.b N ((J6 N).kc K 9):=by kernel_rfl
noncomputable def k72:Kn Tryz.prog:=⟨72,(J6 N).S false (pY N),Fx.u1 (J6 N) ar Tryz.func72 [9] (h72 N) (by rw[afH];rfl)⟩
noncomputable def W8:Fx:=⟨41,tab,[],N,Tryz.f73,[.v LU,.v LU],[.v I],[⟨13,[(0,.v LU),(1,.v LU),(5,.v I)],[1,1,0,1,0,0],[]⟩],none⟩
theorem ZW(K ρ):(W8 N).bd K ρ 13=w1.mg N ((W8 N).kc ρ 13):=by kernel_rfl
theorem ZX(ρ):(W8 N).kc ((W8 N).bp ρ) 13=w1.l6 N N:=Fx.uL [] (ZW N) ρ (w1.l6 N) fun n ρ' e d=>by rw[e];rfl
theorem h73(K):(W8 N).top K=w1.b N ((W8 N).kc K 13):=by kernel_rfl
noncomputable def k73:Kn Tryz.prog:=⟨73,(W8 N).S true (w1 N),Fx.u1 (W8 N) ar Tryz.func73 [13] (h73 N) (by rw[ZX];rfl)⟩
noncomputable def W9:Fx:=⟨37,tab,Kn.l [k98 N],N,Tryz.f74,[.v LU,.v LU],[.own U],[⟨9,[(0,.v LU),(1,.v LU),(5,.own U),(6,.v U),(7,.v I)],[1,1,1,0,1,0,0],[]⟩],none⟩
theorem afI(K ρ):(W9 N).bd K ρ 9=xz.ca N ((W9 N).kc ρ 9):=by kernel_rfl
theorem afJ(ρ):(W9 N).kc ((W9 N).bp ρ) 9=xz.l4 N N:=Fx.uL [] (afI N) ρ (xz.l4 N) fun n ρ' e d=>by rw[e];rfl
theorem h74(K):(W9 N).top K=xz.b N ((W9 N).kc K 9):=by kernel_rfl
noncomputable def k74:Kn Tryz.prog:=⟨74,(W9 N).S false (xz N),Fx.u1 (W9 N) ar Tryz.func74 [9] (h74 N) (by rw[afJ];rfl)⟩
noncomputable def X23:Fx:=⟨40,tab,Kn.l [k72 N,k66 N,k73 N,k74 N],N,Tryz.f23,[.v bN,.v bN],[.v bN],[],none⟩
noncomputable def IV:Kn Tryz.prog:=⟨23,(X23 N).S false (tU N),Fx.u0 (X23 N) ar Tryz.func23⟩
noncomputable def afK:Fx:=⟨28,tab,Kn.l [k98 N],N,Tryz.f102,[.v bN],[.v I,.v B],[],none⟩
noncomputable def zH:Kn Tryz.prog:=⟨102,(afK N).S true (qH N),Fx.u0 (afK N) ar Tryz.func102⟩
noncomputable def afL:Fx:=⟨18,tab,Kn.l [zH N],N,Tryz.f239,[.v bN],[.v I,.v B],[],none⟩
noncomputable def afM:Kn Tryz.prog:=⟨239,(afL N).S true (HR N),Fx.u0 (afL N) ar Tryz.func239⟩
noncomputable def gj:Fx:=⟨106,tab,Kn.l [tk N,IV N,afM N],N,Tryz.f196,[.v bK,.v bK],[.own fN,.v B],[⟨31,[(0,.v bK),(1,.v bK),(6,.own fN),(7,.v I),(8,.v I),(9,.v I),(10,.v I),(11,.v B),(12,.obj bN),(13,.v I)],[1,1,1,0,1,0,0,1,0,0,1,0,0,1,0,0,1,1,1,0,1,0,0],[9,15]⟩,⟨26,[(0,.v bK),(1,.v bK),(6,.own fN),(7,.v I),(8,.v I),(9,.v I),(10,.v I),(11,.v B)],[1,1,1,0,1,0,0,1,0,0,1,0,0,1,0,0,1,1],[9,15]⟩,⟨15,[(0,.v bK),(1,.v bK),(6,.own fN),(7,.v I),(8,.v I),(9,.v I)],[1,1,1,0,1,0,0,1,0,0,1,0,0],[9]⟩,⟨9,[(0,.v bK),(1,.v bK),(6,.own fN),(7,.v I),(8,.v I)],[1,1,1,0,1,0,0],[]⟩],none⟩
theorem Tf(K ρ):(gj N).bd K ρ 31=bw.Co N ((gj N).kc ρ 9) ((gj N).kc ρ 15) ((gj N).kc ρ 31):=by kernel_rfl
theorem Tg(ρ):(gj N).kc ((gj N).bp ρ) 31=bw.Dd N ((gj N).kc ρ 9) ((gj N).kc ρ 15) N:=Fx.uL [] (Tf N) ρ (bw.Dd N ((gj N).kc ρ 9) ((gj N).kc ρ 15)) fun n ρ' e d=>by rw[e,d 9 rfl,d 15 rfl];rfl
theorem Th(K ρ):(gj N).bd K ρ 26=bw.Cp N ((gj N).kc K 31) ((gj N).kc ρ 9) ((gj N).kc ρ 15):=by kernel_rfl
theorem Ti(ρ):(gj N).kc ((gj N).bp ρ) 26=bw.JC N ((gj N).kc ρ 9) ((gj N).kc ρ 15):=Fx.uJ [31] (Th N) ρ (by rw[Tg];rfl)
theorem Tj(K ρ):(gj N).bd K ρ 15=bw.lD N ((gj N).kc K 26) ((gj N).kc ρ 9) ((gj N).kc ρ 15):=by kernel_rfl
theorem Tk(ρ):(gj N).kc ((gj N).bp ρ) 15=bw.l7 N ((gj N).kc ρ 9) N:=Fx.uL [26,31] (Tj N) ρ (bw.l7 N ((gj N).kc ρ 9)) fun n ρ' e d=>by rw[Ti,e,d 9 rfl];rfl
theorem ZY(K ρ):(gj N).bd K ρ 9=bw.ca N ((gj N).kc K 15) ((gj N).kc ρ 9):=by kernel_rfl
theorem ZZ(ρ):(gj N).kc ((gj N).bp ρ) 9=bw.l4 N N:=Fx.uL [15] (ZY N) ρ (bw.l4 N) fun n ρ' e d=>by rw[Tk,e];rfl
theorem akm(K):(gj N).top K=bw.b N ((gj N).kc K 9):=by kernel_rfl
noncomputable def akn:Kn Tryz.prog:=⟨196,(gj N).S false (bw N),Fx.u1 (gj N) ar Tryz.func196 [9] (akm N) (by rw[ZZ];rfl)⟩
noncomputable def F4:Fx:=⟨53,tab,Kn.l [IV N,tk N,zH N],N,Tryz.f240,[.v I,.v I,.v I,.v jU],[.v I,.v B],[⟨7,[(0,.v I),(1,.v I),(2,.v I),(3,.v jU),(10,.obj bN),(11,.v B),(12,.v I)],[1,1,0,1,0,0],[]⟩],none⟩
theorem Z0(K ρ):(F4 N).bd K ρ 7=jj.ig N ((F4 N).kc ρ 7):=by kernel_rfl
theorem Z1(ρ):(F4 N).kc ((F4 N).bp ρ) 7=jj.l3 N N:=Fx.uL [] (Z0 N) ρ (jj.l3 N) fun n ρ' e d=>by rw[e];rfl
theorem ako(K):(F4 N).top K=jj.b N ((F4 N).kc K 7):=by kernel_rfl
noncomputable def akp:Kn Tryz.prog:=⟨240,(F4 N).S true (jj N),Fx.u1 (F4 N) ar Tryz.func240 [7] (ako N) (by rw[Z1];rfl)⟩
noncomputable def lW:Fx:=⟨69,tab,Kn.l [akp N],N,Tryz.f197,[.v bK,.v jU],[.own fN,.v B],[⟨26,[(0,.v bK),(1,.v jU),(6,.own fN),(7,.v I),(8,.v I),(9,.v I),(10,.v I)],[1,1,1,0,1,0,0,1,0,0,1,0,0,1,0,0,1,1],[9,15]⟩,⟨15,[(0,.v bK),(1,.v jU),(6,.own fN),(7,.v I),(8,.v I),(9,.v I)],[1,1,1,0,1,0,0,1,0,0,1,0,0],[9]⟩,⟨9,[(0,.v bK),(1,.v jU),(6,.own fN),(7,.v I),(8,.v I)],[1,1,1,0,1,0,0],[]⟩],none⟩
theorem Tl(K ρ):(lW N).bd K ρ 26=ck.Cp N ((lW N).kc ρ 9) ((lW N).kc ρ 15):=by kernel_rfl
theorem Tm(ρ):(lW N).kc ((lW N).bp ρ) 26=ck.JC N ((lW N).kc ρ 9) ((lW N).kc ρ 15):=Fx.uJ [] (Tl N) ρ
theorem Tn(K ρ):(lW N).bd K ρ 15=ck.lD N ((lW N).kc K 26) ((lW N).kc ρ 9) ((lW N).kc ρ 15):=by kernel_rfl
theorem To(ρ):(lW N).kc ((lW N).bp ρ) 15=ck.l7 N ((lW N).kc ρ 9) N:=Fx.uL [26] (Tn N) ρ (ck.l7 N ((lW N).kc ρ 9)) fun n ρ' e d=>by rw[Tm,e,d 9 rfl];rfl
theorem Z2(K ρ):(lW N).bd K ρ 9=ck.ca N ((lW N).kc K 15) ((lW N).kc ρ 9):=by kernel_rfl
theorem Z3(ρ):(lW N).kc ((lW N).bp ρ) 9=ck.l4 N N:=Fx.uL [15] (Z2 N) ρ (ck.l4 N) fun n ρ' e d=>by rw[To,e];rfl
theorem akq(K):(lW N).top K=ck.b N ((lW N).kc K 9):=by kernel_rfl
noncomputable def akr:Kn Tryz.prog:=⟨197,(lW N).S false (ck N),Fx.u1 (lW N) ar Tryz.func197 [9] (akq N) (by rw[Z3];rfl)⟩
noncomputable def afN:Fx:=⟨36,tab,Kn.l [akn N,akr N],N,Tryz.f135,[.v aC,.v bK,.v jU],[.v aC,.v I],[],none⟩
noncomputable def F5:Kn Tryz.prog:=⟨135,(afN N).S false (vu N),Fx.u0 (afN N) ar Tryz.func135⟩
noncomputable def afO:Fx:=⟨34,tab,Kn.l [tk N,PC N,F5 N],N,Tryz.f255,[.v bM,.v I,.v I,.v I,.v I,.v I],[.v bM,.v fN],[],none⟩
noncomputable def aks:Kn Tryz.prog:=⟨255,(afO N).S false (LV N),Fx.u0 (afO N) ar Tryz.func255⟩
noncomputable def F6:Fx:=⟨33,tab,Kn.l [k69 N,tk N,IV N],N,Tryz.f237,[.v bK,.v I],[.v bN],[⟨11,[(0,.v bK),(1,.v I),(4,.obj bN),(5,.obj bN),(6,.v I)],[1,1,1,0,1,0,0],[]⟩],none⟩
theorem Tp(K ρ):(F6 N).bd K ρ 11=ku.dn N ((F6 N).kc ρ 11):=by kernel_rfl
theorem Tq(ρ):(F6 N).kc ((F6 N).bp ρ) 11=ku.l5 N N:=Fx.uL [] (Tp N) ρ (ku.l5 N) fun n ρ' e d=>by rw[e];rfl
theorem akt(K):(F6 N).top K=ku.b N ((F6 N).kc K 11):=by kernel_rfl
noncomputable def aku:Kn Tryz.prog:=⟨237,(F6 N).S false (ku N),Fx.u1 (F6 N) ar Tryz.func237 [11] (akt N) (by rw[Tq];rfl)⟩
noncomputable def X47:Fx:=⟨9,tab,[],N,Tryz.f47,[.v bN],[.v I],[],none⟩
noncomputable def Ts:Kn Tryz.prog:=⟨47,(X47 N).S true (Jq N),Fx.u0 (X47 N) ar Tryz.func47⟩
noncomputable def F7:Fx:=⟨15,tab,Kn.l [aku N,Ts N,k69 N],N,Tryz.f186,[.v bK],[.v B],[⟨5,[(0,.v bK),(3,.v I)],[1,0,1,0,0],[]⟩],none⟩
theorem Z4(K ρ):(F7 N).bd K ρ 5=lh.dI N ((F7 N).kc ρ 5):=by kernel_rfl
theorem Z5(ρ):(F7 N).kc ((F7 N).bp ρ) 5=lh.l2 N N:=Fx.uL [] (Z4 N) ρ (lh.l2 N) fun n ρ' e d=>by rw[e];rfl
theorem akv(K):(F7 N).top K=lh.b N ((F7 N).kc K 5):=by kernel_rfl
noncomputable def akw:Kn Tryz.prog:=⟨186,(F7 N).S true (lh N),Fx.u1 (F7 N) ar Tryz.func186 [5] (akv N) (by rw[Z5];rfl)⟩
noncomputable def afP:Fx:=⟨9,tab,[],N,Tryz.f191,[.v I],[.v B],[],none⟩
noncomputable def IW:Kn Tryz.prog:=⟨191,(afP N).S true (w6 N),Fx.u0 (afP N) ar Tryz.func191⟩
noncomputable def afQ:Fx:=⟨56,tab,Kn.l [IW N],N,Tryz.f221,[.v jv],[.v B],[],none⟩
noncomputable def Tt:Kn Tryz.prog:=⟨221,(afQ N).S true (HH N),Fx.u0 (afQ N) ar Tryz.func221⟩
noncomputable def F8:Fx:=⟨37,tab,Kn.l [Tt N],N,Tryz.f187,[.v kU],[.v B],[⟨9,[(0,.v kU),(3,.v I)],[1,1,0,1,0,0],[]⟩],none⟩
theorem Z6(K ρ):(F8 N).bd K ρ 9=iL.ca N ((F8 N).kc ρ 9):=by kernel_rfl
theorem Z7(ρ):(F8 N).kc ((F8 N).bp ρ) 9=iL.l4 N N:=Fx.uL [] (Z6 N) ρ (iL.l4 N) fun n ρ' e d=>by rw[e];rfl
theorem akx(K):(F8 N).top K=iL.b N ((F8 N).kc K 9):=by kernel_rfl
noncomputable def L8:Kn Tryz.prog:=⟨187,(F8 N).S true (iL N),Fx.u1 (F8 N) ar Tryz.func187 [9] (akx N) (by rw[Z7];rfl)⟩
noncomputable def F9:Fx:=⟨24,tab,Kn.l [k68 N,tk N,IV N],N,Tryz.f188,[.v bK],[.v bN],[⟨11,[(0,.v bK),(2,.obj bN),(3,.obj bN),(4,.v I)],[1,1,1,0,1,0,0],[]⟩],none⟩
theorem Tu(K ρ):(F9 N).bd K ρ 11=kq.dn N ((F9 N).kc ρ 11):=by kernel_rfl
theorem Tv(ρ):(F9 N).kc ((F9 N).bp ρ) 11=kq.l5 N N:=Fx.uL [] (Tu N) ρ (kq.l5 N) fun n ρ' e d=>by rw[e];rfl
theorem aky(K):(F9 N).top K=kq.b N ((F9 N).kc K 11):=by kernel_rfl
noncomputable def akz:Kn Tryz.prog:=⟨188,(F9 N).S false (kq N),Fx.u1 (F9 N) ar Tryz.func188 [11] (aky N) (by rw[Tv];rfl)⟩
noncomputable def afR:Fx:=⟨19,tab,Kn.l [IU N],N,Tryz.f189,[.v aC,.v I],[.v B],[],none⟩
noncomputable def afS:Kn Tryz.prog:=⟨189,(afR N).S true (Cl N),Fx.u0 (afR N) ar Tryz.func189⟩
noncomputable def afT:Fx:=⟨11,tab,Kn.l [S2 N,L7 N],N,Tryz.f190,[.v cj,.v I],[.v I],[],none⟩
noncomputable def IX:Kn Tryz.prog:=⟨190,(afT N).S true (uc N),Fx.u0 (afT N) ar Tryz.func190⟩
noncomputable def nk:Fx:=⟨163,tab,Kn.l [IT N,ZN N,k68 N,akw N,L8 N,akz N,Ts N,afS N,IX N,IW N],N,Tryz.f127,[.v an,.v aC],[.v B],[⟨45,[(2,.obj an),(3,.obj aC),(9,.v I)],[1,1,1,1,1,1,0,1,0,0],[]⟩,⟨35,[(2,.obj an),(3,.obj aC),(8,.v I)],[1,1,1,1,1,0,1,0,0],[]⟩,⟨25,[(2,.obj an),(3,.obj aC),(7,.v I)],[1,1,1,1,0,1,0,0],[]⟩,⟨13,[(2,.obj an),(3,.obj aC),(5,.v I)],[1,1,1,0,1,0,0],[]⟩],none⟩
theorem Tw(K ρ):(nk N).bd K ρ 45=bD.pq N ((nk N).kc ρ 45):=by kernel_rfl
theorem Tx(ρ):(nk N).kc ((nk N).bp ρ) 45=bD.qc N N:=Fx.uL [] (Tw N) ρ (bD.qc N) fun n ρ' e d=>by rw[e];rfl
theorem Tz(K ρ):(nk N).bd K ρ 35=bD.Q7 N ((nk N).kc K 45) ((nk N).kc ρ 35):=by kernel_rfl
theorem TA(ρ):(nk N).kc ((nk N).bp ρ) 35=bD.Q6 N N:=Fx.uL [45] (Tz N) ρ (bD.Q6 N) fun n ρ' e d=>by rw[Tx,e];rfl
theorem TB(K ρ):(nk N).bd K ρ 25=bD.lM N ((nk N).kc K 35) ((nk N).kc ρ 25):=by kernel_rfl
theorem TC(ρ):(nk N).kc ((nk N).bp ρ) 25=bD.nn N N:=Fx.uL [35,45] (TB N) ρ (bD.nn N) fun n ρ' e d=>by rw[TA,e];rfl
theorem TD(K ρ):(nk N).bd K ρ 13=bD.mg N ((nk N).kc K 25) ((nk N).kc ρ 13):=by kernel_rfl
theorem TE(ρ):(nk N).kc ((nk N).bp ρ) 13=bD.l6 N N:=Fx.uL [25,35,45] (TD N) ρ (bD.l6 N) fun n ρ' e d=>by rw[TC,e];rfl
theorem akA(K):(nk N).top K=bD.b N ((nk N).kc K 13):=by kernel_rfl
noncomputable def oS:Kn Tryz.prog:=⟨127,(nk N).S true (bD N),Fx.u1 (nk N) ar Tryz.func127 [13,25,35,45] (akA N) (by rw[TE];rfl)⟩
noncomputable def X21:Fx:=⟨9,tab,Kn.l [ZT N,IV N],N,Tryz.f21,[.v bN,.v bN],[.v bN],[],none⟩
noncomputable def Z8:Kn Tryz.prog:=⟨21,(X21 N).S false (Jp N),Fx.u0 (X21 N) ar Tryz.func21⟩
noncomputable def Xa:Fx:=⟨39,tab,Kn.l [k69 N],N,Tryz.f31,[.v bK,.v I],[.own gB],[⟨11,[(0,.v bK),(1,.v I),(5,.own gB),(6,.v I)],[1,1,1,0,1,0,0],[]⟩],none⟩
theorem Z9(K ρ):(Xa N).bd K ρ 11=sl.dn N ((Xa N).kc ρ 11):=by kernel_rfl
theorem aaa(ρ):(Xa N).kc ((Xa N).bp ρ) 11=sl.l5 N N:=Fx.uL [] (Z9 N) ρ (sl.l5 N) fun n ρ' e d=>by rw[e];rfl
theorem h31(K):(Xa N).top K=sl.b N ((Xa N).kc K 11):=by kernel_rfl
noncomputable def k31:Kn Tryz.prog:=⟨31,(Xa N).S false (sl N),Fx.u1 (Xa N) ar Tryz.func31 [11] (h31 N) (by rw[aaa];rfl)⟩
noncomputable def rU:Fx:=⟨74,tab,[],N,Tryz.f224,[.v kU,.v I],[.own fN],[⟨15,[(0,.v kU),(1,.v I),(5,.own fN),(6,.v I),(7,.obj fN),(8,.v I)],[1,1,0,1,0,0,1,0,0,1,0,1,0,0],[7]⟩,⟨7,[(0,.v kU),(1,.v I),(5,.own fN),(6,.v I)],[1,1,0,1,0,0],[]⟩],none⟩
theorem TF(K ρ):(rU N).bd K ρ 15=eB.lD N ((rU N).kc ρ 7) ((rU N).kc ρ 15):=by kernel_rfl
theorem TG(ρ):(rU N).kc ((rU N).bp ρ) 15=eB.l7 N ((rU N).kc ρ 7) N:=Fx.uL [] (TF N) ρ (eB.l7 N ((rU N).kc ρ 7)) fun n ρ' e d=>by rw[e,d 7 rfl];rfl
theorem aab(K ρ):(rU N).bd K ρ 7=eB.ig N ((rU N).kc K 15) ((rU N).kc ρ 7):=by kernel_rfl
theorem aac(ρ):(rU N).kc ((rU N).bp ρ) 7=eB.l3 N N:=Fx.uL [15] (aab N) ρ (eB.l3 N) fun n ρ' e d=>by rw[TG,e];rfl
theorem akB(K):(rU N).top K=eB.b N ((rU N).kc K 7):=by kernel_rfl
noncomputable def aad:Kn Tryz.prog:=⟨224,(rU N).S false (eB N),Fx.u1 (rU N) ar Tryz.func224 [7] (akB N) (by rw[aac];rfl)⟩
noncomputable def Ga:Fx:=⟨66,tab,Kn.l [IT N],N,Tryz.f194,[.v an,.v cj],[.v B],[⟨9,[(1,.v cj),(2,.obj an),(5,.v I)],[1,1,0,1,0,0],[]⟩],none⟩
theorem aae(K ρ):(Ga N).bd K ρ 9=jh.ca N ((Ga N).kc ρ 9):=by kernel_rfl
theorem aaf(ρ):(Ga N).kc ((Ga N).bp ρ) 9=jh.l4 N N:=Fx.uL [] (aae N) ρ (jh.l4 N) fun n ρ' e d=>by rw[e];rfl
theorem akC(K):(Ga N).top K=jh.b N ((Ga N).kc K 9):=by kernel_rfl
noncomputable def TH:Kn Tryz.prog:=⟨194,(Ga N).S true (jh N),Fx.u1 (Ga N) ar Tryz.func194 [9] (akC N) (by rw[aaf];rfl)⟩
noncomputable def Gb:Fx:=⟨79,tab,Kn.l [IT N],N,Tryz.f268,[.v an,.v bK],[.v B],[⟨11,[(1,.v bK),(2,.obj an),(5,.v I),(6,.v I)],[1,1,1,0,1,0,0],[]⟩],none⟩
theorem TI(K ρ):(Gb N).bd K ρ 11=lR.dn N ((Gb N).kc ρ 11):=by kernel_rfl
theorem TJ(ρ):(Gb N).kc ((Gb N).bp ρ) 11=lR.l5 N N:=Fx.uL [] (TI N) ρ (lR.l5 N) fun n ρ' e d=>by rw[e];rfl
theorem akD(K):(Gb N).top K=lR.b N ((Gb N).kc K 11):=by kernel_rfl
noncomputable def afU:Kn Tryz.prog:=⟨268,(Gb N).S true (lR N),Fx.u1 (Gb N) ar Tryz.func268 [11] (akD N) (by rw[TJ];rfl)⟩
noncomputable def X36:Fx:=⟨6,tab,Kn.l [k66 N],N,Tryz.f36,[.v bN],[.v bN],[],none⟩
noncomputable def k36:Kn Tryz.prog:=⟨36,(X36 N).S false (Ny N),Fx.u0 (X36 N) ar Tryz.func36⟩
noncomputable def X24:Fx:=⟨9,tab,Kn.l [Z8 N,Ts N],N,Tryz.f24,[.v bN,.v bN],[.v I],[],none⟩
noncomputable def TK:Kn Tryz.prog:=⟨24,(X24 N).S true (GW N),Fx.u0 (X24 N) ar Tryz.func24⟩
noncomputable def vC:Fx:=⟨96,tab,Kn.l [TH N,afU N,tk N,IV N,k36 N,Z8 N,TK N],N,Tryz.f223,[.v an,.v cj,.v bK,.v I],[.v bN,.v I],[⟨25,[(2,.v bK),(3,.v I),(8,.obj bN),(10,.obj bN),(11,.obj bN),(12,.obj bN),(14,.v I)],[1,1,1,1,1,0,1,0,0],[]⟩,⟨15,[(1,.v cj),(2,.v bK),(3,.v I),(8,.obj bN),(10,.obj bN),(11,.obj bN),(12,.obj bN),(13,.v I)],[1,1,1,1,0,1,0,0],[]⟩],none⟩
theorem TL(K ρ):(vC N).bd K ρ 25=fl.lM N ((vC N).kc ρ 25):=by kernel_rfl
theorem TM(ρ):(vC N).kc ((vC N).bp ρ) 25=fl.nn N N:=Fx.uL [] (TL N) ρ (fl.nn N) fun n ρ' e d=>by rw[e];rfl
theorem TN(K ρ):(vC N).bd K ρ 15=fl.lD N ((vC N).kc K 25) ((vC N).kc ρ 15):=by kernel_rfl
theorem TO(ρ):(vC N).kc ((vC N).bp ρ) 15=fl.l7 N N:=Fx.uL [25] (TN N) ρ (fl.l7 N) fun n ρ' e d=>by rw[TM,e];rfl
theorem akE(K):(vC N).top K=fl.b N ((vC N).kc K 15):=by kernel_rfl
noncomputable def afV:Kn Tryz.prog:=⟨223,(vC N).S false (fl N),Fx.u1 (vC N) ar Tryz.func223 [15,25] (akE N) (by rw[TO];rfl)⟩
noncomputable def xL:Fx:=⟨71,tab,Kn.l [k98 N,k66 N],N,Tryz.f37,[.v bN,.v bN],[.v bN],[⟨18,[(2,.obj bN),(3,.obj bN),(4,.obj bN),(5,.own U),(6,.v I),(7,.v U),(8,.v I)],[1,1,0,1,0,0,1,0,0,1,1,0,0,1],[7,15]⟩,⟨15,[(2,.obj bN),(3,.obj bN),(4,.obj bN),(5,.own U),(6,.v I),(7,.v U),(8,.v I)],[1,1,0,1,0,0,1,0,0,1,1,0,0],[7]⟩,⟨7,[(2,.obj bN),(3,.obj bN),(4,.obj bN),(5,.own U),(6,.v I)],[1,1,0,1,0,0],[]⟩],none⟩
theorem aag(K ρ):(xL N).bd K ρ 18=fL.Hw N ((xL N).kc ρ 7) ((xL N).kc ρ 15):=by kernel_rfl
theorem aah(ρ):(xL N).kc ((xL N).bp ρ) 18=fL.j9 N ((xL N).kc ρ 7) ((xL N).kc ρ 15):=Fx.uJ [] (aag N) ρ
theorem aai(K ρ):(xL N).bd K ρ 15=fL.lD N ((xL N).kc K 18) ((xL N).kc ρ 7) ((xL N).kc ρ 15):=by kernel_rfl
theorem aaj(ρ):(xL N).kc ((xL N).bp ρ) 15=fL.l7 N ((xL N).kc ρ 7) N:=Fx.uL [18] (aai N) ρ (fL.l7 N ((xL N).kc ρ 7)) fun n ρ' e d=>by rw[aah,e,d 7 rfl];rfl
theorem afW(K ρ):(xL N).bd K ρ 7=fL.ig N ((xL N).kc K 15) ((xL N).kc ρ 7):=by kernel_rfl
theorem afX(ρ):(xL N).kc ((xL N).bp ρ) 7=fL.l3 N N:=Fx.uL [15] (afW N) ρ (fL.l3 N) fun n ρ' e d=>by rw[aaj,e];rfl
theorem h37(K):(xL N).top K=fL.b N ((xL N).kc K 7):=by kernel_rfl
noncomputable def P3:Kn Tryz.prog:=⟨37,(xL N).S false (fL N),Fx.u1 (xL N) ar Tryz.func37 [7] (h37 N) (by rw[afX];rfl)⟩
noncomputable def Gc:Fx:=⟨50,tab,Kn.l [TH N,afU N,afV N,tk N,P3 N,IV N],N,Tryz.f269,[.v an,.v cj,.v bK],[.v bN,.v I],[⟨11,[(1,.v cj),(2,.v bK),(3,.obj an),(6,.obj bN),(8,.obj bN),(9,.v I)],[1,1,1,0,1,0,0],[]⟩],none⟩
theorem TP(K ρ):(Gc N).bd K ρ 11=lS.dn N ((Gc N).kc ρ 11):=by kernel_rfl
theorem TQ(ρ):(Gc N).kc ((Gc N).bp ρ) 11=lS.l5 N N:=Fx.uL [] (TP N) ρ (lS.l5 N) fun n ρ' e d=>by rw[e];rfl
theorem akF(K):(Gc N).top K=lS.b N ((Gc N).kc K 11):=by kernel_rfl
noncomputable def afY:Kn Tryz.prog:=⟨269,(Gc N).S false (lS N),Fx.u1 (Gc N) ar Tryz.func269 [11] (akF N) (by rw[TQ];rfl)⟩
noncomputable def afZ:Fx:=⟨31,tab,Kn.l [k31 N,aad N,afY N],N,Tryz.f226,[.v an,.v aC,.v I,.v kU],[.v bN],[],none⟩
noncomputable def af0:Kn Tryz.prog:=⟨226,(afZ N).S false (Oo N),Fx.u0 (afZ N) ar Tryz.func226⟩
noncomputable def af1:Fx:=⟨63,tab,Kn.l [oS N,IU N,IX N,PB N,tk N,Z8 N,af0 N,TK N,PC N,F5 N],N,Tryz.f256,[.v an,.v aC,.v I,.v I],[.v aC,.v I],[],none⟩
noncomputable def akG:Kn Tryz.prog:=⟨256,(af1 N).S false (RV N),Fx.u0 (af1 N) ar Tryz.func256⟩
noncomputable def af2:Fx:=⟨10,tab,Kn.l [IX N],N,Tryz.f257,[.v bM,.v I],[.v I],[],none⟩
noncomputable def af3:Kn Tryz.prog:=⟨257,(af2 N).S true (CL N),Fx.u0 (af2 N) ar Tryz.func257⟩
noncomputable def Gd:Fx:=⟨53,tab,Kn.l [k71 N,S8 N],N,Tryz.f258,[.v cD,.v I,.v I],[.own cL,.v I],[⟨17,[(1,.v I),(2,.v I),(10,.own cL),(11,.v I)],[1,1,1,1,0,1,0,0],[]⟩],none⟩
theorem TR(K ρ):(Gd N).bd K ρ 17=mZ.xC N ((Gd N).kc ρ 17):=by kernel_rfl
theorem TS(ρ):(Gd N).kc ((Gd N).bp ρ) 17=mZ.l8 N N:=Fx.uL [] (TR N) ρ (mZ.l8 N) fun n ρ' e d=>by rw[e];rfl
theorem akH(K):(Gd N).top K=mZ.b N ((Gd N).kc K 17):=by kernel_rfl
noncomputable def akI:Kn Tryz.prog:=⟨258,(Gd N).S false (mZ N),Fx.u1 (Gd N) ar Tryz.func258 [17] (akH N) (by rw[TS];rfl)⟩
noncomputable def af4:Fx:=⟨36,tab,Kn.l [Tt N,IW N,tk N,P3 N],N,Tryz.f225,[.v jv,.v I],[.v bN,.v I],[],none⟩
noncomputable def akJ:Kn Tryz.prog:=⟨225,(af4 N).S false (RH N),Fx.u0 (af4 N) ar Tryz.func225⟩
noncomputable def af5:Fx:=⟨104,tab,Kn.l [oS N,Tt N,IU N,IX N,k31 N,aad N,afV N,tk N,TK N,akJ N,PB N,Z8 N,af0 N],N,Tryz.f168,[.v an,.v aC,.v jv],[.v I],[],none⟩
noncomputable def af6:Kn Tryz.prog:=⟨168,(af5 N).S true (Oq N),Fx.u0 (af5 N) ar Tryz.func168⟩
noncomputable def af7:Fx:=⟨24,tab,[],N,Tryz.f302,[.v jv,.v jv],[.v B],[],none⟩
noncomputable def akK:Kn Tryz.prog:=⟨302,(af7 N).S true (RS N),Fx.u0 (af7 N) ar Tryz.func302⟩
noncomputable def nB:Fx:=⟨72,tab,Kn.l [L8 N,akK N],N,Tryz.f290,[.v kU,.v I,.v I],[.own jv],[⟨22,[(0,.v kU),(1,.v I),(2,.v I),(7,.own jv),(8,.v I),(9,.v I)],[1,1,1,0,1,0,0,1,0,0,1,1,1],[11]⟩,⟨19,[(0,.v kU),(1,.v I),(2,.v I),(7,.own jv),(8,.v I),(9,.v I)],[1,1,1,0,1,0,0,1,0,0,1,1,0,0,0],[11]⟩,⟨11,[(0,.v kU),(1,.v I),(2,.v I),(7,.own jv),(8,.v I)],[1,1,1,0,1,0,0],[]⟩],none⟩
theorem TT(K ρ):(nB N).bd K ρ 22=c9.zl N ((nB N).kc ρ 11):=by kernel_rfl
theorem TU(ρ):(nB N).kc ((nB N).bp ρ) 22=c9.GY N ((nB N).kc ρ 11):=Fx.uJ [] (TT N) ρ
theorem TV(K ρ):(nB N).bd K ρ 19=c9.sd N ((nB N).kc K 22) ((nB N).kc ρ 11) ((nB N).kc ρ 19):=by kernel_rfl
theorem TW(ρ):(nB N).kc ((nB N).bp ρ) 19=c9.l9 N ((nB N).kc ρ 11) N:=Fx.uL [22] (TV N) ρ (c9.l9 N ((nB N).kc ρ 11)) fun n ρ' e d=>by rw[TU,e,d 11 rfl];rfl
theorem TX(K ρ):(nB N).bd K ρ 11=c9.dn N ((nB N).kc K 19) ((nB N).kc ρ 11):=by kernel_rfl
theorem TY(ρ):(nB N).kc ((nB N).bp ρ) 11=c9.l5 N N:=Fx.uL [19,22] (TX N) ρ (c9.l5 N) fun n ρ' e d=>by rw[TW,e];rfl
theorem akL(K):(nB N).top K=c9.b N ((nB N).kc K 11):=by kernel_rfl
noncomputable def akM:Kn Tryz.prog:=⟨290,(nB N).S false (c9 N),Fx.u1 (nB N) ar Tryz.func290 [11] (akL N) (by rw[TY];rfl)⟩
noncomputable def fF:Fx:=⟨174,tab,Kn.l [L8 N,Tt N,akM N],N,Tryz.f277,[.v kU,.v jv],[.own jv,.own oQ,.v I,.v I],[⟨49,[(8,.own jv),(9,.v I),(10,.own oQ),(16,.own jv),(17,.v I)],[1,1,1,1,1,1,1,0,1,0,0],[]⟩,⟨44,[(8,.own jv),(9,.v I),(10,.own oQ)],[1,1,1,1,1,1],[]⟩,⟨37,[(3,.obj jv),(8,.own jv),(9,.v I),(10,.own oQ),(11,.own jv),(12,.v I),(13,.v I),(15,.v I)],[1,1,1,1,1,0,1,0,0,1,0,0,1,1,1,1,1,1,1,1,0,0],[15]⟩,⟨30,[(3,.obj jv),(8,.own jv),(9,.v I),(10,.own oQ),(11,.own jv),(12,.v I),(13,.v I),(14,.obj oQ)],[1,1,1,1,1,0,1,0,0,1,0,0,1,1,1,1,1],[15]⟩,⟨20,[(3,.obj jv),(8,.own jv),(9,.v I),(10,.own oQ),(11,.own jv),(12,.v I)],[1,1,1,1,1,0,1,0,0,1,0,0,1],[15]⟩,⟨15,[(3,.obj jv),(8,.own jv),(9,.v I),(10,.own oQ),(11,.own jv),(12,.v I)],[1,1,1,1,1,0,1,0,0],[]⟩],none⟩
theorem TZ(K ρ):(fF N).bd K ρ 49=bJ.Io N ((fF N).kc ρ 49):=by kernel_rfl
theorem T0(ρ):(fF N).kc ((fF N).bp ρ) 49=bJ.GZ N N:=Fx.uL [] (TZ N) ρ (bJ.GZ N) fun n ρ' e d=>by rw[e];rfl
theorem T1(K ρ):(fF N).bd K ρ 44=bJ.YD N ((fF N).kc K 49):=by kernel_rfl
theorem T2(ρ):(fF N).kc ((fF N).bp ρ) 44=bJ.j22 N:=Fx.uJ [49] (T1 N) ρ (by rw[T0];rfl)
theorem T3(K ρ):(fF N).bd K ρ 37=bJ.rQ N ((fF N).kc ρ 15) ((fF N).kc ρ 37):=by kernel_rfl
theorem T4(ρ):(fF N).kc ((fF N).bp ρ) 37=bJ.uB N ((fF N).kc ρ 15) N:=Fx.uL [44,49] (T3 N) ρ (bJ.uB N ((fF N).kc ρ 15)) fun n ρ' e d=>by rw[e,d 15 rfl];rfl
theorem T5(K ρ):(fF N).bd K ρ 30=bJ.ta N ((fF N).kc K 37) ((fF N).kc ρ 15):=by kernel_rfl
theorem T6(ρ):(fF N).kc ((fF N).bp ρ) 30=bJ.Ar N ((fF N).kc ρ 15):=Fx.uJ [44,49,37] (T5 N) ρ (by rw[T4];rfl)
theorem T7(K ρ):(fF N).bd K ρ 20=bJ.Ip N ((fF N).kc K 30) ((fF N).kc ρ 15):=by kernel_rfl
theorem T8(ρ):(fF N).kc ((fF N).bp ρ) 20=bJ.OF N ((fF N).kc ρ 15):=Fx.uJ [44,49,30,37] (T7 N) ρ (by rw[T6];rfl)
theorem T9(K ρ):(fF N).bd K ρ 15=bJ.lD N ((fF N).kc K 44) ((fF N).kc K 20) ((fF N).kc ρ 15):=by kernel_rfl
theorem Ua(ρ):(fF N).kc ((fF N).bp ρ) 15=bJ.l7 N N:=Fx.uL [44,49,20,30,37] (T9 N) ρ (bJ.l7 N) fun n ρ' e d=>by rw[T2,T8,e];rfl
theorem akN(K):(fF N).top K=bJ.b N ((fF N).kc K 15):=by kernel_rfl
noncomputable def akO:Kn Tryz.prog:=⟨277,(fF N).S false (bJ N),Fx.u1 (fF N) ar Tryz.func277 [15,44,49] (akN N) (by rw[Ua];rfl)⟩
noncomputable def af8:Fx:=⟨53,tab,Kn.l [IW N],N,Tryz.f227,[.v oQ],[.v B],[],none⟩
noncomputable def af9:Kn Tryz.prog:=⟨227,(af8 N).S true (Ob N),Fx.u0 (af8 N) ar Tryz.func227⟩
noncomputable def aga:Fx:=⟨7,tab,[],N,Tryz.f270,[.v I],[.v I,.v I],[],none⟩
noncomputable def agb:Kn Tryz.prog:=⟨270,(aga N).S true (Ij N),Fx.u0 (aga N) ar Tryz.func270⟩
noncomputable def agc:Fx:=⟨53,tab,Kn.l [af9 N,IW N,tk N,P3 N,Ts N,agb N,ZT N],N,Tryz.f228,[.v oQ,.v I],[.own ng,.v I],[],none⟩
noncomputable def akP:Kn Tryz.prog:=⟨228,(agc N).S false (RE N),Fx.u0 (agc N) ar Tryz.func228⟩
noncomputable def vD:Fx:=⟨107,tab,Kn.l [oS N,af9 N,afS N,akP N,F5 N],N,Tryz.f169,[.v an,.v aC,.v CP],[.v aC,.v I],[⟨23,[(2,.v CP),(3,.obj an),(4,.obj aC),(6,.obj aC),(9,.own fN),(10,.own ng),(11,.v I)],[1,1,1,1,1,0,1,0,0],[]⟩,⟨9,[(2,.v CP),(3,.obj an),(4,.obj aC),(6,.obj aC),(8,.v I)],[1,1,0,1,0,0],[]⟩],none⟩
theorem Ub(K ρ):(vD N).bd K ρ 23=fk.zj N ((vD N).kc ρ 23):=by kernel_rfl
theorem Uc(ρ):(vD N).kc ((vD N).bp ρ) 23=fk.By N N:=Fx.uL [] (Ub N) ρ (fk.By N) fun n ρ' e d=>by rw[e];rfl
theorem aak(K ρ):(vD N).bd K ρ 9=fk.ca N ((vD N).kc K 23) ((vD N).kc ρ 9):=by kernel_rfl
theorem aal(ρ):(vD N).kc ((vD N).bp ρ) 9=fk.l4 N N:=Fx.uL [23] (aak N) ρ (fk.l4 N) fun n ρ' e d=>by rw[Uc,e];rfl
theorem akQ(K):(vD N).top K=fk.b N ((vD N).kc K 9):=by kernel_rfl
noncomputable def agd:Kn Tryz.prog:=⟨169,(vD N).S false (fk N),Fx.u1 (vD N) ar Tryz.func169 [9,23] (akQ N) (by rw[aal];rfl)⟩
noncomputable def zI:Fx:=⟨85,tab,Kn.l [af6 N,akO N,agd N],N,Tryz.f259,[.v an,.v aC,.v jv],[.v aC,.v CP,.v I,.v I],[⟨20,[(3,.obj an),(4,.obj aC),(5,.obj jv),(6,.obj aC),(12,.own jv),(13,.own oQ),(14,.v I)],[1,1,1,1,1],[]⟩,⟨14,[(3,.obj an),(4,.obj aC),(5,.obj jv),(6,.obj aC)],[1,1,1],[]⟩],none⟩
theorem Ud(K ρ):(zI N).bd K ρ 20=iN.Ip N:=by kernel_rfl
theorem Ue(ρ):(zI N).kc ((zI N).bp ρ) 20=iN.OF N:=Fx.uJ [] (Ud N) ρ
theorem Uf(K ρ):(zI N).bd K ρ 14=iN.Yi N ((zI N).kc K 20):=by kernel_rfl
theorem Ug(ρ):(zI N).kc ((zI N).bp ρ) 14=iN.j7 N:=Fx.uJ [20] (Uf N) ρ (by rw[Ue];rfl)
theorem akR(K):(zI N).top K=iN.b N ((zI N).kc K 14):=by kernel_rfl
noncomputable def akS:Kn Tryz.prog:=⟨259,(zI N).S false (iN N),Fx.u1 (zI N) ar Tryz.func259 [14,20] (akR N) (by rw[Ug];rfl)⟩
noncomputable def Ge:Fx:=⟨48,tab,Kn.l [L8 N],N,Tryz.f260,[.v kU,.v I,.v I],[.own jv,.v I],[⟨11,[(0,.v kU),(1,.v I),(2,.v I),(8,.own jv),(9,.v I)],[1,1,1,0,1,0,0],[]⟩],none⟩
theorem Uh(K ρ):(Ge N).bd K ρ 11=m2.dn N ((Ge N).kc ρ 11):=by kernel_rfl
theorem Ui(ρ):(Ge N).kc ((Ge N).bp ρ) 11=m2.l5 N N:=Fx.uL [] (Uh N) ρ (m2.l5 N) fun n ρ' e d=>by rw[e];rfl
theorem akT(K):(Ge N).top K=m2.b N ((Ge N).kc K 11):=by kernel_rfl
noncomputable def akU:Kn Tryz.prog:=⟨260,(Ge N).S false (m2 N),Fx.u1 (Ge N) ar Tryz.func260 [11] (akT N) (by rw[Ui];rfl)⟩
noncomputable def Gf:Fx:=⟨76,tab,Kn.l [k69 N,IW N,tk N,Z8 N,Ts N,agb N,P3 N],N,Tryz.f278,[.v bK,.v I,.v I,.v I],[.own ng,.v I],[⟨13,[(0,.v bK),(1,.v I),(10,.own ng),(11,.obj bN),(12,.v I)],[1,1,1,1,0,1,0,0],[]⟩],none⟩
theorem Uj(K ρ):(Gf N).bd K ρ 13=m3.mg N ((Gf N).kc ρ 13):=by kernel_rfl
theorem Uk(ρ):(Gf N).kc ((Gf N).bp ρ) 13=m3.l6 N N:=Fx.uL [] (Uj N) ρ (m3.l6 N) fun n ρ' e d=>by rw[e];rfl
theorem akV(K):(Gf N).top K=m3.b N ((Gf N).kc K 13):=by kernel_rfl
noncomputable def akW:Kn Tryz.prog:=⟨278,(Gf N).S false (m3 N),Fx.u1 (Gf N) ar Tryz.func278 [13] (akV N) (by rw[Uk];rfl)⟩
noncomputable def age:Fx:=⟨70,tab,Kn.l [oS N,IW N,akW N,F5 N],N,Tryz.f261,[.v an,.v aC,.v I,.v I],[.v aC,.v jU,.v I],[],some (aC,[.gk 4],I,[5,13])⟩
noncomputable def akX:Kn Tryz.prog:=⟨261,(age N).S false (RU N),Fx.u0 (age N) ar Tryz.func261⟩
noncomputable def Gg:Fx:=⟨50,tab,[],N,Tryz.f279,[.v cj],[.v B],[⟨5,[(0,.v cj),(3,.v I)],[1,0,1,0,0],[]⟩],none⟩
theorem aam(K ρ):(Gg N).bd K ρ 5=lT.dI N ((Gg N).kc ρ 5):=by kernel_rfl
theorem aan(ρ):(Gg N).kc ((Gg N).bp ρ) 5=lT.l2 N N:=Fx.uL [] (aam N) ρ (lT.l2 N) fun n ρ' e d=>by rw[e];rfl
theorem akY(K):(Gg N).top K=lT.b N ((Gg N).kc K 5):=by kernel_rfl
noncomputable def agf:Kn Tryz.prog:=⟨279,(Gg N).S true (lT N),Fx.u1 (Gg N) ar Tryz.func279 [5] (akY N) (by rw[aan];rfl)⟩
noncomputable def lX:Fx:=⟨84,tab,Kn.l [agf N,tk N,IV N,zH N],N,Tryz.f262,[.v cj,.v jU],[.own gB,.v I],[⟨29,[(0,.v cj),(1,.v jU),(6,.own gB),(7,.v I),(8,.obj bN),(10,.v I)],[1,1,1,0,1,0,0,1,0,0,1,1,0,1,0,0],[11]⟩,⟨19,[(0,.v cj),(1,.v jU),(6,.own gB),(7,.v I),(8,.obj bN),(9,.v I)],[1,1,1,0,1,0,0,1,0,0,1,0,1,0,0],[11]⟩,⟨11,[(0,.v cj),(1,.v jU),(6,.own gB),(7,.v I)],[1,1,1,0,1,0,0],[]⟩],none⟩
theorem Ul(K ρ):(lX N).bd K ρ 29=c4.zd N ((lX N).kc ρ 11) ((lX N).kc ρ 29):=by kernel_rfl
theorem Um(ρ):(lX N).kc ((lX N).bp ρ) 29=c4.Bn N ((lX N).kc ρ 11) N:=Fx.uL [] (Ul N) ρ (c4.Bn N ((lX N).kc ρ 11)) fun n ρ' e d=>by rw[e,d 11 rfl];rfl
theorem Un(K ρ):(lX N).bd K ρ 19=c4.sd N ((lX N).kc K 29) ((lX N).kc ρ 11) ((lX N).kc ρ 19):=by kernel_rfl
theorem Uo(ρ):(lX N).kc ((lX N).bp ρ) 19=c4.l9 N ((lX N).kc ρ 11) N:=Fx.uL [29] (Un N) ρ (c4.l9 N ((lX N).kc ρ 11)) fun n ρ' e d=>by rw[Um,e,d 11 rfl];rfl
theorem Up(K ρ):(lX N).bd K ρ 11=c4.dn N ((lX N).kc K 19) ((lX N).kc ρ 11):=by kernel_rfl
theorem Uq(ρ):(lX N).kc ((lX N).bp ρ) 11=c4.l5 N N:=Fx.uL [19,29] (Up N) ρ (c4.l5 N) fun n ρ' e d=>by rw[Uo,e];rfl
theorem akZ(K):(lX N).top K=c4.b N ((lX N).kc K 11):=by kernel_rfl
noncomputable def ak0:Kn Tryz.prog:=⟨262,(lX N).S false (c4 N),Fx.u1 (lX N) ar Tryz.func262 [11] (akZ N) (by rw[Uq];rfl)⟩
noncomputable def agh:Fx:=⟨15,tab,Kn.l [tk N,IV N,zH N],N,Tryz.f263,[.v bM,.v I],[.v I,.v B],[],none⟩
noncomputable def aao:Kn Tryz.prog:=⟨263,(agh N).S true (LS N),Fx.u0 (agh N) ar Tryz.func263⟩
noncomputable def agi:Fx:=⟨41,tab,[],N,Tryz.f291,[.v I,.v I],[.v I,.v B],[],none⟩
noncomputable def ak1:Kn Tryz.prog:=⟨291,(agi N).S true (RP N),Fx.u0 (agi N) ar Tryz.func291⟩
noncomputable def Gh:Fx:=⟨51,tab,Kn.l [S2 N,L7 N,ak1 N],N,Tryz.f280,[.v cj,.v I,.v I],[.own gB,.v I],[⟨23,[(1,.v I),(9,.v I),(11,.own gB),(12,.v I)],[1,1,1,1,1,1,1,0,1,0,0],[]⟩],none⟩
theorem Ur(K ρ):(Gh N).bd K ρ 23=kO.zj N ((Gh N).kc ρ 23):=by kernel_rfl
theorem Us(ρ):(Gh N).kc ((Gh N).bp ρ) 23=kO.By N N:=Fx.uL [] (Ur N) ρ (kO.By N) fun n ρ' e d=>by rw[e];rfl
theorem ak2(K):(Gh N).top K=kO.b N ((Gh N).kc K 23):=by kernel_rfl
noncomputable def agj:Kn Tryz.prog:=⟨280,(Gh N).S false (kO N),Fx.u1 (Gh N) ar Tryz.func280 [23] (ak2 N) (by rw[Us];rfl)⟩
noncomputable def Gi:Fx:=⟨33,tab,Kn.l [k71 N],N,Tryz.f293,[.v cD,.v I],[.own I],[⟨11,[(0,.v cD),(1,.v I),(5,.own I),(6,.v I)],[1,1,1,0,1,0,0],[]⟩],none⟩
theorem Ut(K ρ):(Gi N).bd K ρ 11=m1.dn N ((Gi N).kc ρ 11):=by kernel_rfl
theorem Uu(ρ):(Gi N).kc ((Gi N).bp ρ) 11=m1.l5 N N:=Fx.uL [] (Ut N) ρ (m1.l5 N) fun n ρ' e d=>by rw[e];rfl
theorem ak3(K):(Gi N).top K=m1.b N ((Gi N).kc K 11):=by kernel_rfl
noncomputable def ak4:Kn Tryz.prog:=⟨293,(Gi N).S false (m1 N),Fx.u1 (Gi N) ar Tryz.func293 [11] (ak3 N) (by rw[Uu];rfl)⟩
noncomputable def rV:Fx:=⟨48,tab,Kn.l [L8 N],N,Tryz.f292,[.v kU,.v LI],[.own jv],[⟨19,[(0,.v kU),(1,.v LI),(5,.own jv),(6,.v I),(7,.v B),(8,.v I)],[1,1,1,0,1,0,0,1,0,0,1,0,1,0,0],[11]⟩,⟨11,[(0,.v kU),(1,.v LI),(5,.own jv),(6,.v I)],[1,1,1,0,1,0,0],[]⟩],none⟩
theorem Uv(K ρ):(rV N).bd K ρ 19=eM.sd N ((rV N).kc ρ 11) ((rV N).kc ρ 19):=by kernel_rfl
theorem Uw(ρ):(rV N).kc ((rV N).bp ρ) 19=eM.l9 N ((rV N).kc ρ 11) N:=Fx.uL [] (Uv N) ρ (eM.l9 N ((rV N).kc ρ 11)) fun n ρ' e d=>by rw[e,d 11 rfl];rfl
theorem Ux(K ρ):(rV N).bd K ρ 11=eM.dn N ((rV N).kc K 19) ((rV N).kc ρ 11):=by kernel_rfl
theorem Uy(ρ):(rV N).kc ((rV N).bp ρ) 11=eM.l5 N N:=Fx.uL [19] (Ux N) ρ (eM.l5 N) fun n ρ' e d=>by rw[Uw,e];rfl
theorem ak5(K):(rV N).top K=eM.b N ((rV N).kc K 11):=by kernel_rfl
noncomputable def ak6:Kn Tryz.prog:=⟨292,(rV N).S false (eM N),Fx.u1 (rV N) ar Tryz.func292 [11] (ak5 N) (by rw[Uy];rfl)⟩
noncomputable def agk:Fx:=⟨28,tab,Kn.l [oS N,IX N,ak4 N,ak6 N],N,Tryz.f281,[.v an,.v aC,.v I],[.v aC,.v I],[],none⟩
noncomputable def ak7:Kn Tryz.prog:=⟨281,(agk N).S false (LA N),Fx.u0 (agk N) ar Tryz.func281⟩
noncomputable def agl:Fx:=⟨41,tab,[],N,Tryz.f195,[.v cL],[.v B],[],none⟩
noncomputable def agm:Kn Tryz.prog:=⟨195,(agl N).S true (Ra N),Fx.u0 (agl N) ar Tryz.func195⟩
noncomputable def nC:Fx:=⟨67,tab,Kn.l [agm N],N,Tryz.f132,[.v cD],[.v B],[⟨19,[(0,.v cD),(3,.v I),(4,.v I)],[1,1,0,1,0,0,1,0,0,1,1,0,0],[9]⟩,⟨16,[(0,.v cD),(3,.v I)],[1,1,0,1,0,0,1,0,0,1],[9]⟩,⟨9,[(0,.v cD),(3,.v I)],[1,1,0,1,0,0],[]⟩],none⟩
theorem Uz(K ρ):(nC N).bd K ρ 19=cW.sd N ((nC N).kc ρ 9) ((nC N).kc ρ 19):=by kernel_rfl
theorem UA(ρ):(nC N).kc ((nC N).bp ρ) 19=cW.l9 N ((nC N).kc ρ 9) N:=Fx.uL [] (Uz N) ρ (cW.l9 N ((nC N).kc ρ 9)) fun n ρ' e d=>by rw[e,d 9 rfl];rfl
theorem UB(K ρ):(nC N).bd K ρ 16=cW.HW N ((nC N).kc K 19) ((nC N).kc ρ 9):=by kernel_rfl
theorem UC(ρ):(nC N).kc ((nC N).bp ρ) 16=cW.j8 N ((nC N).kc ρ 9):=Fx.uJ [19] (UB N) ρ (by rw[UA];rfl)
theorem aap(K ρ):(nC N).bd K ρ 9=cW.ca N ((nC N).kc K 16) ((nC N).kc ρ 9):=by kernel_rfl
theorem aaq(ρ):(nC N).kc ((nC N).bp ρ) 9=cW.l4 N N:=Fx.uL [16,19] (aap N) ρ (cW.l4 N) fun n ρ' e d=>by rw[UC,e];rfl
theorem ak8(K):(nC N).top K=cW.b N ((nC N).kc K 9):=by kernel_rfl
noncomputable def PD:Kn Tryz.prog:=⟨132,(nC N).S true (cW N),Fx.u1 (nC N) ar Tryz.func132 [9] (ak8 N) (by rw[aaq];rfl)⟩
noncomputable def Gj:Fx:=⟨32,tab,Kn.l [PD N],N,Tryz.f282,[.v cD,.v I],[.own cL],[⟨11,[(0,.v cD),(1,.v I),(5,.own cL),(6,.v I)],[1,1,1,0,1,0,0],[]⟩],none⟩
theorem UD(K ρ):(Gj N).bd K ρ 11=ly.dn N ((Gj N).kc ρ 11):=by kernel_rfl
theorem UE(ρ):(Gj N).kc ((Gj N).bp ρ) 11=ly.l5 N N:=Fx.uL [] (UD N) ρ (ly.l5 N) fun n ρ' e d=>by rw[e];rfl
theorem ak9(K):(Gj N).top K=ly.b N ((Gj N).kc K 11):=by kernel_rfl
noncomputable def ala:Kn Tryz.prog:=⟨282,(Gj N).S false (ly N),Fx.u1 (Gj N) ar Tryz.func282 [11] (ak9 N) (by rw[UE];rfl)⟩
noncomputable def agn:Fx:=⟨66,tab,[],N,Tryz.f283,[.v bM,.v I],[.v B],[],none⟩
noncomputable def alb:Kn Tryz.prog:=⟨283,(agn N).S true (Sa N),Fx.u0 (agn N) ar Tryz.func283⟩
noncomputable def ago:Fx:=⟨9,tab,Kn.l [IX N],N,Tryz.f133,[.v aC,.v I],[.v I],[],none⟩
noncomputable def UF:Kn Tryz.prog:=⟨133,(ago N).S true (Ao N),Fx.u0 (ago N) ar Tryz.func133⟩
noncomputable def Gk:Fx:=⟨56,tab,Kn.l [TH N,tk N,k36 N,P3 N,IV N],N,Tryz.f193,[.v an,.v cj,.v B],[.v bN,.v I],[⟨11,[(1,.v cj),(2,.v B),(3,.obj an),(6,.obj bN),(8,.obj bN),(9,.v I)],[1,1,1,0,1,0,0],[]⟩],none⟩
theorem UG(K ρ):(Gk N).bd K ρ 11=lz.dn N ((Gk N).kc ρ 11):=by kernel_rfl
theorem UH(ρ):(Gk N).kc ((Gk N).bp ρ) 11=lz.l5 N N:=Fx.uL [] (UG N) ρ (lz.l5 N) fun n ρ' e d=>by rw[e];rfl
theorem alc(K):(Gk N).top K=lz.b N ((Gk N).kc K 11):=by kernel_rfl
noncomputable def agp:Kn Tryz.prog:=⟨193,(Gk N).S false (lz N),Fx.u1 (Gk N) ar Tryz.func193 [11] (alc N) (by rw[UH];rfl)⟩
noncomputable def agq:Fx:=⟨11,tab,Kn.l [agp N],N,Tryz.f317,[.v an,.v cj],[.v bN,.v I],[],none⟩
noncomputable def ald:Kn Tryz.prog:=⟨317,(agq N).S false (YF N),Fx.u0 (agq N) ar Tryz.func317⟩
noncomputable def agr:Fx:=⟨9,tab,Kn.l [PB N],N,Tryz.f306,[.v aC,.v I],[.v I],[],none⟩
noncomputable def UI:Kn Tryz.prog:=⟨306,(agr N).S true (Ir N),Fx.u0 (agr N) ar Tryz.func306⟩
noncomputable def ags:Fx:=⟨69,tab,Kn.l [oS N,IU N,UF N,k31 N,ald N,UI N,tk N,TK N],N,Tryz.f303,[.v an,.v aC,.v I,.v I,.v I],[.v I],[],none⟩
noncomputable def ale:Kn Tryz.prog:=⟨303,(ags N).S true (RY N),Fx.u0 (ags N) ar Tryz.func303⟩
noncomputable def Gl:Fx:=⟨61,tab,Kn.l [ZN N,S8 N,L7 N],N,Tryz.f304,[.v cj,.v cD,.v I,.v I],[.own cL,.v I],[⟨27,[(2,.v I),(3,.v I),(13,.own cL),(14,.v I)],[1,1,1,1,1,1,1,1,0,1,0,0],[]⟩],none⟩
theorem UJ(K ρ):(Gl N).bd K ρ 27=m0.lN N ((Gl N).kc ρ 27):=by kernel_rfl
theorem UK(ρ):(Gl N).kc ((Gl N).bp ρ) 27=m0.nV N N:=Fx.uL [] (UJ N) ρ (m0.nV N) fun n ρ' e d=>by rw[e];rfl
theorem alf(K):(Gl N).top K=m0.b N ((Gl N).kc K 27):=by kernel_rfl
noncomputable def alg:Kn Tryz.prog:=⟨304,(Gl N).S false (m0 N),Fx.u1 (Gl N) ar Tryz.func304 [27] (alf N) (by rw[UK];rfl)⟩
noncomputable def agt:Fx:=⟨42,tab,Kn.l [ale N,alg N],N,Tryz.f294,[.v an,.v aC,.v I,.v I,.v I],[.v aC,.v I],[],none⟩
noncomputable def alh:Kn Tryz.prog:=⟨294,(agt N).S false (RX N),Fx.u0 (agt N) ar Tryz.func294⟩
noncomputable def agu:Fx:=⟨11,tab,Kn.l [agp N],N,Tryz.f130,[.v an,.v cj],[.v bN,.v I],[],none⟩
noncomputable def agv:Kn Tryz.prog:=⟨130,(agu N).S false (ON N),Fx.u0 (agu N) ar Tryz.func130⟩
noncomputable def agw:Fx:=⟨55,tab,Kn.l [oS N,IU N,k31 N,agv N,UI N,zH N],N,Tryz.f305,[.v an,.v aC,.v I],[.v I,.v I],[],none⟩
noncomputable def ali:Kn Tryz.prog:=⟨305,(agw N).S true (R7 N),Fx.u0 (agw N) ar Tryz.func305⟩
noncomputable def Gm:Fx:=⟨76,tab,Kn.l [k69 N],N,Tryz.f307,[.v bK,.v I,.v I],[.own fN],[⟨11,[(0,.v bK),(1,.v I),(2,.v I),(7,.own fN),(8,.v I)],[1,1,1,0,1,0,0],[]⟩],none⟩
theorem UL(K ρ):(Gm N).bd K ρ 11=lV.dn N ((Gm N).kc ρ 11):=by kernel_rfl
theorem UM(ρ):(Gm N).kc ((Gm N).bp ρ) 11=lV.l5 N N:=Fx.uL [] (UL N) ρ (lV.l5 N) fun n ρ' e d=>by rw[e];rfl
theorem alj(K):(Gm N).top K=lV.b N ((Gm N).kc K 11):=by kernel_rfl
noncomputable def alk:Kn Tryz.prog:=⟨307,(Gm N).S false (lV N),Fx.u1 (Gm N) ar Tryz.func307 [11] (alj N) (by rw[UM];rfl)⟩
noncomputable def uS:Fx:=⟨86,tab,Kn.l [oS N,UF N,ali N,tk N,PC N,UI N,ZT N,alk N,F5 N],N,Tryz.f295,[.v an,.v aC,.v I],[.v aC,.v I],[⟨30,[(2,.v I),(3,.obj an),(4,.obj aC),(6,.obj aC),(8,.own fN),(9,.own ng),(10,.v I),(11,.obj cL)],[1,1,1,1,1,0,1,0,0,1,0,0,1,1,1],[17]⟩,⟨17,[(2,.v I),(3,.obj an),(4,.obj aC),(6,.obj aC),(8,.own fN),(9,.own ng),(10,.v I)],[1,1,1,1,1,0,1,0,0],[]⟩],none⟩
theorem UN(K ρ):(uS N).bd K ρ 30=fB.ta N ((uS N).kc ρ 17):=by kernel_rfl
theorem UO(ρ):(uS N).kc ((uS N).bp ρ) 30=fB.Ar N ((uS N).kc ρ 17):=Fx.uJ [] (UN N) ρ
theorem UP(K ρ):(uS N).bd K ρ 17=fB.xC N ((uS N).kc K 30) ((uS N).kc ρ 17):=by kernel_rfl
theorem UQ(ρ):(uS N).kc ((uS N).bp ρ) 17=fB.l8 N N:=Fx.uL [30] (UP N) ρ (fB.l8 N) fun n ρ' e d=>by rw[UO,e];rfl
theorem alm(K):(uS N).top K=fB.b N ((uS N).kc K 17):=by kernel_rfl
noncomputable def aln:Kn Tryz.prog:=⟨295,(uS N).S false (fB N),Fx.u1 (uS N) ar Tryz.func295 [17] (alm N) (by rw[UQ];rfl)⟩
noncomputable def Gn:Fx:=⟨48,tab,Kn.l [oS N,k20 N,tk N,P3 N,IV N],N,Tryz.f100,[.v an,.v aC],[.own bN,.v I],[⟨11,[(2,.obj an),(3,.obj aC),(6,.own bN),(7,.v I)],[1,1,1,0,1,0,0],[]⟩],none⟩
theorem UR(K ρ):(Gn N).bd K ρ 11=mV.dn N ((Gn N).kc ρ 11):=by kernel_rfl
theorem US(ρ):(Gn N).kc ((Gn N).bp ρ) 11=mV.l5 N N:=Fx.uL [] (UR N) ρ (mV.l5 N) fun n ρ' e d=>by rw[e];rfl
theorem alo(K):(Gn N).top K=mV.b N ((Gn N).kc K 11):=by kernel_rfl
noncomputable def alp:Kn Tryz.prog:=⟨100,(Gn N).S false (mV N),Fx.u1 (Gn N) ar Tryz.func100 [11] (alo N) (by rw[US];rfl)⟩
noncomputable def Xb:Fx:=⟨31,tab,Kn.l [IT N],N,Tryz.f45,[.v an,.v I],[.own I],[⟨11,[(1,.v I),(2,.obj an),(5,.own I),(6,.v I)],[1,1,1,0,1,0,0],[]⟩],none⟩
theorem aar(K ρ):(Xb N).bd K ρ 11=wx.dn N ((Xb N).kc ρ 11):=by kernel_rfl
theorem aas(ρ):(Xb N).kc ((Xb N).bp ρ) 11=wx.l5 N N:=Fx.uL [] (aar N) ρ (wx.l5 N) fun n ρ' e d=>by rw[e];rfl
theorem h45(K):(Xb N).top K=wx.b N ((Xb N).kc K 11):=by kernel_rfl
noncomputable def k45:Kn Tryz.prog:=⟨45,(Xb N).S false (wx N),Fx.u1 (Xb N) ar Tryz.func45 [11] (h45 N) (by rw[aas];rfl)⟩
noncomputable def Gp:Fx:=⟨35,tab,Kn.l [ZS N],N,Tryz.f167,[.v LU],[.v LU,.v U],[⟨9,[(0,.v LU),(4,.own U),(5,.v U),(6,.v I)],[1,1,1,0,1,0,0],[]⟩],none⟩
theorem aat(K ρ):(Gp N).bd K ρ 9=lf.ca N ((Gp N).kc ρ 9):=by kernel_rfl
theorem aau(ρ):(Gp N).kc ((Gp N).bp ρ) 9=lf.l4 N N:=Fx.uL [] (aat N) ρ (lf.l4 N) fun n ρ' e d=>by rw[e];rfl
theorem alq(K):(Gp N).top K=lf.b N ((Gp N).kc K 9):=by kernel_rfl
noncomputable def alr:Kn Tryz.prog:=⟨167,(Gp N).S false (lf N),Fx.u1 (Gp N) ar Tryz.func167 [9] (alq N) (by rw[aau];rfl)⟩
noncomputable def vE:Fx:=⟨77,tab,Kn.l [alr N,IV N,tk N,TK N,Z8 N,Ts N,ZT N],N,Tryz.f101,[.v bN,.v bN],[.v bN,.v bN],[⟨19,[(2,.obj bN),(3,.obj bN),(4,.obj bN),(5,.obj bN),(6,.own U),(10,.obj bN),(11,.obj bN),(12,.v I)],[1,1,1,1,0,1,0,0],[]⟩,⟨7,[(2,.obj bN),(3,.obj bN),(4,.obj bN),(5,.obj bN),(6,.own U),(7,.v LU)],[1,1,0,1,0,0],[]⟩],none⟩
theorem UT(K ρ):(vE N).bd K ρ 19=eL.sd N ((vE N).kc ρ 19):=by kernel_rfl
theorem UU(ρ):(vE N).kc ((vE N).bp ρ) 19=eL.l9 N N:=Fx.uL [] (UT N) ρ (eL.l9 N) fun n ρ' e d=>by rw[e];rfl
theorem aav(K ρ):(vE N).bd K ρ 7=eL.ig N ((vE N).kc K 19) ((vE N).kc ρ 7):=by kernel_rfl
theorem aaw(ρ):(vE N).kc ((vE N).bp ρ) 7=eL.l3 N N:=Fx.uL [19] (aav N) ρ (eL.l3 N) fun n ρ' e d=>by rw[UU,e];rfl
theorem als(K):(vE N).top K=eL.b N ((vE N).kc K 7):=by kernel_rfl
noncomputable def agx:Kn Tryz.prog:=⟨101,(vE N).S false (eL N),Fx.u1 (vE N) ar Tryz.func101 [7,19] (als N) (by rw[aaw];rfl)⟩
noncomputable def J7:Fx:=⟨104,tab,Kn.l [alp N,k45 N,k36 N,tk N,TK N,agx N,zH N,Ts N],N,Tryz.f39,[.v an,.v aC,.v I],[.own cL,.v I],[⟨30,[(2,.v I),(3,.obj an),(4,.obj aC),(8,.own bN),(10,.own cL),(11,.v I),(12,.own I),(16,.v I)],[1,1,1,1,0,1,0,0,1,0,0,1,1,1,1,1,1],[13]⟩,⟨13,[(2,.v I),(3,.obj an),(4,.obj aC),(8,.own bN),(10,.own cL),(11,.v I)],[1,1,1,1,0,1,0,0],[]⟩],none⟩
theorem aax(K ρ):(J7 N).bd K ρ 30=pK.ta N ((J7 N).kc ρ 13):=by kernel_rfl
theorem aay(ρ):(J7 N).kc ((J7 N).bp ρ) 30=pK.Ar N ((J7 N).kc ρ 13):=Fx.uJ [] (aax N) ρ
theorem aaz(K ρ):(J7 N).bd K ρ 13=pK.mg N ((J7 N).kc K 30) ((J7 N).kc ρ 13):=by kernel_rfl
theorem aaA(ρ):(J7 N).kc ((J7 N).bp ρ) 13=pK.l6 N N:=Fx.uL [30] (aaz N) ρ (pK.l6 N) fun n ρ' e d=>by rw[aay,e];rfl
theorem h39(K):(J7 N).top K=pK.b N ((J7 N).kc K 13):=by kernel_rfl
noncomputable def k39:Kn Tryz.prog:=⟨39,(J7 N).S false (pK N),Fx.u1 (J7 N) ar Tryz.func39 [13] (h39 N) (by rw[aaA];rfl)⟩
noncomputable def agy:Fx:=⟨41,tab,[],N,Tryz.f106,[.v cL],[.v B],[],none⟩
noncomputable def alu:Kn Tryz.prog:=⟨106,(agy N).S true (RA N),Fx.u0 (agy N) ar Tryz.func106⟩
noncomputable def IY:Fx:=⟨113,tab,Kn.l [oS N,alu N,af6 N,agd N],N,Tryz.f103,[.v an,.v aC,.v cL,.v I,.v I,.v I],[.v aC,.v cL,.v I],[⟨28,[(4,.v I),(6,.obj an),(7,.obj aC),(8,.obj cL),(12,.obj aC),(13,.obj cL),(17,.obj oQ)],[1,1,1,1,1,1,1,1],[]⟩],none⟩
theorem UW(K ρ):(IY N).bd K ρ 28=pL.Yz N:=by kernel_rfl
theorem UX(ρ):(IY N).kc ((IY N).bp ρ) 28=pL.j14 N:=Fx.uJ [] (UW N) ρ
theorem alv(K):(IY N).top K=pL.b N ((IY N).kc K 28):=by kernel_rfl
noncomputable def alw:Kn Tryz.prog:=⟨103,(IY N).S false (pL N),Fx.u1 (IY N) ar Tryz.func103 [28] (alv N) (by rw[UX];rfl)⟩
noncomputable def Gq:Fx:=⟨77,tab,Kn.l [alw N,S7 N],N,Tryz.f296,[.v an,.v bM,.v mm],[.v bM,.v fN],[⟨11,[(3,.obj an),(4,.obj bM),(5,.obj mm),(6,.obj bM),(7,.obj fN),(8,.own cL),(9,.v B),(10,.v I),(11,.v I)],[1,1,1,1,0,1,0,0],[]⟩],none⟩
theorem UY(K ρ):(Gq N).bd K ρ 11=nc.dn N ((Gq N).kc ρ 11):=by kernel_rfl
theorem UZ(ρ):(Gq N).kc ((Gq N).bp ρ) 11=nc.l5 N N:=Fx.uL [] (UY N) ρ (nc.l5 N) fun n ρ' e d=>by rw[e];rfl
theorem alx(K):(Gq N).top K=nc.b N ((Gq N).kc K 11):=by kernel_rfl
noncomputable def aly:Kn Tryz.prog:=⟨296,(Gq N).S false (nc N),Fx.u1 (Gq N) ar Tryz.func296 [11] (alx N) (by rw[UZ];rfl)⟩
noncomputable def Gr:Fx:=⟨28,tab,Kn.l [Ts N,tk N,P3 N,TK N],N,Tryz.f128,[.v bN,.v I],[.v I],[⟨9,[(1,.v I),(2,.obj bN),(5,.v I)],[1,1,1,0,0,0],[]⟩],none⟩
theorem aaB(K ρ):(Gr N).bd K ρ 9=m4.ca N ((Gr N).kc ρ 9):=by kernel_rfl
theorem aaC(ρ):(Gr N).kc ((Gr N).bp ρ) 9=m4.l4 N N:=Fx.uL [] (aaB N) ρ (m4.l4 N) fun n ρ' e d=>by rw[e];rfl
theorem Rm(K):(Gr N).top K=m4.b N ((Gr N).kc K 9):=by kernel_rfl
noncomputable def alz:Kn Tryz.prog:=⟨128,(Gr N).S true (m4 N),Fx.u1 (Gr N) ar Tryz.func128 [9] (Rm N) (by rw[aaC];rfl)⟩
noncomputable def Gs:Fx:=⟨24,tab,[],N,Tryz.f217,[.v I,.v LI],[.v B],[⟨9,[(1,.v LI),(5,.v I)],[1,1,0,1,0,0],[]⟩],none⟩
theorem aaD(K ρ):(Gs N).bd K ρ 9=lx.ca N ((Gs N).kc ρ 9):=by kernel_rfl
theorem aaE(ρ):(Gs N).kc ((Gs N).bp ρ) 9=lx.l4 N N:=Fx.uL [] (aaD N) ρ (lx.l4 N) fun n ρ' e d=>by rw[e];rfl
theorem alA(K):(Gs N).top K=lx.b N ((Gs N).kc K 9):=by kernel_rfl
noncomputable def agz:Kn Tryz.prog:=⟨217,(Gs N).S true (lx N),Fx.u1 (Gs N) ar Tryz.func217 [9] (alA N) (by rw[aaE];rfl)⟩
noncomputable def Gt:Fx:=⟨19,tab,Kn.l [tk N,IV N],N,Tryz.f218,[.v LI],[.v bN],[⟨7,[(0,.v LI),(2,.obj bN),(3,.obj bN),(4,.v I)],[1,1,0,1,0,0],[]⟩],none⟩
theorem aaF(K ρ):(Gt N).bd K ρ 7=ld.ig N ((Gt N).kc ρ 7):=by kernel_rfl
theorem aaG(ρ):(Gt N).kc ((Gt N).bp ρ) 7=ld.l3 N N:=Fx.uL [] (aaF N) ρ (ld.l3 N) fun n ρ' e d=>by rw[e];rfl
theorem alB(K):(Gt N).top K=ld.b N ((Gt N).kc K 7):=by kernel_rfl
noncomputable def aaH:Kn Tryz.prog:=⟨218,(Gt N).S false (ld N),Fx.u1 (Gt N) ar Tryz.func218 [7] (alB N) (by rw[aaG];rfl)⟩
noncomputable def nD:Fx:=⟨48,tab,[],N,Tryz.f238,[.v LI],[.own I],[⟨16,[(0,.v LI),(3,.own I),(4,.v I),(5,.v I)],[1,1,0,1,0,0,1,0,0,1,1],[7]⟩,⟨13,[(0,.v LI),(3,.own I),(4,.v I),(5,.v I)],[1,1,0,1,0,0,1,0,0,1,0,0,0],[7]⟩,⟨7,[(0,.v LI),(3,.own I),(4,.v I)],[1,1,0,1,0,0],[]⟩],none⟩
theorem U0(K ρ):(nD N).bd K ρ 16=dp.HW N ((nD N).kc ρ 7):=by kernel_rfl
theorem U1(ρ):(nD N).kc ((nD N).bp ρ) 16=dp.j8 N ((nD N).kc ρ 7):=Fx.uJ [] (U0 N) ρ
theorem U2(K ρ):(nD N).bd K ρ 13=dp.mg N ((nD N).kc K 16) ((nD N).kc ρ 7) ((nD N).kc ρ 13):=by kernel_rfl
theorem U3(ρ):(nD N).kc ((nD N).bp ρ) 13=dp.l6 N ((nD N).kc ρ 7) N:=Fx.uL [16] (U2 N) ρ (dp.l6 N ((nD N).kc ρ 7)) fun n ρ' e d=>by rw[U1,e,d 7 rfl];rfl
theorem aaI(K ρ):(nD N).bd K ρ 7=dp.ig N ((nD N).kc K 13) ((nD N).kc ρ 7):=by kernel_rfl
theorem aaJ(ρ):(nD N).kc ((nD N).bp ρ) 7=dp.l3 N N:=Fx.uL [13,16] (aaI N) ρ (dp.l3 N) fun n ρ' e d=>by rw[U3,e];rfl
theorem alC(K):(nD N).top K=dp.b N ((nD N).kc K 7):=by kernel_rfl
noncomputable def alD:Kn Tryz.prog:=⟨238,(nD N).S false (dp N),Fx.u1 (nD N) ar Tryz.func238 [7] (alC N) (by rw[aaJ];rfl)⟩
noncomputable def q6:Fx:=⟨112,tab,Kn.l [agz N,aaH N,Ts N,zH N,tk N,P3 N,agx N,alD N],N,Tryz.f192,[.v I,.v LI],[.own I,.v I],[⟨45,[(9,.own I),(11,.v I),(15,.own I),(16,.v I)],[1,1,1,1,1,1,1,1,1,1,0,1,0,0],[]⟩,⟨29,[(0,.v I),(1,.v LI),(6,.obj bN),(9,.own I),(10,.own I),(11,.v I),(12,.v I)],[1,1,1,1,1,1,1,1,0,1,0,0],[]⟩,⟨12,[(0,.v I),(1,.v LI),(6,.obj bN)],[1,1,1,1],[]⟩],none⟩
theorem U4(K ρ):(q6 N).bd K ρ 45=dz.pq N ((q6 N).kc ρ 45):=by kernel_rfl
theorem U5(ρ):(q6 N).kc ((q6 N).bp ρ) 45=dz.qc N N:=Fx.uL [] (U4 N) ρ (dz.qc N) fun n ρ' e d=>by rw[e];rfl
theorem U6(K ρ):(q6 N).bd K ρ 29=dz.zd N ((q6 N).kc K 45) ((q6 N).kc ρ 29):=by kernel_rfl
theorem U7(ρ):(q6 N).kc ((q6 N).bp ρ) 29=dz.Bn N N:=Fx.uL [45] (U6 N) ρ (dz.Bn N) fun n ρ' e d=>by rw[U5,e];rfl
theorem U8(K ρ):(q6 N).bd K ρ 12=dz.Mf N ((q6 N).kc K 29):=by kernel_rfl
theorem U9(ρ):(q6 N).kc ((q6 N).bp ρ) 12=dz.j6 N:=Fx.uJ [29,45] (U8 N) ρ (by rw[U7];rfl)
theorem alE(K):(q6 N).top K=dz.b N ((q6 N).kc K 12):=by kernel_rfl
noncomputable def aaK:Kn Tryz.prog:=⟨192,(q6 N).S false (dz N),Fx.u1 (q6 N) ar Tryz.func192 [12,29,45] (alE N) (by rw[U9];rfl)⟩
noncomputable def Gu:Fx:=⟨33,tab,Kn.l [aaK N],N,Tryz.f129,[.v I,.v I],[.own I,.v I],[⟨11,[(0,.v I),(1,.v I),(6,.own I),(7,.v I)],[1,1,1,0,1,0,0],[]⟩],none⟩
theorem Va(K ρ):(Gu N).bd K ρ 11=mT.dn N ((Gu N).kc ρ 11):=by kernel_rfl
theorem Vb(ρ):(Gu N).kc ((Gu N).bp ρ) 11=mT.l5 N N:=Fx.uL [] (Va N) ρ (mT.l5 N) fun n ρ' e d=>by rw[e];rfl
theorem alF(K):(Gu N).top K=mT.b N ((Gu N).kc K 11):=by kernel_rfl
noncomputable def alG:Kn Tryz.prog:=⟨129,(Gu N).S false (mT N),Fx.u1 (Gu N) ar Tryz.func129 [11] (alF N) (by rw[Vb];rfl)⟩
noncomputable def jV:Fx:=⟨175,tab,Kn.l [oS N,k31 N,tk N,k36 N,IV N,alz N,alG N,agv N,ZT N,zH N],N,Tryz.f53,[.v an,.v aC,.v I],[.own dM,.v I],[⟨64,[(2,.v I),(3,.obj an),(8,.own gB),(9,.own dM),(10,.v I),(11,.own gB),(14,.v I),(15,.v I),(16,.dN dM [.gk 1] gB),(17,.v I),(19,.own I)],[1,1,1,1,1,0,1,0,0,1,0,0,1,1,1,1,1,0,0,1,0,0,1,0,1,0,0,1,0,0,1,1,1,1],[17,41,49]⟩,⟨58,[(2,.v I),(3,.obj an),(8,.own gB),(9,.own dM),(10,.v I),(11,.own gB),(14,.v I),(15,.v I),(16,.dN dM [.gk 1] gB),(17,.v I),(18,.v I)],[1,1,1,1,1,0,1,0,0,1,0,0,1,1,1,1,1,0,0,1,0,0,1,0,1,0,0,1,0,0,1,1],[17,41,49]⟩,⟨49,[(2,.v I),(3,.obj an),(8,.own gB),(9,.own dM),(10,.v I),(11,.own gB),(14,.v I),(15,.v I),(16,.dN dM [.gk 1] gB),(17,.v I)],[1,1,1,1,1,0,1,0,0,1,0,0,1,1,1,1,1,0,0,1,0,0,1,0,1,0,0],[17,41]⟩,⟨41,[(2,.v I),(3,.obj an),(8,.own gB),(9,.own dM),(10,.v I),(11,.own gB),(14,.v I),(15,.v I)],[1,1,1,1,1,0,1,0,0,1,0,0,1,1,1,1,1,0,0],[17]⟩,⟨27,[(2,.v I),(3,.obj an),(8,.own gB),(9,.own dM),(10,.v I),(11,.own gB),(12,.obj bN),(13,.v I)],[1,1,1,1,1,0,1,0,0,1,0,0,1,1,0,1,0,0],[17]⟩,⟨17,[(2,.v I),(3,.obj an),(8,.own gB),(9,.own dM),(10,.v I)],[1,1,1,1,1,0,1,0,0],[]⟩],some (dM,[.gk 1],gB,[16])⟩
theorem aaL(K ρ):(jV N).bd K ρ 64=cP.YH N ((jV N).kc ρ 17) ((jV N).kc ρ 41) ((jV N).kc ρ 49):=by kernel_rfl
theorem aaM(ρ):(jV N).kc ((jV N).bp ρ) 64=cP.j32 N ((jV N).kc ρ 17) ((jV N).kc ρ 41) ((jV N).kc ρ 49):=Fx.uJ [] (aaL N) ρ
theorem aaN(K ρ):(jV N).bd K ρ 58=cP.It N ((jV N).kc K 64) ((jV N).kc ρ 17) ((jV N).kc ρ 41) ((jV N).kc ρ 49):=by kernel_rfl
theorem aaO(ρ):(jV N).kc ((jV N).bp ρ) 58=cP.OM N ((jV N).kc ρ 17) ((jV N).kc ρ 41) ((jV N).kc ρ 49):=Fx.uJ [64] (aaN N) ρ (by rw[aaM];rfl)
theorem aaP(K ρ):(jV N).bd K ρ 49=cP.Io N ((jV N).kc K 58) ((jV N).kc ρ 17) ((jV N).kc ρ 41) ((jV N).kc ρ 49):=by kernel_rfl
theorem aaQ(ρ):(jV N).kc ((jV N).bp ρ) 49=cP.GZ N ((jV N).kc ρ 17) ((jV N).kc ρ 41) N:=Fx.uL [58,64] (aaP N) ρ (cP.GZ N ((jV N).kc ρ 17) ((jV N).kc ρ 41)) fun n ρ' e d=>by rw[aaO,e,d 17 rfl,d 41 rfl];rfl
theorem aaR(K ρ):(jV N).bd K ρ 41=cP.Is N ((jV N).kc K 49) ((jV N).kc ρ 17) ((jV N).kc ρ 41):=by kernel_rfl
theorem aaS(ρ):(jV N).kc ((jV N).bp ρ) 41=cP.CI N ((jV N).kc ρ 17) N:=Fx.uL [49] (aaR N) ρ (cP.CI N ((jV N).kc ρ 17)) fun n ρ' e d=>by rw[aaQ,e,d 17 rfl];rfl
theorem aaT(K ρ):(jV N).bd K ρ 27=cP.lN N ((jV N).kc K 41) ((jV N).kc ρ 17) ((jV N).kc ρ 27):=by kernel_rfl
theorem aaU(ρ):(jV N).kc ((jV N).bp ρ) 27=cP.nV N ((jV N).kc ρ 17) N:=Fx.uL [41] (aaT N) ρ (cP.nV N ((jV N).kc ρ 17)) fun n ρ' e d=>by rw[aaS,e,d 17 rfl];rfl
theorem aaV(K ρ):(jV N).bd K ρ 17=cP.xC N ((jV N).kc K 27) ((jV N).kc ρ 17):=by kernel_rfl
theorem aaW(ρ):(jV N).kc ((jV N).bp ρ) 17=cP.l8 N N:=Fx.uL [27,41] (aaV N) ρ (cP.l8 N) fun n ρ' e d=>by rw[aaU,e];rfl
theorem h53(K):(jV N).top K=cP.b N ((jV N).kc K 17):=by kernel_rfl
noncomputable def k53:Kn Tryz.prog:=⟨53,(jV N).S false (cP N),Fx.u1 (jV N) ar Tryz.func53 [17] (h53 N) (by rw[aaW];rfl)⟩
noncomputable def Gv:Fx:=⟨48,tab,Kn.l [oS N,PB N],N,Tryz.f297,[.v an,.v aC],[.own I,.v I],[⟨11,[(3,.obj aC),(6,.own I),(7,.v I)],[1,1,1,0,1,0,0],[]⟩],none⟩
theorem Vc(K ρ):(Gv N).bd K ρ 11=m5.dn N ((Gv N).kc ρ 11):=by kernel_rfl
theorem Vd(ρ):(Gv N).kc ((Gv N).bp ρ) 11=m5.l5 N N:=Fx.uL [] (Vc N) ρ (m5.l5 N) fun n ρ' e d=>by rw[e];rfl
theorem alH(K):(Gv N).top K=m5.b N ((Gv N).kc K 11):=by kernel_rfl
noncomputable def alI:Kn Tryz.prog:=⟨297,(Gv N).S false (m5 N),Fx.u1 (Gv N) ar Tryz.func297 [11] (alH N) (by rw[Vd];rfl)⟩
noncomputable def uT:Fx:=⟨99,tab,Kn.l [IT N,TH N],N,Tryz.f131,[.v an,.v dm],[.v B],[⟨18,[(1,.v dm),(2,.obj an),(5,.v I),(6,.obj dM)],[1,1,0,1,0,0,1,0,0,1,1],[9]⟩,⟨9,[(1,.v dm),(2,.obj an),(5,.v I)],[1,1,0,1,0,0],[]⟩],none⟩
theorem Ve(K ρ):(uT N).bd K ρ 18=e9.Hw N ((uT N).kc ρ 9):=by kernel_rfl
theorem Vf(ρ):(uT N).kc ((uT N).bp ρ) 18=e9.j9 N ((uT N).kc ρ 9):=Fx.uJ [] (Ve N) ρ
theorem aaX(K ρ):(uT N).bd K ρ 9=e9.ca N ((uT N).kc K 18) ((uT N).kc ρ 9):=by kernel_rfl
theorem aaY(ρ):(uT N).kc ((uT N).bp ρ) 9=e9.l4 N N:=Fx.uL [18] (aaX N) ρ (e9.l4 N) fun n ρ' e d=>by rw[Vf,e];rfl
theorem alJ(K):(uT N).top K=e9.b N ((uT N).kc K 9):=by kernel_rfl
noncomputable def aaZ:Kn Tryz.prog:=⟨131,(uT N).S true (e9 N),Fx.u1 (uT N) ar Tryz.func131 [9] (alJ N) (by rw[aaY];rfl)⟩
noncomputable def Gw:Fx:=⟨25,tab,[],N,Tryz.f318,[.v dm,.v I],[.v dM,.v B],[⟨5,[(0,.v dm),(1,.v I),(4,.obj dM),(6,.v I)],[1,0,1,0,0],[]⟩],none⟩
theorem aa0(K ρ):(Gw N).bd K ρ 5=lU.dI N ((Gw N).kc ρ 5):=by kernel_rfl
theorem aa1(ρ):(Gw N).kc ((Gw N).bp ρ) 5=lU.l2 N N:=Fx.uL [] (aa0 N) ρ (lU.l2 N) fun n ρ' e d=>by rw[e];rfl
theorem alK(K):(Gw N).top K=lU.b N ((Gw N).kc K 5):=by kernel_rfl
noncomputable def agA:Kn Tryz.prog:=⟨318,(Gw N).S false (lU N),Fx.u1 (Gw N) ar Tryz.func318 [5] (alK N) (by rw[aa1];rfl)⟩
noncomputable def lY:Fx:=⟨75,tab,Kn.l [tk N,IV N,afM N],N,Tryz.f319,[.v cj,.v cj],[.own gB,.v B],[⟨25,[(0,.v cj),(1,.v cj),(6,.own gB),(7,.v I),(8,.obj bN),(10,.v I)],[1,1,0,1,0,0,1,0,0,1,1,0,1,0,0],[7]⟩,⟨15,[(0,.v cj),(1,.v cj),(6,.own gB),(7,.v I),(8,.obj bN),(9,.v I)],[1,1,0,1,0,0,1,0,0,1,0,1,0,0],[7]⟩,⟨7,[(0,.v cj),(1,.v cj),(6,.own gB),(7,.v I)],[1,1,0,1,0,0],[]⟩],none⟩
theorem Vg(K ρ):(lY N).bd K ρ 25=c5.lM N ((lY N).kc ρ 7) ((lY N).kc ρ 25):=by kernel_rfl
theorem Vh(ρ):(lY N).kc ((lY N).bp ρ) 25=c5.nn N ((lY N).kc ρ 7) N:=Fx.uL [] (Vg N) ρ (c5.nn N ((lY N).kc ρ 7)) fun n ρ' e d=>by rw[e,d 7 rfl];rfl
theorem Vi(K ρ):(lY N).bd K ρ 15=c5.lD N ((lY N).kc K 25) ((lY N).kc ρ 7) ((lY N).kc ρ 15):=by kernel_rfl
theorem Vj(ρ):(lY N).kc ((lY N).bp ρ) 15=c5.l7 N ((lY N).kc ρ 7) N:=Fx.uL [25] (Vi N) ρ (c5.l7 N ((lY N).kc ρ 7)) fun n ρ' e d=>by rw[Vh,e,d 7 rfl];rfl
theorem aa2(K ρ):(lY N).bd K ρ 7=c5.ig N ((lY N).kc K 15) ((lY N).kc ρ 7):=by kernel_rfl
theorem aa3(ρ):(lY N).kc ((lY N).bp ρ) 7=c5.l3 N N:=Fx.uL [15,25] (aa2 N) ρ (c5.l3 N) fun n ρ' e d=>by rw[Vj,e];rfl
theorem alL(K):(lY N).top K=c5.b N ((lY N).kc K 7):=by kernel_rfl
noncomputable def alM:Kn Tryz.prog:=⟨319,(lY N).S false (c5 N),Fx.u1 (lY N) ar Tryz.func319 [7] (alL N) (by rw[aa3];rfl)⟩
noncomputable def agB:Fx:=⟨11,tab,Kn.l [L8 N,aad N],N,Tryz.f320,[.v kU,.v I],[.own fN],[],none⟩
noncomputable def alN:Kn Tryz.prog:=⟨320,(agB N).S false (YG N),Fx.u0 (agB N) ar Tryz.func320⟩
noncomputable def xp:Fx:=⟨157,tab,Kn.l [oS N,aaZ N,PD N,agm N,UF N,agA N,k22 N,tk N,P3 N,TK N,k31 N,alM N,alN N,afY N,UI N,Z8 N],N,Tryz.f308,[.v an,.v aC,.v dm,.v cD,.v cL],[.v I],[⟨27,[(3,.v cD),(5,.obj an),(6,.obj aC),(9,.obj cL),(12,.obj dM),(14,.v I),(15,.v I)],[1,1,1,1,1,1,1,1,0,1,0,0],[]⟩,⟨6,[(2,.v dm),(3,.v cD),(5,.obj an),(6,.obj aC),(9,.obj cL)],[1,1],[]⟩],none⟩
theorem Vk(K ρ):(xp N).bd K ρ 27=gD.lN N ((xp N).kc ρ 27):=by kernel_rfl
theorem Vl(ρ):(xp N).kc ((xp N).bp ρ) 27=gD.nV N N:=Fx.uL [] (Vk N) ρ (gD.nV N) fun n ρ' e d=>by rw[e];rfl
theorem aa4(K ρ):(xp N).bd K ρ 6=gD.j3b N ((xp N).kc K 27):=by kernel_rfl
theorem aa5(ρ):(xp N).kc ((xp N).bp ρ) 6=gD.j3 N:=Fx.uJ [27] (aa4 N) ρ (by rw[Vl];rfl)
theorem alO(K):(xp N).top K=gD.b N ((xp N).kc K 6):=by kernel_rfl
noncomputable def alP:Kn Tryz.prog:=⟨308,(xp N).S true (gD N),Fx.u1 (xp N) ar Tryz.func308 [6,27] (alO N) (by rw[aa5];rfl)⟩
noncomputable def agC:Fx:=⟨28,tab,Kn.l [alP N],N,Tryz.f298,[.v an,.v aC,.v dm,.v cD,.v cL],[.own cL,.v I],[],none⟩
noncomputable def alQ:Kn Tryz.prog:=⟨298,(agC N).S false (R1 N),Fx.u0 (agC N) ar Tryz.func298⟩
noncomputable def Xc:Fx:=⟨46,tab,Kn.l [PD N],N,Tryz.f56,[.v cD,.v I],[.v cL,.v B],[⟨13,[(0,.v cD),(1,.v I),(4,.obj cL),(6,.obj cL),(7,.v B),(8,.v I)],[1,1,1,1,0,1,0,0],[]⟩],none⟩
theorem aa6(K ρ):(Xc N).bd K ρ 13=sj.mg N ((Xc N).kc ρ 13):=by kernel_rfl
theorem aa7(ρ):(Xc N).kc ((Xc N).bp ρ) 13=sj.l6 N N:=Fx.uL [] (aa6 N) ρ (sj.l6 N) fun n ρ' e d=>by rw[e];rfl
theorem h56(K):(Xc N).top K=sj.b N ((Xc N).kc K 13):=by kernel_rfl
noncomputable def k56:Kn Tryz.prog:=⟨56,(Xc N).S true (sj N),Fx.u1 (Xc N) ar Tryz.func56 [13] (h56 N) (by rw[aa7];rfl)⟩
noncomputable def G8:Fx:=⟨158,tab,Kn.l [oS N,aaZ N,PD N,k56 N,k22 N,UF N,tk N,PC N,F5 N],N,Tryz.f55,[.v an,.v aC,.v dm,.v cD],[.v aC,.own dM,.v I],[⟨45,[(2,.v dm),(3,.v cD),(5,.obj aC),(8,.obj aC),(11,.own fN),(12,.own ng),(13,.own dM),(14,.v I),(15,.obj dM),(16,.obj cL),(18,.v I),(19,.v I)],[1,1,1,1,1,0,1,0,0,1,0,0,1,1,1,1,1,1,1,1,0,1,0,0],[15]⟩,⟨15,[(2,.v dm),(3,.v cD),(5,.obj aC),(8,.obj aC),(11,.own fN),(12,.own ng),(13,.own dM),(14,.v I)],[1,1,1,1,1,0,1,0,0],[]⟩],none⟩
theorem aa8(K ρ):(G8 N).bd K ρ 45=jk.pq N ((G8 N).kc ρ 15) ((G8 N).kc ρ 45):=by kernel_rfl
theorem aa9(ρ):(G8 N).kc ((G8 N).bp ρ) 45=jk.qc N ((G8 N).kc ρ 15) N:=Fx.uL [] (aa8 N) ρ (jk.qc N ((G8 N).kc ρ 15)) fun n ρ' e d=>by rw[e,d 15 rfl];rfl
theorem aba(K ρ):(G8 N).bd K ρ 15=jk.lD N ((G8 N).kc K 45) ((G8 N).kc ρ 15):=by kernel_rfl
theorem abb(ρ):(G8 N).kc ((G8 N).bp ρ) 15=jk.l7 N N:=Fx.uL [45] (aba N) ρ (jk.l7 N) fun n ρ' e d=>by rw[aa9,e];rfl
theorem h55(K):(G8 N).top K=jk.b N ((G8 N).kc K 15):=by kernel_rfl
noncomputable def k55:Kn Tryz.prog:=⟨55,(G8 N).S false (jk N),Fx.u1 (G8 N) ar Tryz.func55 [15] (h55 N) (by rw[abb];rfl)⟩
noncomputable def Gx:Fx:=⟨58,tab,[],N,Tryz.f309,[.v cj],[.v B],[⟨5,[(0,.v cj),(3,.v I)],[1,0,1,0,0],[]⟩],none⟩
theorem abc(K ρ):(Gx N).bd K ρ 5=kP.dI N ((Gx N).kc ρ 5):=by kernel_rfl
theorem abd(ρ):(Gx N).kc ((Gx N).bp ρ) 5=kP.l2 N N:=Fx.uL [] (abc N) ρ (kP.l2 N) fun n ρ' e d=>by rw[e];rfl
theorem alR(K):(Gx N).top K=kP.b N ((Gx N).kc K 5):=by kernel_rfl
noncomputable def Vm:Kn Tryz.prog:=⟨309,(Gx N).S true (kP N),Fx.u1 (Gx N) ar Tryz.func309 [5] (alR N) (by rw[abd];rfl)⟩
noncomputable def Gy:Fx:=⟨38,tab,[],N,Tryz.f310,[.v LI],[.v B],[⟨5,[(0,.v LI),(3,.v I)],[1,0,1,0,0],[]⟩],none⟩
theorem abe(K ρ):(Gy N).bd K ρ 5=m6.dI N ((Gy N).kc ρ 5):=by kernel_rfl
theorem abf(ρ):(Gy N).kc ((Gy N).bp ρ) 5=m6.l2 N N:=Fx.uL [] (abe N) ρ (m6.l2 N) fun n ρ' e d=>by rw[e];rfl
theorem alS(K):(Gy N).top K=m6.b N ((Gy N).kc K 5):=by kernel_rfl
noncomputable def alT:Kn Tryz.prog:=⟨310,(Gy N).S true (m6 N),Fx.u1 (Gy N) ar Tryz.func310 [5] (alS N) (by rw[abf];rfl)⟩
noncomputable def vF:Fx:=⟨72,tab,Kn.l [agA N],N,Tryz.f311,[.v I,.v dm,.v cD],[.v I],[⟨25,[(0,.v I),(1,.v dm),(7,.v I),(12,.v I)],[1,1,1,0,1,0,0],[]⟩,⟨7,[(0,.v I),(1,.v dm),(2,.v cD),(7,.v I),(8,.v I)],[1,1,0,1,0,0],[]⟩],none⟩
theorem Vn(K ρ):(vF N).bd K ρ 25=fA.lM N ((vF N).kc ρ 25):=by kernel_rfl
theorem Vo(ρ):(vF N).kc ((vF N).bp ρ) 25=fA.nn N N:=Fx.uL [] (Vn N) ρ (fA.nn N) fun n ρ' e d=>by rw[e];rfl
theorem abg(K ρ):(vF N).bd K ρ 7=fA.ig N ((vF N).kc K 25) ((vF N).kc ρ 7):=by kernel_rfl
theorem abh(ρ):(vF N).kc ((vF N).bp ρ) 7=fA.l3 N N:=Fx.uL [25] (abg N) ρ (fA.l3 N) fun n ρ' e d=>by rw[Vo,e];rfl
theorem alU(K):(vF N).top K=fA.b N ((vF N).kc K 7):=by kernel_rfl
noncomputable def alV:Kn Tryz.prog:=⟨311,(vF N).S true (fA N),Fx.u1 (vF N) ar Tryz.func311 [7,25] (alU N) (by rw[abh];rfl)⟩
noncomputable def gZ:Fx:=⟨104,tab,Kn.l [Vm N,alT N,aaZ N,PD N,alV N],N,Tryz.f299,[.v an,.v cj,.v LI,.v dm,.v cD],[.own gB,.v I],[⟨37,[(1,.v cj),(2,.v LI),(3,.v dm),(4,.v cD),(12,.own gB),(13,.v I),(14,.v I),(15,.v B),(18,.v I)],[1,1,1,0,1,0,0,1,0,0,1,1,1,0,1,0,0],[11]⟩,⟨29,[(1,.v cj),(2,.v LI),(3,.v dm),(4,.v cD),(12,.own gB),(13,.v I),(14,.v I),(15,.v B),(17,.v I)],[1,1,1,0,1,0,0,1,0,0,1,1,0,1,0,0],[11]⟩,⟨19,[(1,.v cj),(2,.v LI),(3,.v dm),(4,.v cD),(12,.own gB),(13,.v I),(14,.v I),(15,.v B),(16,.v I)],[1,1,1,0,1,0,0,1,0,0,1,0,1,0,0],[11]⟩,⟨11,[(1,.v cj),(2,.v LI),(3,.v dm),(4,.v cD),(12,.own gB),(13,.v I)],[1,1,1,0,1,0,0],[]⟩],none⟩
theorem Vp(K ρ):(gZ N).bd K ρ 37=cm.rQ N ((gZ N).kc ρ 11) ((gZ N).kc ρ 37):=by kernel_rfl
theorem Vq(ρ):(gZ N).kc ((gZ N).bp ρ) 37=cm.uB N ((gZ N).kc ρ 11) N:=Fx.uL [] (Vp N) ρ (cm.uB N ((gZ N).kc ρ 11)) fun n ρ' e d=>by rw[e,d 11 rfl];rfl
theorem Vr(K ρ):(gZ N).bd K ρ 29=cm.zd N ((gZ N).kc K 37) ((gZ N).kc ρ 11) ((gZ N).kc ρ 29):=by kernel_rfl
theorem Vs(ρ):(gZ N).kc ((gZ N).bp ρ) 29=cm.Bn N ((gZ N).kc ρ 11) N:=Fx.uL [37] (Vr N) ρ (cm.Bn N ((gZ N).kc ρ 11)) fun n ρ' e d=>by rw[Vq,e,d 11 rfl];rfl
theorem Vt(K ρ):(gZ N).bd K ρ 19=cm.sd N ((gZ N).kc K 29) ((gZ N).kc ρ 11) ((gZ N).kc ρ 19):=by kernel_rfl
theorem Vu(ρ):(gZ N).kc ((gZ N).bp ρ) 19=cm.l9 N ((gZ N).kc ρ 11) N:=Fx.uL [29,37] (Vt N) ρ (cm.l9 N ((gZ N).kc ρ 11)) fun n ρ' e d=>by rw[Vs,e,d 11 rfl];rfl
theorem Vv(K ρ):(gZ N).bd K ρ 11=cm.dn N ((gZ N).kc K 19) ((gZ N).kc ρ 11):=by kernel_rfl
theorem Vw(ρ):(gZ N).kc ((gZ N).bp ρ) 11=cm.l5 N N:=Fx.uL [19,29,37] (Vv N) ρ (cm.l5 N) fun n ρ' e d=>by rw[Vu,e];rfl
theorem alW(K):(gZ N).top K=cm.b N ((gZ N).kc K 11):=by kernel_rfl
noncomputable def alX:Kn Tryz.prog:=⟨299,(gZ N).S false (cm N),Fx.u1 (gZ N) ar Tryz.func299 [11] (alW N) (by rw[Vw];rfl)⟩
noncomputable def agD:Fx:=⟨28,tab,Kn.l [PB N],N,Tryz.f321,[.own oQ,.v aC,.v I,.v I,.v I],[.own oQ],[],none⟩
noncomputable def alY:Kn Tryz.prog:=⟨321,(agD N).S false (Iv N),Fx.u0 (agD N) ar Tryz.func321⟩
noncomputable def agE:Fx:=⟨9,tab,[],N,Tryz.f323,[.v I],[.v B],[],none⟩
noncomputable def agF:Kn Tryz.prog:=⟨323,(agE N).S true (OR N),Fx.u0 (agE N) ar Tryz.func323⟩
noncomputable def Gz:Fx:=⟨27,tab,Kn.l [Vm N],N,Tryz.f325,[.v cj,.v I],[.v I],[⟨9,[(0,.v cj),(1,.v I),(5,.v I)],[1,1,0,1,0,0],[]⟩],none⟩
theorem abi(K ρ):(Gz N).bd K ρ 9=m7.ca N ((Gz N).kc ρ 9):=by kernel_rfl
theorem abj(ρ):(Gz N).kc ((Gz N).bp ρ) 9=m7.l4 N N:=Fx.uL [] (abi N) ρ (m7.l4 N) fun n ρ' e d=>by rw[e];rfl
theorem alZ(K):(Gz N).top K=m7.b N ((Gz N).kc K 9):=by kernel_rfl
noncomputable def al0:Kn Tryz.prog:=⟨325,(Gz N).S true (m7 N),Fx.u1 (Gz N) ar Tryz.func325 [9] (alZ N) (by rw[abj];rfl)⟩
noncomputable def GA:Fx:=⟨67,tab,Kn.l [oS N,Vm N,agF N,PB N,al0 N],N,Tryz.f322,[.v an,.v aC,.v cj,.v I,.v I],[.own I,.v I],[⟨11,[(2,.v cj),(3,.v I),(4,.v I),(6,.obj aC),(12,.own I),(13,.v I)],[1,1,1,0,1,0,0],[]⟩],none⟩
theorem Vx(K ρ):(GA N).bd K ρ 11=m8.dn N ((GA N).kc ρ 11):=by kernel_rfl
theorem Vy(ρ):(GA N).kc ((GA N).bp ρ) 11=m8.l5 N N:=Fx.uL [] (Vx N) ρ (m8.l5 N) fun n ρ' e d=>by rw[e];rfl
theorem al1(K):(GA N).top K=m8.b N ((GA N).kc K 11):=by kernel_rfl
noncomputable def al2:Kn Tryz.prog:=⟨322,(GA N).S false (m8 N),Fx.u1 (GA N) ar Tryz.func322 [11] (al1 N) (by rw[Vy];rfl)⟩
noncomputable def iP:Fx:=⟨188,tab,Kn.l [oS N,Vm N,agf N,IX N,k22 N,alY N,al2 N,agF N,tk N,PB N,P3 N,zH N,IU N],N,Tryz.f312,[.v an,.v aC,.v I,.v cj,.v cj],[.own oQ,.v I],[⟨33,[(2,.v I),(3,.v cj),(4,.v cj),(5,.obj an),(6,.obj aC),(12,.own oQ),(14,.v I),(15,.own I),(17,.v I)],[1,1,1,1,1,1,1,0,1,0,0,1,0,0,1,1,0,0],[25]⟩,⟨61,[(2,.v I),(4,.v cj),(6,.obj aC),(12,.own oQ),(22,.v I)],[1,1,1,1,1,1,1,1,1,0,1,0,0],[]⟩,⟨41,[(2,.v I),(4,.v cj),(5,.obj an),(6,.obj aC),(12,.own oQ),(18,.v I)],[1,1,1,1,1,1,1,1,0,1,0,0],[]⟩,⟨25,[(2,.v I),(3,.v cj),(4,.v cj),(5,.obj an),(6,.obj aC),(12,.own oQ),(14,.v I)],[1,1,1,1,1,1,1,0,1,0,0],[]⟩,⟨18,[(2,.v I),(3,.v cj),(4,.v cj),(5,.obj an),(6,.obj aC),(12,.own oQ)],[1,1,1,1,1],[]⟩],none⟩
theorem Vz(K ρ):(iP N).bd K ρ 33=b8.qM N ((iP N).kc ρ 25) ((iP N).kc ρ 33):=by kernel_rfl
theorem VA(ρ):(iP N).kc ((iP N).bp ρ) 33=b8.rP N ((iP N).kc ρ 25) N:=Fx.uL [41,61] (Vz N) ρ (b8.rP N ((iP N).kc ρ 25)) fun n ρ' e d=>by rw[e,d 25 rfl];rfl
theorem VB(K ρ):(iP N).bd K ρ 61=b8.EB N ((iP N).kc ρ 61):=by kernel_rfl
theorem VC(ρ):(iP N).kc ((iP N).bp ρ) 61=b8.HT N N:=Fx.uL [] (VB N) ρ (b8.HT N) fun n ρ' e d=>by rw[e];rfl
theorem VE(K ρ):(iP N).bd K ρ 41=b8.Is N ((iP N).kc K 61) ((iP N).kc ρ 41):=by kernel_rfl
theorem VF(ρ):(iP N).kc ((iP N).bp ρ) 41=b8.CI N N:=Fx.uL [61] (VE N) ρ (b8.CI N) fun n ρ' e d=>by rw[VC,e];rfl
theorem VG(K ρ):(iP N).bd K ρ 25=b8.lM N ((iP N).kc K 33) ((iP N).kc K 41) ((iP N).kc ρ 25):=by kernel_rfl
theorem VH(ρ):(iP N).kc ((iP N).bp ρ) 25=b8.nn N N:=Fx.uL [41,61,33] (VG N) ρ (b8.nn N) fun n ρ' e d=>by rw[VA,VF,e];rfl
theorem VI(K ρ):(iP N).bd K ρ 18=b8.Hw N ((iP N).kc K 25):=by kernel_rfl
theorem VJ(ρ):(iP N).kc ((iP N).bp ρ) 18=b8.j9 N:=Fx.uJ [25,41,61] (VI N) ρ (by rw[VH];rfl)
theorem al3(K):(iP N).top K=b8.b N ((iP N).kc K 18):=by kernel_rfl
noncomputable def al4:Kn Tryz.prog:=⟨312,(iP N).S false (b8 N),Fx.u1 (iP N) ar Tryz.func312 [18,25,41,61] (al3 N) (by rw[VJ];rfl)⟩
noncomputable def agG:Fx:=⟨19,tab,Kn.l [oS N,PB N],N,Tryz.f313,[.v an,.v aC],[.v I,.v I],[],none⟩
noncomputable def al5:Kn Tryz.prog:=⟨313,(agG N).S true (R2 N),Fx.u0 (agG N) ar Tryz.func313⟩
noncomputable def GB:Fx:=⟨97,tab,Kn.l [ae7 N],N,Tryz.f324,[.v CP],[.v B],[⟨9,[(0,.v CP),(3,.v I)],[1,1,0,1,0,0],[]⟩],none⟩
theorem abk(K ρ):(GB N).bd K ρ 9=m9.ca N ((GB N).kc ρ 9):=by kernel_rfl
theorem abl(ρ):(GB N).kc ((GB N).bp ρ) 9=m9.l4 N N:=Fx.uL [] (abk N) ρ (m9.l4 N) fun n ρ' e d=>by rw[e];rfl
theorem al6(K):(GB N).top K=m9.b N ((GB N).kc K 9):=by kernel_rfl
noncomputable def al7:Kn Tryz.prog:=⟨324,(GB N).S true (m9 N),Fx.u1 (GB N) ar Tryz.func324 [9] (al6 N) (by rw[abl];rfl)⟩
noncomputable def iQ:Fx:=⟨106,tab,Kn.l [al7 N,aaH N,zH N,aaK N],N,Tryz.f314,[.v CP,.v I],[.own oQ,.v I,.v I],[⟨37,[(7,.own oQ),(8,.v I),(9,.v I),(10,.v I),(14,.own I),(16,.v I)],[1,1,1,0,1,0,0,1,0,1,1,1,1,1,1,1,0,1,0,0],[11]⟩,⟨22,[(7,.own oQ),(8,.v I),(9,.v I),(10,.v I),(11,.own I)],[1,1,1,0,1,0,0,1,0,1,1,1],[11]⟩,⟨17,[(7,.own oQ),(8,.v I),(9,.v I),(10,.v I),(11,.own I)],[1,1,1,0,1,0,0,1,0,1,1,0,0,0],[11]⟩,⟨11,[(7,.own oQ),(8,.v I),(9,.v I)],[1,1,1,0,1,0,0],[]⟩],none⟩
theorem VK(K ρ):(iQ N).bd K ρ 37=cz.rQ N ((iQ N).kc ρ 11) ((iQ N).kc ρ 37):=by kernel_rfl
theorem VL(ρ):(iQ N).kc ((iQ N).bp ρ) 37=cz.uB N ((iQ N).kc ρ 11) N:=Fx.uL [] (VK N) ρ (cz.uB N ((iQ N).kc ρ 11)) fun n ρ' e d=>by rw[e,d 11 rfl];rfl
theorem VN(K ρ):(iQ N).bd K ρ 22=cz.zl N ((iQ N).kc K 37) ((iQ N).kc ρ 11):=by kernel_rfl
theorem VO(ρ):(iQ N).kc ((iQ N).bp ρ) 22=cz.GY N ((iQ N).kc ρ 11):=Fx.uJ [37] (VN N) ρ (by rw[VL];rfl)
theorem VP(K ρ):(iQ N).bd K ρ 17=cz.xC N ((iQ N).kc K 22) ((iQ N).kc ρ 11) ((iQ N).kc ρ 17):=by kernel_rfl
theorem VQ(ρ):(iQ N).kc ((iQ N).bp ρ) 17=cz.l8 N ((iQ N).kc ρ 11) N:=Fx.uL [22,37] (VP N) ρ (cz.l8 N ((iQ N).kc ρ 11)) fun n ρ' e d=>by rw[VO,e,d 11 rfl];rfl
theorem VS(K ρ):(iQ N).bd K ρ 11=cz.dn N ((iQ N).kc K 17) ((iQ N).kc ρ 11):=by kernel_rfl
theorem VT(ρ):(iQ N).kc ((iQ N).bp ρ) 11=cz.l5 N N:=Fx.uL [17,22,37] (VS N) ρ (cz.l5 N) fun n ρ' e d=>by rw[VQ,e];rfl
theorem al8(K):(iQ N).top K=cz.b N ((iQ N).kc K 11):=by kernel_rfl
noncomputable def al9:Kn Tryz.prog:=⟨314,(iQ N).S false (cz N),Fx.u1 (iQ N) ar Tryz.func314 [11] (al8 N) (by rw[VT];rfl)⟩
noncomputable def agH:Fx:=⟨14,tab,Kn.l [oS N,PB N],N,Tryz.f315,[.v an,.v aC],[.v I,.v I],[],none⟩
noncomputable def ama:Kn Tryz.prog:=⟨315,(agH N).S true (R3 N),Fx.u0 (agH N) ar Tryz.func315⟩
noncomputable def xq:Fx:=⟨156,tab,Kn.l [al4 N,al5 N,al9 N,tk N,PC N,ama N,k22 N,F5 N],N,Tryz.f300,[.v an,.v aC,.v I,.v cj,.v cj],[.v aC,.v dS,.v I],[⟨52,[(6,.obj aC),(10,.obj aC),(11,.obj dS),(18,.own ng),(19,.dN dS [.gk 2] oQ),(21,.v I),(23,.v I),(24,.v I)],[1,1,1,1,1,1,1,1,1,1,1,1,1,1,1],[]⟩,⟨31,[(2,.v I),(5,.obj an),(6,.obj aC),(10,.obj aC),(11,.obj dS),(13,.own oQ),(17,.v I),(18,.own ng),(19,.dN dS [.gk 2] oQ),(20,.v I)],[1,1,1,1,1,1,1,1,1,1,0,1,0,0],[]⟩],some (dS,[.gk 2],oQ,[19])⟩
theorem VU(K ρ):(xq N).bd K ρ 52=gE.YJ N:=by kernel_rfl
theorem VV(ρ):(xq N).kc ((xq N).bp ρ) 52=gE.j26 N:=Fx.uJ [] (VU N) ρ
theorem VW(K ρ):(xq N).bd K ρ 31=gE.Co N ((xq N).kc K 52) ((xq N).kc ρ 31):=by kernel_rfl
theorem VX(ρ):(xq N).kc ((xq N).bp ρ) 31=gE.Dd N N:=Fx.uL [52] (VW N) ρ (gE.Dd N) fun n ρ' e d=>by rw[VV,e];rfl
theorem amb(K):(xq N).top K=gE.b N ((xq N).kc K 31):=by kernel_rfl
noncomputable def amc:Kn Tryz.prog:=⟨300,(xq N).S false (gE N),Fx.u1 (xq N) ar Tryz.func300 [31,52] (amb N) (by rw[VX];rfl)⟩
noncomputable def lZ:Fx:=⟨129,tab,Kn.l [agz N,aaH N,zH N,aaK N],N,Tryz.f163,[.v I,.v LI,.v LI],[.own I,.v I,.v I],[⟨39,[(1,.v LI),(2,.v LI),(11,.own I),(12,.v I),(13,.v I),(17,.own I),(19,.v I)],[1,1,1,1,0,1,0,0,1,0,0,1,1,1,1,1,0,0],[17]⟩,⟨25,[(1,.v LI),(2,.v LI),(11,.own I),(12,.v I),(13,.v I),(14,.own I),(15,.v B),(16,.v I)],[1,1,1,1,0,1,0,0,1,0,0,1,0,1,0,0],[17]⟩,⟨17,[(1,.v LI),(2,.v LI),(11,.own I),(12,.v I),(13,.v I)],[1,1,1,1,0,1,0,0],[]⟩],none⟩
theorem VY(K ρ):(lZ N).bd K ρ 39=c0.HU N ((lZ N).kc ρ 17) ((lZ N).kc ρ 39):=by kernel_rfl
theorem VZ(ρ):(lZ N).kc ((lZ N).bp ρ) 39=c0.K9 N ((lZ N).kc ρ 17) N:=Fx.uL [] (VY N) ρ (c0.K9 N ((lZ N).kc ρ 17)) fun n ρ' e d=>by rw[e,d 17 rfl];rfl
theorem V0(K ρ):(lZ N).bd K ρ 25=c0.lM N ((lZ N).kc K 39) ((lZ N).kc ρ 17) ((lZ N).kc ρ 25):=by kernel_rfl
theorem V1(ρ):(lZ N).kc ((lZ N).bp ρ) 25=c0.nn N ((lZ N).kc ρ 17) N:=Fx.uL [39] (V0 N) ρ (c0.nn N ((lZ N).kc ρ 17)) fun n ρ' e d=>by rw[VZ,e,d 17 rfl];rfl
theorem V2(K ρ):(lZ N).bd K ρ 17=c0.xC N ((lZ N).kc K 25) ((lZ N).kc ρ 17):=by kernel_rfl
theorem V3(ρ):(lZ N).kc ((lZ N).bp ρ) 17=c0.l8 N N:=Fx.uL [25,39] (V2 N) ρ (c0.l8 N) fun n ρ' e d=>by rw[V1,e];rfl
theorem amd(K):(lZ N).top K=c0.b N ((lZ N).kc K 17):=by kernel_rfl
noncomputable def ame:Kn Tryz.prog:=⟨163,(lZ N).S false (c0 N),Fx.u1 (lZ N) ar Tryz.func163 [17] (amd N) (by rw[V3];rfl)⟩
noncomputable def L9:Fx:=⟨127,tab,Kn.l [oS N,k20 N,ame N],N,Tryz.f93,[.v an,.v aC,.v I],[.own fN,.v I],[⟨43,[(2,.v I),(8,.v I),(9,.own I),(13,.own I),(16,.own fN),(17,.v I)],[1,1,1,1,1,1,1,1,1,1,1,0,1,0,0],[]⟩,⟨23,[(2,.v I),(4,.obj aC),(8,.v I),(9,.own I),(10,.own I),(11,.v I)],[1,1,1,1,1,1,1,0,1,0,0],[]⟩],none⟩
theorem abm(K ρ):(L9 N).bd K ρ 43=pN.YL N ((L9 N).kc ρ 43):=by kernel_rfl
theorem abn(ρ):(L9 N).kc ((L9 N).bp ρ) 43=pN.YK N N:=Fx.uL [] (abm N) ρ (pN.YK N) fun n ρ' e d=>by rw[e];rfl
theorem abo(K ρ):(L9 N).bd K ρ 23=pN.zj N ((L9 N).kc K 43) ((L9 N).kc ρ 23):=by kernel_rfl
theorem abp(ρ):(L9 N).kc ((L9 N).bp ρ) 23=pN.By N N:=Fx.uL [43] (abo N) ρ (pN.By N) fun n ρ' e d=>by rw[abn,e];rfl
theorem h93(K):(L9 N).top K=pN.b N ((L9 N).kc K 23):=by kernel_rfl
noncomputable def k93:Kn Tryz.prog:=⟨93,(L9 N).S false (pN N),Fx.u1 (L9 N) ar Tryz.func93 [23,43] (h93 N) (by rw[abp];rfl)⟩
noncomputable def Xd:Fx:=⟨41,tab,Kn.l [oS N,k93 N,F5 N],N,Tryz.f94,[.v an,.v aC],[.v aC,.v I],[⟨11,[(2,.obj an),(3,.obj aC),(4,.obj aC),(6,.own fN),(7,.v I)],[1,1,1,0,1,0,0],[]⟩],none⟩
theorem abq(K ρ):(Xd N).bd K ρ 11=zo.dn N ((Xd N).kc ρ 11):=by kernel_rfl
theorem abr(ρ):(Xd N).kc ((Xd N).bp ρ) 11=zo.l5 N N:=Fx.uL [] (abq N) ρ (zo.l5 N) fun n ρ' e d=>by rw[e];rfl
theorem h94(K):(Xd N).top K=zo.b N ((Xd N).kc K 11):=by kernel_rfl
noncomputable def k94:Kn Tryz.prog:=⟨94,(Xd N).S false (zo N),Fx.u1 (Xd N) ar Tryz.func94 [11] (h94 N) (by rw[abr];rfl)⟩
noncomputable def GC:Fx:=⟨325,tab,Kn.l [alh N,S7 N,aln N,k39 N,aly N,k53 N,aao N,alI N,alQ N,k55 N,alX N,amc N,k94 N,agj N],N,Tryz.f284,[.v an,.v bM,.v mm],[.v bM,.v fN],[⟨83,[(4,.obj bM),(6,.obj bM),(7,.obj fN),(14,.v dm),(16,.v I),(17,.v I)],[1,1,0,1,0,1,1,1,1,1,1,1,1,1,1,1,1,1,0,1,1,1,1,1,1,0,1,0,0],[]⟩],none⟩
theorem V4(K ρ):(GC N).bd K ρ 83=nf.YM N ((GC N).kc ρ 83):=by kernel_rfl
theorem V5(ρ):(GC N).kc ((GC N).bp ρ) 83=nf.l41 N N:=Fx.uL [] (V4 N) ρ (nf.l41 N) fun n ρ' e d=>by rw[e];rfl
theorem amf(K):(GC N).top K=nf.b N ((GC N).kc K 83):=by kernel_rfl
noncomputable def amg:Kn Tryz.prog:=⟨284,(GC N).S false (nf N),Fx.u1 (GC N) ar Tryz.func284 [83] (amf N) (by rw[V5];rfl)⟩
noncomputable def IZ:Fx:=⟨141,tab,Kn.l [agj N,ak7 N,ala N,S7 N,af3 N,aao N,alb N,amg N],N,Tryz.f264,[.v an,.v bM,.v mm],[.v bM,.v fN],[⟨58,[(3,.obj an),(4,.obj bM),(5,.obj mm),(6,.obj bM),(7,.obj fN)],[1,1,1],[]⟩],none⟩
theorem V6(K ρ):(IZ N).bd K ρ 58=pO.It N:=by kernel_rfl
theorem V7(ρ):(IZ N).kc ((IZ N).bp ρ) 58=pO.OM N:=Fx.uJ [] (V6 N) ρ
theorem amh(K):(IZ N).top K=pO.b N ((IZ N).kc K 58):=by kernel_rfl
noncomputable def ami:Kn Tryz.prog:=⟨264,(IZ N).S false (pO N),Fx.u1 (IZ N) ar Tryz.func264 [58] (amh N) (by rw[V7];rfl)⟩
noncomputable def agI:Fx:=⟨295,tab,Kn.l [akf N,S7 N,akj N,akk N,aks N,akG N,af3 N,PB N,tk N,ZT N,TK N,akI N,akS N,akU N,akX N,ak0 N,aao N,ami N],N,Tryz.f216,[.v an,.v bM,.v mm],[.v bM,.v fN],[],none⟩
noncomputable def amj:Kn Tryz.prog:=⟨216,(agI N).S false (Sd N),Fx.u0 (agI N) ar Tryz.func216⟩
noncomputable def agJ:Fx:=⟨36,tab,Kn.l [IT N,akb N,amj N],N,Tryz.f162,[.v an,.v bM,.v mm],[.v bM,.v fN],[],none⟩
noncomputable def amk:Kn Tryz.prog:=⟨162,(agJ N).S false (Sf N),Fx.u0 (agJ N) ar Tryz.func162⟩
noncomputable def Xe:Fx:=⟨43,tab,Kn.l [aj2 N,amk N],N,Tryz.f92,[.v an,.v YT],[.v bM,.own fN],[⟨13,[(1,.v YT),(2,.obj an),(4,.obj bM),(6,.obj bM),(8,.own fN),(9,.v I)],[1,1,1,1,0,1,0,0],[]⟩],none⟩
theorem abt(K ρ):(Xe N).bd K ρ 13=zq.mg N ((Xe N).kc ρ 13):=by kernel_rfl
theorem abu(ρ):(Xe N).kc ((Xe N).bp ρ) 13=zq.l6 N N:=Fx.uL [] (abt N) ρ (zq.l6 N) fun n ρ' e d=>by rw[e];rfl
theorem h92(K):(Xe N).top K=zq.b N ((Xe N).kc K 13):=by kernel_rfl
noncomputable def k92:Kn Tryz.prog:=⟨92,(Xe N).S false (zq N),Fx.u1 (Xe N) ar Tryz.func92 [13] (h92 N) (by rw[abu];rfl)⟩
noncomputable def X28:Fx:=⟨46,tab,Kn.l [k90 N,P2 N,k91 N,k92 N],N,Tryz.f28,[.io c3,.v an,.v I],[.v bM,.io c3],[],none⟩
noncomputable def k28:Kn Tryz.prog:=⟨28,(X28 N).S false (F28 N),Fx.u0 (X28 N) ar Tryz.func28⟩
noncomputable def zJ:Fx:=⟨81,tab,Kn.l [k27 N,k28 N,k53 N,k54 N,P2 N],N,Tryz.f14,[.io c3],[.v an,.v bM,.own dM,.own cL,.io c3],[⟨19,[(0,.io c3),(2,.obj an),(3,.obj bM),(6,.obj an),(7,.obj bM),(8,.own dM),(10,.own cL),(11,.v I),(12,.v I)],[1,1,1,1,1,0,1,0,0,1,0,0,0,1,0,0],[13]⟩,⟨13,[(0,.io c3),(2,.obj an),(3,.obj bM),(6,.obj an),(7,.obj bM),(8,.own dM),(10,.own cL),(11,.v I)],[1,1,1,1,1,0,1,0,0],[]⟩],none⟩
theorem an9:mF Tryz.prog (zJ N).E:=Fx.AT (zJ N) ar (Kn.all _) (by kernel_rfl)
theorem abv(K ρ):(zJ N).bd K ρ 19=nz.sd N ((zJ N).kc ρ 13) ((zJ N).kc ρ 19):=by kernel_rfl
theorem abw(ρ):(zJ N).kc ((zJ N).bp ρ) 19=nz.l9 N ((zJ N).kc ρ 13) N:=Fx.uL [] (abv N) ρ (nz.l9 N ((zJ N).kc ρ 13)) fun n ρ' e d=>by rw[e,d 13 rfl];rfl
theorem abx(K ρ):(zJ N).bd K ρ 13=nz.mg N ((zJ N).kc K 19) ((zJ N).kc ρ 13):=by kernel_rfl
theorem PE(ρ):(zJ N).kc ((zJ N).bp ρ) 13=nz.l6 N N:=Fx.uL [19] (abx N) ρ (nz.l6 N) fun n ρ' e d=>by rw[abw,e];rfl
theorem h14(K):(zJ N).top K=nz.b N ((zJ N).kc K 13):=by kernel_rfl
theorem aob: ∀x,C3 (zJ N).E (zJ N).fn (zJ N).args (zJ N).res x=yu (zJ N).args (nz N) x:=Fx.Yd (by kernel_rfl) [13] (fun K=>by kernel_rfl) (h14 N) (by rw[PE];rfl)
noncomputable def k14:Kn Tryz.prog:=⟨14,(zJ N).S false (nz N),Fx.u1 (zJ N) ar Tryz.func14 [13] (h14 N) (by rw[PE];rfl)⟩
noncomputable def GD:Fx:=⟨26,tab,[],N,Tryz.f136,[.v cj,.v cj],[.v B],[⟨9,[(0,.v cj),(1,.v cj),(5,.v I)],[1,1,0,1,0,0],[]⟩],none⟩
theorem aby(K ρ):(GD N).bd K ρ 9=ln.ca N ((GD N).kc ρ 9):=by kernel_rfl
theorem abz(ρ):(GD N).kc ((GD N).bp ρ) 9=ln.l4 N N:=Fx.uL [] (aby N) ρ (ln.l4 N) fun n ρ' e d=>by rw[e];rfl
theorem aml(K):(GD N).top K=ln.b N ((GD N).kc K 9):=by kernel_rfl
noncomputable def amm:Kn Tryz.prog:=⟨136,(GD N).S true (ln N),Fx.u1 (GD N) ar Tryz.func136 [9] (aml N) (by rw[abz];rfl)⟩
noncomputable def GF:Fx:=⟨26,tab,[],N,Tryz.f137,[.v cD,.v cD],[.v B],[⟨9,[(0,.v cD),(1,.v cD),(5,.v I)],[1,1,0,1,0,0],[]⟩],none⟩
theorem abA(K ρ):(GF N).bd K ρ 9=lq.ca N ((GF N).kc ρ 9):=by kernel_rfl
theorem abB(ρ):(GF N).kc ((GF N).bp ρ) 9=lq.l4 N N:=Fx.uL [] (abA N) ρ (lq.l4 N) fun n ρ' e d=>by rw[e];rfl
theorem amn(K):(GF N).top K=lq.b N ((GF N).kc K 9):=by kernel_rfl
noncomputable def amo:Kn Tryz.prog:=⟨137,(GF N).S true (lq N),Fx.u1 (GF N) ar Tryz.func137 [9] (amn N) (by rw[abB];rfl)⟩
noncomputable def Xf:Fx:=⟨26,tab,[],N,Tryz.f32,[.v bK,.v bK],[.v B],[⟨9,[(0,.v bK),(1,.v bK),(5,.v I)],[1,1,0,1,0,0],[]⟩],none⟩
theorem agK(K ρ):(Xf N).bd K ρ 9=xe.ca N ((Xf N).kc ρ 9):=by kernel_rfl
theorem agL(ρ):(Xf N).kc ((Xf N).bp ρ) 9=xe.l4 N N:=Fx.uL [] (agK N) ρ (xe.l4 N) fun n ρ' e d=>by rw[e];rfl
theorem h32(K):(Xf N).top K=xe.b N ((Xf N).kc K 9):=by kernel_rfl
noncomputable def k32:Kn Tryz.prog:=⟨32,(Xf N).S true (xe N),Fx.u1 (Xf N) ar Tryz.func32 [9] (h32 N) (by rw[agL];rfl)⟩
noncomputable def Xg:Fx:=⟨26,tab,[],N,Tryz.f88,[.v bK,.v bK],[.v B],[⟨9,[(0,.v bK),(1,.v bK),(5,.v I)],[1,1,0,1,0,0],[]⟩],none⟩
theorem agM(K ρ):(Xg N).bd K ρ 9=xf.ca N ((Xg N).kc ρ 9):=by kernel_rfl
theorem agN(ρ):(Xg N).kc ((Xg N).bp ρ) 9=xf.l4 N N:=Fx.uL [] (agM N) ρ (xf.l4 N) fun n ρ' e d=>by rw[e];rfl
theorem h88(K):(Xg N).top K=xf.b N ((Xg N).kc K 9):=by kernel_rfl
noncomputable def k88:Kn Tryz.prog:=⟨88,(Xg N).S true (xf N),Fx.u1 (Xg N) ar Tryz.func88 [9] (h88 N) (by rw[agN];rfl)⟩
noncomputable def Xh:Fx:=⟨26,tab,[],N,Tryz.f33,[.v LI,.v LI],[.v B],[⟨9,[(0,.v LI),(1,.v LI),(5,.v I)],[1,1,0,1,0,0],[]⟩],none⟩
theorem agO(K ρ):(Xh N).bd K ρ 9=xh.ca N ((Xh N).kc ρ 9):=by kernel_rfl
theorem agP(ρ):(Xh N).kc ((Xh N).bp ρ) 9=xh.l4 N N:=Fx.uL [] (agO N) ρ (xh.l4 N) fun n ρ' e d=>by rw[e];rfl
theorem h33(K):(Xh N).top K=xh.b N ((Xh N).kc K 9):=by kernel_rfl
noncomputable def k33:Kn Tryz.prog:=⟨33,(Xh N).S true (xh N),Fx.u1 (Xh N) ar Tryz.func33 [9] (h33 N) (by rw[agP];rfl)⟩
noncomputable def Xi:Fx:=⟨26,tab,[],N,Tryz.f34,[.v kU,.v kU],[.v B],[⟨9,[(0,.v kU),(1,.v kU),(5,.v I)],[1,1,0,1,0,0],[]⟩],none⟩
theorem agQ(K ρ):(Xi N).bd K ρ 9=xg.ca N ((Xi N).kc ρ 9):=by kernel_rfl
theorem agR(ρ):(Xi N).kc ((Xi N).bp ρ) 9=xg.l4 N N:=Fx.uL [] (agQ N) ρ (xg.l4 N) fun n ρ' e d=>by rw[e];rfl
theorem h34(K):(Xi N).top K=xg.b N ((Xi N).kc K 9):=by kernel_rfl
noncomputable def k34:Kn Tryz.prog:=⟨34,(Xi N).S true (xg N),Fx.u1 (Xi N) ar Tryz.func34 [9] (h34 N) (by rw[agR];rfl)⟩
noncomputable def X57:Fx:=⟨45,tab,Kn.l [amm N,amo N,k32 N,k88 N,k33 N,k34 N],N,Tryz.f57,[.v aC,.v aC],[.v B],[],none⟩
noncomputable def k57:Kn Tryz.prog:=⟨57,(X57 N).S true (F57 N),Fx.u0 (X57 N) ar Tryz.func57⟩
noncomputable def G9:Fx:=⟨88,tab,[],N,Tryz.f58,[.v dm,.v dm],[.v B],[⟨21,[(0,.v dm),(1,.v dm),(5,.v I),(6,.obj dM),(7,.obj dM),(8,.v I)],[1,1,0,1,0,0,1,0,0,1,1,1,0,0],[9]⟩,⟨9,[(0,.v dm),(1,.v dm),(5,.v I)],[1,1,0,1,0,0],[]⟩],none⟩
theorem abC(K ρ):(G9 N).bd K ρ 21=mR.Ru N ((G9 N).kc ρ 9) ((G9 N).kc ρ 21):=by kernel_rfl
theorem abD(ρ):(G9 N).kc ((G9 N).bp ρ) 21=mR.WA N ((G9 N).kc ρ 9) N:=Fx.uL [] (abC N) ρ (mR.WA N ((G9 N).kc ρ 9)) fun n ρ' e d=>by rw[e,d 9 rfl];rfl
theorem agS(K ρ):(G9 N).bd K ρ 9=mR.ca N ((G9 N).kc K 21) ((G9 N).kc ρ 9):=by kernel_rfl
theorem agT(ρ):(G9 N).kc ((G9 N).bp ρ) 9=mR.l4 N N:=Fx.uL [21] (agS N) ρ (mR.l4 N) fun n ρ' e d=>by rw[abD,e];rfl
theorem h58(K):(G9 N).top K=mR.b N ((G9 N).kc K 9):=by kernel_rfl
noncomputable def k58:Kn Tryz.prog:=⟨58,(G9 N).S true (mR N),Fx.u1 (G9 N) ar Tryz.func58 [9] (h58 N) (by rw[agT];rfl)⟩
noncomputable def V8:Fx:=⟨74,tab,Kn.l [k16 N,k55 N,k52 N,k56 N,k57 N,k58 N],N,Tryz.f15,[.v an,.v aC,.v dm,.v cD,.v I],[.v B],[],none⟩
theorem aod:mF Tryz.prog (V8 N).E:=Fx.AT (V8 N) ar (Kn.all _) (by kernel_rfl)
theorem aoe: ∀x,C3 (V8 N).E (V8 N).fn (V8 N).args (V8 N).res x=yu (V8 N).args (F15 N) x:=Fx.QJ (by kernel_rfl)
noncomputable def k15:Kn Tryz.prog:=⟨15,(V8 N).S true (F15 N),Fx.u0 (V8 N) ar Tryz.func15⟩
noncomputable def X3:Fx:=⟨43,tab,Kn.l [k12 N,k13 N,k14 N,k15 N],N,Tryz.f3,[.v LU],[.v B],[⟨13,[(4,.obj an),(5,.obj bM),(6,.own dM),(7,.own cL),(8,.v I)],[1,1,1,1,0,1,0,0],[]⟩],none⟩
theorem amp:mF Tryz.prog (X3 N).E:=Fx.AT (X3 N) ar (Kn.all _) (by kernel_rfl)
theorem agU(K ρ):(X3 N).bd K ρ 13=F3.mg N ((X3 N).kc ρ 13):=by kernel_rfl
theorem Xj(ρ):(X3 N).kc ((X3 N).bp ρ) 13=F3.l6 N N:=Fx.uL [] (agU N) ρ (F3.l6 N) fun n ρ' e d=>by rw[e];rfl
theorem h3(K):(X3 N).top K=F3.b N ((X3 N).kc K 13):=by kernel_rfl
theorem amq: ∀x,C3 (X3 N).E (X3 N).fn (X3 N).args (X3 N).res x=yu (X3 N).args (F3 N) x:=Fx.Yd (by kernel_rfl) [13] (fun K=>by kernel_rfl) (h3 N) (by rw[Xj];rfl)
noncomputable def k3:Kn Tryz.prog:=⟨3,(X3 N).S true (F3 N),Fx.u1 (X3 N) ar Tryz.func3 [13] (h3 N) (by rw[Xj];rfl)⟩
end
end VM.F
