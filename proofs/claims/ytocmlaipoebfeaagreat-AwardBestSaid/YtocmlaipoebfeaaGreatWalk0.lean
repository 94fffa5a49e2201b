/- A part of the proof of AwardBest of layer 25: each function of the program does what its equation says; printed by a program. -/
import Derived.Test.YtocmlaipoebfeaaGreatText
import Derived.Test.YtocmlaipoebfeaaGreatVm7
import Derived.Test.YtocmlaipoebfeaaGreatProg
import Derived.KernelRfl
set_option linter.all false
namespace VM.F
open Go VM Go.Proofs
set_option maxRecDepth 100000
abbrev I:Ty:= .int .i64
abbrev U:Ty:= .int .u64
abbrev B:Ty:= .bool
abbrev Z:Ty:= .str
abbrev Ph:Ty:= .slice pq
abbrev E1:Ty:= .slice gJ
abbrev ca:Ty:= .slice gv
abbrev H4:Ty:= .slice gE
abbrev adq:Ty:= .slice bK
abbrev aim:Ty:= .slice cU
abbrev bR:Ty:= .slice fI
abbrev Pj:Ty:= .slice pt
abbrev cB:Ty:= .slice cF
abbrev fE:Ty:= .slice qG
abbrev Cr:Ty:= .slice ov
abbrev jN:Ty:= .slice mO
abbrev m5:Ty:= .slice jn
abbrev X6:Ty:= .slice lQ
abbrev dO:Ty:= .slice dK
abbrev ads:Ty:= .slice dL
abbrev adt:Ty:= .slice an
abbrev ain:Ty:= .slice aC
abbrev abf:Ty:= .slice kH
abbrev agJ:Ty:= .slice bM
abbrev LI:Ty:= .slice I
abbrev LU:Ty:= .slice U
def tab:List (Nat×Ty):=[(2,I),(3,I),(4,B),(5,(.int .u8)),(9,Z),(22,LU),(26,cB),(28,an),(29,ca),(30,cB),(31,bR),(32,bR),(33,LI),(34,m5),(36,aC),(37,cB),(38,dO),(39,cB),(40,LI),(41,ca),(42,ca),(44,kH),(45,Cr),(47,dL),(49,bM),(53,ca),(55,dK),(57,I),(62,cF),(64,bK),(69,gv),(83,bR),(88,fI),(95,cF),(96,U),(99,H4),(105,gE),(112,jn),(118,cU),(127,fE),(131,qG),(137,fI),(139,fI),(142,cF),(158,cF),(160,X6),(163,lQ),(165,bR),(173,adq),(191,ov),(193,Cr),(197,bR),(206,gv),(212,jN),(240,fI),(258,fI),(265,mO),(271,(.arr 13 B)),(340,gv),(374,gv),(382,ov)]
theorem av:xN Tryz.prog tab:=⟨by kernel_rfl,by kernel_rfl⟩
section
variable(N:Nat)
noncomputable abbrev OH:gL:=rH.S N
theorem OI:eE Tryz.prog 170 (OH N):=J5 N Tryz.func170 (by kernel_rfl) (by kernel_rfl) (by kernel_rfl) (by kernel_rfl)
noncomputable def X7:Kn Tryz.prog:=⟨170,OH N,OI N⟩
noncomputable abbrev E2:gL:=nO (.pair (.int .i64) (.pair (.slice (.pair (.int .i64) (.pair (.int .i64) .unit))) (.pair (.int .i64) (.pair (.int .i64) (.pair (.int .i64) (.pair (.int .i64) .unit)))))) N
noncomputable def Cs.Ct:Go.Shelf.Ren:={f:=fun i=>0,t:=fun i=>cond (Nat.beq i 3) 55 (cond (Nat.beq i 4) 4 38),g:=fun _=>0}
theorem Cs.py:xR Tryz.prog (.pair (.int .i64) (.pair (.slice (.pair (.int .i64) (.pair (.int .i64) .unit))) (.pair (.int .i64) (.pair (.int .i64) (.pair (.int .i64) (.pair (.int .i64) .unit)))))) Cs.Ct 141 Tryz.f141:=⟨Tryz.func141.trans (by kernel_rfl),Tryz.underlying4,Tryz.underlying38,dG (x:= .inl 55) (by kernel_rfl),by decide,by kernel_rfl⟩
theorem H5:eE Tryz.prog 141 (E2 N):=iu Cs.py (by kernel_rfl) (by kernel_rfl) N
noncomputable def OJ:Kn Tryz.prog:=⟨141,E2 N,H5 N⟩
noncomputable abbrev E3:gL:=nO (.pair (.int .i64) (.pair (.int .i64) .unit)) N
noncomputable def Cu.Ct:Go.Shelf.Ren:={f:=fun i=>0,t:=fun i=>cond (Nat.beq i 3) 69 (cond (Nat.beq i 4) 4 53),g:=fun _=>0}
theorem Cu.py:xR Tryz.prog (.pair (.int .i64) (.pair (.int .i64) .unit)) Cu.Ct 142 Tryz.f142:=⟨Tryz.func142.trans (by kernel_rfl),Tryz.underlying4,Tryz.underlying53,dG (x:= .inl 69) (by kernel_rfl),by decide,by kernel_rfl⟩
theorem H6:eE Tryz.prog 142 (E3 N):=iu Cu.py (by kernel_rfl) (by kernel_rfl) N
noncomputable def OK:Kn Tryz.prog:=⟨142,E3 N,H6 N⟩
noncomputable abbrev E4:gL:=nO (.pair (.int .i64) (.pair (.int .i64) .unit)) N
noncomputable def Cv.Ct:Go.Shelf.Ren:={f:=fun i=>0,t:=fun i=>cond (Nat.beq i 3) 206 (cond (Nat.beq i 4) 4 29),g:=fun _=>0}
theorem Cv.py:xR Tryz.prog (.pair (.int .i64) (.pair (.int .i64) .unit)) Cv.Ct 201 Tryz.f201:=⟨Tryz.func201.trans (by kernel_rfl),Tryz.underlying4,Tryz.underlying29,dG (x:= .inl 206) (by kernel_rfl),by decide,by kernel_rfl⟩
theorem H7:eE Tryz.prog 201 (E4 N):=iu Cv.py (by kernel_rfl) (by kernel_rfl) N
noncomputable def OL:Kn Tryz.prog:=⟨201,E4 N,H7 N⟩
noncomputable abbrev E5:gL:=nO (.pair (.int .i64) (.pair (.int .i64) (.pair (.int .i64) (.pair (.int .i64) .unit)))) N
noncomputable def Cw.Ct:Go.Shelf.Ren:={f:=fun i=>0,t:=fun i=>cond (Nat.beq i 3) 142 (cond (Nat.beq i 4) 4 30),g:=fun _=>0}
theorem Cw.py:xR Tryz.prog (.pair (.int .i64) (.pair (.int .i64) (.pair (.int .i64) (.pair (.int .i64) .unit)))) Cw.Ct 202 Tryz.f202:=⟨Tryz.func202.trans (by kernel_rfl),Tryz.underlying4,Tryz.underlying30,dG (x:= .inl 142) (by kernel_rfl),by decide,by kernel_rfl⟩
theorem H8:eE Tryz.prog 202 (E5 N):=iu Cw.py (by kernel_rfl) (by kernel_rfl) N
noncomputable def OM:Kn Tryz.prog:=⟨202,E5 N,H8 N⟩
noncomputable abbrev E6:gL:=nO (.pair (.int .i64) (.pair (.int .i64) (.pair (.int .i64) .unit))) N
noncomputable def Cx.Ct:Go.Shelf.Ren:={f:=fun i=>0,t:=fun i=>cond (Nat.beq i 3) 137 (cond (Nat.beq i 4) 4 31),g:=fun _=>0}
theorem Cx.py:xR Tryz.prog (.pair (.int .i64) (.pair (.int .i64) (.pair (.int .i64) .unit))) Cx.Ct 203 Tryz.f203:=⟨Tryz.func203.trans (by kernel_rfl),Tryz.underlying4,Tryz.underlying31,dG (x:= .inl 137) (by kernel_rfl),by decide,by kernel_rfl⟩
theorem H9:eE Tryz.prog 203 (E6 N):=iu Cx.py (by kernel_rfl) (by kernel_rfl) N
noncomputable def E7:Kn Tryz.prog:=⟨203,E6 N,H9 N⟩
noncomputable abbrev E8:gL:=nO (.pair (.int .i64) (.pair (.int .i64) (.pair (.int .i64) .unit))) N
noncomputable def Cy.Ct:Go.Shelf.Ren:={f:=fun i=>0,t:=fun i=>cond (Nat.beq i 3) 139 (cond (Nat.beq i 4) 4 32),g:=fun _=>0}
theorem Cy.py:xR Tryz.prog (.pair (.int .i64) (.pair (.int .i64) (.pair (.int .i64) .unit))) Cy.Ct 204 Tryz.f204:=⟨Tryz.func204.trans (by kernel_rfl),Tryz.underlying4,Tryz.underlying32,dG (x:= .inl 139) (by kernel_rfl),by decide,by kernel_rfl⟩
theorem Ia:eE Tryz.prog 204 (E8 N):=iu Cy.py (by kernel_rfl) (by kernel_rfl) N
noncomputable def E9:Kn Tryz.prog:=⟨204,E8 N,Ia N⟩
noncomputable abbrev Fa:gL:=nO (.int .i64) N
noncomputable def Cz.Ct:Go.Shelf.Ren:={f:=fun i=>0,t:=fun i=>cond (Nat.beq i 3) 2 (cond (Nat.beq i 4) 4 33),g:=fun _=>0}
theorem Cz.py:xR Tryz.prog (.int .i64) Cz.Ct 205 Tryz.f205:=⟨Tryz.func205.trans (by kernel_rfl),Tryz.underlying4,Tryz.underlying33,dG (x:= .inl 2) (by kernel_rfl),by decide,by kernel_rfl⟩
theorem Ib:eE Tryz.prog 205 (Fa N):=iu Cz.py (by kernel_rfl) (by kernel_rfl) N
noncomputable def ON:Kn Tryz.prog:=⟨205,Fa N,Ib N⟩
noncomputable abbrev Fb:gL:=nO (.pair (.int .i64) (.pair (.int .i64) (.pair (.int .i64) (.pair (.int .i64) (.pair (.int .i64) (.pair (.int .i64) .unit)))))) N
noncomputable def CA.Ct:Go.Shelf.Ren:={f:=fun i=>0,t:=fun i=>cond (Nat.beq i 3) 112 (cond (Nat.beq i 4) 4 34),g:=fun _=>0}
theorem CA.py:xR Tryz.prog (.pair (.int .i64) (.pair (.int .i64) (.pair (.int .i64) (.pair (.int .i64) (.pair (.int .i64) (.pair (.int .i64) .unit)))))) CA.Ct 206 Tryz.f206:=⟨Tryz.func206.trans (by kernel_rfl),Tryz.underlying4,Tryz.underlying34,dG (x:= .inl 112) (by kernel_rfl),by decide,by kernel_rfl⟩
theorem Ic:eE Tryz.prog 206 (Fb N):=iu CA.py (by kernel_rfl) (by kernel_rfl) N
noncomputable def OO:Kn Tryz.prog:=⟨206,Fb N,Ic N⟩
noncomputable abbrev Fc:gL:=gY (.pair (.int .i64) (.pair (.int .i64) (.pair (.int .i64) .unit))) N
noncomputable def CB.Ct:Go.Shelf.Ren:={f:=fun i=>cond (Nat.beq i 29) 242 (cond (Nat.beq i 30) 243 0),t:=fun i=>cond (Nat.beq i 24) 32 (cond (Nat.beq i 9) 139 (cond (Nat.beq i 3) 3 (cond (Nat.beq i 4) 4 0))),g:=fun _=>0}
theorem CB.py:J6 Tryz.prog (.pair (.int .i64) (.pair (.int .i64) (.pair (.int .i64) .unit))) CB.Ct 210 Tryz.f210 Tryz.f242:=⟨Tryz.func210.trans (by kernel_rfl),Tryz.underlying3,Tryz.underlying4,Tryz.underlying32,dG (x:= .inl 139) (by kernel_rfl),by decide,by kernel_rfl⟩
theorem Ie:eE Tryz.prog 210 (Fc N):=xQ CB.py ⟨Tryz.func242,by kernel_rfl,by kernel_rfl,by kernel_rfl,by kernel_rfl⟩ (by kernel_rfl) (by kernel_rfl) N
noncomputable def OP:Kn Tryz.prog:=⟨210,Fc N,Ie N⟩
noncomputable abbrev Fe:gL:=gY (.pair (.int .i64) (.pair (.int .i64) (.pair (.int .i64) .unit))) N
noncomputable def CC.Ct:Go.Shelf.Ren:={f:=fun i=>cond (Nat.beq i 29) 244 (cond (Nat.beq i 30) 245 0),t:=fun i=>cond (Nat.beq i 24) 31 (cond (Nat.beq i 9) 137 (cond (Nat.beq i 3) 3 (cond (Nat.beq i 4) 4 0))),g:=fun _=>0}
theorem CC.py:J6 Tryz.prog (.pair (.int .i64) (.pair (.int .i64) (.pair (.int .i64) .unit))) CC.Ct 212 Tryz.f212 Tryz.f244:=⟨Tryz.func212.trans (by kernel_rfl),Tryz.underlying3,Tryz.underlying4,Tryz.underlying31,dG (x:= .inl 137) (by kernel_rfl),by decide,by kernel_rfl⟩
theorem Ig:eE Tryz.prog 212 (Fe N):=xQ CC.py ⟨Tryz.func244,by kernel_rfl,by kernel_rfl,by kernel_rfl,by kernel_rfl⟩ (by kernel_rfl) (by kernel_rfl) N
noncomputable def OQ:Kn Tryz.prog:=⟨212,Fe N,Ig N⟩
noncomputable def Rz:Fx:=⟨28,tab,[],N,Tryz.f51,[],[.v an,.v aC,.own dK],[],none⟩
theorem amx:nk Tryz.prog (Rz N).E:=Fx.DI (Rz N) av trivial (by kernel_rfl)
theorem amy: ∀x,CY (Rz N).E (Rz N).fn (Rz N).args (Rz N).res x=zL (Rz N).args (F51 N) x:=Fx.Xm (by kernel_rfl)
noncomputable def k51:Kn Tryz.prog:=⟨51,(Rz N).S false (F51 N),Fx.u0 (Rz N) av Tryz.func51⟩
noncomputable def adu:Fx:=⟨41,tab,[],N,Tryz.f139,[.v cF],[.v B],[],none⟩
noncomputable def aio:Kn Tryz.prog:=⟨139,(adu N).S true (Qt N),Fx.u0 (adu N) av Tryz.func139⟩
noncomputable def adv:Fx:=⟨15,tab,[],N,Tryz.f200,[.v cF,.eV I,.eV I],[.v B],[],none⟩
noncomputable def aip:Kn Tryz.prog:=⟨200,(adv N).S true (Qv N),Fx.u0 (adv N) av Tryz.func200⟩
noncomputable def Ff:Fx:=⟨19,tab,Kn.l [aip N],N,Tryz.f241,[.v cB,.fn 200 (.pair (.pair I .unit) (.pair (.pair I .unit) .unit))],[.v I],[⟨5,[(0,.v cB),(1,.fn 200 (.pair (.pair I .unit) (.pair (.pair I .unit) .unit))),(7,.v I),(8,.v I)],[1,0,1,0,0],[]⟩],none⟩
theorem X8(K ρ):(Ff N).bd K ρ 5=m1.dx N ((Ff N).kc ρ 5):=by kernel_rfl
theorem X9(ρ):(Ff N).kc ((Ff N).bo ρ) 5=m1.l2 N N:=Fx.uL [] (X8 N) ρ (m1.l2 N) fun n ρ' e d=>by rw[e];rfl
theorem aiq(K):(Ff N).top K=m1.b N ((Ff N).kc K 5):=by kernel_rfl
noncomputable def air:Kn Tryz.prog:=⟨241,(Ff N).S true (m1 N),Fx.u1 (Ff N) av Tryz.func241 [5] (aiq N) (by rw[X9];rfl)⟩
noncomputable def adw:Fx:=⟨9,tab,Kn.l [air N],N,Tryz.f199,[.v cB,.fn 200 (.pair (.pair I .unit) (.pair (.pair I .unit) .unit))],[.v B],[],none⟩
noncomputable def ais:Kn Tryz.prog:=⟨199,(adw N).S true (Xw N),Fx.u0 (adw N) av Tryz.func199⟩
noncomputable def adx:Fx:=⟨10,tab,Kn.l [ais N],N,Tryz.f140,[.v cB,.v I,.v I],[.v B],[],none⟩
noncomputable def ait:Kn Tryz.prog:=⟨140,(adx N).S true (M7 N),Fx.u0 (adx N) av Tryz.func140⟩
noncomputable def V0:Fx:=⟨44,tab,Kn.l [aio N,ait N],N,Tryz.f60,[.v cB],[.v B],[⟨5,[(0,.v cB),(5,.v cB),(6,.v I),(7,.v I)],[1,0,1,0,0],[]⟩],none⟩
theorem ady(K ρ):(V0 N).bd K ρ 5=vK.dx N ((V0 N).kc ρ 5):=by kernel_rfl
theorem adz(ρ):(V0 N).kc ((V0 N).bo ρ) 5=vK.l2 N N:=Fx.uL [] (ady N) ρ (vK.l2 N) fun n ρ' e d=>by rw[e];rfl
theorem h60(K):(V0 N).top K=vK.b N ((V0 N).kc K 5):=by kernel_rfl
noncomputable def k60:Kn Tryz.prog:=⟨60,(V0 N).S true (vK N),Fx.u1 (V0 N) av Tryz.func60 [5] (h60 N) (by rw[adz];rfl)⟩
noncomputable def V1:Fx:=⟨41,tab,Kn.l [k60 N],N,Tryz.f52,[.v cB,.v I],[.v cF,.v B],[⟨11,[(1,.v I),(4,.obj cF),(6,.obj cF),(13,.v cB),(14,.v I),(15,.v I)],[1,1,1,0,1,0,0],[]⟩],none⟩
theorem Ya(K ρ):(V1 N).bd K ρ 11=tQ.dd N ((V1 N).kc ρ 11):=by kernel_rfl
theorem Yb(ρ):(V1 N).kc ((V1 N).bo ρ) 11=tQ.l5 N N:=Fx.uL [] (Ya N) ρ (tQ.l5 N) fun n ρ' e d=>by rw[e];rfl
theorem h52(K):(V1 N).top K=tQ.b N ((V1 N).kc K 11):=by kernel_rfl
noncomputable def k52:Kn Tryz.prog:=⟨52,(V1 N).S true (tQ N),Fx.u1 (V1 N) av Tryz.func52 [11] (h52 N) (by rw[Yb];rfl)⟩
noncomputable def adA:Fx:=⟨15,tab,[],N,Tryz.f150,[.v I,.v I,.v I],[.v B],[],none⟩
noncomputable def aiu:Kn Tryz.prog:=⟨150,(adA N).S true (wC N),Fx.u0 (adA N) av Tryz.func150⟩
noncomputable def V2:Fx:=⟨68,tab,Kn.l [aiu N],N,Tryz.f75,[.v an],[.v B],[⟨9,[(1,.obj an),(11,.v cB),(12,.v I),(13,.v I)],[1,1,0,1,0,0],[]⟩],none⟩
theorem adB(K ρ):(V2 N).bd K ρ 9=uN.cL N ((V2 N).kc ρ 9):=by kernel_rfl
theorem adC(ρ):(V2 N).kc ((V2 N).bo ρ) 9=uN.l4 N N:=Fx.uL [] (adB N) ρ (uN.l4 N) fun n ρ' e d=>by rw[e];rfl
theorem h75(K):(V2 N).top K=uN.b N ((V2 N).kc K 9):=by kernel_rfl
noncomputable def k75:Kn Tryz.prog:=⟨75,(V2 N).S true (uN N),Fx.u1 (V2 N) av Tryz.func75 [9] (h75 N) (by rw[adC];rfl)⟩
noncomputable def Fg:Fx:=⟨46,tab,[],N,Tryz.f144,[.v ca],[.v B],[⟨5,[(0,.v ca),(5,.v ca),(6,.v I),(7,.v I)],[1,0,1,0,0],[]⟩],none⟩
theorem Yc(K ρ):(Fg N).bd K ρ 5=kf.dx N ((Fg N).kc ρ 5):=by kernel_rfl
theorem Yd(ρ):(Fg N).kc ((Fg N).bo ρ) 5=kf.l2 N N:=Fx.uL [] (Yc N) ρ (kf.l2 N) fun n ρ' e d=>by rw[e];rfl
theorem aiw(K):(Fg N).top K=kf.b N ((Fg N).kc K 5):=by kernel_rfl
noncomputable def adD:Kn Tryz.prog:=⟨144,(Fg N).S true (kf N),Fx.u1 (Fg N) av Tryz.func144 [5] (aiw N) (by rw[Yd];rfl)⟩
noncomputable def Fh:Fx:=⟨77,tab,[],N,Tryz.f143,[.v cB],[.v B],[⟨7,[(0,.v cB),(3,.obj (.arr 13 B)),(6,.v cB),(7,.v I),(8,.v I)],[1,1,0,1,0,0],[]⟩],none⟩
theorem Ye(K ρ):(Fh N).bd K ρ 7=ic.iE N ((Fh N).kc ρ 7):=by kernel_rfl
theorem Yf(ρ):(Fh N).kc ((Fh N).bo ρ) 7=ic.l3 N N:=Fx.uL [] (Ye N) ρ (ic.l3 N) fun n ρ' e d=>by rw[e];rfl
theorem aix(K):(Fh N).top K=ic.b N ((Fh N).kc K 7):=by kernel_rfl
noncomputable def Yg:Kn Tryz.prog:=⟨143,(Fh N).S true (ic N),Fx.u1 (Fh N) av Tryz.func143 [7] (aix N) (by rw[Yf];rfl)⟩
noncomputable def V3:Fx:=⟨23,tab,Kn.l [adD N],N,Tryz.f63,[.v ca,.v I],[.v I],[⟨9,[(1,.v I),(10,.v ca),(11,.v I),(12,.v I)],[1,1,0,1,0,0],[]⟩],none⟩
theorem adE(K ρ):(V3 N).bd K ρ 9=tB.cL N ((V3 N).kc ρ 9):=by kernel_rfl
theorem adF(ρ):(V3 N).kc ((V3 N).bo ρ) 9=tB.l4 N N:=Fx.uL [] (adE N) ρ (tB.l4 N) fun n ρ' e d=>by rw[e];rfl
theorem Vu(K):(V3 N).top K=tB.b N ((V3 N).kc K 9):=by kernel_rfl
noncomputable def k63:Kn Tryz.prog:=⟨63,(V3 N).S true (tB N),Fx.u1 (V3 N) av Tryz.func63 [9] (Vu N) (by rw[adF];rfl)⟩
noncomputable def V4:Fx:=⟨27,tab,Kn.l [adD N,Yg N,k63 N],N,Tryz.f76,[.v ca,.v cB],[.v B],[⟨9,[(0,.v ca),(15,.v cB),(16,.v I),(17,.v I)],[1,1,0,1,0,0],[]⟩],none⟩
theorem adG(K ρ):(V4 N).bd K ρ 9=wF.cL N ((V4 N).kc ρ 9):=by kernel_rfl
theorem adH(ρ):(V4 N).kc ((V4 N).bo ρ) 9=wF.l4 N N:=Fx.uL [] (adG N) ρ (wF.l4 N) fun n ρ' e d=>by rw[e];rfl
theorem h76(K):(V4 N).top K=wF.b N ((V4 N).kc K 9):=by kernel_rfl
noncomputable def k76:Kn Tryz.prog:=⟨76,(V4 N).S true (wF N),Fx.u1 (V4 N) av Tryz.func76 [9] (h76 N) (by rw[adH];rfl)⟩
noncomputable def adI:Fx:=⟨30,tab,[],N,Tryz.f151,[.v I,.v I],[.v B],[],none⟩
noncomputable def adJ:Kn Tryz.prog:=⟨151,(adI N).S true (G4 N),Fx.u0 (adI N) av Tryz.func151⟩
noncomputable def adK:Fx:=⟨19,tab,[],N,Tryz.f152,[.v I,.v I,.v fI],[.v I],[],none⟩
noncomputable def adL:Kn Tryz.prog:=⟨152,(adK N).S true (G7 N),Fx.u0 (adK N) av Tryz.func152⟩
noncomputable def V5:Fx:=⟨41,tab,Kn.l [adJ N,adL N],N,Tryz.f77,[.v bR],[.v B],[⟨5,[(0,.v bR),(5,.v bR),(6,.v I),(7,.v I)],[1,0,1,0,0],[]⟩],none⟩
theorem adM(K ρ):(V5 N).bd K ρ 5=uP.dx N ((V5 N).kc ρ 5):=by kernel_rfl
theorem adN(ρ):(V5 N).kc ((V5 N).bo ρ) 5=uP.l2 N N:=Fx.uL [] (adM N) ρ (uP.l2 N) fun n ρ' e d=>by rw[e];rfl
theorem h77(K):(V5 N).top K=uP.b N ((V5 N).kc K 5):=by kernel_rfl
noncomputable def k77:Kn Tryz.prog:=⟨77,(V5 N).S true (uP N),Fx.u1 (V5 N) av Tryz.func77 [5] (h77 N) (by rw[adN];rfl)⟩
noncomputable def X64:Fx:=⟨8,tab,[],N,Tryz.f64,[.v I],[.v gE],[],none⟩
noncomputable def k64:Kn Tryz.prog:=⟨64,(X64 N).S true (MP N),Fx.u0 (X64 N) av Tryz.func64⟩
noncomputable def Fi:Fx:=⟨51,tab,Kn.l [X7 N],N,Tryz.f153,[.v H4],[.v gE,.v B],[⟨7,[(2,.obj gE),(4,.v I),(5,.v U),(6,.v U),(10,.v H4),(11,.v I),(12,.v I)],[1,1,0,1,0,0],[]⟩],none⟩
theorem Yh(K ρ):(Fi N).bd K ρ 7=iV.iE N ((Fi N).kc ρ 7):=by kernel_rfl
theorem Yi(ρ):(Fi N).kc ((Fi N).bo ρ) 7=iV.l3 N N:=Fx.uL [] (Yh N) ρ (iV.l3 N) fun n ρ' e d=>by rw[e];rfl
theorem aiA(K):(Fi N).top K=iV.b N ((Fi N).kc K 7):=by kernel_rfl
noncomputable def OR:Kn Tryz.prog:=⟨153,(Fi N).S true (iV N),Fx.u1 (Fi N) av Tryz.func153 [7] (aiA N) (by rw[Yi];rfl)⟩
noncomputable def V6:Fx:=⟨31,tab,Kn.l [k77 N,k64 N,OR N],N,Tryz.f79,[.v bR],[.v gE],[⟨11,[(2,.obj gE),(3,.own gE),(12,.v bR),(13,.v I),(14,.v I)],[1,1,1,0,1,0,0],[]⟩],none⟩
theorem Yj(K ρ):(V6 N).bd K ρ 11=vJ.dd N ((V6 N).kc ρ 11):=by kernel_rfl
theorem Yk(ρ):(V6 N).kc ((V6 N).bo ρ) 11=vJ.l5 N N:=Fx.uL [] (Yj N) ρ (vJ.l5 N) fun n ρ' e d=>by rw[e];rfl
theorem h79(K):(V6 N).top K=vJ.b N ((V6 N).kc K 11):=by kernel_rfl
noncomputable def k79:Kn Tryz.prog:=⟨79,(V6 N).S true (vJ N),Fx.u1 (V6 N) av Tryz.func79 [11] (h79 N) (by rw[Yk];rfl)⟩
noncomputable def adO:Fx:=⟨27,tab,[],N,Tryz.f111,[.v gE,.v gE],[.v I],[],none⟩
noncomputable def aiB:Kn Tryz.prog:=⟨111,(adO N).S true (Qm N),Fx.u0 (adO N) av Tryz.func111⟩
noncomputable def X78:Fx:=⟨6,tab,Kn.l [aiB N],N,Tryz.f78,[.v gE],[.v I],[],none⟩
noncomputable def k78:Kn Tryz.prog:=⟨78,(X78 N).S true (Xu N),Fx.u0 (X78 N) av Tryz.func78⟩
noncomputable def adP:Fx:=⟨19,tab,[],N,Tryz.f207,[.v I,.v I],[.v B],[],none⟩
noncomputable def adQ:Kn Tryz.prog:=⟨207,(adP N).S true (MR N),Fx.u0 (adP N) av Tryz.func207⟩
noncomputable def adR:Fx:=⟨5,tab,[],N,Tryz.f198,[.v I],[.v B],[],none⟩
noncomputable def Yl:Kn Tryz.prog:=⟨198,(adR N).S true (G9 N),Fx.u0 (adR N) av Tryz.func198⟩
noncomputable def adS:Fx:=⟨19,tab,[],N,Tryz.f209,[.v I,.v I,.v fI],[.v I],[],none⟩
noncomputable def adT:Kn Tryz.prog:=⟨209,(adS N).S true (Ke N),Fx.u0 (adS N) av Tryz.func209⟩
noncomputable def Fj:Fx:=⟨47,tab,Kn.l [adQ N,Yl N,adT N],N,Tryz.f155,[.v bR],[.v B],[⟨5,[(0,.v bR),(5,.v bR),(6,.v I),(7,.v I)],[1,0,1,0,0],[]⟩],none⟩
theorem Ym(K ρ):(Fj N).bd K ρ 5=jD.dx N ((Fj N).kc ρ 5):=by kernel_rfl
theorem Yn(ρ):(Fj N).kc ((Fj N).bo ρ) 5=jD.l2 N N:=Fx.uL [] (Ym N) ρ (jD.l2 N) fun n ρ' e d=>by rw[e];rfl
theorem aiC(K):(Fj N).top K=jD.b N ((Fj N).kc K 5):=by kernel_rfl
noncomputable def Yo:Kn Tryz.prog:=⟨155,(Fj N).S true (jD N),Fx.u1 (Fj N) av Tryz.func155 [5] (aiC N) (by rw[Yn];rfl)⟩
noncomputable def Fk:Fx:=⟨37,tab,Kn.l [Yo N,k64 N,OR N],N,Tryz.f154,[.v bR,.v I],[.v gE],[⟨11,[(1,.v I),(4,.obj gE),(5,.own gE),(14,.v bR),(15,.v I),(16,.v I)],[1,1,1,0,1,0,0],[]⟩],none⟩
theorem RA(K ρ):(Fk N).bd K ρ 11=kj.dd N ((Fk N).kc ρ 11):=by kernel_rfl
theorem RB(ρ):(Fk N).kc ((Fk N).bo ρ) 11=kj.l5 N N:=Fx.uL [] (RA N) ρ (kj.l5 N) fun n ρ' e d=>by rw[e];rfl
theorem aiD(K):(Fk N).top K=kj.b N ((Fk N).kc K 11):=by kernel_rfl
noncomputable def aiE:Kn Tryz.prog:=⟨154,(Fk N).S true (kj N),Fx.u1 (Fk N) av Tryz.func154 [11] (aiD N) (by rw[RB];rfl)⟩
noncomputable def V7:Fx:=⟨15,tab,Kn.l [aiE N,k78 N,Yo N],N,Tryz.f80,[.v bR],[.v B],[⟨5,[(0,.v bR),(4,.v I)],[1,0,1,0,0],[]⟩],none⟩
theorem adU(K ρ):(V7 N).bd K ρ 5=wG.dx N ((V7 N).kc ρ 5):=by kernel_rfl
theorem adV(ρ):(V7 N).kc ((V7 N).bo ρ) 5=wG.l2 N N:=Fx.uL [] (adU N) ρ (wG.l2 N) fun n ρ' e d=>by rw[e];rfl
theorem h80(K):(V7 N).top K=wG.b N ((V7 N).kc K 5):=by kernel_rfl
noncomputable def k80:Kn Tryz.prog:=⟨80,(V7 N).S true (wG N),Fx.u1 (V7 N) av Tryz.func80 [5] (h80 N) (by rw[adV];rfl)⟩
noncomputable def adW:Fx:=⟨61,tab,[],N,Tryz.f118,[.v jn],[.v B],[],none⟩
noncomputable def aiF:Kn Tryz.prog:=⟨118,(adW N).S true (Qi N),Fx.u0 (adW N) av Tryz.func118⟩
noncomputable def V8:Fx:=⟨34,tab,Kn.l [aiF N],N,Tryz.f81,[.v m5],[.v B],[⟨5,[(0,.v m5),(5,.v m5),(6,.v I),(7,.v I)],[1,0,1,0,0],[]⟩],none⟩
theorem adX(K ρ):(V8 N).bd K ρ 5=wE.dx N ((V8 N).kc ρ 5):=by kernel_rfl
theorem adY(ρ):(V8 N).kc ((V8 N).bo ρ) 5=wE.l2 N N:=Fx.uL [] (adX N) ρ (wE.l2 N) fun n ρ' e d=>by rw[e];rfl
theorem h81(K):(V8 N).top K=wE.b N ((V8 N).kc K 5):=by kernel_rfl
noncomputable def k81:Kn Tryz.prog:=⟨81,(V8 N).S true (wE N),Fx.u1 (V8 N) av Tryz.func81 [5] (h81 N) (by rw[adY];rfl)⟩
noncomputable def Fl:Fx:=⟨25,tab,Kn.l [Yg N],N,Tryz.f119,[.v cB,.v I],[.v cF,.v B],[⟨9,[(1,.v I),(4,.obj cF),(12,.v cB),(13,.v I),(14,.v I)],[1,1,0,1,0,0],[]⟩],none⟩
theorem Yp(K ρ):(Fl N).bd K ρ 9=kg.cL N ((Fl N).kc ρ 9):=by kernel_rfl
theorem Yq(ρ):(Fl N).kc ((Fl N).bo ρ) 9=kg.l4 N N:=Fx.uL [] (Yp N) ρ (kg.l4 N) fun n ρ' e d=>by rw[e];rfl
theorem aiG(K):(Fl N).top K=kg.b N ((Fl N).kc K 9):=by kernel_rfl
noncomputable def aiH:Kn Tryz.prog:=⟨119,(Fl N).S true (kg N),Fx.u1 (Fl N) av Tryz.func119 [9] (aiG N) (by rw[Yq];rfl)⟩
noncomputable def X82:Fx:=⟨15,tab,Kn.l [aiH N],N,Tryz.f82,[.v aC,.v I],[.v B],[],none⟩
noncomputable def k82:Kn Tryz.prog:=⟨82,(X82 N).S true (F82 N),Fx.u0 (X82 N) av Tryz.func82⟩
noncomputable def X85:Fx:=⟨9,tab,[],N,Tryz.f85,[.v I],[.v B],[],none⟩
noncomputable def k85:Kn Tryz.prog:=⟨85,(X85 N).S true (F85 N),Fx.u0 (X85 N) av Tryz.func85⟩
noncomputable def X84:Fx:=⟨6,tab,Kn.l [k85 N],N,Tryz.f84,[.v I],[.v B],[],none⟩
noncomputable def k84:Kn Tryz.prog:=⟨84,(X84 N).S true (F84 N),Fx.u0 (X84 N) av Tryz.func84⟩
noncomputable def Fm:Fx:=⟨19,tab,Kn.l [k84 N],N,Tryz.f156,[.v LI,.fn 84 .unit],[.v I],[⟨5,[(0,.v LI),(1,.fn 84 .unit),(7,.v I),(8,.v I)],[1,0,1,0,0],[]⟩],none⟩
theorem Yr(K ρ):(Fm N).bd K ρ 5=m0.dx N ((Fm N).kc ρ 5):=by kernel_rfl
theorem Ys(ρ):(Fm N).kc ((Fm N).bo ρ) 5=m0.l2 N N:=Fx.uL [] (Yr N) ρ (m0.l2 N) fun n ρ' e d=>by rw[e];rfl
theorem aiI(K):(Fm N).top K=m0.b N ((Fm N).kc K 5):=by kernel_rfl
noncomputable def aiJ:Kn Tryz.prog:=⟨156,(Fm N).S true (m0 N),Fx.u1 (Fm N) av Tryz.func156 [5] (aiI N) (by rw[Ys];rfl)⟩
noncomputable def X83:Fx:=⟨9,tab,Kn.l [aiJ N],N,Tryz.f83,[.v LI,.fn 84 .unit],[.v B],[],none⟩
noncomputable def k83:Kn Tryz.prog:=⟨83,(X83 N).S true (F83 N),Fx.u0 (X83 N) av Tryz.func83⟩
noncomputable def CO:Fx:=⟨133,tab,Kn.l [k75 N,k76 N,k77 N,k79 N,k78 N,k80 N,k81 N,k82 N,k63 N,k83 N],N,Tryz.f25,[.v an,.v aC],[.v B],[⟨45,[(2,.obj an),(3,.obj aC),(109,.v m5),(110,.v I),(111,.v I)],[1,1,1,1,0,1,0,0],[]⟩,⟨33,[(2,.obj an),(3,.obj aC),(83,.v bR),(84,.v I),(85,.v I)],[1,1,1,0,1,0,0],[]⟩,⟨9,[(2,.obj an),(3,.obj aC),(57,.v bR),(58,.v I),(59,.v I)],[1,1,0,1,0,0],[]⟩],none⟩
theorem Yt(K ρ):(CO N).bd K ρ 45=g4.qu N ((CO N).kc ρ 45):=by kernel_rfl
theorem Yu(ρ):(CO N).kc ((CO N).bo ρ) 45=g4.rA N N:=Fx.uL [] (Yt N) ρ (g4.rA N) fun n ρ' e d=>by rw[e];rfl
theorem Yv(K ρ):(CO N).bd K ρ 33=g4.qt N ((CO N).kc K 45) ((CO N).kc ρ 33):=by kernel_rfl
theorem Yw(ρ):(CO N).kc ((CO N).bo ρ) 33=g4.rz N N:=Fx.uL [45] (Yv N) ρ (g4.rz N) fun n ρ' e d=>by rw[Yu,e];rfl
theorem adZ(K ρ):(CO N).bd K ρ 9=g4.cL N ((CO N).kc K 33) ((CO N).kc ρ 9):=by kernel_rfl
theorem ad0(ρ):(CO N).kc ((CO N).bo ρ) 9=g4.l4 N N:=Fx.uL [33,45] (adZ N) ρ (g4.l4 N) fun n ρ' e d=>by rw[Yw,e];rfl
theorem h25(K):(CO N).top K=g4.b N ((CO N).kc K 9):=by kernel_rfl
noncomputable def k25:Kn Tryz.prog:=⟨25,(CO N).S true (g4 N),Fx.u1 (CO N) av Tryz.func25 [9,33,45] (h25 N) (by rw[ad0];rfl)⟩
noncomputable def Fo:Fx:=⟨54,tab,Kn.l [Yl N,k75 N],N,Tryz.f138,[.v an,.v ca],[.v B],[⟨5,[(1,.v ca),(2,.obj an),(7,.v ca),(8,.v I),(9,.v I)],[1,0,1,0,0],[]⟩],none⟩
theorem Yx(K ρ):(Fo N).bd K ρ 5=kq.dx N ((Fo N).kc ρ 5):=by kernel_rfl
theorem Yy(ρ):(Fo N).kc ((Fo N).bo ρ) 5=kq.l2 N N:=Fx.uL [] (Yx N) ρ (kq.l2 N) fun n ρ' e d=>by rw[e];rfl
theorem aiK(K):(Fo N).top K=kq.b N ((Fo N).kc K 5):=by kernel_rfl
noncomputable def aiL:Kn Tryz.prog:=⟨138,(Fo N).S true (kq N),Fx.u1 (Fo N) av Tryz.func138 [5] (aiK N) (by rw[Yy];rfl)⟩
noncomputable def Jr:Fx:=⟨97,tab,Kn.l [k75 N,aiL N],N,Tryz.f59,[.v an,.v dO],[.v B],[⟨16,[(1,.v dO),(2,.obj an),(6,.obj dK),(15,.v dO),(16,.v I),(17,.v I)],[1,1,0,1,0,0,1,1,0,0,1,1],[9]⟩,⟨9,[(1,.v dO),(2,.obj an),(15,.v dO),(16,.v I),(17,.v I)],[1,1,0,1,0,0],[]⟩],none⟩
theorem Yz(K ρ):(Jr N).bd K ρ 16=pI.Hk N ((Jr N).kc ρ 9):=by kernel_rfl
theorem YA(ρ):(Jr N).kc ((Jr N).bo ρ) 16=pI.j8 N ((Jr N).kc ρ 9):=Fx.uJ [] (Yz N) ρ
theorem ad1(K ρ):(Jr N).bd K ρ 9=pI.cL N ((Jr N).kc K 16) ((Jr N).kc ρ 9):=by kernel_rfl
theorem ad2(ρ):(Jr N).kc ((Jr N).bo ρ) 9=pI.l4 N N:=Fx.uL [16] (ad1 N) ρ (pI.l4 N) fun n ρ' e d=>by rw[YA,e];rfl
theorem h59(K):(Jr N).top K=pI.b N ((Jr N).kc K 9):=by kernel_rfl
noncomputable def k59:Kn Tryz.prog:=⟨59,(Jr N).S true (pI N),Fx.u1 (Jr N) av Tryz.func59 [9] (h59 N) (by rw[ad2];rfl)⟩
noncomputable def V9:Fx:=⟨24,tab,Kn.l [OJ N,OK N],N,Tryz.f61,[.v dO],[.own dK],[⟨7,[(3,.own dK),(8,.v I),(9,.v I)],[1,1,0,1,0,0],[]⟩],none⟩
theorem ad3(K ρ):(V9 N).bd K ρ 7=wJ.iE N ((V9 N).kc ρ 7):=by kernel_rfl
theorem ad4(ρ):(V9 N).kc ((V9 N).bo ρ) 7=wJ.l3 N N:=Fx.uL [] (ad3 N) ρ (wJ.l3 N) fun n ρ' e d=>by rw[e];rfl
theorem h61(K):(V9 N).top K=wJ.b N ((V9 N).kc K 7):=by kernel_rfl
noncomputable def k61:Kn Tryz.prog:=⟨61,(V9 N).S false (wJ N),Fx.u1 (V9 N) av Tryz.func61 [7] (h61 N) (by rw[ad4];rfl)⟩
noncomputable def Wa:Fx:=⟨28,tab,Kn.l [Yg N],N,Tryz.f62,[.v cB,.v I],[.v I],[⟨9,[(1,.v I),(10,.v cB),(11,.v I),(12,.v I)],[1,1,0,1,0,0],[]⟩],none⟩
theorem ad5(K ρ):(Wa N).bd K ρ 9=vI.cL N ((Wa N).kc ρ 9):=by kernel_rfl
theorem ad6(ρ):(Wa N).kc ((Wa N).bo ρ) 9=vI.l4 N N:=Fx.uL [] (ad5 N) ρ (vI.l4 N) fun n ρ' e d=>by rw[e];rfl
theorem h62(K):(Wa N).top K=vI.b N ((Wa N).kc K 9):=by kernel_rfl
noncomputable def k62:Kn Tryz.prog:=⟨62,(Wa N).S true (vI N),Fx.u1 (Wa N) av Tryz.func62 [9] (h62 N) (by rw[ad6];rfl)⟩
noncomputable def ad7:Fx:=⟨22,tab,Kn.l [OL N,OM N,E7 N,E9 N,ON N,OO N],N,Tryz.f145,[.v aC],[.v aC],[],none⟩
noncomputable def aiM:Kn Tryz.prog:=⟨145,(ad7 N).S false (QE N),Fx.u0 (ad7 N) av Tryz.func145⟩
noncomputable def rD:Fx:=⟨42,tab,Kn.l [k64 N,OR N,k78 N],N,Tryz.f208,[.v bR],[.v B],[⟨13,[(0,.v bR),(3,.v I),(4,.own gE),(9,.v I),(12,.v bR),(13,.v I),(14,.v I)],[1,0,1,0,0,1,1,0,0,1,1,0,1,0,0],[5]⟩,⟨5,[(0,.v bR),(9,.v I)],[1,0,1,0,0],[]⟩],none⟩
theorem RC(K ρ):(rD N).bd K ρ 13=dP.n4 N ((rD N).kc ρ 5) ((rD N).kc ρ 13):=by kernel_rfl
theorem RD(ρ):(rD N).kc ((rD N).bo ρ) 13=dP.l6 N ((rD N).kc ρ 5) N:=Fx.uL [] (RC N) ρ (dP.l6 N ((rD N).kc ρ 5)) fun n ρ' e d=>by rw[e,d 5 rfl];rfl
theorem YB(K ρ):(rD N).bd K ρ 5=dP.dx N ((rD N).kc K 13) ((rD N).kc ρ 5):=by kernel_rfl
theorem YC(ρ):(rD N).kc ((rD N).bo ρ) 5=dP.l2 N N:=Fx.uL [13] (YB N) ρ (dP.l2 N) fun n ρ' e d=>by rw[RD,e];rfl
theorem aiN(K):(rD N).top K=dP.b N ((rD N).kc K 5):=by kernel_rfl
noncomputable def aiO:Kn Tryz.prog:=⟨208,(rD N).S true (dP N),Fx.u1 (rD N) av Tryz.func208 [5] (aiN N) (by rw[YC];rfl)⟩
noncomputable def ad8:Fx:=⟨14,tab,[],N,Tryz.f114,[.v gE],[.v I,.v B],[],none⟩
noncomputable def ad9:Kn Tryz.prog:=⟨114,(ad8 N).S true (GZ N),Fx.u0 (ad8 N) av Tryz.func114⟩
noncomputable def aea:Fx:=⟨9,tab,[],N,Tryz.f211,[.v bR],[.v bR],[],none⟩
noncomputable def aiP:Kn Tryz.prog:=⟨211,(aea N).S false (Qw N),Fx.u0 (aea N) av Tryz.func211⟩
noncomputable def eT:Fx:=⟨173,tab,Kn.l [Yo N,adQ N,Yl N,aiO N,E9 N,adT N,OP N,k64 N,OR N,ad9 N,aiP N],N,Tryz.f146,[.v bR,.v bR],[.v bR,.v I],[⟨36,[(1,.v bR),(8,.own fI),(10,.obj fI),(11,.v I),(54,.v bR),(55,.v I),(56,.v I)],[1,1,1,1,1,0,1,0,0,1,1,0,0,1,1,1],[27]⟩,⟨33,[(1,.v bR),(8,.own fI),(10,.obj fI),(11,.v I),(54,.v bR),(55,.v I),(56,.v I)],[1,1,1,1,1,0,1,0,0,1,1,0,0,1,1,0,0,0],[27]⟩,⟨55,[(1,.v bR),(12,.own fI),(14,.obj fI),(15,.own gE),(107,.own fI),(108,.v I),(109,.v I),(117,.v bR),(118,.v I),(119,.v I)],[1,1,1,1,1,1,1,0,1,0,0,1,1,0,0,1,1,0,1,0,0],[47]⟩,⟨47,[(1,.v bR),(12,.own fI),(107,.own fI),(108,.v I),(109,.v I)],[1,1,1,1,1,1,1,0,1,0,0],[]⟩,⟨27,[(1,.v bR),(8,.own fI),(54,.v bR),(55,.v I),(56,.v I)],[1,1,1,1,1,0,1,0,0],[]⟩,⟨9,[(0,.v bR),(1,.v bR),(30,.v bR),(31,.v I),(32,.v I)],[1,1,0,1,0,0],[]⟩],none⟩
theorem RE(K ρ):(eT N).bd K ρ 36=bs.Xx N ((eT N).kc ρ 27):=by kernel_rfl
theorem RF(ρ):(eT N).kc ((eT N).bo ρ) 36=bs.j18 N ((eT N).kc ρ 27):=Fx.uJ [47] (RE N) ρ
theorem RG(K ρ):(eT N).bd K ρ 33=bs.qt N ((eT N).kc K 36) ((eT N).kc ρ 27) ((eT N).kc ρ 33):=by kernel_rfl
theorem RH(ρ):(eT N).kc ((eT N).bo ρ) 33=bs.rz N ((eT N).kc ρ 27) N:=Fx.uL [47,36] (RG N) ρ (bs.rz N ((eT N).kc ρ 27)) fun n ρ' e d=>by rw[RF,e,d 27 rfl];rfl
theorem RI(K ρ):(eT N).bd K ρ 55=bs.Qx N ((eT N).kc ρ 47) ((eT N).kc ρ 55):=by kernel_rfl
theorem RJ(ρ):(eT N).kc ((eT N).bo ρ) 55=bs.VH N ((eT N).kc ρ 47) N:=Fx.uL [] (RI N) ρ (bs.VH N ((eT N).kc ρ 47)) fun n ρ' e d=>by rw[e,d 47 rfl];rfl
theorem RK(K ρ):(eT N).bd K ρ 47=bs.Qz N ((eT N).kc K 55) ((eT N).kc ρ 47):=by kernel_rfl
theorem RL(ρ):(eT N).kc ((eT N).bo ρ) 47=bs.Qy N N:=Fx.uL [55] (RK N) ρ (bs.Qy N) fun n ρ' e d=>by rw[RJ,e];rfl
theorem RM(K ρ):(eT N).bd K ρ 27=bs.lx N ((eT N).kc K 33) ((eT N).kc K 47) ((eT N).kc ρ 27):=by kernel_rfl
theorem RN(ρ):(eT N).kc ((eT N).bo ρ) 27=bs.nA N N:=Fx.uL [47,33,36] (RM N) ρ (bs.nA N) fun n ρ' e d=>by rw[RH,RL,e];rfl
theorem YD(K ρ):(eT N).bd K ρ 9=bs.cL N ((eT N).kc K 27) ((eT N).kc ρ 9):=by kernel_rfl
theorem YE(ρ):(eT N).kc ((eT N).bo ρ) 9=bs.l4 N N:=Fx.uL [27,47] (YD N) ρ (bs.l4 N) fun n ρ' e d=>by rw[RN,e];rfl
theorem aiQ(K):(eT N).top K=bs.b N ((eT N).kc K 9):=by kernel_rfl
noncomputable def aiR:Kn Tryz.prog:=⟨146,(eT N).S false (bs N),Fx.u1 (eT N) av Tryz.func146 [9,27,47] (aiQ N) (by rw[YE];rfl)⟩
noncomputable def aeb:Fx:=⟨9,tab,[],N,Tryz.f213,[.v bR],[.v bR],[],none⟩
noncomputable def aiS:Kn Tryz.prog:=⟨213,(aeb N).S false (Xz N),Fx.u0 (aeb N) av Tryz.func213⟩
noncomputable def eU:Fx:=⟨185,tab,Kn.l [k77 N,adJ N,OR N,k78 N,E7 N,adL N,OQ N,k64 N,ad9 N,aiS N],N,Tryz.f147,[.v bR,.v fE],[.v bR,.v I],[⟨42,[(1,.v fE),(11,.own fI),(13,.obj qG),(14,.v I),(68,.v fE),(69,.v I),(70,.v I)],[1,1,1,1,1,1,0,1,0,0,1,1,0,0,1,1,1],[33]⟩,⟨39,[(1,.v fE),(11,.own fI),(13,.obj qG),(14,.v I),(68,.v fE),(69,.v I),(70,.v I)],[1,1,1,1,1,1,0,1,0,0,1,1,0,0,1,1,0,0,0],[33]⟩,⟨61,[(1,.v fE),(15,.own fI),(17,.obj fI),(18,.own gE),(121,.own fI),(122,.v I),(123,.v I),(131,.v fE),(132,.v I),(133,.v I)],[1,1,1,1,1,1,1,1,0,1,0,0,1,1,0,0,1,1,0,1,0,0],[53]⟩,⟨53,[(1,.v fE),(15,.own fI),(121,.own fI),(122,.v I),(123,.v I)],[1,1,1,1,1,1,1,1,0,1,0,0],[]⟩,⟨33,[(1,.v fE),(11,.own fI),(68,.v fE),(69,.v I),(70,.v I)],[1,1,1,1,1,1,0,1,0,0],[]⟩,⟨11,[(0,.v bR),(1,.v fE),(6,.own gE),(36,.v fE),(37,.v I),(38,.v I)],[1,1,1,0,1,0,0],[]⟩],none⟩
theorem RO(K ρ):(eU N).bd K ρ 42=bt.XA N ((eU N).kc ρ 33):=by kernel_rfl
theorem RP(ρ):(eU N).kc ((eU N).bo ρ) 42=bt.j21 N ((eU N).kc ρ 33):=Fx.uJ [53] (RO N) ρ
theorem RQ(K ρ):(eU N).bd K ρ 39=bt.wI N ((eU N).kc K 42) ((eU N).kc ρ 33) ((eU N).kc ρ 39):=by kernel_rfl
theorem RS(ρ):(eU N).kc ((eU N).bo ρ) 39=bt.yq N ((eU N).kc ρ 33) N:=Fx.uL [53,42] (RQ N) ρ (bt.yq N ((eU N).kc ρ 33)) fun n ρ' e d=>by rw[RP,e,d 33 rfl];rfl
theorem RT(K ρ):(eU N).bd K ρ 61=bt.D8 N ((eU N).kc ρ 53) ((eU N).kc ρ 61):=by kernel_rfl
theorem RU(ρ):(eU N).kc ((eU N).bo ρ) 61=bt.Hj N ((eU N).kc ρ 53) N:=Fx.uL [] (RT N) ρ (bt.Hj N ((eU N).kc ρ 53)) fun n ρ' e d=>by rw[e,d 53 rfl];rfl
theorem RV(K ρ):(eU N).bd K ρ 53=bt.QD N ((eU N).kc K 61) ((eU N).kc ρ 53):=by kernel_rfl
theorem RW(ρ):(eU N).kc ((eU N).bo ρ) 53=bt.QC N N:=Fx.uL [61] (RV N) ρ (bt.QC N) fun n ρ' e d=>by rw[RU,e];rfl
theorem RX(K ρ):(eU N).bd K ρ 33=bt.qt N ((eU N).kc K 39) ((eU N).kc K 53) ((eU N).kc ρ 33):=by kernel_rfl
theorem RY(ρ):(eU N).kc ((eU N).bo ρ) 33=bt.rz N N:=Fx.uL [53,39,42] (RX N) ρ (bt.rz N) fun n ρ' e d=>by rw[RS,RW,e];rfl
theorem RZ(K ρ):(eU N).bd K ρ 11=bt.dd N ((eU N).kc K 33) ((eU N).kc ρ 11):=by kernel_rfl
theorem R1(ρ):(eU N).kc ((eU N).bo ρ) 11=bt.l5 N N:=Fx.uL [33,53] (RZ N) ρ (bt.l5 N) fun n ρ' e d=>by rw[RY,e];rfl
theorem aiT(K):(eU N).top K=bt.b N ((eU N).kc K 11):=by kernel_rfl
noncomputable def aiU:Kn Tryz.prog:=⟨147,(eU N).S false (bt N),Fx.u1 (eU N) av Tryz.func147 [11,33,53] (aiT N) (by rw[R1];rfl)⟩
noncomputable def X65:Fx:=⟨37,tab,Kn.l [aiM N,aiR N,aiU N],N,Tryz.f65,[.v aC,.v bR,.v fE],[.v aC,.v I],[],none⟩
noncomputable def k65:Kn Tryz.prog:=⟨65,(X65 N).S false (F65 N),Fx.u0 (X65 N) av Tryz.func65⟩
noncomputable def Gx:Fx:=⟨146,tab,Kn.l [k25 N,k59 N,k60 N,k61 N,k52 N,k62 N,k63 N,k64 N,k65 N],N,Tryz.f16,[.v an,.v aC,.v dO,.v cB],[.v aC,.own dK,.v I],[⟨37,[(3,.v cB),(5,.obj aC),(8,.obj aC),(11,.own dK),(12,.own fI),(13,.own qG),(16,.obj cF),(18,.v I),(41,.v dO),(42,.v I),(43,.v I),(97,.v ca),(98,.v I),(99,.v I)],[1,0,1,1,1,1,1,0,1,0,0,1,1,0,0,1,1,1,1,1,1,1,0,1,0,0],[15]⟩,⟨15,[(3,.v cB),(5,.obj aC),(8,.obj aC),(11,.own dK),(12,.own fI),(13,.own qG),(41,.v dO),(42,.v I),(43,.v I)],[1,0,1,1,1,1,1,0,1,0,0],[]⟩],none⟩
theorem YF(K ρ):(Gx N).bd K ρ 37=ly.rB N ((Gx N).kc ρ 15) ((Gx N).kc ρ 37):=by kernel_rfl
theorem YG(ρ):(Gx N).kc ((Gx N).bo ρ) 37=ly.tR N ((Gx N).kc ρ 15) N:=Fx.uL [] (YF N) ρ (ly.tR N ((Gx N).kc ρ 15)) fun n ρ' e d=>by rw[e,d 15 rfl];rfl
theorem YH(K ρ):(Gx N).bd K ρ 15=ly.ns N ((Gx N).kc K 37) ((Gx N).kc ρ 15):=by kernel_rfl
theorem YI(ρ):(Gx N).kc ((Gx N).bo ρ) 15=ly.l7 N N:=Fx.uL [37] (YH N) ρ (ly.l7 N) fun n ρ' e d=>by rw[YG,e];rfl
theorem h16(K):(Gx N).top K=ly.b N ((Gx N).kc K 15):=by kernel_rfl
noncomputable def k16:Kn Tryz.prog:=⟨16,(Gx N).S false (ly N),Fx.u1 (Gx N) av Tryz.func16 [15] (h16 N) (by rw[YI];rfl)⟩
noncomputable def Wb:Fx:=⟨78,tab,[],N,Tryz.f69,[.v bR],[.v B],[⟨5,[(0,.v bR),(3,.v I)],[1,0,1,0,0],[]⟩],none⟩
theorem aec(K ρ):(Wb N).bd K ρ 5=sP.dx N ((Wb N).kc ρ 5):=by kernel_rfl
theorem aed(ρ):(Wb N).kc ((Wb N).bo ρ) 5=sP.l2 N N:=Fx.uL [] (aec N) ρ (sP.l2 N) fun n ρ' e d=>by rw[e];rfl
theorem h69(K):(Wb N).top K=sP.b N ((Wb N).kc K 5):=by kernel_rfl
noncomputable def k69:Kn Tryz.prog:=⟨69,(Wb N).S true (sP N),Fx.u1 (Wb N) av Tryz.func69 [5] (h69 N) (by rw[aed];rfl)⟩
noncomputable def Wc:Fx:=⟨38,tab,Kn.l [k69 N],N,Tryz.f20,[.v bR,.v I,.v I],[.v I],[⟨9,[(0,.v bR),(1,.v I),(2,.v I),(7,.v I)],[1,1,0,1,0,0],[]⟩],none⟩
theorem aee(K ρ):(Wc N).bd K ρ 9=sQ.cL N ((Wc N).kc ρ 9):=by kernel_rfl
theorem aef(ρ):(Wc N).kc ((Wc N).bo ρ) 9=sQ.l4 N N:=Fx.uL [] (aee N) ρ (sQ.l4 N) fun n ρ' e d=>by rw[e];rfl
theorem h20(K):(Wc N).top K=sQ.b N ((Wc N).kc K 9):=by kernel_rfl
noncomputable def k20:Kn Tryz.prog:=⟨20,(Wc N).S true (sQ N),Fx.u1 (Wc N) av Tryz.func20 [9] (h20 N) (by rw[aef];rfl)⟩
noncomputable def aeg:Fx:=⟨30,tab,[],N,Tryz.f149,[.v I,.v I],[.v B],[],none⟩
noncomputable def aeh:Kn Tryz.prog:=⟨149,(aeg N).S true (G6 N),Fx.u0 (aeg N) av Tryz.func149⟩
noncomputable def Wd:Fx:=⟨74,tab,Kn.l [aeh N],N,Tryz.f68,[.v bR],[.v B],[⟨5,[(0,.v bR),(3,.v I)],[1,0,1,0,0],[]⟩],none⟩
theorem aei(K ρ):(Wd N).bd K ρ 5=uQ.dx N ((Wd N).kc ρ 5):=by kernel_rfl
theorem aej(ρ):(Wd N).kc ((Wd N).bo ρ) 5=uQ.l2 N N:=Fx.uL [] (aei N) ρ (uQ.l2 N) fun n ρ' e d=>by rw[e];rfl
theorem h68(K):(Wd N).top K=uQ.b N ((Wd N).kc K 5):=by kernel_rfl
noncomputable def k68:Kn Tryz.prog:=⟨68,(Wd N).S true (uQ N),Fx.u1 (Wd N) av Tryz.func68 [5] (h68 N) (by rw[aej];rfl)⟩
noncomputable def We:Fx:=⟨38,tab,Kn.l [k68 N],N,Tryz.f19,[.v bR,.v I,.v I],[.v I],[⟨9,[(0,.v bR),(1,.v I),(2,.v I),(7,.v I)],[1,1,0,1,0,0],[]⟩],none⟩
theorem aek(K ρ):(We N).bd K ρ 9=oz.cL N ((We N).kc ρ 9):=by kernel_rfl
theorem ael(ρ):(We N).kc ((We N).bo ρ) 9=oz.l4 N N:=Fx.uL [] (aek N) ρ (oz.l4 N) fun n ρ' e d=>by rw[e];rfl
theorem h19(K):(We N).top K=oz.b N ((We N).kc K 9):=by kernel_rfl
noncomputable def OS:Kn Tryz.prog:=⟨19,(We N).S true (oz N),Fx.u1 (We N) av Tryz.func19 [9] (h19 N) (by rw[ael];rfl)⟩
noncomputable def R2:Fx:=⟨110,tab,Kn.l [k51 N,k52 N,k16 N,k20 N,OS N],N,Tryz.f12,[],[.v B],[],none⟩
theorem amJ:nk Tryz.prog (R2 N).E:=Fx.DI (R2 N) av (Kn.all _) (by kernel_rfl)
theorem amK: ∀x,CY (R2 N).E (R2 N).fn (R2 N).args (R2 N).res x=zL (R2 N).args (F12 N) x:=Fx.Xm (by kernel_rfl)
noncomputable def k12:Kn Tryz.prog:=⟨12,(R2 N).S true (F12 N),Fx.u0 (R2 N) av Tryz.func12⟩
noncomputable def X13:Fx:=⟨6,tab,[],N,Tryz.f13,[.v LU],[.ptr cU],[],none⟩
noncomputable def k13:Kn Tryz.prog:=⟨13,(X13 N).S false (F13 N),Fx.u0 (X13 N) av Tryz.func13⟩
noncomputable def X42:Fx:=⟨32,tab,[],N,Tryz.f42,[.io cU],[.v U,.io cU],[],none⟩
noncomputable def k42:Kn Tryz.prog:=⟨42,(X42 N).S false (F42 N),Fx.u0 (X42 N) av Tryz.func42⟩
noncomputable def X41:Fx:=⟨11,tab,Kn.l [k42 N],N,Tryz.f41,[.io cU,.v I],[.v I,.io cU],[],none⟩
noncomputable def Pk:Kn Tryz.prog:=⟨41,(X41 N).S false (nJ N),Fx.u0 (X41 N) av Tryz.func41⟩
noncomputable def X54:Fx:=⟨11,tab,Kn.l [Pk N],N,Tryz.f54,[.io cU,.v I],[.v B,.io cU],[],none⟩
noncomputable def k54:Kn Tryz.prog:=⟨54,(X54 N).S false (HC N),Fx.u0 (X54 N) av Tryz.func54⟩
noncomputable def X89:Fx:=⟨29,tab,Kn.l [k42 N],N,Tryz.f89,[.io cU],[.v I,.io cU],[],none⟩
noncomputable def k89:Kn Tryz.prog:=⟨89,(X89 N).S false (Gq N),Fx.u0 (X89 N) av Tryz.func89⟩
noncomputable def Js:Fx:=⟨71,tab,Kn.l [Pk N,k54 N,k89 N],N,Tryz.f27,[.io cU],[.v an,.io cU],[⟨16,[(0,.io cU),(2,.obj an),(3,.dE an [.gg 0] cF),(4,.v I),(5,.obj cF)],[1,1,0,1,0,0,1,0,0,1,1],[7]⟩,⟨7,[(0,.io cU),(2,.obj an),(3,.dE an [.gg 0] cF),(4,.v I)],[1,1,0,1,0,0],[]⟩],some (an,[.gg 0],cF,[3])⟩
theorem YJ(K ρ):(Js N).bd K ρ 16=ph.Hk N ((Js N).kc ρ 7):=by kernel_rfl
theorem YK(ρ):(Js N).kc ((Js N).bo ρ) 16=ph.j8 N ((Js N).kc ρ 7):=Fx.uJ [] (YJ N) ρ
theorem aem(K ρ):(Js N).bd K ρ 7=ph.iE N ((Js N).kc K 16) ((Js N).kc ρ 7):=by kernel_rfl
theorem aen(ρ):(Js N).kc ((Js N).bo ρ) 7=ph.l3 N N:=Fx.uL [16] (aem N) ρ (ph.l3 N) fun n ρ' e d=>by rw[YK,e];rfl
theorem h27(K):(Js N).top K=ph.b N ((Js N).kc K 7):=by kernel_rfl
noncomputable def k27:Kn Tryz.prog:=⟨27,(Js N).S false (ph N),Fx.u1 (Js N) av Tryz.func27 [7] (h27 N) (by rw[aen];rfl)⟩
noncomputable def pR:Fx:=⟨62,tab,Kn.l [k54 N,Pk N],N,Tryz.f157,[.io cU,.v an],[.own lQ,.io cU],[⟨27,[(0,.io cU),(5,.own lQ),(8,.v I)],[1,1,1,1,0,1,0,0],[]⟩,⟨19,[(0,.io cU),(5,.own lQ),(7,.v I)],[1,1,1,0,1,0,0],[]⟩,⟨7,[(0,.io cU),(5,.own lQ),(6,.v I)],[1,1,0,1,0,0],[]⟩],none⟩
theorem R3(K ρ):(pR N).bd K ρ 27=dp.lx N ((pR N).kc ρ 27):=by kernel_rfl
theorem R4(ρ):(pR N).kc ((pR N).bo ρ) 27=dp.nA N N:=Fx.uL [] (R3 N) ρ (dp.nA N) fun n ρ' e d=>by rw[e];rfl
theorem R5(K ρ):(pR N).bd K ρ 19=dp.rN N ((pR N).kc K 27) ((pR N).kc ρ 19):=by kernel_rfl
theorem R6(ρ):(pR N).kc ((pR N).bo ρ) 19=dp.l9 N N:=Fx.uL [27] (R5 N) ρ (dp.l9 N) fun n ρ' e d=>by rw[R4,e];rfl
theorem YL(K ρ):(pR N).bd K ρ 7=dp.iE N ((pR N).kc K 19) ((pR N).kc ρ 7):=by kernel_rfl
theorem YM(ρ):(pR N).kc ((pR N).bo ρ) 7=dp.l3 N N:=Fx.uL [19,27] (YL N) ρ (dp.l3 N) fun n ρ' e d=>by rw[R6,e];rfl
theorem aiX(K):(pR N).top K=dp.b N ((pR N).kc K 7):=by kernel_rfl
noncomputable def aiY:Kn Tryz.prog:=⟨157,(pR N).S false (dp N),Fx.u1 (pR N) av Tryz.func157 [7,19,27] (aiX N) (by rw[YM];rfl)⟩
noncomputable def aeo:Fx:=⟨30,tab,Kn.l [Pk N,k54 N,k89 N],N,Tryz.f159,[.io cU,.v an,.v I],[.v lQ,.io cU],[],none⟩
noncomputable def YN:Kn Tryz.prog:=⟨159,(aeo N).S false (KN N),Fx.u0 (aeo N) av Tryz.func159⟩
noncomputable def aep:Fx:=⟨48,tab,Kn.l [Pk N,k54 N,k89 N],N,Tryz.f160,[.io cU,.v an],[.v lQ,.io cU],[],none⟩
noncomputable def aeq:Kn Tryz.prog:=⟨160,(aep N).S false (NL N),Fx.u0 (aep N) av Tryz.func160⟩
noncomputable def aer:Fx:=⟨133,tab,Kn.l [Pk N,k89 N,YN N,aeq N],N,Tryz.f158,[.io cU,.v an],[.v lQ,.io cU],[],none⟩
noncomputable def aes:Kn Tryz.prog:=⟨158,(aer N).S false (NM N),Fx.u0 (aer N) av Tryz.func158⟩
noncomputable def Wf:Fx:=⟨50,tab,Kn.l [aiY N,Pk N,aes N,YN N,aeq N],N,Tryz.f90,[.io cU,.v an,.v I],[.own lQ,.io cU],[⟨7,[(0,.io cU),(4,.obj an),(7,.own lQ),(8,.v I)],[1,1,0,1,0,0],[]⟩],none⟩
theorem aet(K ρ):(Wf N).bd K ρ 7=xd.iE N ((Wf N).kc ρ 7):=by kernel_rfl
theorem aeu(ρ):(Wf N).kc ((Wf N).bo ρ) 7=xd.l3 N N:=Fx.uL [] (aet N) ρ (xd.l3 N) fun n ρ' e d=>by rw[e];rfl
theorem h90(K):(Wf N).top K=xd.b N ((Wf N).kc K 7):=by kernel_rfl
noncomputable def k90:Kn Tryz.prog:=⟨90,(Wf N).S false (xd N),Fx.u1 (Wf N) av Tryz.func90 [7] (h90 N) (by rw[aeu];rfl)⟩
noncomputable def Wg:Fx:=⟨33,tab,Kn.l [Pk N,k54 N,YN N,aes N],N,Tryz.f91,[.io cU,.v an],[.own lQ,.io cU],[⟨7,[(0,.io cU),(3,.obj an),(5,.own lQ),(6,.v I)],[1,1,0,1,0,0],[]⟩],none⟩
theorem aev(K ρ):(Wg N).bd K ρ 7=wL.iE N ((Wg N).kc ρ 7):=by kernel_rfl
theorem aew(ρ):(Wg N).kc ((Wg N).bo ρ) 7=wL.l3 N N:=Fx.uL [] (aev N) ρ (wL.l3 N) fun n ρ' e d=>by rw[e];rfl
theorem h91(K):(Wg N).top K=wL.b N ((Wg N).kc K 7):=by kernel_rfl
noncomputable def k91:Kn Tryz.prog:=⟨91,(Wg N).S false (wL N),Fx.u1 (Wg N) av Tryz.func91 [7] (h91 N) (by rw[aew];rfl)⟩
noncomputable def aex:Fx:=⟨15,tab,[],N,Tryz.f176,[.v I,.v I,.v I],[.v B],[],none⟩
noncomputable def aiZ:Kn Tryz.prog:=⟨176,(aex N).S true (zP N),Fx.u0 (aex N) av Tryz.func176⟩
noncomputable def Fp:Fx:=⟨77,tab,Kn.l [aiZ N],N,Tryz.f115,[.v an],[.v B],[⟨9,[(1,.obj an),(3,.v I)],[1,1,0,1,0,0],[]⟩],none⟩
theorem YO(K ρ):(Fp N).bd K ρ 9=hQ.cL N ((Fp N).kc ρ 9):=by kernel_rfl
theorem YP(ρ):(Fp N).kc ((Fp N).bo ρ) 9=hQ.l4 N N:=Fx.uL [] (YO N) ρ (hQ.l4 N) fun n ρ' e d=>by rw[e];rfl
theorem ai0(K):(Fp N).top K=hQ.b N ((Fp N).kc K 9):=by kernel_rfl
noncomputable def Ih:Kn Tryz.prog:=⟨115,(Fp N).S true (hQ N),Fx.u1 (Fp N) av Tryz.func115 [9] (ai0 N) (by rw[YP];rfl)⟩
noncomputable def wP:Fx:=⟨41,tab,Kn.l [Ih N],N,Tryz.f214,[.v an],[.v aC,.v I],[⟨15,[(1,.obj an),(2,.obj aC),(4,.dE aC [.gg 4] I),(5,.v I)],[1,1,1,1,0,1,0,0],[]⟩,⟨12,[(1,.obj an),(2,.obj aC),(4,.dE aC [.gg 4] I)],[1,1,1,1],[]⟩],some (aC,[.gg 4],I,[4])⟩
theorem R7(K ρ):(wP N).bd K ρ 15=gd.ns N ((wP N).kc ρ 15):=by kernel_rfl
theorem R8(ρ):(wP N).kc ((wP N).bo ρ) 15=gd.l7 N N:=Fx.uL [] (R7 N) ρ (gd.l7 N) fun n ρ' e d=>by rw[e];rfl
theorem R9(K ρ):(wP N).bd K ρ 12=gd.Lo N ((wP N).kc K 15):=by kernel_rfl
theorem Sa(ρ):(wP N).kc ((wP N).bo ρ) 12=gd.j6 N:=Fx.uJ [15] (R9 N) ρ (by rw[R8];rfl)
theorem ai1(K):(wP N).top K=gd.b N ((wP N).kc K 12):=by kernel_rfl
noncomputable def ai2:Kn Tryz.prog:=⟨214,(wP N).S false (gd N),Fx.u1 (wP N) av Tryz.func214 [12,15] (ai1 N) (by rw[Sa];rfl)⟩
noncomputable def aey:Fx:=⟨17,tab,Kn.l [ai2 N],N,Tryz.f161,[.v an],[.v bM,.v I],[],none⟩
noncomputable def ai3:Kn Tryz.prog:=⟨161,(aey N).S false (XX N),Fx.u0 (aey N) av Tryz.func161⟩
noncomputable def aez:Fx:=⟨9,tab,[],N,Tryz.f246,[.v I],[.v B],[],none⟩
noncomputable def ai4:Kn Tryz.prog:=⟨246,(aez N).S true (XL N),Fx.u0 (aez N) av Tryz.func246⟩
noncomputable def aeA:Fx:=⟨32,tab,[],N,Tryz.f247,[.v I],[.v Z],[],none⟩
noncomputable def ai5:Kn Tryz.prog:=⟨247,(aeA N).S true (QX N),Fx.u0 (aeA N) av Tryz.func247⟩
noncomputable def aeB:Fx:=⟨12,tab,[],N,Tryz.f275,[.v I],[.v I,.v I],[],none⟩
noncomputable def ai6:Kn Tryz.prog:=⟨275,(aeB N).S true (XJ N),Fx.u0 (aeB N) av Tryz.func275⟩
noncomputable def aeC:Fx:=⟨6,tab,[],N,Tryz.f276,[.v I],[.v I,.v I],[],none⟩
noncomputable def ai7:Kn Tryz.prog:=⟨276,(aeC N).S true (XK N),Fx.u0 (aeC N) av Tryz.func276⟩
noncomputable def aeD:Fx:=⟨27,tab,Kn.l [ai6 N,ai7 N],N,Tryz.f248,[.v I,.v (.int .u8)],[.v I,.v I],[],none⟩
noncomputable def ai8:Kn Tryz.prog:=⟨248,(aeD N).S true (QY N),Fx.u0 (aeD N) av Tryz.func248⟩
noncomputable def aeE:Fx:=⟨32,tab,[],N,Tryz.f249,[.v lQ,.v (.int .u8)],[.v I],[],none⟩
noncomputable def ai9:Kn Tryz.prog:=⟨249,(aeE N).S true (QZ N),Fx.u0 (aeE N) av Tryz.func249⟩
noncomputable def aeF:Fx:=⟨35,tab,[],N,Tryz.f250,[.v lQ,.v (.int .u8),.v I],[.v lQ],[],none⟩
noncomputable def aja:Kn Tryz.prog:=⟨250,(aeF N).S true (Q0 N),Fx.u0 (aeF N) av Tryz.func250⟩
noncomputable def Fs:Fx:=⟨56,tab,Kn.l [ai4 N,ai5 N,ai8 N,ai9 N,aja N],N,Tryz.f215,[.v lQ],[.v B],[⟨13,[(1,.obj lQ),(3,.v Z),(4,.obj lQ),(5,.v I)],[1,1,1,1,0,1,0,0],[]⟩],none⟩
theorem Sb(K ρ):(Fs N).bd K ρ 13=mA.n4 N ((Fs N).kc ρ 13):=by kernel_rfl
theorem Sc(ρ):(Fs N).kc ((Fs N).bo ρ) 13=mA.l6 N N:=Fx.uL [] (Sb N) ρ (mA.l6 N) fun n ρ' e d=>by rw[e];rfl
theorem ajb(K):(Fs N).top K=mA.b N ((Fs N).kc K 13):=by kernel_rfl
noncomputable def ajc:Kn Tryz.prog:=⟨215,(Fs N).S true (mA N),Fx.u1 (Fs N) av Tryz.func215 [13] (ajb N) (by rw[Sc];rfl)⟩
noncomputable def Ft:Fx:=⟨58,tab,[],N,Tryz.f235,[.v ca],[.v B],[⟨5,[(0,.v ca),(3,.v I)],[1,0,1,0,0],[]⟩],none⟩
theorem YQ(K ρ):(Ft N).bd K ρ 5=jl.dx N ((Ft N).kc ρ 5):=by kernel_rfl
theorem YR(ρ):(Ft N).kc ((Ft N).bo ρ) 5=jl.l2 N N:=Fx.uL [] (YQ N) ρ (jl.l2 N) fun n ρ' e d=>by rw[e];rfl
theorem ajd(K):(Ft N).top K=jl.b N ((Ft N).kc K 5):=by kernel_rfl
noncomputable def Sd:Kn Tryz.prog:=⟨235,(Ft N).S true (jl N),Fx.u1 (Ft N) av Tryz.func235 [5] (ajd N) (by rw[YR];rfl)⟩
noncomputable def Fu:Fx:=⟨24,tab,[],N,Tryz.f236,[.v ca,.v I],[.v I],[⟨5,[(0,.v ca),(1,.v I),(5,.v I)],[1,0,1,0,0],[]⟩],none⟩
theorem YS(K ρ):(Fu N).bd K ρ 5=iG.dx N ((Fu N).kc ρ 5):=by kernel_rfl
theorem YT(ρ):(Fu N).kc ((Fu N).bo ρ) 5=iG.l2 N N:=Fx.uL [] (YS N) ρ (iG.l2 N) fun n ρ' e d=>by rw[e];rfl
theorem aje(K):(Fu N).top K=iG.b N ((Fu N).kc K 5):=by kernel_rfl
noncomputable def Lg:Kn Tryz.prog:=⟨236,(Fu N).S true (iG N),Fx.u1 (Fu N) av Tryz.func236 [5] (aje N) (by rw[YT];rfl)⟩
noncomputable def wQ:Fx:=⟨53,tab,Kn.l [Sd N,Lg N],N,Tryz.f251,[.v ca,.v I],[.own gv,.v I],[⟨18,[(0,.v ca),(1,.v I),(6,.own gv),(7,.v I)],[1,1,1,1,1,1],[]⟩,⟨15,[(0,.v ca),(1,.v I),(6,.own gv),(7,.v I)],[1,1,1,1,1,0,0,0],[]⟩],none⟩
theorem Se(K ρ):(wQ N).bd K ρ 18=gw.GY N:=by kernel_rfl
theorem Sf(ρ):(wQ N).kc ((wQ N).bo ρ) 18=gw.j9 N:=Fx.uJ [] (Se N) ρ
theorem Sg(K ρ):(wQ N).bd K ρ 15=gw.ns N ((wQ N).kc K 18) ((wQ N).kc ρ 15):=by kernel_rfl
theorem Sh(ρ):(wQ N).kc ((wQ N).bo ρ) 15=gw.l7 N N:=Fx.uL [18] (Sg N) ρ (gw.l7 N) fun n ρ' e d=>by rw[Sf,e];rfl
theorem ajf(K):(wQ N).top K=gw.b N ((wQ N).kc K 15):=by kernel_rfl
noncomputable def ajg:Kn Tryz.prog:=⟨251,(wQ N).S false (gw N),Fx.u1 (wQ N) av Tryz.func251 [15,18] (ajf N) (by rw[Sh];rfl)⟩
noncomputable def aeG:Fx:=⟨5,tab,[],N,Tryz.f252,[.v I],[.v fI],[],none⟩
noncomputable def Si:Kn Tryz.prog:=⟨252,(aeG N).S true (dM N),Fx.u0 (aeG N) av Tryz.func252⟩
noncomputable def zs:Fx:=⟨95,tab,[],N,Tryz.f71,[.v cB],[.v B],[⟨17,[(0,.v cB),(3,.v I),(4,.obj cF),(5,.v I)],[1,0,1,0,0,1,0,0,1,1,1,0,0],[5]⟩,⟨14,[(0,.v cB),(3,.v I),(4,.obj cF)],[1,0,1,0,0,1,0,0,1,1],[5]⟩,⟨5,[(0,.v cB),(3,.v I)],[1,0,1,0,0],[]⟩],none⟩
theorem YU(K ρ):(zs N).bd K ρ 17=g2.w5 N ((zs N).kc ρ 5) ((zs N).kc ρ 17):=by kernel_rfl
theorem YV(ρ):(zs N).kc ((zs N).bo ρ) 17=g2.l8 N ((zs N).kc ρ 5) N:=Fx.uL [] (YU N) ρ (g2.l8 N ((zs N).kc ρ 5)) fun n ρ' e d=>by rw[e,d 5 rfl];rfl
theorem YW(K ρ):(zs N).bd K ρ 14=g2.Xt N ((zs N).kc K 17) ((zs N).kc ρ 5):=by kernel_rfl
theorem YX(ρ):(zs N).kc ((zs N).bo ρ) 14=g2.j7 N ((zs N).kc ρ 5):=Fx.uJ [17] (YW N) ρ (by rw[YV];rfl)
theorem aeH(K ρ):(zs N).bd K ρ 5=g2.dx N ((zs N).kc K 14) ((zs N).kc ρ 5):=by kernel_rfl
theorem aeI(ρ):(zs N).kc ((zs N).bo ρ) 5=g2.l2 N N:=Fx.uL [14,17] (aeH N) ρ (g2.l2 N) fun n ρ' e d=>by rw[YX,e];rfl
theorem h71(K):(zs N).top K=g2.b N ((zs N).kc K 5):=by kernel_rfl
noncomputable def k71:Kn Tryz.prog:=⟨71,(zs N).S true (g2 N),Fx.u1 (zs N) av Tryz.func71 [5] (h71 N) (by rw[aeI];rfl)⟩
noncomputable def Fv:Fx:=⟨28,tab,Kn.l [Sd N,k71 N,Lg N],N,Tryz.f185,[.v ca,.v cB],[.v B],[⟨9,[(0,.v ca),(1,.v cB),(5,.v I)],[1,1,0,1,0,0],[]⟩],none⟩
theorem YY(K ρ):(Fv N).bd K ρ 9=jG.cL N ((Fv N).kc ρ 9):=by kernel_rfl
theorem YZ(ρ):(Fv N).kc ((Fv N).bo ρ) 9=jG.l4 N N:=Fx.uL [] (YY N) ρ (jG.l4 N) fun n ρ' e d=>by rw[e];rfl
theorem ajh(K):(Fv N).top K=jG.b N ((Fv N).kc K 9):=by kernel_rfl
noncomputable def Y0:Kn Tryz.prog:=⟨185,(Fv N).S true (jG N),Fx.u1 (Fv N) av Tryz.func185 [9] (ajh N) (by rw[YZ];rfl)⟩
noncomputable def Fw:Fx:=⟨25,tab,[],N,Tryz.f267,[.v cB,.v I],[.v cF,.v B],[⟨5,[(0,.v cB),(1,.v I),(4,.obj cF),(6,.v I)],[1,0,1,0,0],[]⟩],none⟩
theorem Y1(K ρ):(Fw N).bd K ρ 5=jm.dx N ((Fw N).kc ρ 5):=by kernel_rfl
theorem Y2(ρ):(Fw N).kc ((Fw N).bo ρ) 5=jm.l2 N N:=Fx.uL [] (Y1 N) ρ (jm.l2 N) fun n ρ' e d=>by rw[e];rfl
theorem aji(K):(Fw N).top K=jm.b N ((Fw N).kc K 5):=by kernel_rfl
noncomputable def Sj:Kn Tryz.prog:=⟨267,(Fw N).S true (jm N),Fx.u1 (Fw N) av Tryz.func267 [5] (aji N) (by rw[Y2];rfl)⟩
noncomputable def Wh:Fx:=⟨35,tab,Kn.l [k71 N],N,Tryz.f22,[.v cB,.v I],[.v I],[⟨9,[(0,.v cB),(1,.v I),(5,.v I)],[1,1,0,1,0,0],[]⟩],none⟩
theorem aeJ(K ρ):(Wh N).bd K ρ 9=su.cL N ((Wh N).kc ρ 9):=by kernel_rfl
theorem aeK(ρ):(Wh N).kc ((Wh N).bo ρ) 9=su.l4 N N:=Fx.uL [] (aeJ N) ρ (su.l4 N) fun n ρ' e d=>by rw[e];rfl
theorem h22(K):(Wh N).top K=su.b N ((Wh N).kc K 9):=by kernel_rfl
noncomputable def k22:Kn Tryz.prog:=⟨22,(Wh N).S true (su N),Fx.u1 (Wh N) av Tryz.func22 [9] (h22 N) (by rw[aeK];rfl)⟩
noncomputable def rE:Fx:=⟨81,tab,Kn.l [Y0 N,k71 N,Lg N,Sj N,k22 N],N,Tryz.f253,[.v ca,.v cB,.v cF],[.own cF,.v I],[⟨30,[(1,.v cB),(5,.obj cF),(11,.own cF),(12,.v I)],[1,1,1,1,1,1,1,1,1],[]⟩,⟨27,[(1,.v cB),(5,.obj cF),(11,.own cF),(12,.v I)],[1,1,1,1,1,1,1,1,0,0,0],[]⟩,⟨22,[(1,.v cB),(5,.obj cF)],[1,1,1,1,1,1],[]⟩],none⟩
theorem Sk(K ρ):(rE N).bd K ρ 30=ec.sI N:=by kernel_rfl
theorem Sl(ρ):(rE N).kc ((rE N).bo ρ) 30=ec.zX N:=Fx.uJ [] (Sk N) ρ
theorem Sm(K ρ):(rE N).bd K ρ 27=ec.lx N ((rE N).kc K 30) ((rE N).kc ρ 27):=by kernel_rfl
theorem Sn(ρ):(rE N).kc ((rE N).bo ρ) 27=ec.nA N N:=Fx.uL [30] (Sm N) ρ (ec.nA N) fun n ρ' e d=>by rw[Sl,e];rfl
theorem So(K ρ):(rE N).bd K ρ 22=ec.yR N ((rE N).kc K 27):=by kernel_rfl
theorem Sp(ρ):(rE N).kc ((rE N).bo ρ) 22=ec.Gr N:=Fx.uJ [27,30] (So N) ρ (by rw[Sn];rfl)
theorem ajj(K):(rE N).top K=ec.b N ((rE N).kc K 22):=by kernel_rfl
noncomputable def ajk:Kn Tryz.prog:=⟨253,(rE N).S false (ec N),Fx.u1 (rE N) av Tryz.func253 [22,27,30] (ajj N) (by rw[Sp];rfl)⟩
noncomputable def aeM:Fx:=⟨15,tab,Kn.l [k71 N,Sj N],N,Tryz.f222,[.v cB,.v I],[.v cF,.v B],[],none⟩
noncomputable def Ii:Kn Tryz.prog:=⟨222,(aeM N).S true (ye N),Fx.u0 (aeM N) av Tryz.func222⟩
noncomputable def aeN:Fx:=⟨16,tab,Kn.l [Ii N],N,Tryz.f254,[.v bM,.v I],[.v B],[],none⟩
noncomputable def ajl:Kn Tryz.prog:=⟨254,(aeN N).S true (Oi N),Fx.u0 (aeN N) av Tryz.func254⟩
noncomputable def Fy:Fx:=⟨22,tab,[],N,Tryz.f148,[.v LU],[.v LU],[⟨5,[(0,.v LU),(3,.v I)],[1,1,0,0,0],[]⟩],none⟩
theorem Y3(K ρ):(Fy N).bd K ρ 5=jB.dx N ((Fy N).kc ρ 5):=by kernel_rfl
theorem Y4(ρ):(Fy N).kc ((Fy N).bo ρ) 5=jB.l2 N N:=Fx.uL [] (Y3 N) ρ (jB.l2 N) fun n ρ' e d=>by rw[e];rfl
theorem ajm(K):(Fy N).top K=jB.b N ((Fy N).kc K 5):=by kernel_rfl
noncomputable def Y5:Kn Tryz.prog:=⟨148,(Fy N).S false (jB N),Fx.u1 (Fy N) av Tryz.func148 [5] (ajm N) (by rw[Y4];rfl)⟩
noncomputable def X67:Fx:=⟨9,tab,Kn.l [Y5 N],N,Tryz.f67,[.v U],[.v LU],[],none⟩
noncomputable def k67:Kn Tryz.prog:=⟨67,(X67 N).S false (F67 N),Fx.u0 (X67 N) av Tryz.func67⟩
noncomputable def X66:Fx:=⟨15,tab,Kn.l [Y5 N],N,Tryz.f66,[.v B,.v LU],[.v bK],[],none⟩
noncomputable def k66:Kn Tryz.prog:=⟨66,(X66 N).S false (MK N),Fx.u0 (X66 N) av Tryz.func66⟩
noncomputable def X18:Fx:=⟨15,tab,Kn.l [k67 N,k66 N],N,Tryz.f18,[.v I],[.v bK],[],none⟩
noncomputable def sR:Kn Tryz.prog:=⟨18,(X18 N).S false (fT N),Fx.u0 (X18 N) av Tryz.func18⟩
noncomputable def X70:Fx:=⟨9,tab,Kn.l [k66 N],N,Tryz.f70,[.v bK],[.v bK],[],none⟩
noncomputable def Y6:Kn Tryz.prog:=⟨70,(X70 N).S false (Lp N),Fx.u0 (X70 N) av Tryz.func70⟩
noncomputable def aeP:Fx:=⟨21,tab,Kn.l [Y6 N],N,Tryz.f134,[.v I,.v I,.v I,.v I,.v bK],[.own mO],[],none⟩
noncomputable def OT:Kn Tryz.prog:=⟨134,(aeP N).S false (yS N),Fx.u0 (aeP N) av Tryz.func134⟩
noncomputable def X98:Fx:=⟨13,tab,[],N,Tryz.f98,[.v LU,.v I],[.v U],[],none⟩
noncomputable def k98:Kn Tryz.prog:=⟨98,(X98 N).S true (P8 N),Fx.u0 (X98 N) av Tryz.func98⟩
noncomputable def Jt:Fx:=⟨41,tab,Kn.l [k98 N],N,Tryz.f72,[.v LU,.v LU],[.own U],[⟨12,[(0,.v LU),(1,.v LU),(5,.own U),(6,.v U),(7,.v I)],[1,1,1,0,1,0,0,1],[9]⟩,⟨9,[(0,.v LU),(1,.v LU),(5,.own U),(6,.v U),(7,.v I)],[1,1,1,0,1,0,0],[]⟩],none⟩
theorem Y7(K ρ):(Jt N).bd K ρ 12=pG.Lo N ((Jt N).kc ρ 9):=by kernel_rfl
theorem Y8(ρ):(Jt N).kc ((Jt N).bo ρ) 12=pG.j6 N ((Jt N).kc ρ 9):=Fx.uJ [] (Y7 N) ρ
theorem aeQ(K ρ):(Jt N).bd K ρ 9=pG.cL N ((Jt N).kc K 12) ((Jt N).kc ρ 9):=by kernel_rfl
theorem aeR(ρ):(Jt N).kc ((Jt N).bo ρ) 9=pG.l4 N N:=Fx.uL [12] (aeQ N) ρ (pG.l4 N) fun n ρ' e d=>by rw[Y8,e];rfl
theorem h72(K):(Jt N).top K=pG.b N ((Jt N).kc K 9):=by kernel_rfl
noncomputable def k72:Kn Tryz.prog:=⟨72,(Jt N).S false (pG N),Fx.u1 (Jt N) av Tryz.func72 [9] (h72 N) (by rw[aeR];rfl)⟩
noncomputable def Wi:Fx:=⟨41,tab,[],N,Tryz.f73,[.v LU,.v LU],[.v I],[⟨13,[(0,.v LU),(1,.v LU),(5,.v I)],[1,1,0,1,0,0],[]⟩],none⟩
theorem Y9(K ρ):(Wi N).bd K ρ 13=wB.n4 N ((Wi N).kc ρ 13):=by kernel_rfl
theorem Za(ρ):(Wi N).kc ((Wi N).bo ρ) 13=wB.l6 N N:=Fx.uL [] (Y9 N) ρ (wB.l6 N) fun n ρ' e d=>by rw[e];rfl
theorem h73(K):(Wi N).top K=wB.b N ((Wi N).kc K 13):=by kernel_rfl
noncomputable def k73:Kn Tryz.prog:=⟨73,(Wi N).S true (wB N),Fx.u1 (Wi N) av Tryz.func73 [13] (h73 N) (by rw[Za];rfl)⟩
noncomputable def Wj:Fx:=⟨37,tab,Kn.l [k98 N],N,Tryz.f74,[.v LU,.v LU],[.own U],[⟨9,[(0,.v LU),(1,.v LU),(5,.own U),(6,.v U),(7,.v I)],[1,1,1,0,1,0,0],[]⟩],none⟩
theorem aeS(K ρ):(Wj N).bd K ρ 9=w1.cL N ((Wj N).kc ρ 9):=by kernel_rfl
theorem aeT(ρ):(Wj N).kc ((Wj N).bo ρ) 9=w1.l4 N N:=Fx.uL [] (aeS N) ρ (w1.l4 N) fun n ρ' e d=>by rw[e];rfl
theorem h74(K):(Wj N).top K=w1.b N ((Wj N).kc K 9):=by kernel_rfl
noncomputable def k74:Kn Tryz.prog:=⟨74,(Wj N).S false (w1 N),Fx.u1 (Wj N) av Tryz.func74 [9] (h74 N) (by rw[aeT];rfl)⟩
noncomputable def X23:Fx:=⟨40,tab,Kn.l [k72 N,k66 N,k73 N,k74 N],N,Tryz.f23,[.v bK,.v bK],[.v bK],[],none⟩
noncomputable def Ij:Kn Tryz.prog:=⟨23,(X23 N).S false (ur N),Fx.u0 (X23 N) av Tryz.func23⟩
noncomputable def aeU:Fx:=⟨28,tab,Kn.l [k98 N],N,Tryz.f102,[.v bK],[.v I,.v B],[],none⟩
noncomputable def zh:Kn Tryz.prog:=⟨102,(aeU N).S true (qm N),Fx.u0 (aeU N) av Tryz.func102⟩
noncomputable def aeV:Fx:=⟨18,tab,Kn.l [zh N],N,Tryz.f239,[.v bK],[.v I,.v B],[],none⟩
noncomputable def aeW:Kn Tryz.prog:=⟨239,(aeV N).S true (NF N),Fx.u0 (aeV N) av Tryz.func239⟩
noncomputable def gf:Fx:=⟨106,tab,Kn.l [sR N,Ij N,aeW N],N,Tryz.f196,[.v bR,.v bR],[.own fI,.v B],[⟨31,[(0,.v bR),(1,.v bR),(6,.own fI),(7,.v I),(8,.v I),(9,.v I),(10,.v I),(11,.v B),(12,.obj bK),(13,.v I)],[1,1,1,0,1,0,0,1,0,0,1,0,0,1,0,0,1,1,1,0,1,0,0],[9,15]⟩,⟨26,[(0,.v bR),(1,.v bR),(6,.own fI),(7,.v I),(8,.v I),(9,.v I),(10,.v I),(11,.v B)],[1,1,1,0,1,0,0,1,0,0,1,0,0,1,0,0,1,1],[9,15]⟩,⟨15,[(0,.v bR),(1,.v bR),(6,.own fI),(7,.v I),(8,.v I),(9,.v I)],[1,1,1,0,1,0,0,1,0,0,1,0,0],[9]⟩,⟨9,[(0,.v bR),(1,.v bR),(6,.own fI),(7,.v I),(8,.v I)],[1,1,1,0,1,0,0],[]⟩],none⟩
theorem Sq(K ρ):(gf N).bd K ρ 31=bT.HA N ((gf N).kc ρ 9) ((gf N).kc ρ 15) ((gf N).kc ρ 31):=by kernel_rfl
theorem Sr(ρ):(gf N).kc ((gf N).bo ρ) 31=bT.KK N ((gf N).kc ρ 9) ((gf N).kc ρ 15) N:=Fx.uL [] (Sq N) ρ (bT.KK N ((gf N).kc ρ 9) ((gf N).kc ρ 15)) fun n ρ' e d=>by rw[e,d 9 rfl,d 15 rfl];rfl
theorem Ss(K ρ):(gf N).bd K ρ 26=bT.Hy N ((gf N).kc K 31) ((gf N).kc ρ 9) ((gf N).kc ρ 15):=by kernel_rfl
theorem Su(ρ):(gf N).kc ((gf N).bo ρ) 26=bT.NG N ((gf N).kc ρ 9) ((gf N).kc ρ 15):=Fx.uJ [31] (Ss N) ρ (by rw[Sr];rfl)
theorem Sv(K ρ):(gf N).bd K ρ 15=bT.ns N ((gf N).kc K 26) ((gf N).kc ρ 9) ((gf N).kc ρ 15):=by kernel_rfl
theorem Sw(ρ):(gf N).kc ((gf N).bo ρ) 15=bT.l7 N ((gf N).kc ρ 9) N:=Fx.uL [26,31] (Sv N) ρ (bT.l7 N ((gf N).kc ρ 9)) fun n ρ' e d=>by rw[Su,e,d 9 rfl];rfl
theorem Zb(K ρ):(gf N).bd K ρ 9=bT.cL N ((gf N).kc K 15) ((gf N).kc ρ 9):=by kernel_rfl
theorem Zc(ρ):(gf N).kc ((gf N).bo ρ) 9=bT.l4 N N:=Fx.uL [15] (Zb N) ρ (bT.l4 N) fun n ρ' e d=>by rw[Sw,e];rfl
theorem ajn(K):(gf N).top K=bT.b N ((gf N).kc K 9):=by kernel_rfl
noncomputable def ajo:Kn Tryz.prog:=⟨196,(gf N).S false (bT N),Fx.u1 (gf N) av Tryz.func196 [9] (ajn N) (by rw[Zc];rfl)⟩
noncomputable def FA:Fx:=⟨53,tab,Kn.l [Ij N,sR N,zh N],N,Tryz.f240,[.v I,.v I,.v I,.v jN],[.v I,.v B],[⟨7,[(0,.v I),(1,.v I),(2,.v I),(3,.v jN),(10,.obj bK),(11,.v B),(12,.v I)],[1,1,0,1,0,0],[]⟩],none⟩
theorem Zd(K ρ):(FA N).bd K ρ 7=nV.iE N ((FA N).kc ρ 7):=by kernel_rfl
theorem Ze(ρ):(FA N).kc ((FA N).bo ρ) 7=nV.l3 N N:=Fx.uL [] (Zd N) ρ (nV.l3 N) fun n ρ' e d=>by rw[e];rfl
theorem ajp(K):(FA N).top K=nV.b N ((FA N).kc K 7):=by kernel_rfl
noncomputable def ajq:Kn Tryz.prog:=⟨240,(FA N).S true (nV N),Fx.u1 (FA N) av Tryz.func240 [7] (ajp N) (by rw[Ze];rfl)⟩
noncomputable def lF:Fx:=⟨69,tab,Kn.l [ajq N],N,Tryz.f197,[.v bR,.v jN],[.own fI,.v B],[⟨26,[(0,.v bR),(1,.v jN),(6,.own fI),(7,.v I),(8,.v I),(9,.v I),(10,.v I)],[1,1,1,0,1,0,0,1,0,0,1,0,0,1,0,0,1,1],[9,15]⟩,⟨15,[(0,.v bR),(1,.v jN),(6,.own fI),(7,.v I),(8,.v I),(9,.v I)],[1,1,1,0,1,0,0,1,0,0,1,0,0],[9]⟩,⟨9,[(0,.v bR),(1,.v jN),(6,.own fI),(7,.v I),(8,.v I)],[1,1,1,0,1,0,0],[]⟩],none⟩
theorem Sx(K ρ):(lF N).bd K ρ 26=c0.Hy N ((lF N).kc ρ 9) ((lF N).kc ρ 15):=by kernel_rfl
theorem Sy(ρ):(lF N).kc ((lF N).bo ρ) 26=c0.NG N ((lF N).kc ρ 9) ((lF N).kc ρ 15):=Fx.uJ [] (Sx N) ρ
theorem Sz(K ρ):(lF N).bd K ρ 15=c0.ns N ((lF N).kc K 26) ((lF N).kc ρ 9) ((lF N).kc ρ 15):=by kernel_rfl
theorem SA(ρ):(lF N).kc ((lF N).bo ρ) 15=c0.l7 N ((lF N).kc ρ 9) N:=Fx.uL [26] (Sz N) ρ (c0.l7 N ((lF N).kc ρ 9)) fun n ρ' e d=>by rw[Sy,e,d 9 rfl];rfl
theorem Zf(K ρ):(lF N).bd K ρ 9=c0.cL N ((lF N).kc K 15) ((lF N).kc ρ 9):=by kernel_rfl
theorem Zg(ρ):(lF N).kc ((lF N).bo ρ) 9=c0.l4 N N:=Fx.uL [15] (Zf N) ρ (c0.l4 N) fun n ρ' e d=>by rw[SA,e];rfl
theorem ajr(K):(lF N).top K=c0.b N ((lF N).kc K 9):=by kernel_rfl
noncomputable def ajs:Kn Tryz.prog:=⟨197,(lF N).S false (c0 N),Fx.u1 (lF N) av Tryz.func197 [9] (ajr N) (by rw[Zg];rfl)⟩
noncomputable def aeX:Fx:=⟨36,tab,Kn.l [ajo N,ajs N],N,Tryz.f135,[.v aC,.v bR,.v jN],[.v aC,.v I],[],none⟩
noncomputable def FB:Kn Tryz.prog:=⟨135,(aeX N).S false (yO N),Fx.u0 (aeX N) av Tryz.func135⟩
noncomputable def aeY:Fx:=⟨34,tab,Kn.l [sR N,OT N,FB N],N,Tryz.f255,[.v bM,.v I,.v I,.v I,.v I,.v I],[.v bM,.v fI],[],none⟩
noncomputable def ajt:Kn Tryz.prog:=⟨255,(aeY N).S false (K7 N),Fx.u0 (aeY N) av Tryz.func255⟩
noncomputable def FC:Fx:=⟨33,tab,Kn.l [k69 N,sR N,Ij N],N,Tryz.f237,[.v bR,.v I],[.v bK],[⟨11,[(0,.v bR),(1,.v I),(4,.obj bK),(5,.obj bK),(6,.v I)],[1,1,1,0,1,0,0],[]⟩],none⟩
theorem SB(K ρ):(FC N).bd K ρ 11=kk.dd N ((FC N).kc ρ 11):=by kernel_rfl
theorem SC(ρ):(FC N).kc ((FC N).bo ρ) 11=kk.l5 N N:=Fx.uL [] (SB N) ρ (kk.l5 N) fun n ρ' e d=>by rw[e];rfl
theorem aju(K):(FC N).top K=kk.b N ((FC N).kc K 11):=by kernel_rfl
noncomputable def ajv:Kn Tryz.prog:=⟨237,(FC N).S false (kk N),Fx.u1 (FC N) av Tryz.func237 [11] (aju N) (by rw[SC];rfl)⟩
noncomputable def X47:Fx:=⟨9,tab,[],N,Tryz.f47,[.v bK],[.v I],[],none⟩
noncomputable def SD:Kn Tryz.prog:=⟨47,(X47 N).S true (IS N),Fx.u0 (X47 N) av Tryz.func47⟩
noncomputable def FD:Fx:=⟨15,tab,Kn.l [ajv N,SD N,k69 N],N,Tryz.f186,[.v bR],[.v B],[⟨5,[(0,.v bR),(3,.v I)],[1,0,1,0,0],[]⟩],none⟩
theorem Zh(K ρ):(FD N).bd K ρ 5=kR.dx N ((FD N).kc ρ 5):=by kernel_rfl
theorem Zi(ρ):(FD N).kc ((FD N).bo ρ) 5=kR.l2 N N:=Fx.uL [] (Zh N) ρ (kR.l2 N) fun n ρ' e d=>by rw[e];rfl
theorem ajw(K):(FD N).top K=kR.b N ((FD N).kc K 5):=by kernel_rfl
noncomputable def ajx:Kn Tryz.prog:=⟨186,(FD N).S true (kR N),Fx.u1 (FD N) av Tryz.func186 [5] (ajw N) (by rw[Zi];rfl)⟩
noncomputable def aeZ:Fx:=⟨9,tab,[],N,Tryz.f191,[.v I],[.v B],[],none⟩
noncomputable def Ik:Kn Tryz.prog:=⟨191,(aeZ N).S true (wD N),Fx.u0 (aeZ N) av Tryz.func191⟩
noncomputable def ae0:Fx:=⟨56,tab,Kn.l [Ik N],N,Tryz.f221,[.v jn],[.v B],[],none⟩
noncomputable def SE:Kn Tryz.prog:=⟨221,(ae0 N).S true (Ha N),Fx.u0 (ae0 N) av Tryz.func221⟩
noncomputable def FE:Fx:=⟨37,tab,Kn.l [SE N],N,Tryz.f187,[.v m5],[.v B],[⟨9,[(0,.v m5),(3,.v I)],[1,1,0,1,0,0],[]⟩],none⟩
theorem Zj(K ρ):(FE N).bd K ρ 9=iF.cL N ((FE N).kc ρ 9):=by kernel_rfl
theorem Zk(ρ):(FE N).kc ((FE N).bo ρ) 9=iF.l4 N N:=Fx.uL [] (Zj N) ρ (iF.l4 N) fun n ρ' e d=>by rw[e];rfl
theorem ajy(K):(FE N).top K=iF.b N ((FE N).kc K 9):=by kernel_rfl
noncomputable def Lh:Kn Tryz.prog:=⟨187,(FE N).S true (iF N),Fx.u1 (FE N) av Tryz.func187 [9] (ajy N) (by rw[Zk];rfl)⟩
noncomputable def FF:Fx:=⟨24,tab,Kn.l [k68 N,sR N,Ij N],N,Tryz.f188,[.v bR],[.v bK],[⟨11,[(0,.v bR),(2,.obj bK),(3,.obj bK),(4,.v I)],[1,1,1,0,1,0,0],[]⟩],none⟩
theorem SF(K ρ):(FF N).bd K ρ 11=ki.dd N ((FF N).kc ρ 11):=by kernel_rfl
theorem SG(ρ):(FF N).kc ((FF N).bo ρ) 11=ki.l5 N N:=Fx.uL [] (SF N) ρ (ki.l5 N) fun n ρ' e d=>by rw[e];rfl
theorem ajz(K):(FF N).top K=ki.b N ((FF N).kc K 11):=by kernel_rfl
noncomputable def ajA:Kn Tryz.prog:=⟨188,(FF N).S false (ki N),Fx.u1 (FF N) av Tryz.func188 [11] (ajz N) (by rw[SG];rfl)⟩
noncomputable def ae1:Fx:=⟨19,tab,Kn.l [Ii N],N,Tryz.f189,[.v aC,.v I],[.v B],[],none⟩
noncomputable def ae2:Kn Tryz.prog:=⟨189,(ae1 N).S true (BV N),Fx.u0 (ae1 N) av Tryz.func189⟩
noncomputable def ae3:Fx:=⟨11,tab,Kn.l [Sd N,Lg N],N,Tryz.f190,[.v ca,.v I],[.v I],[],none⟩
noncomputable def Il:Kn Tryz.prog:=⟨190,(ae3 N).S true (tC N),Fx.u0 (ae3 N) av Tryz.func190⟩
noncomputable def mS:Fx:=⟨163,tab,Kn.l [Ih N,Y0 N,k68 N,ajx N,Lh N,ajA N,SD N,ae2 N,Il N,Ik N],N,Tryz.f127,[.v an,.v aC],[.v B],[⟨45,[(2,.obj an),(3,.obj aC),(9,.v I)],[1,1,1,1,1,1,0,1,0,0],[]⟩,⟨35,[(2,.obj an),(3,.obj aC),(8,.v I)],[1,1,1,1,1,0,1,0,0],[]⟩,⟨25,[(2,.obj an),(3,.obj aC),(7,.v I)],[1,1,1,1,0,1,0,0],[]⟩,⟨13,[(2,.obj an),(3,.obj aC),(5,.v I)],[1,1,1,0,1,0,0],[]⟩],none⟩
theorem SH(K ρ):(mS N).bd K ρ 45=bD.qu N ((mS N).kc ρ 45):=by kernel_rfl
theorem SI(ρ):(mS N).kc ((mS N).bo ρ) 45=bD.rA N N:=Fx.uL [] (SH N) ρ (bD.rA N) fun n ρ' e d=>by rw[e];rfl
theorem SJ(K ρ):(mS N).bd K ρ 35=bD.Qr N ((mS N).kc K 45) ((mS N).kc ρ 35):=by kernel_rfl
theorem SK(ρ):(mS N).kc ((mS N).bo ρ) 35=bD.Qq N N:=Fx.uL [45] (SJ N) ρ (bD.Qq N) fun n ρ' e d=>by rw[SI,e];rfl
theorem SL(K ρ):(mS N).bd K ρ 25=bD.lq N ((mS N).kc K 35) ((mS N).kc ρ 25):=by kernel_rfl
theorem SM(ρ):(mS N).kc ((mS N).bo ρ) 25=bD.mT N N:=Fx.uL [35,45] (SL N) ρ (bD.mT N) fun n ρ' e d=>by rw[SK,e];rfl
theorem SN(K ρ):(mS N).bd K ρ 13=bD.n4 N ((mS N).kc K 25) ((mS N).kc ρ 13):=by kernel_rfl
theorem SO(ρ):(mS N).kc ((mS N).bo ρ) 13=bD.l6 N N:=Fx.uL [25,35,45] (SN N) ρ (bD.l6 N) fun n ρ' e d=>by rw[SM,e];rfl
theorem ajB(K):(mS N).top K=bD.b N ((mS N).kc K 13):=by kernel_rfl
noncomputable def ox:Kn Tryz.prog:=⟨127,(mS N).S true (bD N),Fx.u1 (mS N) av Tryz.func127 [13,25,35,45] (ajB N) (by rw[SO];rfl)⟩
noncomputable def X21:Fx:=⟨9,tab,Kn.l [Y6 N,Ij N],N,Tryz.f21,[.v bK,.v bK],[.v bK],[],none⟩
noncomputable def Zl:Kn Tryz.prog:=⟨21,(X21 N).S false (IQ N),Fx.u0 (X21 N) av Tryz.func21⟩
noncomputable def Wk:Fx:=⟨39,tab,Kn.l [k69 N],N,Tryz.f31,[.v bR,.v I],[.own gv],[⟨11,[(0,.v bR),(1,.v I),(5,.own gv),(6,.v I)],[1,1,1,0,1,0,0],[]⟩],none⟩
theorem Zm(K ρ):(Wk N).bd K ρ 11=rQ.dd N ((Wk N).kc ρ 11):=by kernel_rfl
theorem Zn(ρ):(Wk N).kc ((Wk N).bo ρ) 11=rQ.l5 N N:=Fx.uL [] (Zm N) ρ (rQ.l5 N) fun n ρ' e d=>by rw[e];rfl
theorem h31(K):(Wk N).top K=rQ.b N ((Wk N).kc K 11):=by kernel_rfl
noncomputable def k31:Kn Tryz.prog:=⟨31,(Wk N).S false (rQ N),Fx.u1 (Wk N) av Tryz.func31 [11] (h31 N) (by rw[Zn];rfl)⟩
noncomputable def rF:Fx:=⟨74,tab,[],N,Tryz.f224,[.v m5,.v I],[.own fI],[⟨15,[(0,.v m5),(1,.v I),(5,.own fI),(6,.v I),(7,.obj fI),(8,.v I)],[1,1,0,1,0,0,1,0,0,1,0,1,0,0],[7]⟩,⟨7,[(0,.v m5),(1,.v I),(5,.own fI),(6,.v I)],[1,1,0,1,0,0],[]⟩],none⟩
theorem SP(K ρ):(rF N).bd K ρ 15=ep.ns N ((rF N).kc ρ 7) ((rF N).kc ρ 15):=by kernel_rfl
theorem SQ(ρ):(rF N).kc ((rF N).bo ρ) 15=ep.l7 N ((rF N).kc ρ 7) N:=Fx.uL [] (SP N) ρ (ep.l7 N ((rF N).kc ρ 7)) fun n ρ' e d=>by rw[e,d 7 rfl];rfl
theorem Zo(K ρ):(rF N).bd K ρ 7=ep.iE N ((rF N).kc K 15) ((rF N).kc ρ 7):=by kernel_rfl
theorem Zp(ρ):(rF N).kc ((rF N).bo ρ) 7=ep.l3 N N:=Fx.uL [15] (Zo N) ρ (ep.l3 N) fun n ρ' e d=>by rw[SQ,e];rfl
theorem ajC(K):(rF N).top K=ep.b N ((rF N).kc K 7):=by kernel_rfl
noncomputable def Zq:Kn Tryz.prog:=⟨224,(rF N).S false (ep N),Fx.u1 (rF N) av Tryz.func224 [7] (ajC N) (by rw[Zp];rfl)⟩
noncomputable def FG:Fx:=⟨66,tab,Kn.l [Ih N],N,Tryz.f194,[.v an,.v ca],[.v B],[⟨9,[(1,.v ca),(2,.obj an),(5,.v I)],[1,1,0,1,0,0],[]⟩],none⟩
theorem Zr(K ρ):(FG N).bd K ρ 9=jb.cL N ((FG N).kc ρ 9):=by kernel_rfl
theorem Zs(ρ):(FG N).kc ((FG N).bo ρ) 9=jb.l4 N N:=Fx.uL [] (Zr N) ρ (jb.l4 N) fun n ρ' e d=>by rw[e];rfl
theorem ajD(K):(FG N).top K=jb.b N ((FG N).kc K 9):=by kernel_rfl
noncomputable def SS:Kn Tryz.prog:=⟨194,(FG N).S true (jb N),Fx.u1 (FG N) av Tryz.func194 [9] (ajD N) (by rw[Zs];rfl)⟩
noncomputable def FH:Fx:=⟨79,tab,Kn.l [Ih N],N,Tryz.f268,[.v an,.v bR],[.v B],[⟨11,[(1,.v bR),(2,.obj an),(5,.v I),(6,.v I)],[1,1,1,0,1,0,0],[]⟩],none⟩
theorem SU(K ρ):(FH N).bd K ρ 11=lA.dd N ((FH N).kc ρ 11):=by kernel_rfl
theorem SV(ρ):(FH N).kc ((FH N).bo ρ) 11=lA.l5 N N:=Fx.uL [] (SU N) ρ (lA.l5 N) fun n ρ' e d=>by rw[e];rfl
theorem ajE(K):(FH N).top K=lA.b N ((FH N).kc K 11):=by kernel_rfl
noncomputable def ae4:Kn Tryz.prog:=⟨268,(FH N).S true (lA N),Fx.u1 (FH N) av Tryz.func268 [11] (ajE N) (by rw[SV];rfl)⟩
noncomputable def X36:Fx:=⟨6,tab,Kn.l [k66 N],N,Tryz.f36,[.v bK],[.v bK],[],none⟩
noncomputable def k36:Kn Tryz.prog:=⟨36,(X36 N).S false (MM N),Fx.u0 (X36 N) av Tryz.func36⟩
noncomputable def X24:Fx:=⟨9,tab,Kn.l [Zl N,SD N],N,Tryz.f24,[.v bK,.v bK],[.v I],[],none⟩
noncomputable def SW:Kn Tryz.prog:=⟨24,(X24 N).S true (Gp N),Fx.u0 (X24 N) av Tryz.func24⟩
noncomputable def u9:Fx:=⟨96,tab,Kn.l [SS N,ae4 N,sR N,Ij N,k36 N,Zl N,SW N],N,Tryz.f223,[.v an,.v ca,.v bR,.v I],[.v bK,.v I],[⟨25,[(2,.v bR),(3,.v I),(8,.obj bK),(10,.obj bK),(11,.obj bK),(12,.obj bK),(14,.v I)],[1,1,1,1,1,0,1,0,0],[]⟩,⟨15,[(1,.v ca),(2,.v bR),(3,.v I),(8,.obj bK),(10,.obj bK),(11,.obj bK),(12,.obj bK),(13,.v I)],[1,1,1,1,0,1,0,0],[]⟩],none⟩
theorem SX(K ρ):(u9 N).bd K ρ 25=ff.lq N ((u9 N).kc ρ 25):=by kernel_rfl
theorem SY(ρ):(u9 N).kc ((u9 N).bo ρ) 25=ff.mT N N:=Fx.uL [] (SX N) ρ (ff.mT N) fun n ρ' e d=>by rw[e];rfl
theorem SZ(K ρ):(u9 N).bd K ρ 15=ff.ns N ((u9 N).kc K 25) ((u9 N).kc ρ 15):=by kernel_rfl
theorem S1(ρ):(u9 N).kc ((u9 N).bo ρ) 15=ff.l7 N N:=Fx.uL [25] (SZ N) ρ (ff.l7 N) fun n ρ' e d=>by rw[SY,e];rfl
theorem ajF(K):(u9 N).top K=ff.b N ((u9 N).kc K 15):=by kernel_rfl
noncomputable def ae5:Kn Tryz.prog:=⟨223,(u9 N).S false (ff N),Fx.u1 (u9 N) av Tryz.func223 [15,25] (ajF N) (by rw[S1];rfl)⟩
noncomputable def xf:Fx:=⟨71,tab,Kn.l [k98 N,k66 N],N,Tryz.f37,[.v bK,.v bK],[.v bK],[⟨18,[(2,.obj bK),(3,.obj bK),(4,.obj bK),(5,.own U),(6,.v I),(7,.v U),(8,.v I)],[1,1,0,1,0,0,1,0,0,1,1,0,0,1],[7,15]⟩,⟨15,[(2,.obj bK),(3,.obj bK),(4,.obj bK),(5,.own U),(6,.v I),(7,.v U),(8,.v I)],[1,1,0,1,0,0,1,0,0,1,1,0,0],[7]⟩,⟨7,[(2,.obj bK),(3,.obj bK),(4,.obj bK),(5,.own U),(6,.v I)],[1,1,0,1,0,0],[]⟩],none⟩
theorem Zt(K ρ):(xf N).bd K ρ 18=fF.GY N ((xf N).kc ρ 7) ((xf N).kc ρ 15):=by kernel_rfl
theorem Zu(ρ):(xf N).kc ((xf N).bo ρ) 18=fF.j9 N ((xf N).kc ρ 7) ((xf N).kc ρ 15):=Fx.uJ [] (Zt N) ρ
theorem Zv(K ρ):(xf N).bd K ρ 15=fF.ns N ((xf N).kc K 18) ((xf N).kc ρ 7) ((xf N).kc ρ 15):=by kernel_rfl
theorem Zw(ρ):(xf N).kc ((xf N).bo ρ) 15=fF.l7 N ((xf N).kc ρ 7) N:=Fx.uL [18] (Zv N) ρ (fF.l7 N ((xf N).kc ρ 7)) fun n ρ' e d=>by rw[Zu,e,d 7 rfl];rfl
theorem ae6(K ρ):(xf N).bd K ρ 7=fF.iE N ((xf N).kc K 15) ((xf N).kc ρ 7):=by kernel_rfl
theorem ae7(ρ):(xf N).kc ((xf N).bo ρ) 7=fF.l3 N N:=Fx.uL [15] (ae6 N) ρ (fF.l3 N) fun n ρ' e d=>by rw[Zw,e];rfl
theorem h37(K):(xf N).top K=fF.b N ((xf N).kc K 7):=by kernel_rfl
noncomputable def Pl:Kn Tryz.prog:=⟨37,(xf N).S false (fF N),Fx.u1 (xf N) av Tryz.func37 [7] (h37 N) (by rw[ae7];rfl)⟩
noncomputable def FI:Fx:=⟨50,tab,Kn.l [SS N,ae4 N,ae5 N,sR N,Pl N,Ij N],N,Tryz.f269,[.v an,.v ca,.v bR],[.v bK,.v I],[⟨11,[(1,.v ca),(2,.v bR),(3,.obj an),(6,.obj bK),(8,.obj bK),(9,.v I)],[1,1,1,0,1,0,0],[]⟩],none⟩
theorem S2(K ρ):(FI N).bd K ρ 11=lB.dd N ((FI N).kc ρ 11):=by kernel_rfl
theorem S3(ρ):(FI N).kc ((FI N).bo ρ) 11=lB.l5 N N:=Fx.uL [] (S2 N) ρ (lB.l5 N) fun n ρ' e d=>by rw[e];rfl
theorem ajG(K):(FI N).top K=lB.b N ((FI N).kc K 11):=by kernel_rfl
noncomputable def ae8:Kn Tryz.prog:=⟨269,(FI N).S false (lB N),Fx.u1 (FI N) av Tryz.func269 [11] (ajG N) (by rw[S3];rfl)⟩
noncomputable def ae9:Fx:=⟨31,tab,Kn.l [k31 N,Zq N,ae8 N],N,Tryz.f226,[.v an,.v aC,.v I,.v m5],[.v bK],[],none⟩
noncomputable def afa:Kn Tryz.prog:=⟨226,(ae9 N).S false (NJ N),Fx.u0 (ae9 N) av Tryz.func226⟩
noncomputable def afb:Fx:=⟨63,tab,Kn.l [ox N,Ii N,Il N,OS N,sR N,Zl N,afa N,SW N,OT N,FB N],N,Tryz.f256,[.v an,.v aC,.v I,.v I],[.v aC,.v I],[],none⟩
noncomputable def ajH:Kn Tryz.prog:=⟨256,(afb N).S false (Q7 N),Fx.u0 (afb N) av Tryz.func256⟩
noncomputable def afc:Fx:=⟨10,tab,Kn.l [Il N],N,Tryz.f257,[.v bM,.v I],[.v I],[],none⟩
noncomputable def afd:Kn Tryz.prog:=⟨257,(afc N).S true (Cm N),Fx.u0 (afc N) av Tryz.func257⟩
noncomputable def FJ:Fx:=⟨53,tab,Kn.l [k71 N,Sj N],N,Tryz.f258,[.v cB,.v I,.v I],[.own cF,.v I],[⟨17,[(1,.v I),(2,.v I),(10,.own cF),(11,.v I)],[1,1,1,1,0,1,0,0],[]⟩],none⟩
theorem S4(K ρ):(FJ N).bd K ρ 17=mB.w5 N ((FJ N).kc ρ 17):=by kernel_rfl
theorem S5(ρ):(FJ N).kc ((FJ N).bo ρ) 17=mB.l8 N N:=Fx.uL [] (S4 N) ρ (mB.l8 N) fun n ρ' e d=>by rw[e];rfl
theorem ajI(K):(FJ N).top K=mB.b N ((FJ N).kc K 17):=by kernel_rfl
noncomputable def ajJ:Kn Tryz.prog:=⟨258,(FJ N).S false (mB N),Fx.u1 (FJ N) av Tryz.func258 [17] (ajI N) (by rw[S5];rfl)⟩
noncomputable def afe:Fx:=⟨36,tab,Kn.l [SE N,Ik N,sR N,Pl N],N,Tryz.f225,[.v jn,.v I],[.v bK,.v I],[],none⟩
noncomputable def ajK:Kn Tryz.prog:=⟨225,(afe N).S false (QU N),Fx.u0 (afe N) av Tryz.func225⟩
noncomputable def aff:Fx:=⟨104,tab,Kn.l [ox N,SE N,Ii N,Il N,k31 N,Zq N,ae5 N,sR N,SW N,ajK N,OS N,Zl N,afa N],N,Tryz.f168,[.v an,.v aC,.v jn],[.v I],[],none⟩
noncomputable def afg:Kn Tryz.prog:=⟨168,(aff N).S true (NK N),Fx.u0 (aff N) av Tryz.func168⟩
noncomputable def afh:Fx:=⟨24,tab,[],N,Tryz.f302,[.v jn,.v jn],[.v B],[],none⟩
noncomputable def ajL:Kn Tryz.prog:=⟨302,(afh N).S true (Q4 N),Fx.u0 (afh N) av Tryz.func302⟩
noncomputable def m6:Fx:=⟨72,tab,Kn.l [Lh N,ajL N],N,Tryz.f290,[.v m5,.v I,.v I],[.own jn],[⟨22,[(0,.v m5),(1,.v I),(2,.v I),(7,.own jn),(8,.v I),(9,.v I)],[1,1,1,0,1,0,0,1,0,0,1,1,1],[11]⟩,⟨19,[(0,.v m5),(1,.v I),(2,.v I),(7,.own jn),(8,.v I),(9,.v I)],[1,1,1,0,1,0,0,1,0,0,1,1,0,0,0],[11]⟩,⟨11,[(0,.v m5),(1,.v I),(2,.v I),(7,.own jn),(8,.v I)],[1,1,1,0,1,0,0],[]⟩],none⟩
theorem S6(K ρ):(m6 N).bd K ρ 22=c3.yR N ((m6 N).kc ρ 11):=by kernel_rfl
theorem S7(ρ):(m6 N).kc ((m6 N).bo ρ) 22=c3.Gr N ((m6 N).kc ρ 11):=Fx.uJ [] (S6 N) ρ
theorem S8(K ρ):(m6 N).bd K ρ 19=c3.rN N ((m6 N).kc K 22) ((m6 N).kc ρ 11) ((m6 N).kc ρ 19):=by kernel_rfl
theorem S9(ρ):(m6 N).kc ((m6 N).bo ρ) 19=c3.l9 N ((m6 N).kc ρ 11) N:=Fx.uL [22] (S8 N) ρ (c3.l9 N ((m6 N).kc ρ 11)) fun n ρ' e d=>by rw[S7,e,d 11 rfl];rfl
theorem Ta(K ρ):(m6 N).bd K ρ 11=c3.dd N ((m6 N).kc K 19) ((m6 N).kc ρ 11):=by kernel_rfl
theorem Tb(ρ):(m6 N).kc ((m6 N).bo ρ) 11=c3.l5 N N:=Fx.uL [19,22] (Ta N) ρ (c3.l5 N) fun n ρ' e d=>by rw[S9,e];rfl
theorem ajM(K):(m6 N).top K=c3.b N ((m6 N).kc K 11):=by kernel_rfl
noncomputable def ajN:Kn Tryz.prog:=⟨290,(m6 N).S false (c3 N),Fx.u1 (m6 N) av Tryz.func290 [11] (ajM N) (by rw[Tb];rfl)⟩
noncomputable def fA:Fx:=⟨174,tab,Kn.l [Lh N,SE N,ajN N],N,Tryz.f277,[.v m5,.v jn],[.own jn,.own ov,.v I,.v I],[⟨49,[(8,.own jn),(9,.v I),(10,.own ov),(16,.own jn),(17,.v I)],[1,1,1,1,1,1,1,0,1,0,0],[]⟩,⟨44,[(8,.own jn),(9,.v I),(10,.own ov)],[1,1,1,1,1,1],[]⟩,⟨37,[(3,.obj jn),(8,.own jn),(9,.v I),(10,.own ov),(11,.own jn),(12,.v I),(13,.v I),(15,.v I)],[1,1,1,1,1,0,1,0,0,1,0,0,1,1,1,1,1,1,1,1,0,0],[15]⟩,⟨30,[(3,.obj jn),(8,.own jn),(9,.v I),(10,.own ov),(11,.own jn),(12,.v I),(13,.v I),(14,.obj ov)],[1,1,1,1,1,0,1,0,0,1,0,0,1,1,1,1,1],[15]⟩,⟨20,[(3,.obj jn),(8,.own jn),(9,.v I),(10,.own ov),(11,.own jn),(12,.v I)],[1,1,1,1,1,0,1,0,0,1,0,0,1],[15]⟩,⟨15,[(3,.obj jn),(8,.own jn),(9,.v I),(10,.own ov),(11,.own jn),(12,.v I)],[1,1,1,1,1,0,1,0,0],[]⟩],none⟩
theorem Tc(K ρ):(fA N).bd K ρ 49=bI.HF N ((fA N).kc ρ 49):=by kernel_rfl
theorem Td(ρ):(fA N).kc ((fA N).bo ρ) 49=bI.Gs N N:=Fx.uL [] (Tc N) ρ (bI.Gs N) fun n ρ' e d=>by rw[e];rfl
theorem Te(K ρ):(fA N).bd K ρ 44=bI.XM N ((fA N).kc K 49):=by kernel_rfl
theorem Tf(ρ):(fA N).kc ((fA N).bo ρ) 44=bI.j22 N:=Fx.uJ [49] (Te N) ρ (by rw[Td];rfl)
theorem Tg(K ρ):(fA N).bd K ρ 37=bI.rB N ((fA N).kc ρ 15) ((fA N).kc ρ 37):=by kernel_rfl
theorem Th(ρ):(fA N).kc ((fA N).bo ρ) 37=bI.tR N ((fA N).kc ρ 15) N:=Fx.uL [44,49] (Tg N) ρ (bI.tR N ((fA N).kc ρ 15)) fun n ρ' e d=>by rw[e,d 15 rfl];rfl
theorem Ti(K ρ):(fA N).bd K ρ 30=bI.sI N ((fA N).kc K 37) ((fA N).kc ρ 15):=by kernel_rfl
theorem Tj(ρ):(fA N).kc ((fA N).bo ρ) 30=bI.zX N ((fA N).kc ρ 15):=Fx.uJ [44,49,37] (Ti N) ρ (by rw[Th];rfl)
theorem Tk(K ρ):(fA N).bd K ρ 20=bI.HG N ((fA N).kc K 30) ((fA N).kc ρ 15):=by kernel_rfl
theorem Tl(ρ):(fA N).kc ((fA N).bo ρ) 20=bI.NX N ((fA N).kc ρ 15):=Fx.uJ [44,49,30,37] (Tk N) ρ (by rw[Tj];rfl)
theorem Tm(K ρ):(fA N).bd K ρ 15=bI.ns N ((fA N).kc K 44) ((fA N).kc K 20) ((fA N).kc ρ 15):=by kernel_rfl
theorem Tn(ρ):(fA N).kc ((fA N).bo ρ) 15=bI.l7 N N:=Fx.uL [44,49,20,30,37] (Tm N) ρ (bI.l7 N) fun n ρ' e d=>by rw[Tf,Tl,e];rfl
theorem ajO(K):(fA N).top K=bI.b N ((fA N).kc K 15):=by kernel_rfl
noncomputable def ajP:Kn Tryz.prog:=⟨277,(fA N).S false (bI N),Fx.u1 (fA N) av Tryz.func277 [15,44,49] (ajO N) (by rw[Tn];rfl)⟩
noncomputable def afi:Fx:=⟨53,tab,Kn.l [Ik N],N,Tryz.f227,[.v ov],[.v B],[],none⟩
noncomputable def afj:Kn Tryz.prog:=⟨227,(afi N).S true (Nu N),Fx.u0 (afi N) av Tryz.func227⟩
noncomputable def afk:Fx:=⟨7,tab,[],N,Tryz.f270,[.v I],[.v I,.v I],[],none⟩
noncomputable def afl:Kn Tryz.prog:=⟨270,(afk N).S true (HB N),Fx.u0 (afk N) av Tryz.func270⟩
noncomputable def afm:Fx:=⟨53,tab,Kn.l [afj N,Ik N,sR N,Pl N,SD N,afl N,Y6 N],N,Tryz.f228,[.v ov,.v I],[.own mO,.v I],[],none⟩
noncomputable def ajQ:Kn Tryz.prog:=⟨228,(afm N).S false (QR N),Fx.u0 (afm N) av Tryz.func228⟩
noncomputable def vb:Fx:=⟨107,tab,Kn.l [ox N,afj N,ae2 N,ajQ N,FB N],N,Tryz.f169,[.v an,.v aC,.v Cr],[.v aC,.v I],[⟨23,[(2,.v Cr),(3,.obj an),(4,.obj aC),(6,.obj aC),(9,.own fI),(10,.own mO),(11,.v I)],[1,1,1,1,1,0,1,0,0],[]⟩,⟨9,[(2,.v Cr),(3,.obj an),(4,.obj aC),(6,.obj aC),(8,.v I)],[1,1,0,1,0,0],[]⟩],none⟩
theorem To(K ρ):(vb N).bd K ρ 23=fe.yP N ((vb N).kc ρ 23):=by kernel_rfl
theorem Tp(ρ):(vb N).kc ((vb N).bo ρ) 23=fe.A4 N N:=Fx.uL [] (To N) ρ (fe.A4 N) fun n ρ' e d=>by rw[e];rfl
theorem Zx(K ρ):(vb N).bd K ρ 9=fe.cL N ((vb N).kc K 23) ((vb N).kc ρ 9):=by kernel_rfl
theorem Zy(ρ):(vb N).kc ((vb N).bo ρ) 9=fe.l4 N N:=Fx.uL [23] (Zx N) ρ (fe.l4 N) fun n ρ' e d=>by rw[Tp,e];rfl
theorem ajR(K):(vb N).top K=fe.b N ((vb N).kc K 9):=by kernel_rfl
noncomputable def afn:Kn Tryz.prog:=⟨169,(vb N).S false (fe N),Fx.u1 (vb N) av Tryz.func169 [9,23] (ajR N) (by rw[Zy];rfl)⟩
noncomputable def zi:Fx:=⟨85,tab,Kn.l [afg N,ajP N,afn N],N,Tryz.f259,[.v an,.v aC,.v jn],[.v aC,.v Cr,.v I,.v I],[⟨20,[(3,.obj an),(4,.obj aC),(5,.obj jn),(6,.obj aC),(12,.own jn),(13,.own ov),(14,.v I)],[1,1,1,1,1],[]⟩,⟨14,[(3,.obj an),(4,.obj aC),(5,.obj jn),(6,.obj aC)],[1,1,1],[]⟩],none⟩
theorem Tq(K ρ):(zi N).bd K ρ 20=iH.HG N:=by kernel_rfl
theorem Ts(ρ):(zi N).kc ((zi N).bo ρ) 20=iH.NX N:=Fx.uJ [] (Tq N) ρ
theorem Tt(K ρ):(zi N).bd K ρ 14=iH.Xt N ((zi N).kc K 20):=by kernel_rfl
theorem Tu(ρ):(zi N).kc ((zi N).bo ρ) 14=iH.j7 N:=Fx.uJ [20] (Tt N) ρ (by rw[Ts];rfl)
theorem ajS(K):(zi N).top K=iH.b N ((zi N).kc K 14):=by kernel_rfl
noncomputable def ajT:Kn Tryz.prog:=⟨259,(zi N).S false (iH N),Fx.u1 (zi N) av Tryz.func259 [14,20] (ajS N) (by rw[Tu];rfl)⟩
noncomputable def FK:Fx:=⟨48,tab,Kn.l [Lh N],N,Tryz.f260,[.v m5,.v I,.v I],[.own jn,.v I],[⟨11,[(0,.v m5),(1,.v I),(2,.v I),(8,.own jn),(9,.v I)],[1,1,1,0,1,0,0],[]⟩],none⟩
theorem Tv(K ρ):(FK N).bd K ρ 11=mE.dd N ((FK N).kc ρ 11):=by kernel_rfl
theorem Tw(ρ):(FK N).kc ((FK N).bo ρ) 11=mE.l5 N N:=Fx.uL [] (Tv N) ρ (mE.l5 N) fun n ρ' e d=>by rw[e];rfl
theorem ajU(K):(FK N).top K=mE.b N ((FK N).kc K 11):=by kernel_rfl
noncomputable def ajV:Kn Tryz.prog:=⟨260,(FK N).S false (mE N),Fx.u1 (FK N) av Tryz.func260 [11] (ajU N) (by rw[Tw];rfl)⟩
noncomputable def FL:Fx:=⟨76,tab,Kn.l [k69 N,Ik N,sR N,Zl N,SD N,afl N,Pl N],N,Tryz.f278,[.v bR,.v I,.v I,.v I],[.own mO,.v I],[⟨13,[(0,.v bR),(1,.v I),(10,.own mO),(11,.obj bK),(12,.v I)],[1,1,1,1,0,1,0,0],[]⟩],none⟩
theorem Tx(K ρ):(FL N).bd K ρ 13=mF.n4 N ((FL N).kc ρ 13):=by kernel_rfl
theorem Tz(ρ):(FL N).kc ((FL N).bo ρ) 13=mF.l6 N N:=Fx.uL [] (Tx N) ρ (mF.l6 N) fun n ρ' e d=>by rw[e];rfl
theorem ajW(K):(FL N).top K=mF.b N ((FL N).kc K 13):=by kernel_rfl
noncomputable def ajX:Kn Tryz.prog:=⟨278,(FL N).S false (mF N),Fx.u1 (FL N) av Tryz.func278 [13] (ajW N) (by rw[Tz];rfl)⟩
noncomputable def afo:Fx:=⟨70,tab,Kn.l [ox N,Ik N,ajX N,FB N],N,Tryz.f261,[.v an,.v aC,.v I,.v I],[.v aC,.v jN,.v I],[],some (aC,[.gg 4],I,[5,13])⟩
noncomputable def ajY:Kn Tryz.prog:=⟨261,(afo N).S false (Q6 N),Fx.u0 (afo N) av Tryz.func261⟩
noncomputable def FM:Fx:=⟨50,tab,[],N,Tryz.f279,[.v ca],[.v B],[⟨5,[(0,.v ca),(3,.v I)],[1,0,1,0,0],[]⟩],none⟩
theorem Zz(K ρ):(FM N).bd K ρ 5=lC.dx N ((FM N).kc ρ 5):=by kernel_rfl
theorem ZA(ρ):(FM N).kc ((FM N).bo ρ) 5=lC.l2 N N:=Fx.uL [] (Zz N) ρ (lC.l2 N) fun n ρ' e d=>by rw[e];rfl
theorem ajZ(K):(FM N).top K=lC.b N ((FM N).kc K 5):=by kernel_rfl
noncomputable def afp:Kn Tryz.prog:=⟨279,(FM N).S true (lC N),Fx.u1 (FM N) av Tryz.func279 [5] (ajZ N) (by rw[ZA];rfl)⟩
noncomputable def lG:Fx:=⟨84,tab,Kn.l [afp N,sR N,Ij N,zh N],N,Tryz.f262,[.v ca,.v jN],[.own gv,.v I],[⟨29,[(0,.v ca),(1,.v jN),(6,.own gv),(7,.v I),(8,.obj bK),(10,.v I)],[1,1,1,0,1,0,0,1,0,0,1,1,0,1,0,0],[11]⟩,⟨19,[(0,.v ca),(1,.v jN),(6,.own gv),(7,.v I),(8,.obj bK),(9,.v I)],[1,1,1,0,1,0,0,1,0,0,1,0,1,0,0],[11]⟩,⟨11,[(0,.v ca),(1,.v jN),(6,.own gv),(7,.v I)],[1,1,1,0,1,0,0],[]⟩],none⟩
theorem TA(K ρ):(lG N).bd K ρ 29=cV.yI N ((lG N).kc ρ 11) ((lG N).kc ρ 29):=by kernel_rfl
theorem TB(ρ):(lG N).kc ((lG N).bo ρ) 29=cV.AT N ((lG N).kc ρ 11) N:=Fx.uL [] (TA N) ρ (cV.AT N ((lG N).kc ρ 11)) fun n ρ' e d=>by rw[e,d 11 rfl];rfl
theorem TC(K ρ):(lG N).bd K ρ 19=cV.rN N ((lG N).kc K 29) ((lG N).kc ρ 11) ((lG N).kc ρ 19):=by kernel_rfl
theorem TD(ρ):(lG N).kc ((lG N).bo ρ) 19=cV.l9 N ((lG N).kc ρ 11) N:=Fx.uL [29] (TC N) ρ (cV.l9 N ((lG N).kc ρ 11)) fun n ρ' e d=>by rw[TB,e,d 11 rfl];rfl
theorem TE(K ρ):(lG N).bd K ρ 11=cV.dd N ((lG N).kc K 19) ((lG N).kc ρ 11):=by kernel_rfl
theorem TF(ρ):(lG N).kc ((lG N).bo ρ) 11=cV.l5 N N:=Fx.uL [19,29] (TE N) ρ (cV.l5 N) fun n ρ' e d=>by rw[TD,e];rfl
theorem aj0(K):(lG N).top K=cV.b N ((lG N).kc K 11):=by kernel_rfl
noncomputable def aj1:Kn Tryz.prog:=⟨262,(lG N).S false (cV N),Fx.u1 (lG N) av Tryz.func262 [11] (aj0 N) (by rw[TF];rfl)⟩
noncomputable def afq:Fx:=⟨15,tab,Kn.l [sR N,Ij N,zh N],N,Tryz.f263,[.v bM,.v I],[.v I,.v B],[],none⟩
noncomputable def ZB:Kn Tryz.prog:=⟨263,(afq N).S true (K6 N),Fx.u0 (afq N) av Tryz.func263⟩
noncomputable def afr:Fx:=⟨41,tab,[],N,Tryz.f291,[.v I,.v I],[.v I,.v B],[],none⟩
noncomputable def aj2:Kn Tryz.prog:=⟨291,(afr N).S true (Q2 N),Fx.u0 (afr N) av Tryz.func291⟩
noncomputable def FN:Fx:=⟨51,tab,Kn.l [Sd N,Lg N,aj2 N],N,Tryz.f280,[.v ca,.v I,.v I],[.own gv,.v I],[⟨23,[(1,.v I),(9,.v I),(11,.own gv),(12,.v I)],[1,1,1,1,1,1,1,0,1,0,0],[]⟩],none⟩
theorem TG(K ρ):(FN N).bd K ρ 23=kF.yP N ((FN N).kc ρ 23):=by kernel_rfl
theorem TH(ρ):(FN N).kc ((FN N).bo ρ) 23=kF.A4 N N:=Fx.uL [] (TG N) ρ (kF.A4 N) fun n ρ' e d=>by rw[e];rfl
theorem aj3(K):(FN N).top K=kF.b N ((FN N).kc K 23):=by kernel_rfl
noncomputable def afs:Kn Tryz.prog:=⟨280,(FN N).S false (kF N),Fx.u1 (FN N) av Tryz.func280 [23] (aj3 N) (by rw[TH];rfl)⟩
noncomputable def FO:Fx:=⟨33,tab,Kn.l [k71 N],N,Tryz.f293,[.v cB,.v I],[.own I],[⟨11,[(0,.v cB),(1,.v I),(5,.own I),(6,.v I)],[1,1,1,0,1,0,0],[]⟩],none⟩
theorem TI(K ρ):(FO N).bd K ρ 11=mD.dd N ((FO N).kc ρ 11):=by kernel_rfl
theorem TJ(ρ):(FO N).kc ((FO N).bo ρ) 11=mD.l5 N N:=Fx.uL [] (TI N) ρ (mD.l5 N) fun n ρ' e d=>by rw[e];rfl
theorem aj4(K):(FO N).top K=mD.b N ((FO N).kc K 11):=by kernel_rfl
noncomputable def aj5:Kn Tryz.prog:=⟨293,(FO N).S false (mD N),Fx.u1 (FO N) av Tryz.func293 [11] (aj4 N) (by rw[TJ];rfl)⟩
noncomputable def rG:Fx:=⟨48,tab,Kn.l [Lh N],N,Tryz.f292,[.v m5,.v LI],[.own jn],[⟨19,[(0,.v m5),(1,.v LI),(5,.own jn),(6,.v I),(7,.v B),(8,.v I)],[1,1,1,0,1,0,0,1,0,0,1,0,1,0,0],[11]⟩,⟨11,[(0,.v m5),(1,.v LI),(5,.own jn),(6,.v I)],[1,1,1,0,1,0,0],[]⟩],none⟩
theorem TK(K ρ):(rG N).bd K ρ 19=eI.rN N ((rG N).kc ρ 11) ((rG N).kc ρ 19):=by kernel_rfl
theorem TL(ρ):(rG N).kc ((rG N).bo ρ) 19=eI.l9 N ((rG N).kc ρ 11) N:=Fx.uL [] (TK N) ρ (eI.l9 N ((rG N).kc ρ 11)) fun n ρ' e d=>by rw[e,d 11 rfl];rfl
theorem TM(K ρ):(rG N).bd K ρ 11=eI.dd N ((rG N).kc K 19) ((rG N).kc ρ 11):=by kernel_rfl
theorem TN(ρ):(rG N).kc ((rG N).bo ρ) 11=eI.l5 N N:=Fx.uL [19] (TM N) ρ (eI.l5 N) fun n ρ' e d=>by rw[TL,e];rfl
theorem aj6(K):(rG N).top K=eI.b N ((rG N).kc K 11):=by kernel_rfl
noncomputable def aj7:Kn Tryz.prog:=⟨292,(rG N).S false (eI N),Fx.u1 (rG N) av Tryz.func292 [11] (aj6 N) (by rw[TN];rfl)⟩
noncomputable def aft:Fx:=⟨28,tab,Kn.l [ox N,Il N,aj5 N,aj7 N],N,Tryz.f281,[.v an,.v aC,.v I],[.v aC,.v I],[],none⟩
noncomputable def aj8:Kn Tryz.prog:=⟨281,(aft N).S false (KS N),Fx.u0 (aft N) av Tryz.func281⟩
noncomputable def afu:Fx:=⟨41,tab,[],N,Tryz.f195,[.v cF],[.v B],[],none⟩
noncomputable def afv:Kn Tryz.prog:=⟨195,(afu N).S true (Qu N),Fx.u0 (afu N) av Tryz.func195⟩
noncomputable def m7:Fx:=⟨67,tab,Kn.l [afv N],N,Tryz.f132,[.v cB],[.v B],[⟨19,[(0,.v cB),(3,.v I),(4,.v I)],[1,1,0,1,0,0,1,0,0,1,1,0,0],[9]⟩,⟨16,[(0,.v cB),(3,.v I)],[1,1,0,1,0,0,1,0,0,1],[9]⟩,⟨9,[(0,.v cB),(3,.v I)],[1,1,0,1,0,0],[]⟩],none⟩
theorem TO(K ρ):(m7 N).bd K ρ 19=cP.rN N ((m7 N).kc ρ 9) ((m7 N).kc ρ 19):=by kernel_rfl
theorem TP(ρ):(m7 N).kc ((m7 N).bo ρ) 19=cP.l9 N ((m7 N).kc ρ 9) N:=Fx.uL [] (TO N) ρ (cP.l9 N ((m7 N).kc ρ 9)) fun n ρ' e d=>by rw[e,d 9 rfl];rfl
theorem TQ(K ρ):(m7 N).bd K ρ 16=cP.Hk N ((m7 N).kc K 19) ((m7 N).kc ρ 9):=by kernel_rfl
theorem TR(ρ):(m7 N).kc ((m7 N).bo ρ) 16=cP.j8 N ((m7 N).kc ρ 9):=Fx.uJ [19] (TQ N) ρ (by rw[TP];rfl)
theorem ZC(K ρ):(m7 N).bd K ρ 9=cP.cL N ((m7 N).kc K 16) ((m7 N).kc ρ 9):=by kernel_rfl
theorem ZD(ρ):(m7 N).kc ((m7 N).bo ρ) 9=cP.l4 N N:=Fx.uL [16,19] (ZC N) ρ (cP.l4 N) fun n ρ' e d=>by rw[TR,e];rfl
theorem aj9(K):(m7 N).top K=cP.b N ((m7 N).kc K 9):=by kernel_rfl
noncomputable def OU:Kn Tryz.prog:=⟨132,(m7 N).S true (cP N),Fx.u1 (m7 N) av Tryz.func132 [9] (aj9 N) (by rw[ZD];rfl)⟩
noncomputable def FP:Fx:=⟨32,tab,Kn.l [OU N],N,Tryz.f282,[.v cB,.v I],[.own cF],[⟨11,[(0,.v cB),(1,.v I),(5,.own cF),(6,.v I)],[1,1,1,0,1,0,0],[]⟩],none⟩
theorem TS(K ρ):(FP N).bd K ρ 11=kU.dd N ((FP N).kc ρ 11):=by kernel_rfl
theorem TT(ρ):(FP N).kc ((FP N).bo ρ) 11=kU.l5 N N:=Fx.uL [] (TS N) ρ (kU.l5 N) fun n ρ' e d=>by rw[e];rfl
theorem aka(K):(FP N).top K=kU.b N ((FP N).kc K 11):=by kernel_rfl
noncomputable def akb:Kn Tryz.prog:=⟨282,(FP N).S false (kU N),Fx.u1 (FP N) av Tryz.func282 [11] (aka N) (by rw[TT];rfl)⟩
noncomputable def afw:Fx:=⟨66,tab,[],N,Tryz.f283,[.v bM,.v I],[.v B],[],none⟩
noncomputable def akc:Kn Tryz.prog:=⟨283,(afw N).S true (Rm N),Fx.u0 (afw N) av Tryz.func283⟩
noncomputable def afx:Fx:=⟨9,tab,Kn.l [Il N],N,Tryz.f133,[.v aC,.v I],[.v I],[],none⟩
noncomputable def TU:Kn Tryz.prog:=⟨133,(afx N).S true (Ci N),Fx.u0 (afx N) av Tryz.func133⟩
noncomputable def FQ:Fx:=⟨56,tab,Kn.l [SS N,sR N,k36 N,Pl N,Ij N],N,Tryz.f193,[.v an,.v ca,.v B],[.v bK,.v I],[⟨11,[(1,.v ca),(2,.v B),(3,.obj an),(6,.obj bK),(8,.obj bK),(9,.v I)],[1,1,1,0,1,0,0],[]⟩],none⟩
theorem TV(K ρ):(FQ N).bd K ρ 11=kV.dd N ((FQ N).kc ρ 11):=by kernel_rfl
theorem TW(ρ):(FQ N).kc ((FQ N).bo ρ) 11=kV.l5 N N:=Fx.uL [] (TV N) ρ (kV.l5 N) fun n ρ' e d=>by rw[e];rfl
theorem akd(K):(FQ N).top K=kV.b N ((FQ N).kc K 11):=by kernel_rfl
noncomputable def afy:Kn Tryz.prog:=⟨193,(FQ N).S false (kV N),Fx.u1 (FQ N) av Tryz.func193 [11] (akd N) (by rw[TW];rfl)⟩
noncomputable def afz:Fx:=⟨11,tab,Kn.l [afy N],N,Tryz.f317,[.v an,.v ca],[.v bK,.v I],[],none⟩
noncomputable def ake:Kn Tryz.prog:=⟨317,(afz N).S false (XO N),Fx.u0 (afz N) av Tryz.func317⟩
noncomputable def afA:Fx:=⟨9,tab,Kn.l [OS N],N,Tryz.f306,[.v aC,.v I],[.v I],[],none⟩
noncomputable def TX:Kn Tryz.prog:=⟨306,(afA N).S true (HI N),Fx.u0 (afA N) av Tryz.func306⟩
noncomputable def afB:Fx:=⟨69,tab,Kn.l [ox N,Ii N,TU N,k31 N,ake N,TX N,sR N,SW N],N,Tryz.f303,[.v an,.v aC,.v I,.v I,.v I],[.v I],[],none⟩
noncomputable def akf:Kn Tryz.prog:=⟨303,(afB N).S true (Ra N),Fx.u0 (afB N) av Tryz.func303⟩
noncomputable def FR:Fx:=⟨61,tab,Kn.l [Y0 N,Sj N,Lg N],N,Tryz.f304,[.v ca,.v cB,.v I,.v I],[.own cF,.v I],[⟨27,[(2,.v I),(3,.v I),(13,.own cF),(14,.v I)],[1,1,1,1,1,1,1,1,0,1,0,0],[]⟩],none⟩
theorem TY(K ρ):(FR N).bd K ρ 27=mC.lx N ((FR N).kc ρ 27):=by kernel_rfl
theorem TZ(ρ):(FR N).kc ((FR N).bo ρ) 27=mC.nA N N:=Fx.uL [] (TY N) ρ (mC.nA N) fun n ρ' e d=>by rw[e];rfl
theorem akg(K):(FR N).top K=mC.b N ((FR N).kc K 27):=by kernel_rfl
noncomputable def akh:Kn Tryz.prog:=⟨304,(FR N).S false (mC N),Fx.u1 (FR N) av Tryz.func304 [27] (akg N) (by rw[TZ];rfl)⟩
noncomputable def afC:Fx:=⟨42,tab,Kn.l [akf N,akh N],N,Tryz.f294,[.v an,.v aC,.v I,.v I,.v I],[.v aC,.v I],[],none⟩
noncomputable def aki:Kn Tryz.prog:=⟨294,(afC N).S false (Q9 N),Fx.u0 (afC N) av Tryz.func294⟩
noncomputable def afD:Fx:=⟨11,tab,Kn.l [afy N],N,Tryz.f130,[.v an,.v ca],[.v bK,.v I],[],none⟩
noncomputable def afE:Kn Tryz.prog:=⟨130,(afD N).S false (N5 N),Fx.u0 (afD N) av Tryz.func130⟩
noncomputable def afF:Fx:=⟨55,tab,Kn.l [ox N,Ii N,k31 N,afE N,TX N,zh N],N,Tryz.f305,[.v an,.v aC,.v I],[.v I,.v I],[],none⟩
noncomputable def akj:Kn Tryz.prog:=⟨305,(afF N).S true (Rj N),Fx.u0 (afF N) av Tryz.func305⟩
noncomputable def FT:Fx:=⟨76,tab,Kn.l [k69 N],N,Tryz.f307,[.v bR,.v I,.v I],[.own fI],[⟨11,[(0,.v bR),(1,.v I),(2,.v I),(7,.own fI),(8,.v I)],[1,1,1,0,1,0,0],[]⟩],none⟩
theorem T0(K ρ):(FT N).bd K ρ 11=lE.dd N ((FT N).kc ρ 11):=by kernel_rfl
theorem T1(ρ):(FT N).kc ((FT N).bo ρ) 11=lE.l5 N N:=Fx.uL [] (T0 N) ρ (lE.l5 N) fun n ρ' e d=>by rw[e];rfl
theorem akk(K):(FT N).top K=lE.b N ((FT N).kc K 11):=by kernel_rfl
noncomputable def akl:Kn Tryz.prog:=⟨307,(FT N).S false (lE N),Fx.u1 (FT N) av Tryz.func307 [11] (akk N) (by rw[T1];rfl)⟩
noncomputable def uj:Fx:=⟨86,tab,Kn.l [ox N,TU N,akj N,sR N,OT N,TX N,Y6 N,akl N,FB N],N,Tryz.f295,[.v an,.v aC,.v I],[.v aC,.v I],[⟨30,[(2,.v I),(3,.obj an),(4,.obj aC),(6,.obj aC),(8,.own fI),(9,.own mO),(10,.v I),(11,.obj cF)],[1,1,1,1,1,0,1,0,0,1,0,0,1,1,1],[17]⟩,⟨17,[(2,.v I),(3,.obj an),(4,.obj aC),(6,.obj aC),(8,.own fI),(9,.own mO),(10,.v I)],[1,1,1,1,1,0,1,0,0],[]⟩],none⟩
theorem T2(K ρ):(uj N).bd K ρ 30=fp.sI N ((uj N).kc ρ 17):=by kernel_rfl
theorem T3(ρ):(uj N).kc ((uj N).bo ρ) 30=fp.zX N ((uj N).kc ρ 17):=Fx.uJ [] (T2 N) ρ
theorem T4(K ρ):(uj N).bd K ρ 17=fp.w5 N ((uj N).kc K 30) ((uj N).kc ρ 17):=by kernel_rfl
theorem T5(ρ):(uj N).kc ((uj N).bo ρ) 17=fp.l8 N N:=Fx.uL [30] (T4 N) ρ (fp.l8 N) fun n ρ' e d=>by rw[T3,e];rfl
theorem akm(K):(uj N).top K=fp.b N ((uj N).kc K 17):=by kernel_rfl
noncomputable def akn:Kn Tryz.prog:=⟨295,(uj N).S false (fp N),Fx.u1 (uj N) av Tryz.func295 [17] (akm N) (by rw[T5];rfl)⟩
noncomputable def FU:Fx:=⟨48,tab,Kn.l [ox N,k20 N,sR N,Pl N,Ij N],N,Tryz.f100,[.v an,.v aC],[.own bK,.v I],[⟨11,[(2,.obj an),(3,.obj aC),(6,.own bK),(7,.v I)],[1,1,1,0,1,0,0],[]⟩],none⟩
theorem T6(K ρ):(FU N).bd K ρ 11=mw.dd N ((FU N).kc ρ 11):=by kernel_rfl
theorem T7(ρ):(FU N).kc ((FU N).bo ρ) 11=mw.l5 N N:=Fx.uL [] (T6 N) ρ (mw.l5 N) fun n ρ' e d=>by rw[e];rfl
theorem ako(K):(FU N).top K=mw.b N ((FU N).kc K 11):=by kernel_rfl
noncomputable def akp:Kn Tryz.prog:=⟨100,(FU N).S false (mw N),Fx.u1 (FU N) av Tryz.func100 [11] (ako N) (by rw[T7];rfl)⟩
noncomputable def Wl:Fx:=⟨31,tab,Kn.l [Ih N],N,Tryz.f45,[.v an,.v I],[.own I],[⟨11,[(1,.v I),(2,.obj an),(5,.own I),(6,.v I)],[1,1,1,0,1,0,0],[]⟩],none⟩
theorem ZE(K ρ):(Wl N).bd K ρ 11=vO.dd N ((Wl N).kc ρ 11):=by kernel_rfl
theorem ZF(ρ):(Wl N).kc ((Wl N).bo ρ) 11=vO.l5 N N:=Fx.uL [] (ZE N) ρ (vO.l5 N) fun n ρ' e d=>by rw[e];rfl
theorem h45(K):(Wl N).top K=vO.b N ((Wl N).kc K 11):=by kernel_rfl
noncomputable def k45:Kn Tryz.prog:=⟨45,(Wl N).S false (vO N),Fx.u1 (Wl N) av Tryz.func45 [11] (h45 N) (by rw[ZF];rfl)⟩
noncomputable def FV:Fx:=⟨35,tab,Kn.l [Y5 N],N,Tryz.f167,[.v LU],[.v LU,.v U],[⟨9,[(0,.v LU),(4,.own U),(5,.v U),(6,.v I)],[1,1,1,0,1,0,0],[]⟩],none⟩
theorem ZG(K ρ):(FV N).bd K ρ 9=kQ.cL N ((FV N).kc ρ 9):=by kernel_rfl
theorem ZH(ρ):(FV N).kc ((FV N).bo ρ) 9=kQ.l4 N N:=Fx.uL [] (ZG N) ρ (kQ.l4 N) fun n ρ' e d=>by rw[e];rfl
theorem akq(K):(FV N).top K=kQ.b N ((FV N).kc K 9):=by kernel_rfl
noncomputable def akr:Kn Tryz.prog:=⟨167,(FV N).S false (kQ N),Fx.u1 (FV N) av Tryz.func167 [9] (akq N) (by rw[ZH];rfl)⟩
noncomputable def vd:Fx:=⟨77,tab,Kn.l [akr N,Ij N,sR N,SW N,Zl N,SD N,Y6 N],N,Tryz.f101,[.v bK,.v bK],[.v bK,.v bK],[⟨19,[(2,.obj bK),(3,.obj bK),(4,.obj bK),(5,.obj bK),(6,.own U),(10,.obj bK),(11,.obj bK),(12,.v I)],[1,1,1,1,0,1,0,0],[]⟩,⟨7,[(2,.obj bK),(3,.obj bK),(4,.obj bK),(5,.obj bK),(6,.own U),(7,.v LU)],[1,1,0,1,0,0],[]⟩],none⟩
theorem T8(K ρ):(vd N).bd K ρ 19=eH.rN N ((vd N).kc ρ 19):=by kernel_rfl
theorem T9(ρ):(vd N).kc ((vd N).bo ρ) 19=eH.l9 N N:=Fx.uL [] (T8 N) ρ (eH.l9 N) fun n ρ' e d=>by rw[e];rfl
theorem ZI(K ρ):(vd N).bd K ρ 7=eH.iE N ((vd N).kc K 19) ((vd N).kc ρ 7):=by kernel_rfl
theorem ZJ(ρ):(vd N).kc ((vd N).bo ρ) 7=eH.l3 N N:=Fx.uL [19] (ZI N) ρ (eH.l3 N) fun n ρ' e d=>by rw[T9,e];rfl
theorem aks(K):(vd N).top K=eH.b N ((vd N).kc K 7):=by kernel_rfl
noncomputable def afG:Kn Tryz.prog:=⟨101,(vd N).S false (eH N),Fx.u1 (vd N) av Tryz.func101 [7,19] (aks N) (by rw[ZJ];rfl)⟩
noncomputable def Ju:Fx:=⟨104,tab,Kn.l [akp N,k45 N,k36 N,sR N,SW N,afG N,zh N,SD N],N,Tryz.f39,[.v an,.v aC,.v I],[.own cF,.v I],[⟨30,[(2,.v I),(3,.obj an),(4,.obj aC),(8,.own bK),(10,.own cF),(11,.v I),(12,.own I),(16,.v I)],[1,1,1,1,0,1,0,0,1,0,0,1,1,1,1,1,1],[13]⟩,⟨13,[(2,.v I),(3,.obj an),(4,.obj aC),(8,.own bK),(10,.own cF),(11,.v I)],[1,1,1,1,0,1,0,0],[]⟩],none⟩
theorem ZK(K ρ):(Ju N).bd K ρ 30=pf.sI N ((Ju N).kc ρ 13):=by kernel_rfl
theorem ZL(ρ):(Ju N).kc ((Ju N).bo ρ) 30=pf.zX N ((Ju N).kc ρ 13):=Fx.uJ [] (ZK N) ρ
theorem ZM(K ρ):(Ju N).bd K ρ 13=pf.n4 N ((Ju N).kc K 30) ((Ju N).kc ρ 13):=by kernel_rfl
theorem ZN(ρ):(Ju N).kc ((Ju N).bo ρ) 13=pf.l6 N N:=Fx.uL [30] (ZM N) ρ (pf.l6 N) fun n ρ' e d=>by rw[ZL,e];rfl
theorem h39(K):(Ju N).top K=pf.b N ((Ju N).kc K 13):=by kernel_rfl
noncomputable def k39:Kn Tryz.prog:=⟨39,(Ju N).S false (pf N),Fx.u1 (Ju N) av Tryz.func39 [13] (h39 N) (by rw[ZN];rfl)⟩
noncomputable def afH:Fx:=⟨41,tab,[],N,Tryz.f106,[.v cF],[.v B],[],none⟩
noncomputable def akt:Kn Tryz.prog:=⟨106,(afH N).S true (QN N),Fx.u0 (afH N) av Tryz.func106⟩
noncomputable def Im:Fx:=⟨113,tab,Kn.l [ox N,akt N,afg N,afn N],N,Tryz.f103,[.v an,.v aC,.v cF,.v I,.v I,.v I],[.v aC,.v cF,.v I],[⟨28,[(4,.v I),(6,.obj an),(7,.obj aC),(8,.obj cF),(12,.obj aC),(13,.obj cF),(17,.obj ov)],[1,1,1,1,1,1,1,1],[]⟩],none⟩
theorem Ua(K ρ):(Im N).bd K ρ 28=pg.XI N:=by kernel_rfl
theorem Ub(ρ):(Im N).kc ((Im N).bo ρ) 28=pg.j14 N:=Fx.uJ [] (Ua N) ρ
theorem aku(K):(Im N).top K=pg.b N ((Im N).kc K 28):=by kernel_rfl
noncomputable def akv:Kn Tryz.prog:=⟨103,(Im N).S false (pg N),Fx.u1 (Im N) av Tryz.func103 [28] (aku N) (by rw[Ub];rfl)⟩
noncomputable def FW:Fx:=⟨77,tab,Kn.l [akv N,Si N],N,Tryz.f296,[.v an,.v bM,.v lQ],[.v bM,.v fI],[⟨11,[(3,.obj an),(4,.obj bM),(5,.obj lQ),(6,.obj bM),(7,.obj fI),(8,.own cF),(9,.v B),(10,.v I),(11,.v I)],[1,1,1,1,0,1,0,0],[]⟩],none⟩
theorem Uc(K ρ):(FW N).bd K ρ 11=mM.dd N ((FW N).kc ρ 11):=by kernel_rfl
theorem Ud(ρ):(FW N).kc ((FW N).bo ρ) 11=mM.l5 N N:=Fx.uL [] (Uc N) ρ (mM.l5 N) fun n ρ' e d=>by rw[e];rfl
theorem akw(K):(FW N).top K=mM.b N ((FW N).kc K 11):=by kernel_rfl
noncomputable def akx:Kn Tryz.prog:=⟨296,(FW N).S false (mM N),Fx.u1 (FW N) av Tryz.func296 [11] (akw N) (by rw[Ud];rfl)⟩
noncomputable def FX:Fx:=⟨28,tab,Kn.l [SD N,sR N,Pl N,SW N],N,Tryz.f128,[.v bK,.v I],[.v I],[⟨9,[(1,.v I),(2,.obj bK),(5,.v I)],[1,1,1,0,0,0],[]⟩],none⟩
theorem ZO(K ρ):(FX N).bd K ρ 9=mG.cL N ((FX N).kc ρ 9):=by kernel_rfl
theorem ZP(ρ):(FX N).kc ((FX N).bo ρ) 9=mG.l4 N N:=Fx.uL [] (ZO N) ρ (mG.l4 N) fun n ρ' e d=>by rw[e];rfl
theorem aky(K):(FX N).top K=mG.b N ((FX N).kc K 9):=by kernel_rfl
noncomputable def akz:Kn Tryz.prog:=⟨128,(FX N).S true (mG N),Fx.u1 (FX N) av Tryz.func128 [9] (aky N) (by rw[ZP];rfl)⟩
noncomputable def FY:Fx:=⟨24,tab,[],N,Tryz.f217,[.v I,.v LI],[.v B],[⟨9,[(1,.v LI),(5,.v I)],[1,1,0,1,0,0],[]⟩],none⟩
theorem ZQ(K ρ):(FY N).bd K ρ 9=kT.cL N ((FY N).kc ρ 9):=by kernel_rfl
theorem ZR(ρ):(FY N).kc ((FY N).bo ρ) 9=kT.l4 N N:=Fx.uL [] (ZQ N) ρ (kT.l4 N) fun n ρ' e d=>by rw[e];rfl
theorem akA(K):(FY N).top K=kT.b N ((FY N).kc K 9):=by kernel_rfl
noncomputable def afI:Kn Tryz.prog:=⟨217,(FY N).S true (kT N),Fx.u1 (FY N) av Tryz.func217 [9] (akA N) (by rw[ZR];rfl)⟩
noncomputable def FZ:Fx:=⟨19,tab,Kn.l [sR N,Ij N],N,Tryz.f218,[.v LI],[.v bK],[⟨7,[(0,.v LI),(2,.obj bK),(3,.obj bK),(4,.v I)],[1,1,0,1,0,0],[]⟩],none⟩
theorem ZS(K ρ):(FZ N).bd K ρ 7=kP.iE N ((FZ N).kc ρ 7):=by kernel_rfl
theorem ZT(ρ):(FZ N).kc ((FZ N).bo ρ) 7=kP.l3 N N:=Fx.uL [] (ZS N) ρ (kP.l3 N) fun n ρ' e d=>by rw[e];rfl
theorem akB(K):(FZ N).top K=kP.b N ((FZ N).kc K 7):=by kernel_rfl
noncomputable def ZU:Kn Tryz.prog:=⟨218,(FZ N).S false (kP N),Fx.u1 (FZ N) av Tryz.func218 [7] (akB N) (by rw[ZT];rfl)⟩
noncomputable def m8:Fx:=⟨48,tab,[],N,Tryz.f238,[.v LI],[.own I],[⟨16,[(0,.v LI),(3,.own I),(4,.v I),(5,.v I)],[1,1,0,1,0,0,1,0,0,1,1],[7]⟩,⟨13,[(0,.v LI),(3,.own I),(4,.v I),(5,.v I)],[1,1,0,1,0,0,1,0,0,1,0,0,0],[7]⟩,⟨7,[(0,.v LI),(3,.own I),(4,.v I)],[1,1,0,1,0,0],[]⟩],none⟩
theorem Ue(K ρ):(m8 N).bd K ρ 16=de.Hk N ((m8 N).kc ρ 7):=by kernel_rfl
theorem Uf(ρ):(m8 N).kc ((m8 N).bo ρ) 16=de.j8 N ((m8 N).kc ρ 7):=Fx.uJ [] (Ue N) ρ
theorem Ug(K ρ):(m8 N).bd K ρ 13=de.n4 N ((m8 N).kc K 16) ((m8 N).kc ρ 7) ((m8 N).kc ρ 13):=by kernel_rfl
theorem Uh(ρ):(m8 N).kc ((m8 N).bo ρ) 13=de.l6 N ((m8 N).kc ρ 7) N:=Fx.uL [16] (Ug N) ρ (de.l6 N ((m8 N).kc ρ 7)) fun n ρ' e d=>by rw[Uf,e,d 7 rfl];rfl
theorem ZV(K ρ):(m8 N).bd K ρ 7=de.iE N ((m8 N).kc K 13) ((m8 N).kc ρ 7):=by kernel_rfl
theorem ZW(ρ):(m8 N).kc ((m8 N).bo ρ) 7=de.l3 N N:=Fx.uL [13,16] (ZV N) ρ (de.l3 N) fun n ρ' e d=>by rw[Uh,e];rfl
theorem akC(K):(m8 N).top K=de.b N ((m8 N).kc K 7):=by kernel_rfl
noncomputable def akD:Kn Tryz.prog:=⟨238,(m8 N).S false (de N),Fx.u1 (m8 N) av Tryz.func238 [7] (akC N) (by rw[ZW];rfl)⟩
noncomputable def qN:Fx:=⟨112,tab,Kn.l [afI N,ZU N,SD N,zh N,sR N,Pl N,afG N,akD N],N,Tryz.f192,[.v I,.v LI],[.own I,.v I],[⟨45,[(9,.own I),(11,.v I),(15,.own I),(16,.v I)],[1,1,1,1,1,1,1,1,1,1,0,1,0,0],[]⟩,⟨29,[(0,.v I),(1,.v LI),(6,.obj bK),(9,.own I),(10,.own I),(11,.v I),(12,.v I)],[1,1,1,1,1,1,1,1,0,1,0,0],[]⟩,⟨12,[(0,.v I),(1,.v LI),(6,.obj bK)],[1,1,1,1],[]⟩],none⟩
theorem Ui(K ρ):(qN N).bd K ρ 45=dn.qu N ((qN N).kc ρ 45):=by kernel_rfl
theorem Uj(ρ):(qN N).kc ((qN N).bo ρ) 45=dn.rA N N:=Fx.uL [] (Ui N) ρ (dn.rA N) fun n ρ' e d=>by rw[e];rfl
theorem Uk(K ρ):(qN N).bd K ρ 29=dn.yI N ((qN N).kc K 45) ((qN N).kc ρ 29):=by kernel_rfl
theorem Ul(ρ):(qN N).kc ((qN N).bo ρ) 29=dn.AT N N:=Fx.uL [45] (Uk N) ρ (dn.AT N) fun n ρ' e d=>by rw[Uj,e];rfl
theorem Um(K ρ):(qN N).bd K ρ 12=dn.Lo N ((qN N).kc K 29):=by kernel_rfl
theorem Un(ρ):(qN N).kc ((qN N).bo ρ) 12=dn.j6 N:=Fx.uJ [29,45] (Um N) ρ (by rw[Ul];rfl)
theorem akE(K):(qN N).top K=dn.b N ((qN N).kc K 12):=by kernel_rfl
noncomputable def ZX:Kn Tryz.prog:=⟨192,(qN N).S false (dn N),Fx.u1 (qN N) av Tryz.func192 [12,29,45] (akE N) (by rw[Un];rfl)⟩
noncomputable def F0:Fx:=⟨33,tab,Kn.l [ZX N],N,Tryz.f129,[.v I,.v I],[.own I,.v I],[⟨11,[(0,.v I),(1,.v I),(6,.own I),(7,.v I)],[1,1,1,0,1,0,0],[]⟩],none⟩
theorem Uo(K ρ):(F0 N).bd K ρ 11=mu.dd N ((F0 N).kc ρ 11):=by kernel_rfl
theorem Up(ρ):(F0 N).kc ((F0 N).bo ρ) 11=mu.l5 N N:=Fx.uL [] (Uo N) ρ (mu.l5 N) fun n ρ' e d=>by rw[e];rfl
theorem akF(K):(F0 N).top K=mu.b N ((F0 N).kc K 11):=by kernel_rfl
noncomputable def akG:Kn Tryz.prog:=⟨129,(F0 N).S false (mu N),Fx.u1 (F0 N) av Tryz.func129 [11] (akF N) (by rw[Up];rfl)⟩
noncomputable def jO:Fx:=⟨175,tab,Kn.l [ox N,k31 N,sR N,k36 N,Ij N,akz N,akG N,afE N,Y6 N,zh N],N,Tryz.f53,[.v an,.v aC,.v I],[.own dK,.v I],[⟨64,[(2,.v I),(3,.obj an),(8,.own gv),(9,.own dK),(10,.v I),(11,.own gv),(14,.v I),(15,.v I),(16,.dE dK [.gg 1] gv),(17,.v I),(19,.own I)],[1,1,1,1,1,0,1,0,0,1,0,0,1,1,1,1,1,0,0,1,0,0,1,0,1,0,0,1,0,0,1,1,1,1],[17,41,49]⟩,⟨58,[(2,.v I),(3,.obj an),(8,.own gv),(9,.own dK),(10,.v I),(11,.own gv),(14,.v I),(15,.v I),(16,.dE dK [.gg 1] gv),(17,.v I),(18,.v I)],[1,1,1,1,1,0,1,0,0,1,0,0,1,1,1,1,1,0,0,1,0,0,1,0,1,0,0,1,0,0,1,1],[17,41,49]⟩,⟨49,[(2,.v I),(3,.obj an),(8,.own gv),(9,.own dK),(10,.v I),(11,.own gv),(14,.v I),(15,.v I),(16,.dE dK [.gg 1] gv),(17,.v I)],[1,1,1,1,1,0,1,0,0,1,0,0,1,1,1,1,1,0,0,1,0,0,1,0,1,0,0],[17,41]⟩,⟨41,[(2,.v I),(3,.obj an),(8,.own gv),(9,.own dK),(10,.v I),(11,.own gv),(14,.v I),(15,.v I)],[1,1,1,1,1,0,1,0,0,1,0,0,1,1,1,1,1,0,0],[17]⟩,⟨27,[(2,.v I),(3,.obj an),(8,.own gv),(9,.own dK),(10,.v I),(11,.own gv),(12,.obj bK),(13,.v I)],[1,1,1,1,1,0,1,0,0,1,0,0,1,1,0,1,0,0],[17]⟩,⟨17,[(2,.v I),(3,.obj an),(8,.own gv),(9,.own dK),(10,.v I)],[1,1,1,1,1,0,1,0,0],[]⟩],some (dK,[.gg 1],gv,[16])⟩
theorem ZY(K ρ):(jO N).bd K ρ 64=cG.XQ N ((jO N).kc ρ 17) ((jO N).kc ρ 41) ((jO N).kc ρ 49):=by kernel_rfl
theorem ZZ(ρ):(jO N).kc ((jO N).bo ρ) 64=cG.j32 N ((jO N).kc ρ 17) ((jO N).kc ρ 41) ((jO N).kc ρ 49):=Fx.uJ [] (ZY N) ρ
theorem Z0(K ρ):(jO N).bd K ρ 58=cG.HK N ((jO N).kc K 64) ((jO N).kc ρ 17) ((jO N).kc ρ 41) ((jO N).kc ρ 49):=by kernel_rfl
theorem Z1(ρ):(jO N).kc ((jO N).bo ρ) 58=cG.N4 N ((jO N).kc ρ 17) ((jO N).kc ρ 41) ((jO N).kc ρ 49):=Fx.uJ [64] (Z0 N) ρ (by rw[ZZ];rfl)
theorem Z2(K ρ):(jO N).bd K ρ 49=cG.HF N ((jO N).kc K 58) ((jO N).kc ρ 17) ((jO N).kc ρ 41) ((jO N).kc ρ 49):=by kernel_rfl
theorem Z3(ρ):(jO N).kc ((jO N).bo ρ) 49=cG.Gs N ((jO N).kc ρ 17) ((jO N).kc ρ 41) N:=Fx.uL [58,64] (Z2 N) ρ (cG.Gs N ((jO N).kc ρ 17) ((jO N).kc ρ 41)) fun n ρ' e d=>by rw[Z1,e,d 17 rfl,d 41 rfl];rfl
theorem Z4(K ρ):(jO N).bd K ρ 41=cG.HJ N ((jO N).kc K 49) ((jO N).kc ρ 17) ((jO N).kc ρ 41):=by kernel_rfl
theorem Z5(ρ):(jO N).kc ((jO N).bo ρ) 41=cG.Cj N ((jO N).kc ρ 17) N:=Fx.uL [49] (Z4 N) ρ (cG.Cj N ((jO N).kc ρ 17)) fun n ρ' e d=>by rw[Z3,e,d 17 rfl];rfl
theorem Z6(K ρ):(jO N).bd K ρ 27=cG.lx N ((jO N).kc K 41) ((jO N).kc ρ 17) ((jO N).kc ρ 27):=by kernel_rfl
theorem Z7(ρ):(jO N).kc ((jO N).bo ρ) 27=cG.nA N ((jO N).kc ρ 17) N:=Fx.uL [41] (Z6 N) ρ (cG.nA N ((jO N).kc ρ 17)) fun n ρ' e d=>by rw[Z5,e,d 17 rfl];rfl
theorem Z8(K ρ):(jO N).bd K ρ 17=cG.w5 N ((jO N).kc K 27) ((jO N).kc ρ 17):=by kernel_rfl
theorem Z9(ρ):(jO N).kc ((jO N).bo ρ) 17=cG.l8 N N:=Fx.uL [27,41] (Z8 N) ρ (cG.l8 N) fun n ρ' e d=>by rw[Z7,e];rfl
theorem h53(K):(jO N).top K=cG.b N ((jO N).kc K 17):=by kernel_rfl
noncomputable def k53:Kn Tryz.prog:=⟨53,(jO N).S false (cG N),Fx.u1 (jO N) av Tryz.func53 [17] (h53 N) (by rw[Z9];rfl)⟩
noncomputable def F1:Fx:=⟨48,tab,Kn.l [ox N,OS N],N,Tryz.f297,[.v an,.v aC],[.own I,.v I],[⟨11,[(3,.obj aC),(6,.own I),(7,.v I)],[1,1,1,0,1,0,0],[]⟩],none⟩
theorem Uq(K ρ):(F1 N).bd K ρ 11=mH.dd N ((F1 N).kc ρ 11):=by kernel_rfl
theorem Ur(ρ):(F1 N).kc ((F1 N).bo ρ) 11=mH.l5 N N:=Fx.uL [] (Uq N) ρ (mH.l5 N) fun n ρ' e d=>by rw[e];rfl
theorem akH(K):(F1 N).top K=mH.b N ((F1 N).kc K 11):=by kernel_rfl
noncomputable def akI:Kn Tryz.prog:=⟨297,(F1 N).S false (mH N),Fx.u1 (F1 N) av Tryz.func297 [11] (akH N) (by rw[Ur];rfl)⟩
noncomputable def uk:Fx:=⟨99,tab,Kn.l [Ih N,SS N],N,Tryz.f131,[.v an,.v dO],[.v B],[⟨18,[(1,.v dO),(2,.obj an),(5,.v I),(6,.obj dK)],[1,1,0,1,0,0,1,0,0,1,1],[9]⟩,⟨9,[(1,.v dO),(2,.obj an),(5,.v I)],[1,1,0,1,0,0],[]⟩],none⟩
theorem Us(K ρ):(uk N).bd K ρ 18=eS.GY N ((uk N).kc ρ 9):=by kernel_rfl
theorem Ut(ρ):(uk N).kc ((uk N).bo ρ) 18=eS.j9 N ((uk N).kc ρ 9):=Fx.uJ [] (Us N) ρ
theorem aaa(K ρ):(uk N).bd K ρ 9=eS.cL N ((uk N).kc K 18) ((uk N).kc ρ 9):=by kernel_rfl
theorem aab(ρ):(uk N).kc ((uk N).bo ρ) 9=eS.l4 N N:=Fx.uL [18] (aaa N) ρ (eS.l4 N) fun n ρ' e d=>by rw[Ut,e];rfl
theorem akJ(K):(uk N).top K=eS.b N ((uk N).kc K 9):=by kernel_rfl
noncomputable def aac:Kn Tryz.prog:=⟨131,(uk N).S true (eS N),Fx.u1 (uk N) av Tryz.func131 [9] (akJ N) (by rw[aab];rfl)⟩
noncomputable def F2:Fx:=⟨25,tab,[],N,Tryz.f318,[.v dO,.v I],[.v dK,.v B],[⟨5,[(0,.v dO),(1,.v I),(4,.obj dK),(6,.v I)],[1,0,1,0,0],[]⟩],none⟩
theorem aad(K ρ):(F2 N).bd K ρ 5=lD.dx N ((F2 N).kc ρ 5):=by kernel_rfl
theorem aae(ρ):(F2 N).kc ((F2 N).bo ρ) 5=lD.l2 N N:=Fx.uL [] (aad N) ρ (lD.l2 N) fun n ρ' e d=>by rw[e];rfl
theorem akK(K):(F2 N).top K=lD.b N ((F2 N).kc K 5):=by kernel_rfl
noncomputable def afJ:Kn Tryz.prog:=⟨318,(F2 N).S false (lD N),Fx.u1 (F2 N) av Tryz.func318 [5] (akK N) (by rw[aae];rfl)⟩
noncomputable def lH:Fx:=⟨75,tab,Kn.l [sR N,Ij N,aeW N],N,Tryz.f319,[.v ca,.v ca],[.own gv,.v B],[⟨25,[(0,.v ca),(1,.v ca),(6,.own gv),(7,.v I),(8,.obj bK),(10,.v I)],[1,1,0,1,0,0,1,0,0,1,1,0,1,0,0],[7]⟩,⟨15,[(0,.v ca),(1,.v ca),(6,.own gv),(7,.v I),(8,.obj bK),(9,.v I)],[1,1,0,1,0,0,1,0,0,1,0,1,0,0],[7]⟩,⟨7,[(0,.v ca),(1,.v ca),(6,.own gv),(7,.v I)],[1,1,0,1,0,0],[]⟩],none⟩
theorem Uu(K ρ):(lH N).bd K ρ 25=cW.lq N ((lH N).kc ρ 7) ((lH N).kc ρ 25):=by kernel_rfl
theorem Uv(ρ):(lH N).kc ((lH N).bo ρ) 25=cW.mT N ((lH N).kc ρ 7) N:=Fx.uL [] (Uu N) ρ (cW.mT N ((lH N).kc ρ 7)) fun n ρ' e d=>by rw[e,d 7 rfl];rfl
theorem Uw(K ρ):(lH N).bd K ρ 15=cW.ns N ((lH N).kc K 25) ((lH N).kc ρ 7) ((lH N).kc ρ 15):=by kernel_rfl
theorem Ux(ρ):(lH N).kc ((lH N).bo ρ) 15=cW.l7 N ((lH N).kc ρ 7) N:=Fx.uL [25] (Uw N) ρ (cW.l7 N ((lH N).kc ρ 7)) fun n ρ' e d=>by rw[Uv,e,d 7 rfl];rfl
theorem aaf(K ρ):(lH N).bd K ρ 7=cW.iE N ((lH N).kc K 15) ((lH N).kc ρ 7):=by kernel_rfl
theorem aag(ρ):(lH N).kc ((lH N).bo ρ) 7=cW.l3 N N:=Fx.uL [15,25] (aaf N) ρ (cW.l3 N) fun n ρ' e d=>by rw[Ux,e];rfl
theorem akL(K):(lH N).top K=cW.b N ((lH N).kc K 7):=by kernel_rfl
noncomputable def akM:Kn Tryz.prog:=⟨319,(lH N).S false (cW N),Fx.u1 (lH N) av Tryz.func319 [7] (akL N) (by rw[aag];rfl)⟩
noncomputable def afK:Fx:=⟨11,tab,Kn.l [Lh N,Zq N],N,Tryz.f320,[.v m5,.v I],[.own fI],[],none⟩
noncomputable def akN:Kn Tryz.prog:=⟨320,(afK N).S false (XP N),Fx.u0 (afK N) av Tryz.func320⟩
noncomputable def wR:Fx:=⟨157,tab,Kn.l [ox N,aac N,OU N,afv N,TU N,afJ N,k22 N,sR N,Pl N,SW N,k31 N,akM N,akN N,ae8 N,TX N,Zl N],N,Tryz.f308,[.v an,.v aC,.v dO,.v cB,.v cF],[.v I],[⟨27,[(3,.v cB),(5,.obj an),(6,.obj aC),(9,.obj cF),(12,.obj dK),(14,.v I),(15,.v I)],[1,1,1,1,1,1,1,1,0,1,0,0],[]⟩,⟨6,[(2,.v dO),(3,.v cB),(5,.obj an),(6,.obj aC),(9,.obj cF)],[1,1],[]⟩],none⟩
theorem Uy(K ρ):(wR N).bd K ρ 27=gy.lx N ((wR N).kc ρ 27):=by kernel_rfl
theorem Uz(ρ):(wR N).kc ((wR N).bo ρ) 27=gy.nA N N:=Fx.uL [] (Uy N) ρ (gy.nA N) fun n ρ' e d=>by rw[e];rfl
theorem aah(K ρ):(wR N).bd K ρ 6=gy.j3b N ((wR N).kc K 27):=by kernel_rfl
theorem aai(ρ):(wR N).kc ((wR N).bo ρ) 6=gy.j3 N:=Fx.uJ [27] (aah N) ρ (by rw[Uz];rfl)
theorem akO(K):(wR N).top K=gy.b N ((wR N).kc K 6):=by kernel_rfl
noncomputable def akP:Kn Tryz.prog:=⟨308,(wR N).S true (gy N),Fx.u1 (wR N) av Tryz.func308 [6,27] (akO N) (by rw[aai];rfl)⟩
noncomputable def afL:Fx:=⟨28,tab,Kn.l [akP N],N,Tryz.f298,[.v an,.v aC,.v dO,.v cB,.v cF],[.own cF,.v I],[],none⟩
noncomputable def akQ:Kn Tryz.prog:=⟨298,(afL N).S false (Rc N),Fx.u0 (afL N) av Tryz.func298⟩
noncomputable def Wm:Fx:=⟨46,tab,Kn.l [OU N],N,Tryz.f56,[.v cB,.v I],[.v cF,.v B],[⟨13,[(0,.v cB),(1,.v I),(4,.obj cF),(6,.obj cF),(7,.v B),(8,.v I)],[1,1,1,1,0,1,0,0],[]⟩],none⟩
theorem aaj(K ρ):(Wm N).bd K ρ 13=yW.n4 N ((Wm N).kc ρ 13):=by kernel_rfl
theorem aak(ρ):(Wm N).kc ((Wm N).bo ρ) 13=yW.l6 N N:=Fx.uL [] (aaj N) ρ (yW.l6 N) fun n ρ' e d=>by rw[e];rfl
theorem h56(K):(Wm N).top K=yW.b N ((Wm N).kc K 13):=by kernel_rfl
noncomputable def k56:Kn Tryz.prog:=⟨56,(Wm N).S true (yW N),Fx.u1 (Wm N) av Tryz.func56 [13] (h56 N) (by rw[aak];rfl)⟩
noncomputable def Gy:Fx:=⟨158,tab,Kn.l [ox N,aac N,OU N,k56 N,k22 N,TU N,sR N,OT N,FB N],N,Tryz.f55,[.v an,.v aC,.v dO,.v cB],[.v aC,.own dK,.v I],[⟨45,[(2,.v dO),(3,.v cB),(5,.obj aC),(8,.obj aC),(11,.own fI),(12,.own mO),(13,.own dK),(14,.v I),(15,.obj dK),(16,.obj cF),(18,.v I),(19,.v I)],[1,1,1,1,1,0,1,0,0,1,0,0,1,1,1,1,1,1,1,1,0,1,0,0],[15]⟩,⟨15,[(2,.v dO),(3,.v cB),(5,.obj aC),(8,.obj aC),(11,.own fI),(12,.own mO),(13,.own dK),(14,.v I)],[1,1,1,1,1,0,1,0,0],[]⟩],none⟩
theorem aal(K ρ):(Gy N).bd K ρ 45=nX.qu N ((Gy N).kc ρ 15) ((Gy N).kc ρ 45):=by kernel_rfl
theorem aam(ρ):(Gy N).kc ((Gy N).bo ρ) 45=nX.rA N ((Gy N).kc ρ 15) N:=Fx.uL [] (aal N) ρ (nX.rA N ((Gy N).kc ρ 15)) fun n ρ' e d=>by rw[e,d 15 rfl];rfl
theorem aan(K ρ):(Gy N).bd K ρ 15=nX.ns N ((Gy N).kc K 45) ((Gy N).kc ρ 15):=by kernel_rfl
theorem aao(ρ):(Gy N).kc ((Gy N).bo ρ) 15=nX.l7 N N:=Fx.uL [45] (aan N) ρ (nX.l7 N) fun n ρ' e d=>by rw[aam,e];rfl
theorem h55(K):(Gy N).top K=nX.b N ((Gy N).kc K 15):=by kernel_rfl
noncomputable def k55:Kn Tryz.prog:=⟨55,(Gy N).S false (nX N),Fx.u1 (Gy N) av Tryz.func55 [15] (h55 N) (by rw[aao];rfl)⟩
noncomputable def F3:Fx:=⟨58,tab,[],N,Tryz.f309,[.v ca],[.v B],[⟨5,[(0,.v ca),(3,.v I)],[1,0,1,0,0],[]⟩],none⟩
theorem aap(K ρ):(F3 N).bd K ρ 5=kG.dx N ((F3 N).kc ρ 5):=by kernel_rfl
theorem aaq(ρ):(F3 N).kc ((F3 N).bo ρ) 5=kG.l2 N N:=Fx.uL [] (aap N) ρ (kG.l2 N) fun n ρ' e d=>by rw[e];rfl
theorem akR(K):(F3 N).top K=kG.b N ((F3 N).kc K 5):=by kernel_rfl
noncomputable def UA:Kn Tryz.prog:=⟨309,(F3 N).S true (kG N),Fx.u1 (F3 N) av Tryz.func309 [5] (akR N) (by rw[aaq];rfl)⟩
noncomputable def F5:Fx:=⟨38,tab,[],N,Tryz.f310,[.v LI],[.v B],[⟨5,[(0,.v LI),(3,.v I)],[1,0,1,0,0],[]⟩],none⟩
theorem aar(K ρ):(F5 N).bd K ρ 5=mI.dx N ((F5 N).kc ρ 5):=by kernel_rfl
theorem aas(ρ):(F5 N).kc ((F5 N).bo ρ) 5=mI.l2 N N:=Fx.uL [] (aar N) ρ (mI.l2 N) fun n ρ' e d=>by rw[e];rfl
theorem akS(K):(F5 N).top K=mI.b N ((F5 N).kc K 5):=by kernel_rfl
noncomputable def akT:Kn Tryz.prog:=⟨310,(F5 N).S true (mI N),Fx.u1 (F5 N) av Tryz.func310 [5] (akS N) (by rw[aas];rfl)⟩
noncomputable def ve:Fx:=⟨72,tab,Kn.l [afJ N],N,Tryz.f311,[.v I,.v dO,.v cB],[.v I],[⟨25,[(0,.v I),(1,.v dO),(7,.v I),(12,.v I)],[1,1,1,0,1,0,0],[]⟩,⟨7,[(0,.v I),(1,.v dO),(2,.v cB),(7,.v I),(8,.v I)],[1,1,0,1,0,0],[]⟩],none⟩
theorem UB(K ρ):(ve N).bd K ρ 25=fm.lq N ((ve N).kc ρ 25):=by kernel_rfl
theorem UC(ρ):(ve N).kc ((ve N).bo ρ) 25=fm.mT N N:=Fx.uL [] (UB N) ρ (fm.mT N) fun n ρ' e d=>by rw[e];rfl
theorem aat(K ρ):(ve N).bd K ρ 7=fm.iE N ((ve N).kc K 25) ((ve N).kc ρ 7):=by kernel_rfl
theorem aau(ρ):(ve N).kc ((ve N).bo ρ) 7=fm.l3 N N:=Fx.uL [25] (aat N) ρ (fm.l3 N) fun n ρ' e d=>by rw[UC,e];rfl
theorem akU(K):(ve N).top K=fm.b N ((ve N).kc K 7):=by kernel_rfl
noncomputable def akV:Kn Tryz.prog:=⟨311,(ve N).S true (fm N),Fx.u1 (ve N) av Tryz.func311 [7,25] (akU N) (by rw[aau];rfl)⟩
noncomputable def gW:Fx:=⟨104,tab,Kn.l [UA N,akT N,aac N,OU N,akV N],N,Tryz.f299,[.v an,.v ca,.v LI,.v dO,.v cB],[.own gv,.v I],[⟨37,[(1,.v ca),(2,.v LI),(3,.v dO),(4,.v cB),(12,.own gv),(13,.v I),(14,.v I),(15,.v B),(18,.v I)],[1,1,1,0,1,0,0,1,0,0,1,1,1,0,1,0,0],[11]⟩,⟨29,[(1,.v ca),(2,.v LI),(3,.v dO),(4,.v cB),(12,.own gv),(13,.v I),(14,.v I),(15,.v B),(17,.v I)],[1,1,1,0,1,0,0,1,0,0,1,1,0,1,0,0],[11]⟩,⟨19,[(1,.v ca),(2,.v LI),(3,.v dO),(4,.v cB),(12,.own gv),(13,.v I),(14,.v I),(15,.v B),(16,.v I)],[1,1,1,0,1,0,0,1,0,0,1,0,1,0,0],[11]⟩,⟨11,[(1,.v ca),(2,.v LI),(3,.v dO),(4,.v cB),(12,.own gv),(13,.v I)],[1,1,1,0,1,0,0],[]⟩],none⟩
theorem UD(K ρ):(gW N).bd K ρ 37=cc.rB N ((gW N).kc ρ 11) ((gW N).kc ρ 37):=by kernel_rfl
theorem UE(ρ):(gW N).kc ((gW N).bo ρ) 37=cc.tR N ((gW N).kc ρ 11) N:=Fx.uL [] (UD N) ρ (cc.tR N ((gW N).kc ρ 11)) fun n ρ' e d=>by rw[e,d 11 rfl];rfl
theorem UF(K ρ):(gW N).bd K ρ 29=cc.yI N ((gW N).kc K 37) ((gW N).kc ρ 11) ((gW N).kc ρ 29):=by kernel_rfl
theorem UG(ρ):(gW N).kc ((gW N).bo ρ) 29=cc.AT N ((gW N).kc ρ 11) N:=Fx.uL [37] (UF N) ρ (cc.AT N ((gW N).kc ρ 11)) fun n ρ' e d=>by rw[UE,e,d 11 rfl];rfl
theorem UH(K ρ):(gW N).bd K ρ 19=cc.rN N ((gW N).kc K 29) ((gW N).kc ρ 11) ((gW N).kc ρ 19):=by kernel_rfl
theorem UI(ρ):(gW N).kc ((gW N).bo ρ) 19=cc.l9 N ((gW N).kc ρ 11) N:=Fx.uL [29,37] (UH N) ρ (cc.l9 N ((gW N).kc ρ 11)) fun n ρ' e d=>by rw[UG,e,d 11 rfl];rfl
theorem UJ(K ρ):(gW N).bd K ρ 11=cc.dd N ((gW N).kc K 19) ((gW N).kc ρ 11):=by kernel_rfl
theorem UK(ρ):(gW N).kc ((gW N).bo ρ) 11=cc.l5 N N:=Fx.uL [19,29,37] (UJ N) ρ (cc.l5 N) fun n ρ' e d=>by rw[UI,e];rfl
theorem akW(K):(gW N).top K=cc.b N ((gW N).kc K 11):=by kernel_rfl
noncomputable def akX:Kn Tryz.prog:=⟨299,(gW N).S false (cc N),Fx.u1 (gW N) av Tryz.func299 [11] (akW N) (by rw[UK];rfl)⟩
noncomputable def afM:Fx:=⟨28,tab,Kn.l [OS N],N,Tryz.f321,[.own ov,.v aC,.v I,.v I,.v I],[.own ov],[],none⟩
noncomputable def akY:Kn Tryz.prog:=⟨321,(afM N).S false (HM N),Fx.u0 (afM N) av Tryz.func321⟩
noncomputable def afN:Fx:=⟨9,tab,[],N,Tryz.f323,[.v I],[.v B],[],none⟩
noncomputable def afO:Kn Tryz.prog:=⟨323,(afN N).S true (N9 N),Fx.u0 (afN N) av Tryz.func323⟩
noncomputable def F6:Fx:=⟨27,tab,Kn.l [UA N],N,Tryz.f325,[.v ca,.v I],[.v I],[⟨9,[(0,.v ca),(1,.v I),(5,.v I)],[1,1,0,1,0,0],[]⟩],none⟩
theorem aav(K ρ):(F6 N).bd K ρ 9=mJ.cL N ((F6 N).kc ρ 9):=by kernel_rfl
theorem aaw(ρ):(F6 N).kc ((F6 N).bo ρ) 9=mJ.l4 N N:=Fx.uL [] (aav N) ρ (mJ.l4 N) fun n ρ' e d=>by rw[e];rfl
theorem akZ(K):(F6 N).top K=mJ.b N ((F6 N).kc K 9):=by kernel_rfl
noncomputable def ak0:Kn Tryz.prog:=⟨325,(F6 N).S true (mJ N),Fx.u1 (F6 N) av Tryz.func325 [9] (akZ N) (by rw[aaw];rfl)⟩
noncomputable def F7:Fx:=⟨67,tab,Kn.l [ox N,UA N,afO N,OS N,ak0 N],N,Tryz.f322,[.v an,.v aC,.v ca,.v I,.v I],[.own I,.v I],[⟨11,[(2,.v ca),(3,.v I),(4,.v I),(6,.obj aC),(12,.own I),(13,.v I)],[1,1,1,0,1,0,0],[]⟩],none⟩
theorem UL(K ρ):(F7 N).bd K ρ 11=mK.dd N ((F7 N).kc ρ 11):=by kernel_rfl
theorem UM(ρ):(F7 N).kc ((F7 N).bo ρ) 11=mK.l5 N N:=Fx.uL [] (UL N) ρ (mK.l5 N) fun n ρ' e d=>by rw[e];rfl
theorem ak1(K):(F7 N).top K=mK.b N ((F7 N).kc K 11):=by kernel_rfl
noncomputable def ak2:Kn Tryz.prog:=⟨322,(F7 N).S false (mK N),Fx.u1 (F7 N) av Tryz.func322 [11] (ak1 N) (by rw[UM];rfl)⟩
noncomputable def iJ:Fx:=⟨188,tab,Kn.l [ox N,UA N,afp N,Il N,k22 N,akY N,ak2 N,afO N,sR N,OS N,Pl N,zh N,Ii N],N,Tryz.f312,[.v an,.v aC,.v I,.v ca,.v ca],[.own ov,.v I],[⟨33,[(2,.v I),(3,.v ca),(4,.v ca),(5,.obj an),(6,.obj aC),(12,.own ov),(14,.v I),(15,.own I),(17,.v I)],[1,1,1,1,1,1,1,0,1,0,0,1,0,0,1,1,0,0],[25]⟩,⟨61,[(2,.v I),(4,.v ca),(6,.obj aC),(12,.own ov),(22,.v I)],[1,1,1,1,1,1,1,1,1,0,1,0,0],[]⟩,⟨41,[(2,.v I),(4,.v ca),(5,.obj an),(6,.obj aC),(12,.own ov),(18,.v I)],[1,1,1,1,1,1,1,1,0,1,0,0],[]⟩,⟨25,[(2,.v I),(3,.v ca),(4,.v ca),(5,.obj an),(6,.obj aC),(12,.own ov),(14,.v I)],[1,1,1,1,1,1,1,0,1,0,0],[]⟩,⟨18,[(2,.v I),(3,.v ca),(4,.v ca),(5,.obj an),(6,.obj aC),(12,.own ov)],[1,1,1,1,1],[]⟩],none⟩
theorem UN(K ρ):(iJ N).bd K ρ 33=bY.qt N ((iJ N).kc ρ 25) ((iJ N).kc ρ 33):=by kernel_rfl
theorem UO(ρ):(iJ N).kc ((iJ N).bo ρ) 33=bY.rz N ((iJ N).kc ρ 25) N:=Fx.uL [41,61] (UN N) ρ (bY.rz N ((iJ N).kc ρ 25)) fun n ρ' e d=>by rw[e,d 25 rfl];rfl
theorem UP(K ρ):(iJ N).bd K ρ 61=bY.D8 N ((iJ N).kc ρ 61):=by kernel_rfl
theorem UQ(ρ):(iJ N).kc ((iJ N).bo ρ) 61=bY.Hj N N:=Fx.uL [] (UP N) ρ (bY.Hj N) fun n ρ' e d=>by rw[e];rfl
theorem UR(K ρ):(iJ N).bd K ρ 41=bY.HJ N ((iJ N).kc K 61) ((iJ N).kc ρ 41):=by kernel_rfl
theorem US(ρ):(iJ N).kc ((iJ N).bo ρ) 41=bY.Cj N N:=Fx.uL [61] (UR N) ρ (bY.Cj N) fun n ρ' e d=>by rw[UQ,e];rfl
theorem UT(K ρ):(iJ N).bd K ρ 25=bY.lq N ((iJ N).kc K 33) ((iJ N).kc K 41) ((iJ N).kc ρ 25):=by kernel_rfl
theorem UU(ρ):(iJ N).kc ((iJ N).bo ρ) 25=bY.mT N N:=Fx.uL [41,61,33] (UT N) ρ (bY.mT N) fun n ρ' e d=>by rw[UO,US,e];rfl
theorem UW(K ρ):(iJ N).bd K ρ 18=bY.GY N ((iJ N).kc K 25):=by kernel_rfl
theorem UX(ρ):(iJ N).kc ((iJ N).bo ρ) 18=bY.j9 N:=Fx.uJ [25,41,61] (UW N) ρ (by rw[UU];rfl)
theorem ak3(K):(iJ N).top K=bY.b N ((iJ N).kc K 18):=by kernel_rfl
noncomputable def ak4:Kn Tryz.prog:=⟨312,(iJ N).S false (bY N),Fx.u1 (iJ N) av Tryz.func312 [18,25,41,61] (ak3 N) (by rw[UX];rfl)⟩
noncomputable def afP:Fx:=⟨19,tab,Kn.l [ox N,OS N],N,Tryz.f313,[.v an,.v aC],[.v I,.v I],[],none⟩
noncomputable def ak5:Kn Tryz.prog:=⟨313,(afP N).S true (Re N),Fx.u0 (afP N) av Tryz.func313⟩
noncomputable def F8:Fx:=⟨97,tab,Kn.l [aeh N],N,Tryz.f324,[.v Cr],[.v B],[⟨9,[(0,.v Cr),(3,.v I)],[1,1,0,1,0,0],[]⟩],none⟩
theorem aax(K ρ):(F8 N).bd K ρ 9=mL.cL N ((F8 N).kc ρ 9):=by kernel_rfl
theorem aay(ρ):(F8 N).kc ((F8 N).bo ρ) 9=mL.l4 N N:=Fx.uL [] (aax N) ρ (mL.l4 N) fun n ρ' e d=>by rw[e];rfl
theorem ak6(K):(F8 N).top K=mL.b N ((F8 N).kc K 9):=by kernel_rfl
noncomputable def ak7:Kn Tryz.prog:=⟨324,(F8 N).S true (mL N),Fx.u1 (F8 N) av Tryz.func324 [9] (ak6 N) (by rw[aay];rfl)⟩
noncomputable def iK:Fx:=⟨106,tab,Kn.l [ak7 N,ZU N,zh N,ZX N],N,Tryz.f314,[.v Cr,.v I],[.own ov,.v I,.v I],[⟨37,[(7,.own ov),(8,.v I),(9,.v I),(10,.v I),(14,.own I),(16,.v I)],[1,1,1,0,1,0,0,1,0,1,1,1,1,1,1,1,0,1,0,0],[11]⟩,⟨22,[(7,.own ov),(8,.v I),(9,.v I),(10,.v I),(11,.own I)],[1,1,1,0,1,0,0,1,0,1,1,1],[11]⟩,⟨17,[(7,.own ov),(8,.v I),(9,.v I),(10,.v I),(11,.own I)],[1,1,1,0,1,0,0,1,0,1,1,0,0,0],[11]⟩,⟨11,[(7,.own ov),(8,.v I),(9,.v I)],[1,1,1,0,1,0,0],[]⟩],none⟩
theorem UY(K ρ):(iK N).bd K ρ 37=ct.rB N ((iK N).kc ρ 11) ((iK N).kc ρ 37):=by kernel_rfl
theorem UZ(ρ):(iK N).kc ((iK N).bo ρ) 37=ct.tR N ((iK N).kc ρ 11) N:=Fx.uL [] (UY N) ρ (ct.tR N ((iK N).kc ρ 11)) fun n ρ' e d=>by rw[e,d 11 rfl];rfl
theorem U0(K ρ):(iK N).bd K ρ 22=ct.yR N ((iK N).kc K 37) ((iK N).kc ρ 11):=by kernel_rfl
theorem U1(ρ):(iK N).kc ((iK N).bo ρ) 22=ct.Gr N ((iK N).kc ρ 11):=Fx.uJ [37] (U0 N) ρ (by rw[UZ];rfl)
theorem U2(K ρ):(iK N).bd K ρ 17=ct.w5 N ((iK N).kc K 22) ((iK N).kc ρ 11) ((iK N).kc ρ 17):=by kernel_rfl
theorem U3(ρ):(iK N).kc ((iK N).bo ρ) 17=ct.l8 N ((iK N).kc ρ 11) N:=Fx.uL [22,37] (U2 N) ρ (ct.l8 N ((iK N).kc ρ 11)) fun n ρ' e d=>by rw[U1,e,d 11 rfl];rfl
theorem U4(K ρ):(iK N).bd K ρ 11=ct.dd N ((iK N).kc K 17) ((iK N).kc ρ 11):=by kernel_rfl
theorem U5(ρ):(iK N).kc ((iK N).bo ρ) 11=ct.l5 N N:=Fx.uL [17,22,37] (U4 N) ρ (ct.l5 N) fun n ρ' e d=>by rw[U3,e];rfl
theorem ak8(K):(iK N).top K=ct.b N ((iK N).kc K 11):=by kernel_rfl
noncomputable def ak9:Kn Tryz.prog:=⟨314,(iK N).S false (ct N),Fx.u1 (iK N) av Tryz.func314 [11] (ak8 N) (by rw[U5];rfl)⟩
noncomputable def afQ:Fx:=⟨14,tab,Kn.l [ox N,OS N],N,Tryz.f315,[.v an,.v aC],[.v I,.v I],[],none⟩
noncomputable def ala:Kn Tryz.prog:=⟨315,(afQ N).S true (Rf N),Fx.u0 (afQ N) av Tryz.func315⟩
noncomputable def wS:Fx:=⟨156,tab,Kn.l [ak4 N,ak5 N,ak9 N,sR N,OT N,ala N,k22 N,FB N],N,Tryz.f300,[.v an,.v aC,.v I,.v ca,.v ca],[.v aC,.v dL,.v I],[⟨52,[(6,.obj aC),(10,.obj aC),(11,.obj dL),(18,.own mO),(19,.dE dL [.gg 2] ov),(21,.v I),(23,.v I),(24,.v I)],[1,1,1,1,1,1,1,1,1,1,1,1,1,1,1],[]⟩,⟨31,[(2,.v I),(5,.obj an),(6,.obj aC),(10,.obj aC),(11,.obj dL),(13,.own ov),(17,.v I),(18,.own mO),(19,.dE dL [.gg 2] ov),(20,.v I)],[1,1,1,1,1,1,1,1,1,1,0,1,0,0],[]⟩],some (dL,[.gg 2],ov,[19])⟩
theorem U6(K ρ):(wS N).bd K ρ 52=gz.XS N:=by kernel_rfl
theorem U7(ρ):(wS N).kc ((wS N).bo ρ) 52=gz.j26 N:=Fx.uJ [] (U6 N) ρ
theorem U8(K ρ):(wS N).bd K ρ 31=gz.HA N ((wS N).kc K 52) ((wS N).kc ρ 31):=by kernel_rfl
theorem U9(ρ):(wS N).kc ((wS N).bo ρ) 31=gz.KK N N:=Fx.uL [52] (U8 N) ρ (gz.KK N) fun n ρ' e d=>by rw[U7,e];rfl
theorem alb(K):(wS N).top K=gz.b N ((wS N).kc K 31):=by kernel_rfl
noncomputable def alc:Kn Tryz.prog:=⟨300,(wS N).S false (gz N),Fx.u1 (wS N) av Tryz.func300 [31,52] (alb N) (by rw[U9];rfl)⟩
noncomputable def lI:Fx:=⟨129,tab,Kn.l [afI N,ZU N,zh N,ZX N],N,Tryz.f163,[.v I,.v LI,.v LI],[.own I,.v I,.v I],[⟨39,[(1,.v LI),(2,.v LI),(11,.own I),(12,.v I),(13,.v I),(17,.own I),(19,.v I)],[1,1,1,1,0,1,0,0,1,0,0,1,1,1,1,1,0,0],[17]⟩,⟨25,[(1,.v LI),(2,.v LI),(11,.own I),(12,.v I),(13,.v I),(14,.own I),(15,.v B),(16,.v I)],[1,1,1,1,0,1,0,0,1,0,0,1,0,1,0,0],[17]⟩,⟨17,[(1,.v LI),(2,.v LI),(11,.own I),(12,.v I),(13,.v I)],[1,1,1,1,0,1,0,0],[]⟩],none⟩
theorem Va(K ρ):(lI N).bd K ρ 39=cS.wI N ((lI N).kc ρ 17) ((lI N).kc ρ 39):=by kernel_rfl
theorem Vb(ρ):(lI N).kc ((lI N).bo ρ) 39=cS.yq N ((lI N).kc ρ 17) N:=Fx.uL [] (Va N) ρ (cS.yq N ((lI N).kc ρ 17)) fun n ρ' e d=>by rw[e,d 17 rfl];rfl
theorem Vc(K ρ):(lI N).bd K ρ 25=cS.lq N ((lI N).kc K 39) ((lI N).kc ρ 17) ((lI N).kc ρ 25):=by kernel_rfl
theorem Vd(ρ):(lI N).kc ((lI N).bo ρ) 25=cS.mT N ((lI N).kc ρ 17) N:=Fx.uL [39] (Vc N) ρ (cS.mT N ((lI N).kc ρ 17)) fun n ρ' e d=>by rw[Vb,e,d 17 rfl];rfl
theorem Ve(K ρ):(lI N).bd K ρ 17=cS.w5 N ((lI N).kc K 25) ((lI N).kc ρ 17):=by kernel_rfl
theorem Vf(ρ):(lI N).kc ((lI N).bo ρ) 17=cS.l8 N N:=Fx.uL [25,39] (Ve N) ρ (cS.l8 N) fun n ρ' e d=>by rw[Vd,e];rfl
theorem ald(K):(lI N).top K=cS.b N ((lI N).kc K 17):=by kernel_rfl
noncomputable def ale:Kn Tryz.prog:=⟨163,(lI N).S false (cS N),Fx.u1 (lI N) av Tryz.func163 [17] (ald N) (by rw[Vf];rfl)⟩
noncomputable def Li:Fx:=⟨127,tab,Kn.l [ox N,k20 N,ale N],N,Tryz.f93,[.v an,.v aC,.v I],[.own fI,.v I],[⟨43,[(2,.v I),(8,.v I),(9,.own I),(13,.own I),(16,.own fI),(17,.v I)],[1,1,1,1,1,1,1,1,1,1,1,0,1,0,0],[]⟩,⟨23,[(2,.v I),(4,.obj aC),(8,.v I),(9,.own I),(10,.own I),(11,.v I)],[1,1,1,1,1,1,1,0,1,0,0],[]⟩],none⟩
theorem aaz(K ρ):(Li N).bd K ρ 43=pj.XU N ((Li N).kc ρ 43):=by kernel_rfl
theorem aaA(ρ):(Li N).kc ((Li N).bo ρ) 43=pj.XT N N:=Fx.uL [] (aaz N) ρ (pj.XT N) fun n ρ' e d=>by rw[e];rfl
theorem aaB(K ρ):(Li N).bd K ρ 23=pj.yP N ((Li N).kc K 43) ((Li N).kc ρ 23):=by kernel_rfl
theorem aaC(ρ):(Li N).kc ((Li N).bo ρ) 23=pj.A4 N N:=Fx.uL [43] (aaB N) ρ (pj.A4 N) fun n ρ' e d=>by rw[aaA,e];rfl
theorem h93(K):(Li N).top K=pj.b N ((Li N).kc K 23):=by kernel_rfl
noncomputable def k93:Kn Tryz.prog:=⟨93,(Li N).S false (pj N),Fx.u1 (Li N) av Tryz.func93 [23,43] (h93 N) (by rw[aaC];rfl)⟩
noncomputable def Wn:Fx:=⟨41,tab,Kn.l [ox N,k93 N,FB N],N,Tryz.f94,[.v an,.v aC],[.v aC,.v I],[⟨11,[(2,.obj an),(3,.obj aC),(4,.obj aC),(6,.own fI),(7,.v I)],[1,1,1,0,1,0,0],[]⟩],none⟩
theorem aaD(K ρ):(Wn N).bd K ρ 11=yV.dd N ((Wn N).kc ρ 11):=by kernel_rfl
theorem aaE(ρ):(Wn N).kc ((Wn N).bo ρ) 11=yV.l5 N N:=Fx.uL [] (aaD N) ρ (yV.l5 N) fun n ρ' e d=>by rw[e];rfl
theorem h94(K):(Wn N).top K=yV.b N ((Wn N).kc K 11):=by kernel_rfl
noncomputable def k94:Kn Tryz.prog:=⟨94,(Wn N).S false (yV N),Fx.u1 (Wn N) av Tryz.func94 [11] (h94 N) (by rw[aaE];rfl)⟩
noncomputable def F9:Fx:=⟨325,tab,Kn.l [aki N,Si N,akn N,k39 N,akx N,k53 N,ZB N,akI N,akQ N,k55 N,akX N,alc N,k94 N,afs N],N,Tryz.f284,[.v an,.v bM,.v lQ],[.v bM,.v fI],[⟨83,[(4,.obj bM),(6,.obj bM),(7,.obj fI),(14,.v dO),(16,.v I),(17,.v I)],[1,1,0,1,0,1,1,1,1,1,1,1,1,1,1,1,1,1,0,1,1,1,1,1,1,0,1,0,0],[]⟩],none⟩
theorem Vg(K ρ):(F9 N).bd K ρ 83=mN.XV N ((F9 N).kc ρ 83):=by kernel_rfl
theorem Vh(ρ):(F9 N).kc ((F9 N).bo ρ) 83=mN.l41 N N:=Fx.uL [] (Vg N) ρ (mN.l41 N) fun n ρ' e d=>by rw[e];rfl
theorem alf(K):(F9 N).top K=mN.b N ((F9 N).kc K 83):=by kernel_rfl
noncomputable def alg:Kn Tryz.prog:=⟨284,(F9 N).S false (mN N),Fx.u1 (F9 N) av Tryz.func284 [83] (alf N) (by rw[Vh];rfl)⟩
noncomputable def Io:Fx:=⟨141,tab,Kn.l [afs N,aj8 N,akb N,Si N,afd N,ZB N,akc N,alg N],N,Tryz.f264,[.v an,.v bM,.v lQ],[.v bM,.v fI],[⟨58,[(3,.obj an),(4,.obj bM),(5,.obj lQ),(6,.obj bM),(7,.obj fI)],[1,1,1],[]⟩],none⟩
theorem Vi(K ρ):(Io N).bd K ρ 58=pk.HK N:=by kernel_rfl
theorem Vj(ρ):(Io N).kc ((Io N).bo ρ) 58=pk.N4 N:=Fx.uJ [] (Vi N) ρ
theorem alh(K):(Io N).top K=pk.b N ((Io N).kc K 58):=by kernel_rfl
noncomputable def ali:Kn Tryz.prog:=⟨264,(Io N).S false (pk N),Fx.u1 (Io N) av Tryz.func264 [58] (alh N) (by rw[Vj];rfl)⟩
noncomputable def afR:Fx:=⟨295,tab,Kn.l [ajg N,Si N,ajk N,ajl N,ajt N,ajH N,afd N,OS N,sR N,Y6 N,SW N,ajJ N,ajT N,ajV N,ajY N,aj1 N,ZB N,ali N],N,Tryz.f216,[.v an,.v bM,.v lQ],[.v bM,.v fI],[],none⟩
noncomputable def alj:Kn Tryz.prog:=⟨216,(afR N).S false (Rp N),Fx.u0 (afR N) av Tryz.func216⟩
noncomputable def afS:Fx:=⟨36,tab,Kn.l [Ih N,ajc N,alj N],N,Tryz.f162,[.v an,.v bM,.v lQ],[.v bM,.v fI],[],none⟩
noncomputable def alk:Kn Tryz.prog:=⟨162,(afS N).S false (Rr N),Fx.u0 (afS N) av Tryz.func162⟩
noncomputable def Wo:Fx:=⟨43,tab,Kn.l [ai3 N,alk N],N,Tryz.f92,[.v an,.v X6],[.v bM,.own fI],[⟨13,[(1,.v X6),(2,.obj an),(4,.obj bM),(6,.obj bM),(8,.own fI),(9,.v I)],[1,1,1,1,0,1,0,0],[]⟩],none⟩
theorem aaF(K ρ):(Wo N).bd K ρ 13=yY.n4 N ((Wo N).kc ρ 13):=by kernel_rfl
theorem aaG(ρ):(Wo N).kc ((Wo N).bo ρ) 13=yY.l6 N N:=Fx.uL [] (aaF N) ρ (yY.l6 N) fun n ρ' e d=>by rw[e];rfl
theorem h92(K):(Wo N).top K=yY.b N ((Wo N).kc K 13):=by kernel_rfl
noncomputable def k92:Kn Tryz.prog:=⟨92,(Wo N).S false (yY N),Fx.u1 (Wo N) av Tryz.func92 [13] (h92 N) (by rw[aaG];rfl)⟩
noncomputable def X28:Fx:=⟨46,tab,Kn.l [k90 N,Pk N,k91 N,k92 N],N,Tryz.f28,[.io cU,.v an,.v I],[.v bM,.io cU],[],none⟩
noncomputable def k28:Kn Tryz.prog:=⟨28,(X28 N).S false (F28 N),Fx.u0 (X28 N) av Tryz.func28⟩
noncomputable def zj:Fx:=⟨81,tab,Kn.l [k27 N,k28 N,k53 N,k54 N,Pk N],N,Tryz.f14,[.io cU],[.v an,.v bM,.own dK,.own cF,.io cU],[⟨19,[(0,.io cU),(2,.obj an),(3,.obj bM),(6,.obj an),(7,.obj bM),(8,.own dK),(10,.own cF),(11,.v I),(12,.v I)],[1,1,1,1,1,0,1,0,0,1,0,0,0,1,0,0],[13]⟩,⟨13,[(0,.io cU),(2,.obj an),(3,.obj bM),(6,.obj an),(7,.obj bM),(8,.own dK),(10,.own cF),(11,.v I)],[1,1,1,1,1,0,1,0,0],[]⟩],none⟩
theorem am3:nk Tryz.prog (zj N).E:=Fx.DI (zj N) av (Kn.all _) (by kernel_rfl)
theorem aaH(K ρ):(zj N).bd K ρ 19=m3.rN N ((zj N).kc ρ 13) ((zj N).kc ρ 19):=by kernel_rfl
theorem aaI(ρ):(zj N).kc ((zj N).bo ρ) 19=m3.l9 N ((zj N).kc ρ 13) N:=Fx.uL [] (aaH N) ρ (m3.l9 N ((zj N).kc ρ 13)) fun n ρ' e d=>by rw[e,d 13 rfl];rfl
theorem aaJ(K ρ):(zj N).bd K ρ 13=m3.n4 N ((zj N).kc K 19) ((zj N).kc ρ 13):=by kernel_rfl
theorem OV(ρ):(zj N).kc ((zj N).bo ρ) 13=m3.l6 N N:=Fx.uL [19] (aaJ N) ρ (m3.l6 N) fun n ρ' e d=>by rw[aaI,e];rfl
theorem h14(K):(zj N).top K=m3.b N ((zj N).kc K 13):=by kernel_rfl
theorem am5: ∀x,CY (zj N).E (zj N).fn (zj N).args (zj N).res x=zL (zj N).args (m3 N) x:=Fx.Xn (by kernel_rfl) [13] (fun K=>by kernel_rfl) (h14 N) (by rw[OV];rfl)
noncomputable def k14:Kn Tryz.prog:=⟨14,(zj N).S false (m3 N),Fx.u1 (zj N) av Tryz.func14 [13] (h14 N) (by rw[OV];rfl)⟩
noncomputable def Wp:Fx:=⟨26,tab,[],N,Tryz.f17,[.v ca,.v ca],[.v B],[⟨9,[(0,.v ca),(1,.v ca),(5,.v I)],[1,1,0,1,0,0],[]⟩],none⟩
theorem afT(K ρ):(Wp N).bd K ρ 9=wM.cL N ((Wp N).kc ρ 9):=by kernel_rfl
theorem afU(ρ):(Wp N).kc ((Wp N).bo ρ) 9=wM.l4 N N:=Fx.uL [] (afT N) ρ (wM.l4 N) fun n ρ' e d=>by rw[e];rfl
theorem h17(K):(Wp N).top K=wM.b N ((Wp N).kc K 9):=by kernel_rfl
noncomputable def k17:Kn Tryz.prog:=⟨17,(Wp N).S true (wM N),Fx.u1 (Wp N) av Tryz.func17 [9] (h17 N) (by rw[afU];rfl)⟩
noncomputable def X4:Fx:=⟨203,tab,Kn.l [k12 N,k13 N,k14 N,k16 N,k17 N],N,Tryz.f4,[.v LU],[.v B],[⟨39,[(5,.v dO),(6,.v cB),(8,.own dK),(10,.v I),(11,.v B),(12,.v I),(13,.v I)],[1,1,1,1,1,1,0,1,0,0,1,0,0,1,1,1,0,1,0,0],[21]⟩,⟨21,[(5,.v dO),(6,.v cB),(8,.own dK),(10,.v I)],[1,1,1,1,1,1,0,1,0,0],[]⟩],none⟩
theorem alm:nk Tryz.prog (X4 N).E:=Fx.DI (X4 N) av (Kn.all _) (by kernel_rfl)
theorem afV(K ρ):(X4 N).bd K ρ 39=F4.wI N ((X4 N).kc ρ 21) ((X4 N).kc ρ 39):=by kernel_rfl
theorem afW(ρ):(X4 N).kc ((X4 N).bo ρ) 39=F4.yq N ((X4 N).kc ρ 21) N:=Fx.uL [] (afV N) ρ (F4.yq N ((X4 N).kc ρ 21)) fun n ρ' e d=>by rw[e,d 21 rfl];rfl
theorem afX(K ρ):(X4 N).bd K ρ 21=F4.X0 N ((X4 N).kc K 39) ((X4 N).kc ρ 21):=by kernel_rfl
theorem Wq(ρ):(X4 N).kc ((X4 N).bo ρ) 21=F4.XZ N N:=Fx.uL [39] (afX N) ρ (F4.XZ N) fun n ρ' e d=>by rw[afW,e];rfl
theorem h4(K):(X4 N).top K=F4.b N ((X4 N).kc K 21):=by kernel_rfl
theorem aln: ∀x,CY (X4 N).E (X4 N).fn (X4 N).args (X4 N).res x=zL (X4 N).args (F4 N) x:=Fx.Xn (by kernel_rfl) [21] (fun K=>by kernel_rfl) (h4 N) (by rw[Wq];rfl)
noncomputable def k4:Kn Tryz.prog:=⟨4,(X4 N).S true (F4 N),Fx.u1 (X4 N) av Tryz.func4 [21] (h4 N) (by rw[Wq];rfl)⟩
end
end VM.F
