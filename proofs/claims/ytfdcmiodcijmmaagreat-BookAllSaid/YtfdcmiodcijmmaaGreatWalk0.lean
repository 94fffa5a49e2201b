/- A part of the proof of BookAll of layer 18: each function of the program does what its equation says; printed by a program. -/
import Derived.Test.YtfdcmiodcijmmaaGreatText
import Derived.Test.YtfdcmiodcijmmaaGreatVm8
import Derived.Test.YtfdcmiodcijmmaaGreatProg
import Derived.KernelRfl
set_option linter.all false
noncomputable section
namespace VM.F
open Go VM Go.Proofs
open Tryz
set_option maxRecDepth 100000
abbrev I:Ty:= .int .i64
abbrev U:Ty:= .int .u64
abbrev B:Ty:= .bool
abbrev Z:Ty:= .str
abbrev Nu:Ty:= .slice pk
abbrev Fg:Ty:= .slice ic
abbrev ij:Ty:= .slice Iy
abbrev Hp:Ty:= .slice cG
abbrev aeG:Ty:= .slice dn
abbrev abT:Ty:= .slice MF
abbrev bL:Ty:= .slice lF
abbrev Nv:Ty:= .slice pn
abbrev jD:Ty:= .slice CW
abbrev eD:Ty:= .slice m0
abbrev vo:Ty:= .slice J9
abbrev m1:Ty:= .slice wz
abbrev j8:Ty:= .slice Hj
abbrev aha:Ty:= .slice tI8
abbrev aeH:Ty:= .slice Pl
abbrev XW:Ty:= .slice xn
abbrev XX:Ty:= .slice aY
abbrev abU:Ty:= .slice bE
abbrev VO:Ty:= .slice uv
abbrev aak:Ty:= .slice Cp
abbrev LI:Ty:= .slice I
abbrev LU:Ty:= .slice U
def tab:List (Nat×Ty):=[(2,I),(3,I),(4,B),(22,jD),(24,aY),(25,ij),(26,jD),(27,bL),(28,bL),(29,LI),(30,j8),(32,bE),(35,ij),(39,LU),(45,LI),(56,I),(60,Iy),(65,dn),(67,CW),(75,vo),(82,Hj),(116,U),(118,cG),(151,lF),(163,J9),(164,eD),(171,lF),(172,m1),(186,Iy),(204,m0),(220,CW),(243,bL),(244,lF),(249,bL),(261,wz),(297,Hp),(312,(.arr 2 I)),(317,lF),(340,(.arr 13 B))]
theorem ax:yL prog tab:=⟨κ,κ⟩
section
variable(N:Nat)
abbrev MU:iI:=np.S N
abbrev MV:iI:=od.S N
theorem MW:fj prog 168 (MV N):=Jl N func168 κ κ κ κ
def Hr:Kn prog:=⟨168,MV N,MW N⟩
theorem MX:fj prog 250 (MU N):=Jm N func250 κ κ κ κ
def Hs:Kn prog:=⟨250,MU N,MX N⟩
abbrev Fh:iI:=qi (.pair (.int .i64) (.pair (.int .i64) .unit)) N
def CB.Ht:Go.Shelf.Ren:={f:=λi=>0,t:=λi=>cond (Nat.beq i 3) 186 (cond (Nat.beq i 4) 4 25),g:=λ_=>0}
theorem CB.sL:B1 prog (.pair (.int .i64) (.pair (.int .i64) .unit)) CB.Ht 255 f255:=⟨Tryz.func255.trans κ,underlying4,underlying25,eN (x:= .inl 186) κ,δ,κ⟩
theorem Hu:fj prog 255 (Fh N):=me CB.sL κ κ N
def Fi:Kn prog:=⟨255,Fh N,Hu N⟩
abbrev Fj:iI:=qi (.pair (.int .i64) (.pair (.int .i64) (.pair (.int .i64) (.pair (.int .i64) .unit)))) N
def CC.Ht:Go.Shelf.Ren:={f:=λi=>0,t:=λi=>cond (Nat.beq i 3) 220 (cond (Nat.beq i 4) 4 26),g:=λ_=>0}
theorem CC.sL:B1 prog (.pair (.int .i64) (.pair (.int .i64) (.pair (.int .i64) (.pair (.int .i64) .unit)))) CC.Ht 256 f256:=⟨Tryz.func256.trans κ,underlying4,underlying26,eN (x:= .inl 220) κ,δ,κ⟩
theorem Hv:fj prog 256 (Fj N):=me CC.sL κ κ N
def Fk:Kn prog:=⟨256,Fj N,Hv N⟩
abbrev Fl:iI:=qi (.pair (.int .i64) (.pair (.int .i64) (.pair (.int .i64) .unit))) N
def CD.Ht:Go.Shelf.Ren:={f:=λi=>0,t:=λi=>cond (Nat.beq i 3) 171 (cond (Nat.beq i 4) 4 27),g:=λ_=>0}
theorem CD.sL:B1 prog (.pair (.int .i64) (.pair (.int .i64) (.pair (.int .i64) .unit))) CD.Ht 257 f257:=⟨Tryz.func257.trans κ,underlying4,underlying27,eN (x:= .inl 171) κ,δ,κ⟩
theorem Hw:fj prog 257 (Fl N):=me CD.sL κ κ N
def zI:Kn prog:=⟨257,Fl N,Hw N⟩
abbrev Fm:iI:=qi (.pair (.int .i64) (.pair (.int .i64) (.pair (.int .i64) .unit))) N
def CE.Ht:Go.Shelf.Ren:={f:=λi=>0,t:=λi=>cond (Nat.beq i 3) 151 (cond (Nat.beq i 4) 4 28),g:=λ_=>0}
theorem CE.sL:B1 prog (.pair (.int .i64) (.pair (.int .i64) (.pair (.int .i64) .unit))) CE.Ht 258 f258:=⟨Tryz.func258.trans κ,underlying4,underlying28,eN (x:= .inl 151) κ,δ,κ⟩
theorem Hy:fj prog 258 (Fm N):=me CE.sL κ κ N
def zJ:Kn prog:=⟨258,Fm N,Hy N⟩
abbrev Fo:iI:=qi (.int .i64) N
def CF.Ht:Go.Shelf.Ren:={f:=λi=>0,t:=λi=>cond (Nat.beq i 3) 2 (cond (Nat.beq i 4) 4 29),g:=λ_=>0}
theorem CF.sL:B1 prog (.int .i64) CF.Ht 259 f259:=⟨Tryz.func259.trans κ,underlying4,underlying29,eN (x:= .inl 2) κ,δ,κ⟩
theorem Hz:fj prog 259 (Fo N):=me CF.sL κ κ N
def Fp:Kn prog:=⟨259,Fo N,Hz N⟩
abbrev Fs:iI:=qi (.pair (.int .i64) (.pair (.int .i64) (.pair (.int .i64) (.pair (.int .i64) (.pair (.int .i64) (.pair (.int .i64) .unit)))))) N
def CG.Ht:Go.Shelf.Ren:={f:=λi=>0,t:=λi=>cond (Nat.beq i 3) 82 (cond (Nat.beq i 4) 4 30),g:=λ_=>0}
theorem CG.sL:B1 prog (.pair (.int .i64) (.pair (.int .i64) (.pair (.int .i64) (.pair (.int .i64) (.pair (.int .i64) (.pair (.int .i64) .unit)))))) CG.Ht 260 f260:=⟨Tryz.func260.trans κ,underlying4,underlying30,eN (x:= .inl 82) κ,δ,κ⟩
theorem HA:fj prog 260 (Fs N):=me CG.sL κ κ N
def zK:Kn prog:=⟨260,Fs N,HA N⟩
abbrev Ft:iI:=iE (.pair (.int .i64) (.pair (.int .i64) (.pair (.int .i64) .unit))) N
def CH.Ht:Go.Shelf.Ren:={f:=λi=>cond (Nat.beq i 29) 318 (cond (Nat.beq i 30) 319 0),t:=λi=>cond (Nat.beq i 24) 28 (cond (Nat.beq i 9) 151 (cond (Nat.beq i 3) 3 (cond (Nat.beq i 4) 4 0))),g:=λ_=>0}
theorem CH.sL:Jn prog (.pair (.int .i64) (.pair (.int .i64) (.pair (.int .i64) .unit))) CH.Ht 283 f283 f318:=⟨Tryz.func283.trans κ,underlying3,underlying4,underlying28,eN (x:= .inl 151) κ,δ,κ⟩
theorem HB:fj prog 283 (Ft N):=yQ CH.sL ⟨func318,κ,κ,κ,κ⟩ κ κ N
def MY:Kn prog:=⟨283,Ft N,HB N⟩
abbrev Fu:iI:=iE (.pair (.int .i64) (.pair (.int .i64) (.pair (.int .i64) .unit))) N
def CI.Ht:Go.Shelf.Ren:={f:=λi=>cond (Nat.beq i 29) 320 (cond (Nat.beq i 30) 321 0),t:=λi=>cond (Nat.beq i 24) 27 (cond (Nat.beq i 9) 171 (cond (Nat.beq i 3) 3 (cond (Nat.beq i 4) 4 0))),g:=λ_=>0}
theorem CI.sL:Jn prog (.pair (.int .i64) (.pair (.int .i64) (.pair (.int .i64) .unit))) CI.Ht 285 f285 f320:=⟨Tryz.func285.trans κ,underlying3,underlying4,underlying27,eN (x:= .inl 171) κ,δ,κ⟩
theorem HC:fj prog 285 (Fu N):=yQ CI.sL ⟨func320,κ,κ,κ,κ⟩ κ κ N
def MZ:Kn prog:=⟨285,Fu N,HC N⟩
def Pp:Fx:=⟨21,tab,[],N,f92,[],[.v aY,.v bE],[],none⟩
theorem aeI:mI prog (Pp N).E:=Fx.AV (Pp N) ax trivial κ
theorem aeJ: ∀x,CN (Pp N).E (Pp N).fn (Pp N).args (Pp N).res x=yM (Pp N).args (F92 N) x:=Fx.Jk κ
def k92:Kn prog:=⟨92,(Pp N).S false (F92 N),Fx.u0 (Pp N) ax func92⟩
def XY:Fx:=⟨15,tab,[],N,f174,[.v I,.v I,.v I],[.v B],[],none⟩
def abV:Kn prog:=⟨174,(XY N).S true (wL N),Fx.u0 (XY N) ax func174⟩
def Ry:Fx:=⟨68,tab,Kn.l [abV N],N,f90,[.v aY],[.v B],[⟨9,[(1,.obj aY),(11,.v jD),(12,.v I),(13,.v I)],[1,1,0,1,0,0],[]⟩],none⟩
theorem XZ(K ρ):(Ry N).bd K ρ 9=uA.de N ((Ry N).kc ρ 9):=κ
theorem X0(ρ):(Ry N).kc ((Ry N).cM ρ) 9=uA.l4 N N:=Fx.uL [] (XZ N) ρ (uA.l4 N) λn ρ' e d=>by rw[e];rfl
theorem h90(K):(Ry N).top K=uA.b N ((Ry N).kc K 9):=κ
def k90:Kn prog:=⟨90,(Ry N).S true (uA N),Fx.u1 (Ry N) ax func90 [9] (h90 N) (by rw[X0];rfl)⟩
def Kr:Fx:=⟨39,tab,Kn.l [k90 N],N,f32,[.v aY],[.v bE,.v I],[⟨15,[(2,.obj bE),(4,.dT bE [.fG 4] I),(24,.v jD),(25,.v I),(26,.v I)],[1,1,1,1,0,1,0,0],[]⟩,⟨12,[(1,.obj aY),(2,.obj bE),(4,.dT bE [.fG 4] I)],[1,1,1,1],[]⟩],some (bE,[.fG 4],I,[4])⟩
theorem Tm(K ρ):(Kr N).bd K ρ 15=pC.pA N ((Kr N).kc ρ 15):=κ
theorem Tn(ρ):(Kr N).kc ((Kr N).cM ρ) 15=pC.l7 N N:=Fx.uL [] (Tm N) ρ (pC.l7 N) λn ρ' e d=>by rw[e];rfl
theorem To(K ρ):(Kr N).bd K ρ 12=pC.LC N ((Kr N).kc K 15):=κ
theorem Tp(ρ):(Kr N).kc ((Kr N).cM ρ) 12=pC.j6 N:=Fx.uJ [15] (To N) ρ (by rw[Tn];rfl)
theorem h32(K):(Kr N).top K=pC.b N ((Kr N).kc K 12):=κ
def k32:Kn prog:=⟨32,(Kr N).S false (pC N),Fx.u1 (Kr N) ax func32 [12,15] (h32 N) (by rw[Tp];rfl)⟩
def Fv:Fx:=⟨46,tab,[],N,f232,[.v ij],[.v B],[⟨5,[(0,.v ij),(5,.v ij),(6,.v I),(7,.v I)],[1,0,1,0,0],[]⟩],none⟩
theorem Tq(K ρ):(Fv N).bd K ρ 5=kG.dY N ((Fv N).kc ρ 5):=κ
theorem Ts(ρ):(Fv N).kc ((Fv N).cM ρ) 5=kG.l2 N N:=Fx.uL [] (Tq N) ρ (kG.l2 N) λn ρ' e d=>by rw[e];rfl
theorem abW(K):(Fv N).top K=kG.b N ((Fv N).kc K 5):=κ
def X1:Kn prog:=⟨232,(Fv N).S true (kG N),Fx.u1 (Fv N) ax func232 [5] (abW N) (by rw[Ts];rfl)⟩
def Fw:Fx:=⟨77,tab,[],N,f222,[.v jD],[.v B],[⟨7,[(0,.v jD),(3,.obj (.arr 13 B)),(6,.v jD),(7,.v I),(8,.v I)],[1,1,0,1,0,0],[]⟩],none⟩
theorem Tt(K ρ):(Fw N).bd K ρ 7=iQ.zW N ((Fw N).kc ρ 7):=κ
theorem Tu(ρ):(Fw N).kc ((Fw N).cM ρ) 7=iQ.l3 N N:=Fx.uL [] (Tt N) ρ (iQ.l3 N) λn ρ' e d=>by rw[e];rfl
theorem abX(K):(Fw N).top K=iQ.b N ((Fw N).kc K 7):=κ
def Tv:Kn prog:=⟨222,(Fw N).S true (iQ N),Fx.u1 (Fw N) ax func222 [7] (abX N) (by rw[Tu];rfl)⟩
def Fy:Fx:=⟨23,tab,Kn.l [X1 N],N,f144,[.v ij,.v I],[.v I],[⟨9,[(1,.v I),(10,.v ij),(11,.v I),(12,.v I)],[1,1,0,1,0,0],[]⟩],none⟩
theorem Tw(K ρ):(Fy N).bd K ρ 9=jt.de N ((Fy N).kc ρ 9):=κ
theorem Tx(ρ):(Fy N).kc ((Fy N).cM ρ) 9=jt.l4 N N:=Fx.uL [] (Tw N) ρ (jt.l4 N) λn ρ' e d=>by rw[e];rfl
theorem abY(K):(Fy N).top K=jt.b N ((Fy N).kc K 9):=κ
def Tz:Kn prog:=⟨144,(Fy N).S true (jt N),Fx.u1 (Fy N) ax func144 [9] (abY N) (by rw[Tx];rfl)⟩
def FA:Fx:=⟨27,tab,Kn.l [X1 N,Tv N,Tz N],N,f137,[.v ij,.v jD],[.v B],[⟨9,[(0,.v ij),(15,.v jD),(16,.v I),(17,.v I)],[1,1,0,1,0,0],[]⟩],none⟩
theorem TA(K ρ):(FA N).bd K ρ 9=lf.de N ((FA N).kc ρ 9):=κ
theorem TB(ρ):(FA N).kc ((FA N).cM ρ) 9=lf.l4 N N:=Fx.uL [] (TA N) ρ (lf.l4 N) λn ρ' e d=>by rw[e];rfl
theorem abZ(K):(FA N).top K=lf.b N ((FA N).kc K 9):=κ
def ab0:Kn prog:=⟨137,(FA N).S true (lf N),Fx.u1 (FA N) ax func137 [9] (abZ N) (by rw[TB];rfl)⟩
def X2:Fx:=⟨30,tab,[],N,f118,[.v I,.v I],[.v B],[],none⟩
def X3:Kn prog:=⟨118,(X2 N).S true (GH N),Fx.u0 (X2 N) ax func118⟩
def X4:Fx:=⟨19,tab,[],N,f233,[.v I,.v I,.v lF],[.v I],[],none⟩
def X5:Kn prog:=⟨233,(X4 N).S true (GI N),Fx.u0 (X4 N) ax func233⟩
def FB:Fx:=⟨41,tab,Kn.l [X3 N,X5 N],N,f138,[.v bL],[.v B],[⟨5,[(0,.v bL),(5,.v bL),(6,.v I),(7,.v I)],[1,0,1,0,0],[]⟩],none⟩
theorem TC(K ρ):(FB N).bd K ρ 5=jS.dY N ((FB N).kc ρ 5):=κ
theorem TD(ρ):(FB N).kc ((FB N).cM ρ) 5=jS.l2 N N:=Fx.uL [] (TC N) ρ (jS.l2 N) λn ρ' e d=>by rw[e];rfl
theorem ab1(K):(FB N).top K=jS.b N ((FB N).kc K 5):=κ
def TE:Kn prog:=⟨138,(FB N).S true (jS N),Fx.u1 (FB N) ax func138 [5] (ab1 N) (by rw[TD];rfl)⟩
def X60:Fx:=⟨8,tab,[],N,f60,[.v I],[.v cG],[],none⟩
def VP:Kn prog:=⟨60,(X60 N).S true (Ei N),Fx.u0 (X60 N) ax func60⟩
def FC:Fx:=⟨51,tab,Kn.l [Hr N],N,f234,[.v Hp],[.v cG,.v B],[⟨7,[(2,.obj cG),(4,.v I),(5,.v U),(6,.v U),(10,.v Hp),(11,.v I),(12,.v I)],[1,1,0,1,0,0],[]⟩],none⟩
theorem TF(K ρ):(FC N).bd K ρ 7=je.zW N ((FC N).kc ρ 7):=κ
theorem TG(ρ):(FC N).kc ((FC N).cM ρ) 7=je.l3 N N:=Fx.uL [] (TF N) ρ (je.l3 N) λn ρ' e d=>by rw[e];rfl
theorem ab2(K):(FC N).top K=je.b N ((FC N).kc K 7):=κ
def Kf:Kn prog:=⟨234,(FC N).S true (je N),Fx.u1 (FC N) ax func234 [7] (ab2 N) (by rw[TG];rfl)⟩
def FD:Fx:=⟨31,tab,Kn.l [TE N,VP N,Kf N],N,f140,[.v bL],[.v cG],[⟨11,[(2,.obj cG),(3,.own cG),(12,.v bL),(13,.v I),(14,.v I)],[1,1,1,0,1,0,0],[]⟩],none⟩
theorem Pq(K ρ):(FD N).bd K ρ 11=kL.fX N ((FD N).kc ρ 11):=κ
theorem Pr(ρ):(FD N).kc ((FD N).cM ρ) 11=kL.l5 N N:=Fx.uL [] (Pq N) ρ (kL.l5 N) λn ρ' e d=>by rw[e];rfl
theorem ab3(K):(FD N).top K=kL.b N ((FD N).kc K 11):=κ
def ab4:Kn prog:=⟨140,(FD N).S true (kL N),Fx.u1 (FD N) ax func140 [11] (ab3 N) (by rw[Pr];rfl)⟩
def X6:Fx:=⟨27,tab,[],N,f148,[.v cG,.v cG],[.v I],[],none⟩
def X8:Kn prog:=⟨148,(X6 N).S true (Jz N),Fx.u0 (X6 N) ax func148⟩
def X9:Fx:=⟨6,tab,Kn.l [X8 N],N,f139,[.v cG],[.v I],[],none⟩
def Ps:Kn prog:=⟨139,(X9 N).S true (GO N),Fx.u0 (X9 N) ax func139⟩
def Ya:Fx:=⟨19,tab,[],N,f247,[.v I,.v I],[.v B],[],none⟩
def Yb:Kn prog:=⟨247,(Ya N).S true (LL N),Fx.u0 (Ya N) ax func247⟩
def Yc:Fx:=⟨5,tab,[],N,f175,[.v I],[.v B],[],none⟩
def TH:Kn prog:=⟨175,(Yc N).S true (GK N),Fx.u0 (Yc N) ax func175⟩
def Yd:Fx:=⟨19,tab,[],N,f248,[.v I,.v I,.v lF],[.v I],[],none⟩
def Ye:Kn prog:=⟨248,(Yd N).S true (Jw N),Fx.u0 (Yd N) ax func248⟩
def FE:Fx:=⟨47,tab,Kn.l [Yb N,TH N,Ye N],N,f167,[.v bL],[.v B],[⟨5,[(0,.v bL),(5,.v bL),(6,.v I),(7,.v I)],[1,0,1,0,0],[]⟩],none⟩
theorem TI(K ρ):(FE N).bd K ρ 5=js.dY N ((FE N).kc ρ 5):=κ
theorem TJ(ρ):(FE N).kc ((FE N).cM ρ) 5=js.l2 N N:=Fx.uL [] (TI N) ρ (js.l2 N) λn ρ' e d=>by rw[e];rfl
theorem ab5(K):(FE N).top K=js.b N ((FE N).kc K 5):=κ
def M4:Kn prog:=⟨167,(FE N).S true (js N),Fx.u1 (FE N) ax func167 [5] (ab5 N) (by rw[TJ];rfl)⟩
def FF:Fx:=⟨37,tab,Kn.l [M4 N,VP N,Kf N],N,f235,[.v bL,.v I],[.v cG],[⟨11,[(1,.v I),(4,.obj cG),(5,.own cG),(14,.v bL),(15,.v I),(16,.v I)],[1,1,1,0,1,0,0],[]⟩],none⟩
theorem Pu(K ρ):(FF N).bd K ρ 11=kN.fX N ((FF N).kc ρ 11):=κ
theorem Pv(ρ):(FF N).kc ((FF N).cM ρ) 11=kN.l5 N N:=Fx.uL [] (Pu N) ρ (kN.l5 N) λn ρ' e d=>by rw[e];rfl
theorem ab6(K):(FF N).top K=kN.b N ((FF N).kc K 11):=κ
def ab7:Kn prog:=⟨235,(FF N).S true (kN N),Fx.u1 (FF N) ax func235 [11] (ab6 N) (by rw[Pv];rfl)⟩
def FG:Fx:=⟨15,tab,Kn.l [ab7 N,Ps N,M4 N],N,f141,[.v bL],[.v B],[⟨5,[(0,.v bL),(4,.v I)],[1,0,1,0,0],[]⟩],none⟩
theorem TK(K ρ):(FG N).bd K ρ 5=lj.dY N ((FG N).kc ρ 5):=κ
theorem TL(ρ):(FG N).kc ((FG N).cM ρ) 5=lj.l2 N N:=Fx.uL [] (TK N) ρ (lj.l2 N) λn ρ' e d=>by rw[e];rfl
theorem ab8(K):(FG N).top K=lj.b N ((FG N).kc K 5):=κ
def ab9:Kn prog:=⟨141,(FG N).S true (lj N),Fx.u1 (FG N) ax func141 [5] (ab8 N) (by rw[TL];rfl)⟩
def Yf:Fx:=⟨61,tab,[],N,f201,[.v Hj],[.v B],[],none⟩
def aca:Kn prog:=⟨201,(Yf N).S true (Oq N),Fx.u0 (Yf N) ax func201⟩
def FH:Fx:=⟨34,tab,Kn.l [aca N],N,f142,[.v j8],[.v B],[⟨5,[(0,.v j8),(5,.v j8),(6,.v I),(7,.v I)],[1,0,1,0,0],[]⟩],none⟩
theorem TM(K ρ):(FH N).bd K ρ 5=jU.dY N ((FH N).kc ρ 5):=κ
theorem TN(ρ):(FH N).kc ((FH N).cM ρ) 5=jU.l2 N N:=Fx.uL [] (TM N) ρ (jU.l2 N) λn ρ' e d=>by rw[e];rfl
theorem acb(K):(FH N).top K=jU.b N ((FH N).kc K 5):=κ
def TO:Kn prog:=⟨142,(FH N).S true (jU N),Fx.u1 (FH N) ax func142 [5] (acb N) (by rw[TN];rfl)⟩
def FI:Fx:=⟨25,tab,Kn.l [Tv N],N,f197,[.v jD,.v I],[.v CW,.v B],[⟨9,[(1,.v I),(4,.obj CW),(12,.v jD),(13,.v I),(14,.v I)],[1,1,0,1,0,0],[]⟩],none⟩
theorem TP(K ρ):(FI N).bd K ρ 9=kK.de N ((FI N).kc ρ 9):=κ
theorem TQ(ρ):(FI N).kc ((FI N).cM ρ) 9=kK.l4 N N:=Fx.uL [] (TP N) ρ (kK.l4 N) λn ρ' e d=>by rw[e];rfl
theorem acd(K):(FI N).top K=kK.b N ((FI N).kc K 9):=κ
def ace:Kn prog:=⟨197,(FI N).S true (kK N),Fx.u1 (FI N) ax func197 [9] (acd N) (by rw[TQ];rfl)⟩
def Yg:Fx:=⟨15,tab,Kn.l [ace N],N,f143,[.v bE,.v I],[.v B],[],none⟩
def TR:Kn prog:=⟨143,(Yg N).S true (Ar N),Fx.u0 (Yg N) ax func143⟩
def Yh:Fx:=⟨9,tab,[],N,f147,[.v I],[.v B],[],none⟩
def M5:Kn prog:=⟨147,(Yh N).S true (Aq N),Fx.u0 (Yh N) ax func147⟩
def Yi:Fx:=⟨6,tab,Kn.l [M5 N],N,f146,[.v I],[.v B],[],none⟩
def acf:Kn prog:=⟨146,(Yi N).S true (Oz N),Fx.u0 (Yi N) ax func146⟩
def FJ:Fx:=⟨19,tab,Kn.l [acf N],N,f236,[.v LI,.fn 146 .unit],[.v I],[⟨5,[(0,.v LI),(1,.fn 146 .unit),(7,.v I),(8,.v I)],[1,0,1,0,0],[]⟩],none⟩
theorem TS(K ρ):(FJ N).bd K ρ 5=m7.dY N ((FJ N).kc ρ 5):=κ
theorem TT(ρ):(FJ N).kc ((FJ N).cM ρ) 5=m7.l2 N N:=Fx.uL [] (TS N) ρ (m7.l2 N) λn ρ' e d=>by rw[e];rfl
theorem acg(K):(FJ N).top K=m7.b N ((FJ N).kc K 5):=κ
def ach:Kn prog:=⟨236,(FJ N).S true (m7 N),Fx.u1 (FJ N) ax func236 [5] (acg N) (by rw[TT];rfl)⟩
def Yj:Fx:=⟨9,tab,Kn.l [ach N],N,f145,[.v LI,.fn 146 .unit],[.v B],[],none⟩
def aci:Kn prog:=⟨145,(Yj N).S true (OA N),Fx.u0 (Yj N) ax func145⟩
def CZ:Fx:=⟨133,tab,Kn.l [k90 N,ab0 N,TE N,ab4 N,Ps N,ab9 N,TO N,TR N,Tz N,aci N],N,f50,[.v aY,.v bE],[.v B],[⟨45,[(2,.obj aY),(3,.obj bE),(109,.v j8),(110,.v I),(111,.v I)],[1,1,1,1,0,1,0,0],[]⟩,⟨33,[(2,.obj aY),(3,.obj bE),(83,.v bL),(84,.v I),(85,.v I)],[1,1,1,0,1,0,0],[]⟩,⟨9,[(2,.obj aY),(3,.obj bE),(57,.v bL),(58,.v I),(59,.v I)],[1,1,0,1,0,0],[]⟩],none⟩
theorem TU(K ρ):(CZ N).bd K ρ 45=gL.Cd N ((CZ N).kc ρ 45):=κ
theorem TV(ρ):(CZ N).kc ((CZ N).cM ρ) 45=gL.Cb N N:=Fx.uL [] (TU N) ρ (gL.Cb N) λn ρ' e d=>by rw[e];rfl
theorem TW(K ρ):(CZ N).bd K ρ 33=gL.vb N ((CZ N).kc K 45) ((CZ N).kc ρ 33):=κ
theorem TX(ρ):(CZ N).kc ((CZ N).cM ρ) 33=gL.vY N N:=Fx.uL [45] (TW N) ρ (gL.vY N) λn ρ' e d=>by rw[TV,e];rfl
theorem Yk(K ρ):(CZ N).bd K ρ 9=gL.de N ((CZ N).kc K 33) ((CZ N).kc ρ 9):=κ
theorem Yl(ρ):(CZ N).kc ((CZ N).cM ρ) 9=gL.l4 N N:=Fx.uL [33,45] (Yk N) ρ (gL.l4 N) λn ρ' e d=>by rw[TX,e];rfl
theorem h50(K):(CZ N).top K=gL.b N ((CZ N).kc K 9):=κ
def VQ:Kn prog:=⟨50,(CZ N).S true (gL N),Fx.u1 (CZ N) ax func50 [9,33,45] (h50 N) (by rw[Yl];rfl)⟩
def FK:Fx:=⟨50,tab,Kn.l [M5 N],N,f178,[.v J9],[.v B],[⟨5,[(1,.obj J9),(9,.v (.arr 2 I)),(10,.v I)],[1,0,1,0,0],[]⟩],none⟩
theorem TY(K ρ):(FK N).bd K ρ 5=j1.dY N ((FK N).kc ρ 5):=κ
theorem TZ(ρ):(FK N).kc ((FK N).cM ρ) 5=j1.l2 N N:=Fx.uL [] (TY N) ρ (j1.l2 N) λn ρ' e d=>by rw[e];rfl
theorem acj(K):(FK N).top K=j1.b N ((FK N).kc K 5):=κ
def Ym:Kn prog:=⟨178,(FK N).S true (j1 N),Fx.u1 (FK N) ax func178 [5] (acj N) (by rw[TZ];rfl)⟩
def Yn:Fx:=⟨6,tab,Kn.l [Ym N],N,f177,[.v J9],[.v B],[],none⟩
def ack:Kn prog:=⟨177,(Yn N).S true (Ta N),Fx.u0 (Yn N) ax func177⟩
def FL:Fx:=⟨19,tab,Kn.l [ack N],N,f251,[.v vo,.fn 177 .unit],[.v I],[⟨5,[(0,.v vo),(1,.fn 177 .unit),(7,.v I),(8,.v I)],[1,0,1,0,0],[]⟩],none⟩
theorem T0(K ρ):(FL N).bd K ρ 5=m8.dY N ((FL N).kc ρ 5):=κ
theorem T1(ρ):(FL N).kc ((FL N).cM ρ) 5=m8.l2 N N:=Fx.uL [] (T0 N) ρ (m8.l2 N) λn ρ' e d=>by rw[e];rfl
theorem acm(K):(FL N).top K=m8.b N ((FL N).kc K 5):=κ
def acn:Kn prog:=⟨251,(FL N).S true (m8 N),Fx.u1 (FL N) ax func251 [5] (acm N) (by rw[T1];rfl)⟩
def Yo:Fx:=⟨9,tab,Kn.l [acn N],N,f176,[.v vo,.fn 177 .unit],[.v B],[],none⟩
def aco:Kn prog:=⟨176,(Yo N).S true (OW N),Fx.u0 (Yo N) ax func176⟩
def X77:Fx:=⟨10,tab,[],N,f77,[.v I],[.v U],[],none⟩
def k77:Kn prog:=⟨77,(X77 N).S true (Vz N),Fx.u0 (X77 N) ax func77⟩
def Yp:Fx:=⟨51,tab,[],N,f237,[.v U,.v U],[.v U,.v U],[],none⟩
def Yq:Kn prog:=⟨237,(Yp N).S true (Jt N),Fx.u0 (Yp N) ax func237⟩
def HD:Fx:=⟨47,tab,Kn.l [Hs N],N,f238,[.v B,.v U,.v U],[.v cG,.v B],[⟨14,[(1,.v U),(2,.v U),(6,.obj cG)],[1,1,1],[]⟩],none⟩
theorem Pw(K ρ):(HD N).bd K ρ 14=lS.SV N:=κ
theorem Px(ρ):(HD N).kc ((HD N).cM ρ) 14=lS.j7 N:=Fx.uJ [] (Pw N) ρ
theorem acp(K):(HD N).top K=lS.b N ((HD N).kc K 14):=κ
def Yr:Kn prog:=⟨238,(HD N).S true (lS N),Fx.u1 (HD N) ax func238 [14] (acp N) (by rw[Px];rfl)⟩
def Ys:Fx:=⟨29,tab,Kn.l [k77 N,Yq N,Yr N],N,f149,[.v I,.v I],[.v cG],[],none⟩
def Yt:Kn prog:=⟨149,(Ys N).S true (Jv N),Fx.u0 (Ys N) ax func149⟩
def Yu:Fx:=⟨12,tab,[],N,f252,[.v I,.v cG],[.v m0],[],none⟩
def Yv:Kn prog:=⟨252,(Yu N).S true (JR N),Fx.u0 (Yu N) ax func252⟩
def Yw:Fx:=⟨41,tab,Kn.l [Ym N,M5 N,Yt N,Yv N],N,f179,[.v J9,.v I],[.own m0,.v I],[],none⟩
def acq:Kn prog:=⟨179,(Yw N).S false (Me N),Fx.u0 (Yw N) ax func179⟩
def Yx:Fx:=⟨22,tab,Kn.l [Fi N,Fk N,zI N,zJ N,Fp N,zK N],N,f183,[.v bE],[.v bE],[],none⟩
def Yy:Kn prog:=⟨183,(Yx N).S false (L4 N),Fx.u0 (Yx N) ax func183⟩
def rO:Fx:=⟨42,tab,Kn.l [VP N,Kf N,Ps N],N,f282,[.v bL],[.v B],[⟨13,[(0,.v bL),(3,.v I),(4,.own cG),(9,.v I),(12,.v bL),(13,.v I),(14,.v I)],[1,0,1,0,0,1,1,0,0,1,1,0,1,0,0],[5]⟩,⟨5,[(0,.v bL),(9,.v I)],[1,0,1,0,0],[]⟩],none⟩
theorem Py(K ρ):(rO N).bd K ρ 13=ei.B4 N ((rO N).kc ρ 5) ((rO N).kc ρ 13):=κ
theorem Pz(ρ):(rO N).kc ((rO N).cM ρ) 13=ei.l6 N ((rO N).kc ρ 5) N:=Fx.uL [] (Py N) ρ (ei.l6 N ((rO N).kc ρ 5)) λn ρ' e d=>by rw[e,d 5 rfl];rfl
theorem T2(K ρ):(rO N).bd K ρ 5=ei.dY N ((rO N).kc K 13) ((rO N).kc ρ 5):=κ
theorem T3(ρ):(rO N).kc ((rO N).cM ρ) 5=ei.l2 N N:=Fx.uL [13] (T2 N) ρ (ei.l2 N) λn ρ' e d=>by rw[Pz,e];rfl
theorem acr(K):(rO N).top K=ei.b N ((rO N).kc K 5):=κ
def acs:Kn prog:=⟨282,(rO N).S true (ei N),Fx.u1 (rO N) ax func282 [5] (acr N) (by rw[T3];rfl)⟩
def X81:Fx:=⟨14,tab,[],N,f81,[.v cG],[.v I,.v B],[],none⟩
def k81:Kn prog:=⟨81,(X81 N).S true (SW N),Fx.u0 (X81 N) ax func81⟩
def Yz:Fx:=⟨9,tab,[],N,f284,[.v bL],[.v bL],[],none⟩
def acu:Kn prog:=⟨284,(Yz N).S false (OD N),Fx.u0 (Yz N) ax func284⟩
def fx:Fx:=⟨173,tab,Kn.l [M4 N,Yb N,TH N,acs N,zJ N,Ye N,MY N,VP N,Kf N,k81 N,acu N],N,f223,[.v bL,.v bL],[.v bL,.v I],[⟨36,[(1,.v bL),(8,.own lF),(10,.obj lF),(11,.v I),(54,.v bL),(55,.v I),(56,.v I)],[1,1,1,1,1,0,1,0,0,1,1,0,0,1,1,1],[27]⟩,⟨33,[(1,.v bL),(8,.own lF),(10,.obj lF),(11,.v I),(54,.v bL),(55,.v I),(56,.v I)],[1,1,1,1,1,0,1,0,0,1,1,0,0,1,1,0,0,0],[27]⟩,⟨55,[(1,.v bL),(12,.own lF),(14,.obj lF),(15,.own cG),(107,.own lF),(108,.v I),(109,.v I),(117,.v bL),(118,.v I),(119,.v I)],[1,1,1,1,1,1,1,0,1,0,0,1,1,0,0,1,1,0,1,0,0],[47]⟩,⟨47,[(1,.v bL),(12,.own lF),(107,.own lF),(108,.v I),(109,.v I)],[1,1,1,1,1,1,1,0,1,0,0],[]⟩,⟨27,[(1,.v bL),(8,.own lF),(54,.v bL),(55,.v I),(56,.v I)],[1,1,1,1,1,0,1,0,0],[]⟩,⟨9,[(0,.v bL),(1,.v bL),(30,.v bL),(31,.v I),(32,.v I)],[1,1,0,1,0,0],[]⟩],none⟩
theorem PA(K ρ):(fx N).bd K ρ 36=bt.SZ N ((fx N).kc ρ 27):=κ
theorem PB(ρ):(fx N).kc ((fx N).cM ρ) 36=bt.Xj N ((fx N).kc ρ 27):=Fx.uJ [47] (PA N) ρ
theorem PC(K ρ):(fx N).bd K ρ 33=bt.vb N ((fx N).kc K 36) ((fx N).kc ρ 27) ((fx N).kc ρ 33):=κ
theorem PD(ρ):(fx N).kc ((fx N).cM ρ) 33=bt.vY N ((fx N).kc ρ 27) N:=Fx.uL [47,36] (PC N) ρ (bt.vY N ((fx N).kc ρ 27)) λn ρ' e d=>by rw[PB,e,d 27 rfl];rfl
theorem PE(K ρ):(fx N).bd K ρ 55=bt.OE N ((fx N).kc ρ 47) ((fx N).kc ρ 55):=κ
theorem PF(ρ):(fx N).kc ((fx N).cM ρ) 55=bt.Rf N ((fx N).kc ρ 47) N:=Fx.uL [] (PE N) ρ (bt.Rf N ((fx N).kc ρ 47)) λn ρ' e d=>by rw[e,d 47 rfl];rfl
theorem PG(K ρ):(fx N).bd K ρ 47=bt.OG N ((fx N).kc K 55) ((fx N).kc ρ 47):=κ
theorem PH(ρ):(fx N).kc ((fx N).cM ρ) 47=bt.OF N N:=Fx.uL [55] (PG N) ρ (bt.OF N) λn ρ' e d=>by rw[PF,e];rfl
theorem PI(K ρ):(fx N).bd K ρ 27=bt.Ce N ((fx N).kc K 33) ((fx N).kc K 47) ((fx N).kc ρ 27):=κ
theorem PJ(ρ):(fx N).kc ((fx N).cM ρ) 27=bt.CT N N:=Fx.uL [47,33,36] (PI N) ρ (bt.CT N) λn ρ' e d=>by rw[PD,PH,e];rfl
theorem T4(K ρ):(fx N).bd K ρ 9=bt.de N ((fx N).kc K 27) ((fx N).kc ρ 9):=κ
theorem T5(ρ):(fx N).kc ((fx N).cM ρ) 9=bt.l4 N N:=Fx.uL [27,47] (T4 N) ρ (bt.l4 N) λn ρ' e d=>by rw[PJ,e];rfl
theorem acv(K):(fx N).top K=bt.b N ((fx N).kc K 9):=κ
def YA:Kn prog:=⟨223,(fx N).S false (bt N),Fx.u1 (fx N) ax func223 [9,27,47] (acv N) (by rw[T5];rfl)⟩
def YB:Fx:=⟨9,tab,[],N,f286,[.v bL],[.v bL],[],none⟩
def acw:Kn prog:=⟨286,(YB N).S false (S2 N),Fx.u0 (YB N) ax func286⟩
def fy:Fx:=⟨185,tab,Kn.l [TE N,X3 N,Kf N,Ps N,zI N,X5 N,MZ N,VP N,k81 N,acw N],N,f224,[.v bL,.v eD],[.v bL,.v I],[⟨42,[(1,.v eD),(11,.own lF),(13,.obj m0),(14,.v I),(68,.v eD),(69,.v I),(70,.v I)],[1,1,1,1,1,1,0,1,0,0,1,1,0,0,1,1,1],[33]⟩,⟨39,[(1,.v eD),(11,.own lF),(13,.obj m0),(14,.v I),(68,.v eD),(69,.v I),(70,.v I)],[1,1,1,1,1,1,0,1,0,0,1,1,0,0,1,1,0,0,0],[33]⟩,⟨61,[(1,.v eD),(15,.own lF),(17,.obj lF),(18,.own cG),(121,.own lF),(122,.v I),(123,.v I),(131,.v eD),(132,.v I),(133,.v I)],[1,1,1,1,1,1,1,1,0,1,0,0,1,1,0,0,1,1,0,1,0,0],[53]⟩,⟨53,[(1,.v eD),(15,.own lF),(121,.own lF),(122,.v I),(123,.v I)],[1,1,1,1,1,1,1,1,0,1,0,0],[]⟩,⟨33,[(1,.v eD),(11,.own lF),(68,.v eD),(69,.v I),(70,.v I)],[1,1,1,1,1,1,0,1,0,0],[]⟩,⟨11,[(0,.v bL),(1,.v eD),(6,.own cG),(36,.v eD),(37,.v I),(38,.v I)],[1,1,1,0,1,0,0],[]⟩],none⟩
theorem PK(K ρ):(fy N).bd K ρ 42=bu.S4 N ((fy N).kc ρ 33):=κ
theorem PL(ρ):(fy N).kc ((fy N).cM ρ) 42=bu.Xo N ((fy N).kc ρ 33):=Fx.uJ [53] (PK N) ρ
theorem PM(K ρ):(fy N).bd K ρ 39=bu.S3 N ((fy N).kc K 42) ((fy N).kc ρ 33) ((fy N).kc ρ 39):=κ
theorem PN(ρ):(fy N).kc ((fy N).cM ρ) 39=bu.VC N ((fy N).kc ρ 33) N:=Fx.uL [53,42] (PM N) ρ (bu.VC N ((fy N).kc ρ 33)) λn ρ' e d=>by rw[PL,e,d 33 rfl];rfl
theorem PO(K ρ):(fy N).bd K ρ 61=bu.ON N ((fy N).kc ρ 53) ((fy N).kc ρ 61):=κ
theorem PQ(ρ):(fy N).kc ((fy N).cM ρ) 61=bu.Rh N ((fy N).kc ρ 53) N:=Fx.uL [] (PO N) ρ (bu.Rh N ((fy N).kc ρ 53)) λn ρ' e d=>by rw[e,d 53 rfl];rfl
theorem PS(K ρ):(fy N).bd K ρ 53=bu.OP N ((fy N).kc K 61) ((fy N).kc ρ 53):=κ
theorem PT(ρ):(fy N).kc ((fy N).cM ρ) 53=bu.OO N N:=Fx.uL [61] (PS N) ρ (bu.OO N) λn ρ' e d=>by rw[PQ,e];rfl
theorem PU(K ρ):(fy N).bd K ρ 33=bu.vb N ((fy N).kc K 39) ((fy N).kc K 53) ((fy N).kc ρ 33):=κ
theorem PV(ρ):(fy N).kc ((fy N).cM ρ) 33=bu.vY N N:=Fx.uL [53,39,42] (PU N) ρ (bu.vY N) λn ρ' e d=>by rw[PN,PT,e];rfl
theorem PW(K ρ):(fy N).bd K ρ 11=bu.fX N ((fy N).kc K 33) ((fy N).kc ρ 11):=κ
theorem PX(ρ):(fy N).kc ((fy N).cM ρ) 11=bu.l5 N N:=Fx.uL [33,53] (PW N) ρ (bu.l5 N) λn ρ' e d=>by rw[PV,e];rfl
theorem acx(K):(fy N).top K=bu.b N ((fy N).kc K 11):=κ
def YC:Kn prog:=⟨224,(fy N).S false (bu N),Fx.u1 (fy N) ax func224 [11,33,53] (acx N) (by rw[PX];rfl)⟩
def YD:Fx:=⟨37,tab,Kn.l [Yy N,YA N,YC N],N,f129,[.v bE,.v bL,.v eD],[.v bE,.v I],[],none⟩
def acy:Kn prog:=⟨129,(YD N).S false (L5 N),Fx.u0 (YD N) ax func129⟩
def Kg:Fx:=⟨113,tab,Kn.l [VQ N,aco N,TR N,acq N,acy N],N,f93,[.v aY,.v bE,.v vo],[.v bE,.v I],[⟨25,[(4,.obj bE),(6,.obj bE),(10,.own lF),(11,.own m0),(68,.v vo),(69,.v I),(70,.v I)],[1,1,1,1,1,0,1,0,0],[]⟩,⟨9,[(2,.v vo),(3,.obj aY),(4,.obj bE),(6,.obj bE),(30,.v vo),(31,.v I),(32,.v I)],[1,1,0,1,0,0],[]⟩],none⟩
theorem T6(K ρ):(Kg N).bd K ρ 25=nT.ua N ((Kg N).kc ρ 25):=κ
theorem T7(ρ):(Kg N).kc ((Kg N).cM ρ) 25=nT.vd N N:=Fx.uL [] (T6 N) ρ (nT.vd N) λn ρ' e d=>by rw[e];rfl
theorem YE(K ρ):(Kg N).bd K ρ 9=nT.de N ((Kg N).kc K 25) ((Kg N).kc ρ 9):=κ
theorem YF(ρ):(Kg N).kc ((Kg N).cM ρ) 9=nT.l4 N N:=Fx.uL [25] (YE N) ρ (nT.l4 N) λn ρ' e d=>by rw[T7,e];rfl
theorem h93(K):(Kg N).top K=nT.b N ((Kg N).kc K 9):=κ
def k93:Kn prog:=⟨93,(Kg N).S false (nT N),Fx.u1 (Kg N) ax func93 [9,25] (h93 N) (by rw[YF];rfl)⟩
def FM:Fx:=⟨55,tab,Kn.l [M4 N,M5 N,Yt N,Yv N],N,f180,[.v bL,.v I,.v I,.v I],[.own m0,.v I],[⟨11,[(1,.v I),(2,.v I),(3,.v I),(10,.own m0),(26,.v bL),(27,.v I),(28,.v I)],[1,1,1,0,1,0,0],[]⟩],none⟩
theorem PY(K ρ):(FM N).bd K ρ 11=kW.fX N ((FM N).kc ρ 11):=κ
theorem PZ(ρ):(FM N).kc ((FM N).cM ρ) 11=kW.l5 N N:=Fx.uL [] (PY N) ρ (kW.l5 N) λn ρ' e d=>by rw[e];rfl
theorem acz(K):(FM N).top K=kW.b N ((FM N).kc K 11):=κ
def acA:Kn prog:=⟨180,(FM N).S false (kW N),Fx.u1 (FM N) ax func180 [11] (acz N) (by rw[PZ];rfl)⟩
def Rz:Fx:=⟨22,tab,Kn.l [Fi N,Fk N,zI N,zJ N,Fp N,zK N],N,f183,[.v bE],[.sp bE 4 I],[],some (bE,[.fG 4],I,[1,2,1000000])⟩
def YG:Kn prog:=⟨183,(Rz N).S false (Rw N),Fx.u0 (Rz N) ax func183⟩
def RA:Fx:=⟨37,tab,Kn.l [YG N,YA N,YC N],N,f129,[.v bE,.v bL,.v eD],[.sp bE 4 I,.v I],[],some (bE,[.fG 4],I,[3,6,8,1000000])⟩
def YH:Kn prog:=⟨129,(RA N).S false (Mv N),Fx.u0 (RA N) ax func129⟩
def X94:Fx:=⟨67,tab,Kn.l [VQ N,M5 N,acA N,YH N],N,f94,[.v aY,.v bE,.v I,.v I],[.v bE,.v eD,.v I],[],some (bE,[.fG 4],I,[5,13])⟩
def k94:Kn prog:=⟨94,(X94 N).S false (VF N),Fx.u0 (X94 N) ax func94⟩
def RC:Fx:=⟨31,tab,Kn.l [M4 N],N,f75,[.v bL,.v I],[.own Iy],[⟨11,[(1,.v I),(5,.own Iy),(11,.v bL),(12,.v I),(13,.v I)],[1,1,1,0,1,0,0],[]⟩],none⟩
theorem T8(K ρ):(RC N).bd K ρ 11=wg.fX N ((RC N).kc ρ 11):=κ
theorem T9(ρ):(RC N).kc ((RC N).cM ρ) 11=wg.l5 N N:=Fx.uL [] (T8 N) ρ (wg.l5 N) λn ρ' e d=>by rw[e];rfl
theorem h75(K):(RC N).top K=wg.b N ((RC N).kc K 11):=κ
def k75:Kn prog:=⟨75,(RC N).S false (wg N),Fx.u1 (RC N) ax func75 [11] (h75 N) (by rw[T9];rfl)⟩
def rP:Fx:=⟨64,tab,Kn.l [TO N],N,f182,[.v j8,.v I],[.own lF],[⟨19,[(0,.v j8),(1,.v I),(5,.own lF),(6,.v I),(7,.obj lF),(13,.v I),(18,.v j8),(19,.v I),(20,.v I)],[1,1,1,0,1,0,0,1,1,0,0,1,1,0,1,0,0],[11]⟩,⟨11,[(0,.v j8),(1,.v I),(5,.own lF),(13,.v I)],[1,1,1,0,1,0,0],[]⟩],none⟩
theorem P0(K ρ):(rP N).bd K ρ 19=ej.OY N ((rP N).kc ρ 11) ((rP N).kc ρ 19):=κ
theorem P1(ρ):(rP N).kc ((rP N).cM ρ) 19=ej.l9 N ((rP N).kc ρ 11) N:=Fx.uL [] (P0 N) ρ (ej.l9 N ((rP N).kc ρ 11)) λn ρ' e d=>by rw[e,d 11 rfl];rfl
theorem P2(K ρ):(rP N).bd K ρ 11=ej.fX N ((rP N).kc K 19) ((rP N).kc ρ 11):=κ
theorem P3(ρ):(rP N).kc ((rP N).cM ρ) 11=ej.l5 N N:=Fx.uL [19] (P2 N) ρ (ej.l5 N) λn ρ' e d=>by rw[P1,e];rfl
theorem acB(K):(rP N).top K=ej.b N ((rP N).kc K 11):=κ
def acC:Kn prog:=⟨182,(rP N).S false (ej N),Fx.u1 (rP N) ax func182 [11] (acB N) (by rw[P3];rfl)⟩
def RD:Fx:=⟨54,tab,Kn.l [TH N,k90 N],N,f91,[.v aY,.v ij],[.v B],[⟨5,[(1,.v ij),(2,.obj aY),(7,.v ij),(8,.v I),(9,.v I)],[1,0,1,0,0],[]⟩],none⟩
theorem YI(K ρ):(RD N).bd K ρ 5=vZ.dY N ((RD N).kc ρ 5):=κ
theorem YJ(ρ):(RD N).kc ((RD N).cM ρ) 5=vZ.l2 N N:=Fx.uL [] (YI N) ρ (vZ.l2 N) λn ρ' e d=>by rw[e];rfl
theorem h91(K):(RD N).top K=vZ.b N ((RD N).kc K 5):=κ
def k91:Kn prog:=⟨91,(RD N).S true (vZ N),Fx.u1 (RD N) ax func91 [5] (h91 N) (by rw[YJ];rfl)⟩
def FN:Fx:=⟨73,tab,Kn.l [k90 N],N,f253,[.v aY,.v bL],[.v B],[⟨5,[(1,.v bL),(2,.obj aY),(7,.v bL),(8,.v I),(9,.v I)],[1,0,1,0,0],[]⟩],none⟩
theorem Ua(K ρ):(FN N).bd K ρ 5=kT.dY N ((FN N).kc ρ 5):=κ
theorem Ub(ρ):(FN N).kc ((FN N).cM ρ) 5=kT.l2 N N:=Fx.uL [] (Ua N) ρ (kT.l2 N) λn ρ' e d=>by rw[e];rfl
theorem acD(K):(FN N).top K=kT.b N ((FN N).kc K 5):=κ
def YK:Kn prog:=⟨253,(FN N).S true (kT N),Fx.u1 (FN N) ax func253 [5] (acD N) (by rw[Ub];rfl)⟩
def X76:Fx:=⟨52,tab,Kn.l [Hr N],N,f76,[.v cG,.v cG],[.v cG,.v B],[],none⟩
def k76:Kn prog:=⟨76,(X76 N).S true (Xr N),Fx.u0 (X76 N) ax func76⟩
def YL:Fx:=⟨52,tab,Kn.l [Hs N],N,f172,[.v cG,.v cG],[.v cG,.v B],[],none⟩
def YM:Kn prog:=⟨172,(YL N).S true (G6 N),Fx.u0 (YL N) ax func172⟩
def X80:Fx:=⟨9,tab,Kn.l [YM N],N,f80,[.v cG],[.v cG,.v B],[],none⟩
def k80:Kn prog:=⟨80,(X80 N).S true (F80 N),Fx.u0 (X80 N) ax func80⟩
def YN:Fx:=⟨12,tab,Kn.l [k80 N],N,f271,[.v cG],[.v cG,.v B],[],none⟩
def acE:Kn prog:=⟨271,(YN N).S true (G7 N),Fx.u0 (YN N) ax func271⟩
def vp:Fx:=⟨104,tab,Kn.l [k91 N,YK N,VP N,k76 N,YM N,acE N,X8 N],N,f203,[.v aY,.v ij,.v bL,.v I],[.v cG,.v I],[⟨27,[(3,.v I),(8,.obj cG),(10,.v I),(11,.v I),(12,.v I),(57,.v bL),(58,.v I),(59,.v I)],[1,1,1,1,0,1,0,0],[]⟩,⟨15,[(2,.v bL),(3,.v I),(8,.obj cG),(10,.v I),(11,.v I),(12,.v I),(44,.v ij),(45,.v I),(46,.v I)],[1,1,1,0,1,0,0],[]⟩],none⟩
theorem P4(K ρ):(vp N).bd K ρ 27=eX.Ce N ((vp N).kc ρ 27):=κ
theorem P5(ρ):(vp N).kc ((vp N).cM ρ) 27=eX.CT N N:=Fx.uL [] (P4 N) ρ (eX.CT N) λn ρ' e d=>by rw[e];rfl
theorem P6(K ρ):(vp N).bd K ρ 15=eX.pA N ((vp N).kc K 27) ((vp N).kc ρ 15):=κ
theorem P7(ρ):(vp N).kc ((vp N).cM ρ) 15=eX.l7 N N:=Fx.uL [27] (P6 N) ρ (eX.l7 N) λn ρ' e d=>by rw[P5,e];rfl
theorem acF(K):(vp N).top K=eX.b N ((vp N).kc K 15):=κ
def acG:Kn prog:=⟨203,(vp N).S true (eX N),Fx.u1 (vp N) ax func203 [15,27] (acF N) (by rw[P7];rfl)⟩
def YO:Fx:=⟨32,tab,Kn.l [Hs N],N,f275,[.v cG],[.v U,.v U],[],none⟩
def acH:Kn prog:=⟨275,(YO N).S true (Ok N),Fx.u0 (YO N) ax func275⟩
def YP:Fx:=⟨55,tab,Kn.l [acH N,k77 N,Yq N,Hr N,Yr N],N,f254,[.v cG,.v I],[.v cG,.v B],[],none⟩
def acI:Kn prog:=⟨254,(YP N).S true (O0 N),Fx.u0 (YP N) ax func254⟩
def FO:Fx:=⟨62,tab,Kn.l [k91 N,YK N,acG N,acI N,Kf N],N,f181,[.v aY,.v ij,.v bL],[.v cG,.v I],[⟨11,[(1,.v ij),(2,.v bL),(3,.obj aY),(6,.obj cG),(8,.own cG),(29,.v jD),(30,.v I),(31,.v I)],[1,1,1,0,1,0,0],[]⟩],none⟩
theorem P8(K ρ):(FO N).bd K ρ 11=mU.fX N ((FO N).kc ρ 11):=κ
theorem P9(ρ):(FO N).kc ((FO N).cM ρ) 11=mU.l5 N N:=Fx.uL [] (P8 N) ρ (mU.l5 N) λn ρ' e d=>by rw[e];rfl
theorem acJ(K):(FO N).top K=mU.b N ((FO N).kc K 11):=κ
def acK:Kn prog:=⟨181,(FO N).S true (mU N),Fx.u1 (FO N) ax func181 [11] (acJ N) (by rw[P9];rfl)⟩
def X95:Fx:=⟨32,tab,Kn.l [VQ N,TR N,k75 N,acC N,acK N],N,f95,[.v aY,.v bE,.v I],[.v cG,.v I],[],none⟩
def k95:Kn prog:=⟨95,(X95 N).S true (Rr N),Fx.u0 (X95 N) ax func95⟩
def FP:Fx:=⟨28,tab,Kn.l [Tv N],N,f185,[.v jD,.v I],[.own I],[⟨11,[(1,.v I),(5,.own I),(11,.v jD),(12,.v I),(13,.v I)],[1,1,1,0,1,0,0],[]⟩],none⟩
theorem Qa(K ρ):(FP N).bd K ρ 11=kY.fX N ((FP N).kc ρ 11):=κ
theorem Qb(ρ):(FP N).kc ((FP N).cM ρ) 11=kY.l5 N N:=Fx.uL [] (Qa N) ρ (kY.l5 N) λn ρ' e d=>by rw[e];rfl
theorem acL(K):(FP N).top K=kY.b N ((FP N).kc K 11):=κ
def acM:Kn prog:=⟨185,(FP N).S false (kY N),Fx.u1 (FP N) ax func185 [11] (acL N) (by rw[Qb];rfl)⟩
def FQ:Fx:=⟨19,tab,[],N,f308,[.v LI,.v I],[.v I],[⟨5,[(0,.v LI),(1,.v I),(7,.v I),(8,.v I)],[1,0,1,0,0],[]⟩],none⟩
theorem Uc(K ρ):(FQ N).bd K ρ 5=mX.dY N ((FQ N).kc ρ 5):=κ
theorem Ud(ρ):(FQ N).kc ((FQ N).cM ρ) 5=mX.l2 N N:=Fx.uL [] (Uc N) ρ (mX.l2 N) λn ρ' e d=>by rw[e];rfl
theorem acN(K):(FQ N).top K=mX.b N ((FQ N).kc K 5):=κ
def acO:Kn prog:=⟨308,(FQ N).S true (mX N),Fx.u1 (FQ N) ax func308 [5] (acN N) (by rw[Ud];rfl)⟩
def YQ:Fx:=⟨9,tab,Kn.l [acO N],N,f263,[.v LI,.v I],[.v B],[],none⟩
def acP:Kn prog:=⟨263,(YQ N).S true (O9 N),Fx.u0 (YQ N) ax func263⟩
def YR:Fx:=⟨8,tab,Kn.l [acP N],N,f262,[.v Hj,.ft LI],[.v B],[],none⟩
def YS:Kn prog:=⟨262,(YR N).S true (Mz N),Fx.u0 (YR N) ax func262⟩
def FR:Fx:=⟨19,tab,Kn.l [YS N],N,f307,[.v j8,.fn 262 (.pair (.pair LI .unit) .unit)],[.v I],[⟨5,[(0,.v j8),(1,.fn 262 (.pair (.pair LI .unit) .unit)),(7,.v I),(8,.v I)],[1,0,1,0,0],[]⟩],none⟩
theorem Ue(K ρ):(FR N).bd K ρ 5=lq.dY N ((FR N).kc ρ 5):=κ
theorem Uf(ρ):(FR N).kc ((FR N).cM ρ) 5=lq.l2 N N:=Fx.uL [] (Ue N) ρ (lq.l2 N) λn ρ' e d=>by rw[e];rfl
theorem acQ(K):(FR N).top K=lq.b N ((FR N).kc K 5):=κ
def acR:Kn prog:=⟨307,(FR N).S true (lq N),Fx.u1 (FR N) ax func307 [5] (acQ N) (by rw[Uf];rfl)⟩
def FT:Fx:=⟨42,tab,Kn.l [acR N,YS N],N,f261,[.own Hj,.fn 262 (.pair (.pair LI .unit) .unit)],[.v j8],[⟨11,[(0,.own Hj),(1,.fn 262 (.pair (.pair LI .unit) .unit)),(5,.v I),(6,.v I)],[1,1,1,0,1,0,0],[]⟩],some (.unit,[],.unit,[1000001])⟩
theorem Qc(K ρ):(FT N).bd K ρ 11=mZ.fX N ((FT N).kc ρ 11):=κ
theorem Qd(ρ):(FT N).kc ((FT N).cM ρ) 11=mZ.l5 N N:=Fx.uL [] (Qc N) ρ (mZ.l5 N) λn ρ' e d=>by rw[e];rfl
theorem acS(K):(FT N).top K=mZ.b N ((FT N).kc K 11):=κ
def acT:Kn prog:=⟨261,(FT N).S false (mZ N),Fx.u1 (FT N) ax func261 [11] (acS N) (by rw[Qd];rfl)⟩
def YT:Fx:=⟨12,tab,Kn.l [TO N,zK N,acT N],N,f184,[.v j8,.v LI],[.v j8],[],none⟩
def acU:Kn prog:=⟨184,(YT N).S false (Pd N),Fx.u0 (YT N) ax func184⟩
def X96:Fx:=⟨33,tab,Kn.l [VQ N,Tz N,Yy N,acM N,acU N],N,f96,[.v aY,.v bE,.v I],[.v bE,.v I],[],none⟩
def k96:Kn prog:=⟨96,(X96 N).S false (VG N),Fx.u0 (X96 N) ax func96⟩
def RE:Fx:=⟨26,tab,[],N,f97,[.v bL,.v bL],[.v B],[⟨9,[(0,.v bL),(1,.v bL),(5,.v I)],[1,1,0,1,0,0],[]⟩],none⟩
theorem YU(K ρ):(RE N).bd K ρ 9=vf.de N ((RE N).kc ρ 9):=κ
theorem YV(ρ):(RE N).kc ((RE N).cM ρ) 9=vf.l4 N N:=Fx.uL [] (YU N) ρ (vf.l4 N) λn ρ' e d=>by rw[e];rfl
theorem h97(K):(RE N).top K=vf.b N ((RE N).kc K 9):=κ
def k97:Kn prog:=⟨97,(RE N).S true (vf N),Fx.u1 (RE N) ax func97 [9] (h97 N) (by rw[YV];rfl)⟩
def RF:Fx:=⟨26,tab,[],N,f54,[.v LI,.v LI],[.v B],[⟨9,[(0,.v LI),(1,.v LI),(5,.v I)],[1,1,0,1,0,0],[]⟩],none⟩
theorem YW(K ρ):(RF N).bd K ρ 9=vg.de N ((RF N).kc ρ 9):=κ
theorem YX(ρ):(RF N).kc ((RF N).cM ρ) 9=vg.l4 N N:=Fx.uL [] (YW N) ρ (vg.l4 N) λn ρ' e d=>by rw[e];rfl
theorem h54(K):(RF N).top K=vg.b N ((RF N).kc K 9):=κ
def k54:Kn prog:=⟨54,(RF N).S true (vg N),Fx.u1 (RF N) ax func54 [9] (h54 N) (by rw[YX];rfl)⟩
def RG:Fx:=⟨78,tab,[],N,f82,[.v bL],[.v B],[⟨5,[(0,.v bL),(3,.v I)],[1,0,1,0,0],[]⟩],none⟩
theorem YY(K ρ):(RG N).bd K ρ 5=tW.dY N ((RG N).kc ρ 5):=κ
theorem YZ(ρ):(RG N).kc ((RG N).cM ρ) 5=tW.l2 N N:=Fx.uL [] (YY N) ρ (tW.l2 N) λn ρ' e d=>by rw[e];rfl
theorem h82(K):(RG N).top K=tW.b N ((RG N).kc K 5):=κ
def Y0:Kn prog:=⟨82,(RG N).S true (tW N),Fx.u1 (RG N) ax func82 [5] (h82 N) (by rw[YZ];rfl)⟩
def RH:Fx:=⟨38,tab,Kn.l [Y0 N],N,f22,[.v bL,.v I,.v I],[.v I],[⟨9,[(0,.v bL),(1,.v I),(2,.v I),(7,.v I)],[1,1,0,1,0,0],[]⟩],none⟩
theorem Y1(K ρ):(RH N).bd K ρ 9=we.de N ((RH N).kc ρ 9):=κ
theorem Y2(ρ):(RH N).kc ((RH N).cM ρ) 9=we.l4 N N:=Fx.uL [] (Y1 N) ρ (we.l4 N) λn ρ' e d=>by rw[e];rfl
theorem h22(K):(RH N).top K=we.b N ((RH N).kc K 9):=κ
def k22:Kn prog:=⟨22,(RH N).S true (we N),Fx.u1 (RH N) ax func22 [9] (h22 N) (by rw[Y2];rfl)⟩
def Y3:Fx:=⟨30,tab,[],N,f209,[.v I,.v I],[.v B],[],none⟩
def acV:Kn prog:=⟨209,(Y3 N).S true (Oo N),Fx.u0 (Y3 N) ax func209⟩
def FU:Fx:=⟨74,tab,Kn.l [acV N],N,f136,[.v bL],[.v B],[⟨5,[(0,.v bL),(3,.v I)],[1,0,1,0,0],[]⟩],none⟩
theorem Ug(K ρ):(FU N).bd K ρ 5=jT.dY N ((FU N).kc ρ 5):=κ
theorem Uh(ρ):(FU N).kc ((FU N).cM ρ) 5=jT.l2 N N:=Fx.uL [] (Ug N) ρ (jT.l2 N) λn ρ' e d=>by rw[e];rfl
theorem acW(K):(FU N).top K=jT.b N ((FU N).kc K 5):=κ
def Ui:Kn prog:=⟨136,(FU N).S true (jT N),Fx.u1 (FU N) ax func136 [5] (acW N) (by rw[Uh];rfl)⟩
def RI:Fx:=⟨38,tab,Kn.l [Ui N],N,f49,[.v bL,.v I,.v I],[.v I],[⟨9,[(0,.v bL),(1,.v I),(2,.v I),(7,.v I)],[1,1,0,1,0,0],[]⟩],none⟩
theorem Y4(K ρ):(RI N).bd K ρ 9=uC.de N ((RI N).kc ρ 9):=κ
theorem Y5(ρ):(RI N).kc ((RI N).cM ρ) 9=uC.l4 N N:=Fx.uL [] (Y4 N) ρ (uC.l4 N) λn ρ' e d=>by rw[e];rfl
theorem h49(K):(RI N).top K=uC.b N ((RI N).kc K 9):=κ
def k49:Kn prog:=⟨49,(RI N).S true (uC N),Fx.u1 (RI N) ax func49 [9] (h49 N) (by rw[Y5];rfl)⟩
def Qe:Fx:=⟨145,tab,Kn.l [k92 N,k32 N,k93 N,k94 N,k95 N,k96 N,k97 N,k54 N,k22 N,k49 N,VQ N],N,f30,[],[.v B],[],none⟩
theorem ae2:mI prog (Qe N).E:=Fx.AV (Qe N) ax (Kn.all _) κ
theorem ae3: ∀x,CN (Qe N).E (Qe N).fn (Qe N).args (Qe N).res x=yM (Qe N).args (Xy N) x:=Fx.Jk κ
def k30:Kn prog:=⟨30,(Qe N).S true (Xy N),Fx.u0 (Qe N) ax func30⟩
def Qf:Fx:=⟨45,tab,[],N,f31,[.v aY,.v bE],[.v B],[],none⟩
theorem ae4:mI prog (Qf N).E:=Fx.AV (Qf N) ax trivial κ
theorem ae5: ∀x,CN (Qf N).E (Qf N).fn (Qf N).args (Qf N).res x=yM (Qf N).args (Xz N) x:=Fx.Jk κ
def k31:Kn prog:=⟨31,(Qf N).S true (Xz N),Fx.u0 (Qf N) ax func31⟩
def Y6:Fx:=⟨15,tab,[],N,f186,[.v I,.v I,.v I],[.v B],[],none⟩
def acX:Kn prog:=⟨186,(Y6 N).S true (Ao N),Fx.u0 (Y6 N) ax func186⟩
def RJ:Fx:=⟨77,tab,Kn.l [acX N],N,f98,[.v aY],[.v B],[⟨9,[(1,.obj aY),(3,.v I)],[1,1,0,1,0,0],[]⟩],none⟩
theorem Y7(K ρ):(RJ N).bd K ρ 9=uB.de N ((RJ N).kc ρ 9):=κ
theorem Y8(ρ):(RJ N).kc ((RJ N).cM ρ) 9=uB.l4 N N:=Fx.uL [] (Y7 N) ρ (uB.l4 N) λn ρ' e d=>by rw[e];rfl
theorem h98(K):(RJ N).top K=uB.b N ((RJ N).kc K 9):=κ
def k98:Kn prog:=⟨98,(RJ N).S true (uB N),Fx.u1 (RJ N) ax func98 [9] (h98 N) (by rw[Y8];rfl)⟩
def Ks:Fx:=⟨41,tab,Kn.l [k98 N],N,f33,[.v aY],[.v bE,.v I],[⟨15,[(1,.obj aY),(2,.obj bE),(4,.dT bE [.fG 4] I),(5,.v I)],[1,1,1,1,0,1,0,0],[]⟩,⟨12,[(1,.obj aY),(2,.obj bE),(4,.dT bE [.fG 4] I)],[1,1,1,1],[]⟩],some (bE,[.fG 4],I,[4])⟩
theorem Uj(K ρ):(Ks N).bd K ρ 15=pL.pA N ((Ks N).kc ρ 15):=κ
theorem Uk(ρ):(Ks N).kc ((Ks N).cM ρ) 15=pL.l7 N N:=Fx.uL [] (Uj N) ρ (pL.l7 N) λn ρ' e d=>by rw[e];rfl
theorem Ul(K ρ):(Ks N).bd K ρ 12=pL.LC N ((Ks N).kc K 15):=κ
theorem Um(ρ):(Ks N).kc ((Ks N).cM ρ) 12=pL.j6 N:=Fx.uJ [15] (Ul N) ρ (by rw[Uk];rfl)
theorem h33(K):(Ks N).top K=pL.b N ((Ks N).kc K 12):=κ
def k33:Kn prog:=⟨33,(Ks N).S false (pL N),Fx.u1 (Ks N) ax func33 [12,15] (h33 N) (by rw[Um];rfl)⟩
def RK:Fx:=⟨26,tab,[],N,f52,[.v ij,.v ij],[.v B],[⟨9,[(0,.v ij),(1,.v ij),(5,.v I)],[1,1,0,1,0,0],[]⟩],none⟩
theorem Y9(K ρ):(RK N).bd K ρ 9=wQ.de N ((RK N).kc ρ 9):=κ
theorem Za(ρ):(RK N).kc ((RK N).cM ρ) 9=wQ.l4 N N:=Fx.uL [] (Y9 N) ρ (wQ.l4 N) λn ρ' e d=>by rw[e];rfl
theorem h52(K):(RK N).top K=wQ.b N ((RK N).kc K 9):=κ
def k52:Kn prog:=⟨52,(RK N).S true (wQ N),Fx.u1 (RK N) ax func52 [9] (h52 N) (by rw[Za];rfl)⟩
def RL:Fx:=⟨26,tab,[],N,f53,[.v jD,.v jD],[.v B],[⟨9,[(0,.v jD),(1,.v jD),(5,.v I)],[1,1,0,1,0,0],[]⟩],none⟩
theorem Zb(K ρ):(RL N).bd K ρ 9=wR.de N ((RL N).kc ρ 9):=κ
theorem Zc(ρ):(RL N).kc ((RL N).cM ρ) 9=wR.l4 N N:=Fx.uL [] (Zb N) ρ (wR.l4 N) λn ρ' e d=>by rw[e];rfl
theorem h53(K):(RL N).top K=wR.b N ((RL N).kc K 9):=κ
def k53:Kn prog:=⟨53,(RL N).S true (wR N),Fx.u1 (RL N) ax func53 [9] (h53 N) (by rw[Zc];rfl)⟩
def RM:Fx:=⟨26,tab,[],N,f51,[.v bL,.v bL],[.v B],[⟨9,[(0,.v bL),(1,.v bL),(5,.v I)],[1,1,0,1,0,0],[]⟩],none⟩
theorem Zd(K ρ):(RM N).bd K ρ 9=wS.de N ((RM N).kc ρ 9):=κ
theorem Ze(ρ):(RM N).kc ((RM N).cM ρ) 9=wS.l4 N N:=Fx.uL [] (Zd N) ρ (wS.l4 N) λn ρ' e d=>by rw[e];rfl
theorem h51(K):(RM N).top K=wS.b N ((RM N).kc K 9):=κ
def k51:Kn prog:=⟨51,(RM N).S true (wS N),Fx.u1 (RM N) ax func51 [9] (h51 N) (by rw[Ze];rfl)⟩
def RN:Fx:=⟨26,tab,[],N,f55,[.v j8,.v j8],[.v B],[⟨9,[(0,.v j8),(1,.v j8),(5,.v I)],[1,1,0,1,0,0],[]⟩],none⟩
theorem Zf(K ρ):(RN N).bd K ρ 9=wT.de N ((RN N).kc ρ 9):=κ
theorem Zg(ρ):(RN N).kc ((RN N).cM ρ) 9=wT.l4 N N:=Fx.uL [] (Zf N) ρ (wT.l4 N) λn ρ' e d=>by rw[e];rfl
theorem h55(K):(RN N).top K=wT.b N ((RN N).kc K 9):=κ
def k55:Kn prog:=⟨55,(RN N).S true (wT N),Fx.u1 (RN N) ax func55 [9] (h55 N) (by rw[Zg];rfl)⟩
def X34:Fx:=⟨45,tab,Kn.l [k52 N,k53 N,k97 N,k51 N,k54 N,k55 N],N,f34,[.v bE,.v bE],[.v B],[],none⟩
def k34:Kn prog:=⟨34,(X34 N).S true (S7 N),Fx.u0 (X34 N) ax func34⟩
def FV:Fx:=⟨58,tab,[],N,f241,[.v ij],[.v B],[⟨5,[(0,.v ij),(3,.v I)],[1,0,1,0,0],[]⟩],none⟩
theorem Un(K ρ):(FV N).bd K ρ 5=kH.dY N ((FV N).kc ρ 5):=κ
theorem Uo(ρ):(FV N).kc ((FV N).cM ρ) 5=kH.l2 N N:=Fx.uL [] (Un N) ρ (kH.l2 N) λn ρ' e d=>by rw[e];rfl
theorem acY(K):(FV N).top K=kH.b N ((FV N).kc K 5):=κ
def Zh:Kn prog:=⟨241,(FV N).S true (kH N),Fx.u1 (FV N) ax func241 [5] (acY N) (by rw[Uo];rfl)⟩
def nc:Fx:=⟨95,tab,[],N,f230,[.v jD],[.v B],[⟨17,[(0,.v jD),(3,.v I),(4,.obj CW),(5,.v I)],[1,0,1,0,0,1,0,0,1,1,1,0,0],[5]⟩,⟨14,[(0,.v jD),(3,.v I),(4,.obj CW)],[1,0,1,0,0,1,0,0,1,1],[5]⟩,⟨5,[(0,.v jD),(3,.v I)],[1,0,1,0,0],[]⟩],none⟩
theorem Qg(K ρ):(nc N).bd K ρ 17=db.l8b N ((nc N).kc ρ 5) ((nc N).kc ρ 17):=κ
theorem Qh(ρ):(nc N).kc ((nc N).cM ρ) 17=db.l8 N ((nc N).kc ρ 5) N:=Fx.uL [] (Qg N) ρ (db.l8 N ((nc N).kc ρ 5)) λn ρ' e d=>by rw[e,d 5 rfl];rfl
theorem Qi(K ρ):(nc N).bd K ρ 14=db.SV N ((nc N).kc K 17) ((nc N).kc ρ 5):=κ
theorem Qj(ρ):(nc N).kc ((nc N).cM ρ) 14=db.j7 N ((nc N).kc ρ 5):=Fx.uJ [17] (Qi N) ρ (by rw[Qh];rfl)
theorem Up(K ρ):(nc N).bd K ρ 5=db.dY N ((nc N).kc K 14) ((nc N).kc ρ 5):=κ
theorem Uq(ρ):(nc N).kc ((nc N).cM ρ) 5=db.l2 N N:=Fx.uL [14,17] (Up N) ρ (db.l2 N) λn ρ' e d=>by rw[Qj,e];rfl
theorem acZ(K):(nc N).top K=db.b N ((nc N).kc K 5):=κ
def Ur:Kn prog:=⟨230,(nc N).S true (db N),Fx.u1 (nc N) ax func230 [5] (acZ N) (by rw[Uq];rfl)⟩
def FW:Fx:=⟨24,tab,[],N,f242,[.v ij,.v I],[.v I],[⟨5,[(0,.v ij),(1,.v I),(5,.v I)],[1,0,1,0,0],[]⟩],none⟩
theorem Us(K ρ):(FW N).bd K ρ 5=kJ.dY N ((FW N).kc ρ 5):=κ
theorem Ut(ρ):(FW N).kc ((FW N).cM ρ) 5=kJ.l2 N N:=Fx.uL [] (Us N) ρ (kJ.l2 N) λn ρ' e d=>by rw[e];rfl
theorem ac0(K):(FW N).top K=kJ.b N ((FW N).kc K 5):=κ
def Zi:Kn prog:=⟨242,(FW N).S true (kJ N),Fx.u1 (FW N) ax func242 [5] (ac0 N) (by rw[Ut];rfl)⟩
def FX:Fx:=⟨28,tab,Kn.l [Zh N,Ur N,Zi N],N,f158,[.v ij,.v jD],[.v B],[⟨9,[(0,.v ij),(1,.v jD),(5,.v I)],[1,1,0,1,0,0],[]⟩],none⟩
theorem Uu(K ρ):(FX N).bd K ρ 9=lh.de N ((FX N).kc ρ 9):=κ
theorem Uv(ρ):(FX N).kc ((FX N).cM ρ) 9=lh.l4 N N:=Fx.uL [] (Uu N) ρ (lh.l4 N) λn ρ' e d=>by rw[e];rfl
theorem ac1(K):(FX N).top K=lh.b N ((FX N).kc K 9):=κ
def ac2:Kn prog:=⟨158,(FX N).S true (lh N),Fx.u1 (FX N) ax func158 [9] (ac1 N) (by rw[Uv];rfl)⟩
def FY:Fx:=⟨22,tab,[],N,f173,[.v LU],[.v LU],[⟨5,[(0,.v LU),(3,.v I)],[1,1,0,0,0],[]⟩],none⟩
theorem Uw(K ρ):(FY N).bd K ρ 5=kE.dY N ((FY N).kc ρ 5):=κ
theorem Ux(ρ):(FY N).kc ((FY N).cM ρ) 5=kE.l2 N N:=Fx.uL [] (Uw N) ρ (kE.l2 N) λn ρ' e d=>by rw[e];rfl
theorem ac3(K):(FY N).top K=kE.b N ((FY N).kc K 5):=κ
def Zj:Kn prog:=⟨173,(FY N).S false (kE N),Fx.u1 (FY N) ax func173 [5] (ac3 N) (by rw[Ux];rfl)⟩
def X87:Fx:=⟨9,tab,Kn.l [Zj N],N,f87,[.v U],[.v LU],[],none⟩
def k87:Kn prog:=⟨87,(X87 N).S false (VA N),Fx.u0 (X87 N) ax func87⟩
def X83:Fx:=⟨15,tab,Kn.l [Zj N],N,f83,[.v B,.v LU],[.v dn],[],none⟩
def VS:Kn prog:=⟨83,(X83 N).S false (Ju N),Fx.u0 (X83 N) ax func83⟩
def X24:Fx:=⟨15,tab,Kn.l [k87 N,VS N],N,f24,[.v I],[.v dn],[],none⟩
def Qk:Kn prog:=⟨24,(X24 N).S false (B3 N),Fx.u0 (X24 N) ax func24⟩
def X88:Fx:=⟨13,tab,[],N,f88,[.v LU,.v I],[.v U],[],none⟩
def k88:Kn prog:=⟨88,(X88 N).S true (Og N),Fx.u0 (X88 N) ax func88⟩
def Iz:Fx:=⟨41,tab,Kn.l [k88 N],N,f84,[.v LU,.v LU],[.own U],[⟨12,[(0,.v LU),(1,.v LU),(5,.own U),(6,.v U),(7,.v I)],[1,1,1,0,1,0,0,1],[9]⟩,⟨9,[(0,.v LU),(1,.v LU),(5,.own U),(6,.v U),(7,.v I)],[1,1,1,0,1,0,0],[]⟩],none⟩
theorem Uy(K ρ):(Iz N).bd K ρ 12=pz.LC N ((Iz N).kc ρ 9):=κ
theorem Uz(ρ):(Iz N).kc ((Iz N).cM ρ) 12=pz.j6 N ((Iz N).kc ρ 9):=Fx.uJ [] (Uy N) ρ
theorem Zk(K ρ):(Iz N).bd K ρ 9=pz.de N ((Iz N).kc K 12) ((Iz N).kc ρ 9):=κ
theorem Zl(ρ):(Iz N).kc ((Iz N).cM ρ) 9=pz.l4 N N:=Fx.uL [12] (Zk N) ρ (pz.l4 N) λn ρ' e d=>by rw[Uz,e];rfl
theorem h84(K):(Iz N).top K=pz.b N ((Iz N).kc K 9):=κ
def k84:Kn prog:=⟨84,(Iz N).S false (pz N),Fx.u1 (Iz N) ax func84 [9] (h84 N) (by rw[Zl];rfl)⟩
def RO:Fx:=⟨41,tab,[],N,f85,[.v LU,.v LU],[.v I],[⟨13,[(0,.v LU),(1,.v LU),(5,.v I)],[1,1,0,1,0,0],[]⟩],none⟩
theorem UA(K ρ):(RO N).bd K ρ 13=wK.B4 N ((RO N).kc ρ 13):=κ
theorem UB(ρ):(RO N).kc ((RO N).cM ρ) 13=wK.l6 N N:=Fx.uL [] (UA N) ρ (wK.l6 N) λn ρ' e d=>by rw[e];rfl
theorem h85(K):(RO N).top K=wK.b N ((RO N).kc K 13):=κ
def k85:Kn prog:=⟨85,(RO N).S true (wK N),Fx.u1 (RO N) ax func85 [13] (h85 N) (by rw[UB];rfl)⟩
def RP:Fx:=⟨37,tab,Kn.l [k88 N],N,f86,[.v LU,.v LU],[.own U],[⟨9,[(0,.v LU),(1,.v LU),(5,.own U),(6,.v U),(7,.v I)],[1,1,1,0,1,0,0],[]⟩],none⟩
theorem Zm(K ρ):(RP N).bd K ρ 9=w9.de N ((RP N).kc ρ 9):=κ
theorem Zn(ρ):(RP N).kc ((RP N).cM ρ) 9=w9.l4 N N:=Fx.uL [] (Zm N) ρ (w9.l4 N) λn ρ' e d=>by rw[e];rfl
theorem h86(K):(RP N).top K=w9.b N ((RP N).kc K 9):=κ
def k86:Kn prog:=⟨86,(RP N).S false (w9 N),Fx.u1 (RP N) ax func86 [9] (h86 N) (by rw[Zn];rfl)⟩
def X23:Fx:=⟨40,tab,Kn.l [k84 N,VS N,k85 N,k86 N],N,f23,[.v dn,.v dn],[.v dn],[],none⟩
def RQ:Kn prog:=⟨23,(X23 N).S false (GD N),Fx.u0 (X23 N) ax func23⟩
def FZ:Fx:=⟨33,tab,Kn.l [Y0 N,Qk N,RQ N],N,f243,[.v bL,.v I],[.v dn],[⟨11,[(0,.v bL),(1,.v I),(4,.obj dn),(5,.obj dn),(6,.v I)],[1,1,1,0,1,0,0],[]⟩],none⟩
theorem Ql(K ρ):(FZ N).bd K ρ 11=kO.fX N ((FZ N).kc ρ 11):=κ
theorem Qm(ρ):(FZ N).kc ((FZ N).cM ρ) 11=kO.l5 N N:=Fx.uL [] (Ql N) ρ (kO.l5 N) λn ρ' e d=>by rw[e];rfl
theorem ac4(K):(FZ N).top K=kO.b N ((FZ N).kc K 11):=κ
def ac5:Kn prog:=⟨243,(FZ N).S false (kO N),Fx.u1 (FZ N) ax func243 [11] (ac4 N) (by rw[Qm];rfl)⟩
def X89:Fx:=⟨9,tab,[],N,f89,[.v dn],[.v I],[],none⟩
def Zo:Kn prog:=⟨89,(X89 N).S true (Re N),Fx.u0 (X89 N) ax func89⟩
def F0:Fx:=⟨15,tab,Kn.l [ac5 N,Zo N,Y0 N],N,f159,[.v bL],[.v B],[⟨5,[(0,.v bL),(3,.v I)],[1,0,1,0,0],[]⟩],none⟩
theorem UC(K ρ):(F0 N).bd K ρ 5=ll.dY N ((F0 N).kc ρ 5):=κ
theorem UD(ρ):(F0 N).kc ((F0 N).cM ρ) 5=ll.l2 N N:=Fx.uL [] (UC N) ρ (ll.l2 N) λn ρ' e d=>by rw[e];rfl
theorem ac6(K):(F0 N).top K=ll.b N ((F0 N).kc K 5):=κ
def ac7:Kn prog:=⟨159,(F0 N).S true (ll N),Fx.u1 (F0 N) ax func159 [5] (ac6 N) (by rw[UD];rfl)⟩
def Zp:Fx:=⟨9,tab,[],N,f164,[.v I],[.v B],[],none⟩
def Kh:Kn prog:=⟨164,(Zp N).S true (y3 N),Fx.u0 (Zp N) ax func164⟩
def Zq:Fx:=⟨56,tab,Kn.l [Kh N],N,f205,[.v Hj],[.v B],[],none⟩
def ac8:Kn prog:=⟨205,(Zq N).S true (Ou N),Fx.u0 (Zq N) ax func205⟩
def F1:Fx:=⟨37,tab,Kn.l [ac8 N],N,f160,[.v j8],[.v B],[⟨9,[(0,.v j8),(3,.v I)],[1,1,0,1,0,0],[]⟩],none⟩
theorem UE(K ρ):(F1 N).bd K ρ 9=kI.de N ((F1 N).kc ρ 9):=κ
theorem UF(ρ):(F1 N).kc ((F1 N).cM ρ) 9=kI.l4 N N:=Fx.uL [] (UE N) ρ (kI.l4 N) λn ρ' e d=>by rw[e];rfl
theorem ac9(K):(F1 N).top K=kI.b N ((F1 N).kc K 9):=κ
def Zr:Kn prog:=⟨160,(F1 N).S true (kI N),Fx.u1 (F1 N) ax func160 [9] (ac9 N) (by rw[UF];rfl)⟩
def F2:Fx:=⟨24,tab,Kn.l [Ui N,Qk N,RQ N],N,f161,[.v bL],[.v dn],[⟨11,[(0,.v bL),(2,.obj dn),(3,.obj dn),(4,.v I)],[1,1,1,0,1,0,0],[]⟩],none⟩
theorem Qn(K ρ):(F2 N).bd K ρ 11=kM.fX N ((F2 N).kc ρ 11):=κ
theorem Qo(ρ):(F2 N).kc ((F2 N).cM ρ) 11=kM.l5 N N:=Fx.uL [] (Qn N) ρ (kM.l5 N) λn ρ' e d=>by rw[e];rfl
theorem ada(K):(F2 N).top K=kM.b N ((F2 N).kc K 11):=κ
def adb:Kn prog:=⟨161,(F2 N).S false (kM N),Fx.u1 (F2 N) ax func161 [11] (ada N) (by rw[Qo];rfl)⟩
def F3:Fx:=⟨25,tab,[],N,f265,[.v jD,.v I],[.v CW,.v B],[⟨5,[(0,.v jD),(1,.v I),(4,.obj CW),(6,.v I)],[1,0,1,0,0],[]⟩],none⟩
theorem UG(K ρ):(F3 N).bd K ρ 5=ld.dY N ((F3 N).kc ρ 5):=κ
theorem UH(ρ):(F3 N).kc ((F3 N).cM ρ) 5=ld.l2 N N:=Fx.uL [] (UG N) ρ (ld.l2 N) λn ρ' e d=>by rw[e];rfl
theorem ade(K):(F3 N).top K=ld.b N ((F3 N).kc K 5):=κ
def adf:Kn prog:=⟨265,(F3 N).S true (ld N),Fx.u1 (F3 N) ax func265 [5] (ade N) (by rw[UH];rfl)⟩
def Zs:Fx:=⟨15,tab,Kn.l [Ur N,adf N],N,f190,[.v jD,.v I],[.v CW,.v B],[],none⟩
def Zt:Kn prog:=⟨190,(Zs N).S true (LN N),Fx.u0 (Zs N) ax func190⟩
def Zu:Fx:=⟨19,tab,Kn.l [Zt N],N,f162,[.v bE,.v I],[.v B],[],none⟩
def Zv:Kn prog:=⟨162,(Zu N).S true (Ew N),Fx.u0 (Zu N) ax func162⟩
def Zw:Fx:=⟨11,tab,Kn.l [Zh N,Zi N],N,f163,[.v ij,.v I],[.v I],[],none⟩
def Zx:Kn prog:=⟨163,(Zw N).S true (Eo N),Fx.u0 (Zw N) ax func163⟩
def zL:Fx:=⟨163,tab,Kn.l [k98 N,ac2 N,Ui N,ac7 N,Zr N,adb N,Zo N,Zv N,Zx N,Kh N],N,f70,[.v aY,.v bE],[.v B],[⟨45,[(2,.obj aY),(3,.obj bE),(9,.v I)],[1,1,1,1,1,1,0,1,0,0],[]⟩,⟨35,[(2,.obj aY),(3,.obj bE),(8,.v I)],[1,1,1,1,1,0,1,0,0],[]⟩,⟨25,[(2,.obj aY),(3,.obj bE),(7,.v I)],[1,1,1,1,0,1,0,0],[]⟩,⟨13,[(2,.obj aY),(3,.obj bE),(5,.v I)],[1,1,1,0,1,0,0],[]⟩],none⟩
theorem UI(K ρ):(zL N).bd K ρ 45=eV.Cd N ((zL N).kc ρ 45):=κ
theorem UJ(ρ):(zL N).kc ((zL N).cM ρ) 45=eV.Cb N N:=Fx.uL [] (UI N) ρ (eV.Cb N) λn ρ' e d=>by rw[e];rfl
theorem UK(K ρ):(zL N).bd K ρ 35=eV.OC N ((zL N).kc K 45) ((zL N).kc ρ 35):=κ
theorem UL(ρ):(zL N).kc ((zL N).cM ρ) 35=eV.OB N N:=Fx.uL [45] (UK N) ρ (eV.OB N) λn ρ' e d=>by rw[UJ,e];rfl
theorem UM(K ρ):(zL N).bd K ρ 25=eV.ua N ((zL N).kc K 35) ((zL N).kc ρ 25):=κ
theorem UN(ρ):(zL N).kc ((zL N).cM ρ) 25=eV.vd N N:=Fx.uL [35,45] (UM N) ρ (eV.vd N) λn ρ' e d=>by rw[UL,e];rfl
theorem UO(K ρ):(zL N).bd K ρ 13=eV.B4 N ((zL N).kc K 25) ((zL N).kc ρ 13):=κ
theorem UP(ρ):(zL N).kc ((zL N).cM ρ) 13=eV.l6 N N:=Fx.uL [25,35,45] (UO N) ρ (eV.l6 N) λn ρ' e d=>by rw[UN,e];rfl
theorem h70(K):(zL N).top K=eV.b N ((zL N).kc K 13):=κ
def Zy:Kn prog:=⟨70,(zL N).S true (eV N),Fx.u1 (zL N) ax func70 [13,25,35,45] (h70 N) (by rw[UP];rfl)⟩
def Zz:Fx:=⟨53,tab,Kn.l [Kh N],N,f187,[.v J9],[.v B],[],none⟩
def ZA:Kn prog:=⟨187,(Zz N).S true (Mc N),Fx.u0 (Zz N) ax func187⟩
def xq:Fx:=⟨71,tab,Kn.l [k88 N,VS N],N,f25,[.v dn,.v dn],[.v dn],[⟨18,[(2,.obj dn),(3,.obj dn),(4,.obj dn),(5,.own U),(6,.v I),(7,.v U),(8,.v I)],[1,1,0,1,0,0,1,0,0,1,1,0,0,1],[7,15]⟩,⟨15,[(2,.obj dn),(3,.obj dn),(4,.obj dn),(5,.own U),(6,.v I),(7,.v U),(8,.v I)],[1,1,0,1,0,0,1,0,0,1,1,0,0],[7]⟩,⟨7,[(2,.obj dn),(3,.obj dn),(4,.obj dn),(5,.own U),(6,.v I)],[1,1,0,1,0,0],[]⟩],none⟩
theorem UQ(K ρ):(xq N).bd K ρ 18=ja.j9b N ((xq N).kc ρ 7) ((xq N).kc ρ 15):=κ
theorem UR(ρ):(xq N).kc ((xq N).cM ρ) 18=ja.j9 N ((xq N).kc ρ 7) ((xq N).kc ρ 15):=Fx.uJ [] (UQ N) ρ
theorem US(K ρ):(xq N).bd K ρ 15=ja.pA N ((xq N).kc K 18) ((xq N).kc ρ 7) ((xq N).kc ρ 15):=κ
theorem UT(ρ):(xq N).kc ((xq N).cM ρ) 15=ja.l7 N ((xq N).kc ρ 7) N:=Fx.uL [18] (US N) ρ (ja.l7 N ((xq N).kc ρ 7)) λn ρ' e d=>by rw[UR,e,d 7 rfl];rfl
theorem ZB(K ρ):(xq N).bd K ρ 7=ja.zW N ((xq N).kc K 15) ((xq N).kc ρ 7):=κ
theorem ZC(ρ):(xq N).kc ((xq N).cM ρ) 7=ja.l3 N N:=Fx.uL [15] (ZB N) ρ (ja.l3 N) λn ρ' e d=>by rw[UT,e];rfl
theorem h25(K):(xq N).top K=ja.b N ((xq N).kc K 7):=κ
def k25:Kn prog:=⟨25,(xq N).S false (ja N),Fx.u1 (xq N) ax func25 [7] (h25 N) (by rw[ZC];rfl)⟩
def ZD:Fx:=⟨7,tab,[],N,f264,[.v I],[.v I,.v I],[],none⟩
def ZE:Kn prog:=⟨264,(ZD N).S true (JP N),Fx.u0 (ZD N) ax func264⟩
def X28:Fx:=⟨9,tab,Kn.l [VS N],N,f28,[.v dn],[.v dn],[],none⟩
def k28:Kn prog:=⟨28,(X28 N).S false (Xe N),Fx.u0 (X28 N) ax func28⟩
def ZF:Fx:=⟨53,tab,Kn.l [ZA N,Kh N,Qk N,k25 N,Zo N,ZE N,k28 N],N,f188,[.v J9,.v I],[.own wz,.v I],[],none⟩
def adg:Kn prog:=⟨188,(ZF N).S false (Md N),Fx.u0 (ZF N) ax func188⟩
def X74:Fx:=⟨28,tab,Kn.l [k88 N],N,f74,[.v dn],[.v I,.v B],[],none⟩
def k74:Kn prog:=⟨74,(X74 N).S true (Xg N),Fx.u0 (X74 N) ax func74⟩
def ZG:Fx:=⟨18,tab,Kn.l [k74 N],N,f288,[.v dn],[.v I,.v B],[],none⟩
def adh:Kn prog:=⟨288,(ZG N).S true (OK N),Fx.u0 (ZG N) ax func288⟩
def gJ:Fx:=⟨106,tab,Kn.l [Qk N,RQ N,adh N],N,f231,[.v bL,.v bL],[.own lF,.v B],[⟨31,[(0,.v bL),(1,.v bL),(6,.own lF),(7,.v I),(8,.v I),(9,.v I),(10,.v I),(11,.v B),(12,.obj dn),(13,.v I)],[1,1,1,0,1,0,0,1,0,0,1,0,0,1,0,0,1,1,1,0,1,0,0],[9,15]⟩,⟨26,[(0,.v bL),(1,.v bL),(6,.own lF),(7,.v I),(8,.v I),(9,.v I),(10,.v I),(11,.v B)],[1,1,1,0,1,0,0,1,0,0,1,0,0,1,0,0,1,1],[9,15]⟩,⟨15,[(0,.v bL),(1,.v bL),(6,.own lF),(7,.v I),(8,.v I),(9,.v I)],[1,1,1,0,1,0,0,1,0,0,1,0,0],[9]⟩,⟨9,[(0,.v bL),(1,.v bL),(6,.own lF),(7,.v I),(8,.v I)],[1,1,1,0,1,0,0],[]⟩],none⟩
theorem Qp(K ρ):(gJ N).bd K ρ 31=ch.OM N ((gJ N).kc ρ 9) ((gJ N).kc ρ 15) ((gJ N).kc ρ 31):=κ
theorem Qq(ρ):(gJ N).kc ((gJ N).cM ρ) 31=ch.OL N ((gJ N).kc ρ 9) ((gJ N).kc ρ 15) N:=Fx.uL [] (Qp N) ρ (ch.OL N ((gJ N).kc ρ 9) ((gJ N).kc ρ 15)) λn ρ' e d=>by rw[e,d 9 rfl,d 15 rfl];rfl
theorem Qr(K ρ):(gJ N).bd K ρ 26=ch.GU N ((gJ N).kc K 31) ((gJ N).kc ρ 9) ((gJ N).kc ρ 15):=κ
theorem Qs(ρ):(gJ N).kc ((gJ N).cM ρ) 26=ch.Nn N ((gJ N).kc ρ 9) ((gJ N).kc ρ 15):=Fx.uJ [31] (Qr N) ρ (by rw[Qq];rfl)
theorem Qt(K ρ):(gJ N).bd K ρ 15=ch.pA N ((gJ N).kc K 26) ((gJ N).kc ρ 9) ((gJ N).kc ρ 15):=κ
theorem Qu(ρ):(gJ N).kc ((gJ N).cM ρ) 15=ch.l7 N ((gJ N).kc ρ 9) N:=Fx.uL [26,31] (Qt N) ρ (ch.l7 N ((gJ N).kc ρ 9)) λn ρ' e d=>by rw[Qs,e,d 9 rfl];rfl
theorem UU(K ρ):(gJ N).bd K ρ 9=ch.de N ((gJ N).kc K 15) ((gJ N).kc ρ 9):=κ
theorem UW(ρ):(gJ N).kc ((gJ N).cM ρ) 9=ch.l4 N N:=Fx.uL [15] (UU N) ρ (ch.l4 N) λn ρ' e d=>by rw[Qu,e];rfl
theorem adi(K):(gJ N).top K=ch.b N ((gJ N).kc K 9):=κ
def adj:Kn prog:=⟨231,(gJ N).S false (ch N),Fx.u1 (gJ N) ax func231 [9] (adi N) (by rw[UW];rfl)⟩
def F4:Fx:=⟨53,tab,Kn.l [RQ N,Qk N,k74 N],N,f279,[.v I,.v I,.v I,.v m1],[.v I,.v B],[⟨7,[(0,.v I),(1,.v I),(2,.v I),(3,.v m1),(10,.obj dn),(11,.v B),(12,.v I)],[1,1,0,1,0,0],[]⟩],none⟩
theorem UX(K ρ):(F4 N).bd K ρ 7=ln.zW N ((F4 N).kc ρ 7):=κ
theorem UY(ρ):(F4 N).kc ((F4 N).cM ρ) 7=ln.l3 N N:=Fx.uL [] (UX N) ρ (ln.l3 N) λn ρ' e d=>by rw[e];rfl
theorem adk(K):(F4 N).top K=ln.b N ((F4 N).kc K 7):=κ
def adl:Kn prog:=⟨279,(F4 N).S true (ln N),Fx.u1 (F4 N) ax func279 [7] (adk N) (by rw[UY];rfl)⟩
def lW:Fx:=⟨69,tab,Kn.l [adl N],N,f213,[.v bL,.v m1],[.own lF,.v B],[⟨26,[(0,.v bL),(1,.v m1),(6,.own lF),(7,.v I),(8,.v I),(9,.v I),(10,.v I)],[1,1,1,0,1,0,0,1,0,0,1,0,0,1,0,0,1,1],[9,15]⟩,⟨15,[(0,.v bL),(1,.v m1),(6,.own lF),(7,.v I),(8,.v I),(9,.v I)],[1,1,1,0,1,0,0,1,0,0,1,0,0],[9]⟩,⟨9,[(0,.v bL),(1,.v m1),(6,.own lF),(7,.v I),(8,.v I)],[1,1,1,0,1,0,0],[]⟩],none⟩
theorem Qv(K ρ):(lW N).bd K ρ 26=cU.GU N ((lW N).kc ρ 9) ((lW N).kc ρ 15):=κ
theorem Qw(ρ):(lW N).kc ((lW N).cM ρ) 26=cU.Nn N ((lW N).kc ρ 9) ((lW N).kc ρ 15):=Fx.uJ [] (Qv N) ρ
theorem Qx(K ρ):(lW N).bd K ρ 15=cU.pA N ((lW N).kc K 26) ((lW N).kc ρ 9) ((lW N).kc ρ 15):=κ
theorem Qy(ρ):(lW N).kc ((lW N).cM ρ) 15=cU.l7 N ((lW N).kc ρ 9) N:=Fx.uL [26] (Qx N) ρ (cU.l7 N ((lW N).kc ρ 9)) λn ρ' e d=>by rw[Qw,e,d 9 rfl];rfl
theorem UZ(K ρ):(lW N).bd K ρ 9=cU.de N ((lW N).kc K 15) ((lW N).kc ρ 9):=κ
theorem U0(ρ):(lW N).kc ((lW N).cM ρ) 9=cU.l4 N N:=Fx.uL [15] (UZ N) ρ (cU.l4 N) λn ρ' e d=>by rw[Qy,e];rfl
theorem adm(K):(lW N).top K=cU.b N ((lW N).kc K 9):=κ
def adn:Kn prog:=⟨213,(lW N).S false (cU N),Fx.u1 (lW N) ax func213 [9] (adm N) (by rw[U0];rfl)⟩
def ZH:Fx:=⟨36,tab,Kn.l [adj N,adn N],N,f135,[.v bE,.v bL,.v m1],[.v bE,.v I],[],none⟩
def ZI:Kn prog:=⟨135,(ZH N).S false (L6 N),Fx.u0 (ZH N) ax func135⟩
def Ki:Fx:=⟨107,tab,Kn.l [Zy N,ZA N,Zv N,adg N,ZI N],N,f99,[.v aY,.v bE,.v vo],[.v bE,.v I],[⟨23,[(2,.v vo),(3,.obj aY),(4,.obj bE),(6,.obj bE),(9,.own lF),(10,.own wz),(11,.v I)],[1,1,1,1,1,0,1,0,0],[]⟩,⟨9,[(2,.v vo),(3,.obj aY),(4,.obj bE),(6,.obj bE),(8,.v I)],[1,1,0,1,0,0],[]⟩],none⟩
theorem U1(K ρ):(Ki N).bd K ρ 23=ov.OU N ((Ki N).kc ρ 23):=κ
theorem U2(ρ):(Ki N).kc ((Ki N).cM ρ) 23=ov.Rk N N:=Fx.uL [] (U1 N) ρ (ov.Rk N) λn ρ' e d=>by rw[e];rfl
theorem ZJ(K ρ):(Ki N).bd K ρ 9=ov.de N ((Ki N).kc K 23) ((Ki N).kc ρ 9):=κ
theorem ZK(ρ):(Ki N).kc ((Ki N).cM ρ) 9=ov.l4 N N:=Fx.uL [23] (ZJ N) ρ (ov.l4 N) λn ρ' e d=>by rw[U2,e];rfl
theorem h99(K):(Ki N).top K=ov.b N ((Ki N).kc K 9):=κ
def k99:Kn prog:=⟨99,(Ki N).S false (ov N),Fx.u1 (Ki N) ax func99 [9,23] (h99 N) (by rw[ZK];rfl)⟩
def X44:Fx:=⟨9,tab,Kn.l [k28 N,RQ N],N,f44,[.v dn,.v dn],[.v dn],[],none⟩
def k44:Kn prog:=⟨44,(X44 N).S false (SU N),Fx.u0 (X44 N) ax func44⟩
def F5:Fx:=⟨76,tab,Kn.l [Y0 N,Kh N,Qk N,k44 N,Zo N,ZE N,k25 N],N,f189,[.v bL,.v I,.v I,.v I],[.own wz,.v I],[⟨13,[(0,.v bL),(1,.v I),(10,.own wz),(11,.obj dn),(12,.v I)],[1,1,1,1,0,1,0,0],[]⟩],none⟩
theorem Qz(K ρ):(F5 N).bd K ρ 13=kX.B4 N ((F5 N).kc ρ 13):=κ
theorem QA(ρ):(F5 N).kc ((F5 N).cM ρ) 13=kX.l6 N N:=Fx.uL [] (Qz N) ρ (kX.l6 N) λn ρ' e d=>by rw[e];rfl
theorem adp(K):(F5 N).top K=kX.b N ((F5 N).kc K 13):=κ
def adq:Kn prog:=⟨189,(F5 N).S false (kX N),Fx.u1 (F5 N) ax func189 [13] (adp N) (by rw[QA];rfl)⟩
def ZL:Fx:=⟨70,tab,Kn.l [Zy N,Kh N,adq N,ZI N],N,f100,[.v aY,.v bE,.v I,.v I],[.v bE,.v m1,.v I],[],some (bE,[.fG 4],I,[5,13])⟩
def ads:Kn prog:=⟨100,(ZL N).S false (O8 N),Fx.u0 (ZL N) ax func100⟩
def RS:Fx:=⟨39,tab,Kn.l [Y0 N],N,f21,[.v bL,.v I],[.own Iy],[⟨11,[(0,.v bL),(1,.v I),(5,.own Iy),(6,.v I)],[1,1,1,0,1,0,0],[]⟩],none⟩
theorem U3(K ρ):(RS N).bd K ρ 11=wh.fX N ((RS N).kc ρ 11):=κ
theorem U4(ρ):(RS N).kc ((RS N).cM ρ) 11=wh.l5 N N:=Fx.uL [] (U3 N) ρ (wh.l5 N) λn ρ' e d=>by rw[e];rfl
theorem h21(K):(RS N).top K=wh.b N ((RS N).kc K 11):=κ
def k21:Kn prog:=⟨21,(RS N).S false (wh N),Fx.u1 (RS N) ax func21 [11] (h21 N) (by rw[U4];rfl)⟩
def rQ:Fx:=⟨74,tab,[],N,f207,[.v j8,.v I],[.own lF],[⟨15,[(0,.v j8),(1,.v I),(5,.own lF),(6,.v I),(7,.obj lF),(8,.v I)],[1,1,0,1,0,0,1,0,0,1,0,1,0,0],[7]⟩,⟨7,[(0,.v j8),(1,.v I),(5,.own lF),(6,.v I)],[1,1,0,1,0,0],[]⟩],none⟩
theorem QB(K ρ):(rQ N).bd K ρ 15=eb.pA N ((rQ N).kc ρ 7) ((rQ N).kc ρ 15):=κ
theorem QC(ρ):(rQ N).kc ((rQ N).cM ρ) 15=eb.l7 N ((rQ N).kc ρ 7) N:=Fx.uL [] (QB N) ρ (eb.l7 N ((rQ N).kc ρ 7)) λn ρ' e d=>by rw[e,d 7 rfl];rfl
theorem U5(K ρ):(rQ N).bd K ρ 7=eb.zW N ((rQ N).kc K 15) ((rQ N).kc ρ 7):=κ
theorem U6(ρ):(rQ N).kc ((rQ N).cM ρ) 7=eb.l3 N N:=Fx.uL [15] (U5 N) ρ (eb.l3 N) λn ρ' e d=>by rw[QC,e];rfl
theorem adt(K):(rQ N).top K=eb.b N ((rQ N).kc K 7):=κ
def adu:Kn prog:=⟨207,(rQ N).S false (eb N),Fx.u1 (rQ N) ax func207 [7] (adt N) (by rw[U6];rfl)⟩
def F6:Fx:=⟨66,tab,Kn.l [k98 N],N,f150,[.v aY,.v ij],[.v B],[⟨9,[(1,.v ij),(2,.obj aY),(5,.v I)],[1,1,0,1,0,0],[]⟩],none⟩
theorem U7(K ρ):(F6 N).bd K ρ 9=kP.de N ((F6 N).kc ρ 9):=κ
theorem U8(ρ):(F6 N).kc ((F6 N).cM ρ) 9=kP.l4 N N:=Fx.uL [] (U7 N) ρ (kP.l4 N) λn ρ' e d=>by rw[e];rfl
theorem adv(K):(F6 N).top K=kP.b N ((F6 N).kc K 9):=κ
def ZM:Kn prog:=⟨150,(F6 N).S true (kP N),Fx.u1 (F6 N) ax func150 [9] (adv N) (by rw[U8];rfl)⟩
def F8:Fx:=⟨79,tab,Kn.l [k98 N],N,f273,[.v aY,.v bL],[.v B],[⟨11,[(1,.v bL),(2,.obj aY),(5,.v I),(6,.v I)],[1,1,1,0,1,0,0],[]⟩],none⟩
theorem QD(K ρ):(F8 N).bd K ρ 11=kU.fX N ((F8 N).kc ρ 11):=κ
theorem QE(ρ):(F8 N).kc ((F8 N).cM ρ) 11=kU.l5 N N:=Fx.uL [] (QD N) ρ (kU.l5 N) λn ρ' e d=>by rw[e];rfl
theorem adw(K):(F8 N).top K=kU.b N ((F8 N).kc K 11):=κ
def ZN:Kn prog:=⟨273,(F8 N).S true (kU N),Fx.u1 (F8 N) ax func273 [11] (adw N) (by rw[QE];rfl)⟩
def X26:Fx:=⟨6,tab,Kn.l [VS N],N,f26,[.v dn],[.v dn],[],none⟩
def k26:Kn prog:=⟨26,(X26 N).S false (SS N),Fx.u0 (X26 N) ax func26⟩
def X27:Fx:=⟨9,tab,Kn.l [k44 N,Zo N],N,f27,[.v dn,.v dn],[.v I],[],none⟩
def k27:Kn prog:=⟨27,(X27 N).S true (VB N),Fx.u0 (X27 N) ax func27⟩
def vq:Fx:=⟨96,tab,Kn.l [ZM N,ZN N,Qk N,RQ N,k26 N,k44 N,k27 N],N,f206,[.v aY,.v ij,.v bL,.v I],[.v dn,.v I],[⟨25,[(2,.v bL),(3,.v I),(8,.obj dn),(10,.obj dn),(11,.obj dn),(12,.obj dn),(14,.v I)],[1,1,1,1,1,0,1,0,0],[]⟩,⟨15,[(1,.v ij),(2,.v bL),(3,.v I),(8,.obj dn),(10,.obj dn),(11,.obj dn),(12,.obj dn),(13,.v I)],[1,1,1,1,0,1,0,0],[]⟩],none⟩
theorem QF(K ρ):(vq N).bd K ρ 25=eY.ua N ((vq N).kc ρ 25):=κ
theorem QG(ρ):(vq N).kc ((vq N).cM ρ) 25=eY.vd N N:=Fx.uL [] (QF N) ρ (eY.vd N) λn ρ' e d=>by rw[e];rfl
theorem QH(K ρ):(vq N).bd K ρ 15=eY.pA N ((vq N).kc K 25) ((vq N).kc ρ 15):=κ
theorem QI(ρ):(vq N).kc ((vq N).cM ρ) 15=eY.l7 N N:=Fx.uL [25] (QH N) ρ (eY.l7 N) λn ρ' e d=>by rw[QG,e];rfl
theorem adx(K):(vq N).top K=eY.b N ((vq N).kc K 15):=κ
def ady:Kn prog:=⟨206,(vq N).S false (eY N),Fx.u1 (vq N) ax func206 [15,25] (adx N) (by rw[QI];rfl)⟩
def F9:Fx:=⟨50,tab,Kn.l [ZM N,ZN N,ady N,Qk N,k25 N,RQ N],N,f266,[.v aY,.v ij,.v bL],[.v dn,.v I],[⟨11,[(1,.v ij),(2,.v bL),(3,.obj aY),(6,.obj dn),(8,.obj dn),(9,.v I)],[1,1,1,0,1,0,0],[]⟩],none⟩
theorem QJ(K ρ):(F9 N).bd K ρ 11=mV.fX N ((F9 N).kc ρ 11):=κ
theorem QK(ρ):(F9 N).kc ((F9 N).cM ρ) 11=mV.l5 N N:=Fx.uL [] (QJ N) ρ (mV.l5 N) λn ρ' e d=>by rw[e];rfl
theorem adz(K):(F9 N).top K=mV.b N ((F9 N).kc K 11):=κ
def adA:Kn prog:=⟨266,(F9 N).S false (mV N),Fx.u1 (F9 N) ax func266 [11] (adz N) (by rw[QK];rfl)⟩
def ZO:Fx:=⟨31,tab,Kn.l [k21 N,adu N,adA N],N,f191,[.v aY,.v bE,.v I,.v j8],[.v dn],[],none⟩
def adB:Kn prog:=⟨191,(ZO N).S false (Pg N),Fx.u0 (ZO N) ax func191⟩
def ZP:Fx:=⟨29,tab,Kn.l [Zy N,Zt N,adB N],N,f101,[.v aY,.v bE,.v I],[.v dn,.v I],[],none⟩
def adC:Kn prog:=⟨101,(ZP N).S false (Pf N),Fx.u0 (ZP N) ax func101⟩
def Ga:Fx:=⟨33,tab,Kn.l [Ur N],N,f193,[.v jD,.v I],[.own I],[⟨11,[(0,.v jD),(1,.v I),(5,.own I),(6,.v I)],[1,1,1,0,1,0,0],[]⟩],none⟩
theorem QL(K ρ):(Ga N).bd K ρ 11=kZ.fX N ((Ga N).kc ρ 11):=κ
theorem QM(ρ):(Ga N).kc ((Ga N).cM ρ) 11=kZ.l5 N N:=Fx.uL [] (QL N) ρ (kZ.l5 N) λn ρ' e d=>by rw[e];rfl
theorem adD(K):(Ga N).top K=kZ.b N ((Ga N).kc K 11):=κ
def adE:Kn prog:=⟨193,(Ga N).S false (kZ N),Fx.u1 (Ga N) ax func193 [11] (adD N) (by rw[QM];rfl)⟩
def rR:Fx:=⟨48,tab,Kn.l [Zr N],N,f192,[.v j8,.v LI],[.own Hj],[⟨19,[(0,.v j8),(1,.v LI),(5,.own Hj),(6,.v I),(7,.v B),(8,.v I)],[1,1,1,0,1,0,0,1,0,0,1,0,1,0,0],[11]⟩,⟨11,[(0,.v j8),(1,.v LI),(5,.own Hj),(6,.v I)],[1,1,1,0,1,0,0],[]⟩],none⟩
theorem QN(K ρ):(rR N).bd K ρ 19=ek.OY N ((rR N).kc ρ 11) ((rR N).kc ρ 19):=κ
theorem QO(ρ):(rR N).kc ((rR N).cM ρ) 19=ek.l9 N ((rR N).kc ρ 11) N:=Fx.uL [] (QN N) ρ (ek.l9 N ((rR N).kc ρ 11)) λn ρ' e d=>by rw[e,d 11 rfl];rfl
theorem QP(K ρ):(rR N).bd K ρ 11=ek.fX N ((rR N).kc K 19) ((rR N).kc ρ 11):=κ
theorem QQ(ρ):(rR N).kc ((rR N).cM ρ) 11=ek.l5 N N:=Fx.uL [19] (QP N) ρ (ek.l5 N) λn ρ' e d=>by rw[QO,e];rfl
theorem adF(K):(rR N).top K=ek.b N ((rR N).kc K 11):=κ
def adG:Kn prog:=⟨192,(rR N).S false (ek N),Fx.u1 (rR N) ax func192 [11] (adF N) (by rw[QQ];rfl)⟩
def ZQ:Fx:=⟨28,tab,Kn.l [Zy N,Zx N,adE N,adG N],N,f102,[.v aY,.v bE,.v I],[.v bE,.v I],[],none⟩
def adH:Kn prog:=⟨102,(ZQ N).S false (Pe N),Fx.u0 (ZQ N) ax func102⟩
def ZR:Fx:=⟨16,tab,Kn.l [Qk N,VS N,k25 N,k87 N,RQ N],N,f194,[.v cG],[.v dn],[],none⟩
def adI:Kn prog:=⟨194,(ZR N).S false (O3 N),Fx.u0 (ZR N) ax func194⟩
def ZS:Fx:=⟨10,tab,Kn.l [adI N,k27 N],N,f104,[.v cG,.v dn],[.v B],[],none⟩
def ZT:Kn prog:=⟨104,(ZS N).S true (Mo N),Fx.u0 (ZS N) ax func104⟩
def Gb:Fx:=⟨55,tab,Kn.l [ZT N],N,f103,[.v eD,.v m1],[.v B],[⟨9,[(0,.v eD),(1,.v m1),(5,.v I)],[1,1,0,1,0,0],[]⟩],none⟩
theorem U9(K ρ):(Gb N).bd K ρ 9=lx.de N ((Gb N).kc ρ 9):=κ
theorem Va(ρ):(Gb N).kc ((Gb N).cM ρ) 9=lx.l4 N N:=Fx.uL [] (U9 N) ρ (lx.l4 N) λn ρ' e d=>by rw[e];rfl
theorem adJ(K):(Gb N).top K=lx.b N ((Gb N).kc K 9):=κ
def adK:Kn prog:=⟨103,(Gb N).S true (lx N),Fx.u1 (Gb N) ax func103 [9] (adJ N) (by rw[Va];rfl)⟩
def QR:Fx:=⟨145,tab,Kn.l [k93 N,k99 N,k94 N,ads N,k95 N,adC N,k96 N,adH N,k34 N,adK N,ZT N,VQ N,Zy N],N,f35,[.v aY,.v bE,.v vo,.v I,.v I,.v I,.v I],[.v B],[],none⟩
theorem afn:mI prog (QR N).E:=Fx.AV (QR N) ax (Kn.all _) κ
theorem afo: ∀x,CN (QR N).E (QR N).fn (QR N).args (QR N).res x=yM (QR N).args (Xw N) x:=Fx.Jk κ
def k35:Kn prog:=⟨35,(QR N).S true (Xw N),Fx.u0 (QR N) ax func35⟩
def X7:Fx:=⟨58,tab,Kn.l [k30 N,k31 N,k32 N,k33 N,k34 N,k35 N],N,f7,[.v aY,.v bE,.v vo,.v I,.v I,.v I,.v I],[.v B],[],none⟩
theorem adL:mI prog (X7 N).E:=Fx.AV (X7 N) ax (Kn.all _) κ
theorem adM: ∀x,CN (X7 N).E (X7 N).fn (X7 N).args (X7 N).res x=yM (X7 N).args (F7 N) x:=Fx.Jk κ
def k7:Kn prog:=⟨7,(X7 N).S true (F7 N),Fx.u0 (X7 N) ax func7⟩
end
end VM.F
