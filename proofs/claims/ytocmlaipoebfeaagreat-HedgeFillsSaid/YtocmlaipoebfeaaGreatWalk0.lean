/- A part of the proof of HedgeFills of layer 22: each function of the program does what its equation says; printed by a program. -/
import Derived.Test.YtocmlaipoebfeaaGreatText
import Derived.Test.YtocmlaipoebfeaaGreatVm7
import Derived.Test.YtocmlaipoebfeaaGreatProg
import Derived.KernelRfl
set_option linter.all false
namespace VM.F
open Go VM Go.Proofs
set_option maxRecDepth 100000
abbrev I:Ty:= .int .i64
abbrev U:Ty:= .int .u64
abbrev B:Ty:= .bool
abbrev Z:Ty:= .str
abbrev Tt:Ty:= .slice qY
abbrev Ip:Ty:= .slice iA
abbrev cC:Ty:= .slice gC
abbrev Lt:Ty:= .slice cn
abbrev aiA:Ty:= .slice bY
abbrev anZ:Ty:= .slice dj
abbrev bT:Ty:= .slice fA
abbrev Tu:Ty:= .slice qZ
abbrev dA:Ty:= .slice cU
abbrev gu:Ty:= .slice q3
abbrev tu:Ty:= .slice oi
abbrev kX:Ty:= .slice oc
abbrev jF:Ty:= .slice jg
abbrev acT:Ty:= .slice nj
abbrev iM:Ty:= .slice gA
abbrev aiB:Ty:= .slice dZ
abbrev aiC:Ty:= .slice aq
abbrev an0:Ty:= .slice az
abbrev agq:Ty:= .slice lZ
abbrev al7:Ty:= .slice cz
abbrev LI:Ty:= .slice I
abbrev LU:Ty:= .slice U
def tab:List (Nat×Ty):=[(2,I),(3,I),(4,B),(5,(.int .u8)),(9,Z),(22,LU),(26,dA),(28,aq),(29,cC),(30,dA),(31,bT),(32,bT),(33,LI),(34,jF),(36,az),(37,dA),(38,iM),(39,dA),(40,LI),(41,cC),(42,cC),(44,lZ),(45,tu),(47,dZ),(49,cz),(53,cC),(55,gA),(57,I),(62,cU),(64,bY),(69,gC),(83,bT),(88,fA),(95,cU),(96,U),(99,Lt),(105,cn),(112,jg),(118,dj),(127,gu),(131,q3),(137,fA),(139,fA),(142,cU),(158,cU),(160,acT),(163,nj),(165,bT),(172,U),(173,aiA),(191,oi),(193,tu),(197,bT),(206,gC),(212,kX),(240,fA),(258,fA),(265,oc),(271,(.arr 13 B)),(296,(.arr 2 I)),(340,gC),(374,gC),(382,oi)]
theorem ar:zU Tryz.prog tab:=⟨by kernel_rfl,by kernel_rfl⟩
section
variable(N:Nat)
noncomputable abbrev SK:iC:=oD.S N
noncomputable abbrev SL:iC:=oC.S N
theorem SM:e7 Tryz.prog 170 (SL N):=NN N Tryz.func170 (by kernel_rfl) (by kernel_rfl) (by kernel_rfl) (by kernel_rfl)
noncomputable def E9:Kn Tryz.prog:=⟨170,SL N,SM N⟩
theorem SN:e7 Tryz.prog 229 (SK N):=NO N Tryz.func229 (by kernel_rfl) (by kernel_rfl) (by kernel_rfl) (by kernel_rfl)
noncomputable def Lu:Kn Tryz.prog:=⟨229,SK N,SN N⟩
noncomputable abbrev Iq:iC:=gZ (.pair (.int .i64) (.pair (.int .i64) (.pair (.int .i64) .unit))) N
noncomputable def Fa.Ir:Go.Shelf.Ren:={f:=fun i=>cond (Nat.beq i 29) 233 (cond (Nat.beq i 30) 234 0),t:=fun i=>cond (Nat.beq i 24) 197 (cond (Nat.beq i 9) 258 (cond (Nat.beq i 3) 3 (cond (Nat.beq i 4) 4 0))),g:=fun _=>0}
theorem Fa.sF:Kg Tryz.prog (.pair (.int .i64) (.pair (.int .i64) (.pair (.int .i64) .unit))) Fa.Ir 181 Tryz.f181 Tryz.f233:=⟨Tryz.func181.trans (by kernel_rfl),Tryz.underlying3,Tryz.underlying4,Tryz.underlying197,eA (x:= .inl 258) (by kernel_rfl),by decide,by kernel_rfl⟩
theorem Lv:e7 Tryz.prog 181 (Iq N):=ub Fa.sF ⟨Tryz.func233,by kernel_rfl,by kernel_rfl,by kernel_rfl,by kernel_rfl⟩ (by kernel_rfl) (by kernel_rfl) N
noncomputable def SO:Kn Tryz.prog:=⟨181,Iq N,Lv N⟩
noncomputable abbrev Is:iC:=rJ (.pair (.int .i64) (.pair (.int .i64) .unit)) N
noncomputable def Fb.Ir:Go.Shelf.Ren:={f:=fun i=>0,t:=fun i=>cond (Nat.beq i 3) 206 (cond (Nat.beq i 4) 4 29),g:=fun _=>0}
theorem Fb.sF:Eg Tryz.prog (.pair (.int .i64) (.pair (.int .i64) .unit)) Fb.Ir 201 Tryz.f201:=⟨Tryz.func201.trans (by kernel_rfl),Tryz.underlying4,Tryz.underlying29,eA (x:= .inl 206) (by kernel_rfl),by decide,by kernel_rfl⟩
theorem Lw:e7 Tryz.prog 201 (Is N):=nc Fb.sF (by kernel_rfl) (by kernel_rfl) N
noncomputable def SP:Kn Tryz.prog:=⟨201,Is N,Lw N⟩
noncomputable abbrev It:iC:=rJ (.pair (.int .i64) (.pair (.int .i64) (.pair (.int .i64) (.pair (.int .i64) .unit)))) N
noncomputable def Fc.Ir:Go.Shelf.Ren:={f:=fun i=>0,t:=fun i=>cond (Nat.beq i 3) 142 (cond (Nat.beq i 4) 4 30),g:=fun _=>0}
theorem Fc.sF:Eg Tryz.prog (.pair (.int .i64) (.pair (.int .i64) (.pair (.int .i64) (.pair (.int .i64) .unit)))) Fc.Ir 202 Tryz.f202:=⟨Tryz.func202.trans (by kernel_rfl),Tryz.underlying4,Tryz.underlying30,eA (x:= .inl 142) (by kernel_rfl),by decide,by kernel_rfl⟩
theorem Lx:e7 Tryz.prog 202 (It N):=nc Fc.sF (by kernel_rfl) (by kernel_rfl) N
noncomputable def SQ:Kn Tryz.prog:=⟨202,It N,Lx N⟩
noncomputable abbrev Iu:iC:=rJ (.pair (.int .i64) (.pair (.int .i64) (.pair (.int .i64) .unit))) N
noncomputable def Fe.Ir:Go.Shelf.Ren:={f:=fun i=>0,t:=fun i=>cond (Nat.beq i 3) 137 (cond (Nat.beq i 4) 4 31),g:=fun _=>0}
theorem Fe.sF:Eg Tryz.prog (.pair (.int .i64) (.pair (.int .i64) (.pair (.int .i64) .unit))) Fe.Ir 203 Tryz.f203:=⟨Tryz.func203.trans (by kernel_rfl),Tryz.underlying4,Tryz.underlying31,eA (x:= .inl 137) (by kernel_rfl),by decide,by kernel_rfl⟩
theorem Ly:e7 Tryz.prog 203 (Iu N):=nc Fe.sF (by kernel_rfl) (by kernel_rfl) N
noncomputable def Iv:Kn Tryz.prog:=⟨203,Iu N,Ly N⟩
noncomputable abbrev Iw:iC:=rJ (.pair (.int .i64) (.pair (.int .i64) (.pair (.int .i64) .unit))) N
noncomputable def Ff.Ir:Go.Shelf.Ren:={f:=fun i=>0,t:=fun i=>cond (Nat.beq i 3) 139 (cond (Nat.beq i 4) 4 32),g:=fun _=>0}
theorem Ff.sF:Eg Tryz.prog (.pair (.int .i64) (.pair (.int .i64) (.pair (.int .i64) .unit))) Ff.Ir 204 Tryz.f204:=⟨Tryz.func204.trans (by kernel_rfl),Tryz.underlying4,Tryz.underlying32,eA (x:= .inl 139) (by kernel_rfl),by decide,by kernel_rfl⟩
theorem LA:e7 Tryz.prog 204 (Iw N):=nc Ff.sF (by kernel_rfl) (by kernel_rfl) N
noncomputable def Ix:Kn Tryz.prog:=⟨204,Iw N,LA N⟩
noncomputable abbrev Iy:iC:=rJ (.int .i64) N
noncomputable def Fg.Ir:Go.Shelf.Ren:={f:=fun i=>0,t:=fun i=>cond (Nat.beq i 3) 2 (cond (Nat.beq i 4) 4 33),g:=fun _=>0}
theorem Fg.sF:Eg Tryz.prog (.int .i64) Fg.Ir 205 Tryz.f205:=⟨Tryz.func205.trans (by kernel_rfl),Tryz.underlying4,Tryz.underlying33,eA (x:= .inl 2) (by kernel_rfl),by decide,by kernel_rfl⟩
theorem LB:e7 Tryz.prog 205 (Iy N):=nc Fg.sF (by kernel_rfl) (by kernel_rfl) N
noncomputable def SS:Kn Tryz.prog:=⟨205,Iy N,LB N⟩
noncomputable abbrev Iz:iC:=rJ (.pair (.int .i64) (.pair (.int .i64) (.pair (.int .i64) (.pair (.int .i64) (.pair (.int .i64) (.pair (.int .i64) .unit)))))) N
noncomputable def Fh.Ir:Go.Shelf.Ren:={f:=fun i=>0,t:=fun i=>cond (Nat.beq i 3) 112 (cond (Nat.beq i 4) 4 34),g:=fun _=>0}
theorem Fh.sF:Eg Tryz.prog (.pair (.int .i64) (.pair (.int .i64) (.pair (.int .i64) (.pair (.int .i64) (.pair (.int .i64) (.pair (.int .i64) .unit)))))) Fh.Ir 206 Tryz.f206:=⟨Tryz.func206.trans (by kernel_rfl),Tryz.underlying4,Tryz.underlying34,eA (x:= .inl 112) (by kernel_rfl),by decide,by kernel_rfl⟩
theorem LC:e7 Tryz.prog 206 (Iz N):=nc Fh.sF (by kernel_rfl) (by kernel_rfl) N
noncomputable def SU:Kn Tryz.prog:=⟨206,Iz N,LC N⟩
noncomputable abbrev IA:iC:=gZ (.pair (.int .i64) (.pair (.int .i64) (.pair (.int .i64) .unit))) N
noncomputable def Fi.Ir:Go.Shelf.Ren:={f:=fun i=>cond (Nat.beq i 29) 242 (cond (Nat.beq i 30) 243 0),t:=fun i=>cond (Nat.beq i 24) 32 (cond (Nat.beq i 9) 139 (cond (Nat.beq i 3) 3 (cond (Nat.beq i 4) 4 0))),g:=fun _=>0}
theorem Fi.sF:Kg Tryz.prog (.pair (.int .i64) (.pair (.int .i64) (.pair (.int .i64) .unit))) Fi.Ir 210 Tryz.f210 Tryz.f242:=⟨Tryz.func210.trans (by kernel_rfl),Tryz.underlying3,Tryz.underlying4,Tryz.underlying32,eA (x:= .inl 139) (by kernel_rfl),by decide,by kernel_rfl⟩
theorem LD:e7 Tryz.prog 210 (IA N):=ub Fi.sF ⟨Tryz.func242,by kernel_rfl,by kernel_rfl,by kernel_rfl,by kernel_rfl⟩ (by kernel_rfl) (by kernel_rfl) N
noncomputable def SV:Kn Tryz.prog:=⟨210,IA N,LD N⟩
noncomputable abbrev IB:iC:=gZ (.pair (.int .i64) (.pair (.int .i64) (.pair (.int .i64) .unit))) N
noncomputable def Fj.Ir:Go.Shelf.Ren:={f:=fun i=>cond (Nat.beq i 29) 244 (cond (Nat.beq i 30) 245 0),t:=fun i=>cond (Nat.beq i 24) 31 (cond (Nat.beq i 9) 137 (cond (Nat.beq i 3) 3 (cond (Nat.beq i 4) 4 0))),g:=fun _=>0}
theorem Fj.sF:Kg Tryz.prog (.pair (.int .i64) (.pair (.int .i64) (.pair (.int .i64) .unit))) Fj.Ir 212 Tryz.f212 Tryz.f244:=⟨Tryz.func212.trans (by kernel_rfl),Tryz.underlying3,Tryz.underlying4,Tryz.underlying31,eA (x:= .inl 137) (by kernel_rfl),by decide,by kernel_rfl⟩
theorem LF:e7 Tryz.prog 212 (IB N):=ub Fj.sF ⟨Tryz.func244,by kernel_rfl,by kernel_rfl,by kernel_rfl,by kernel_rfl⟩ (by kernel_rfl) (by kernel_rfl) N
noncomputable def SW:Kn Tryz.prog:=⟨212,IB N,LF N⟩
noncomputable def VQ:Fx:=⟨24,tab,[],N,Tryz.f99,[],[.v aq,.v az],[],none⟩
theorem asF:pN Tryz.prog (VQ N).E:=Fx.Me (VQ N) ar trivial (by kernel_rfl)
theorem asG: ∀x,Jy (VQ N).E (VQ N).fn (VQ N).args (VQ N).res x=D9 (VQ N).args (F99 N) x:=Fx.ab4 (by kernel_rfl)
noncomputable def k99:Kn Tryz.prog:=⟨99,(VQ N).S false (F99 N),Fx.u0 (VQ N) ar Tryz.func99⟩
noncomputable def aiD:Fx:=⟨15,tab,[],N,Tryz.f150,[.v I,.v I,.v I],[.v B],[],none⟩
noncomputable def an1:Kn Tryz.prog:=⟨150,(aiD N).S true (yF N),Fx.u0 (aiD N) ar Tryz.func150⟩
noncomputable def X75:Fx:=⟨68,tab,Kn.l [an1 N],N,Tryz.f75,[.v aq],[.v B],[⟨9,[(1,.obj aq),(11,.v dA),(12,.v I),(13,.v I)],[1,1,0,1,0,0],[]⟩],none⟩
theorem aiE(K ρ):(X75 N).bd K ρ 9=wi.c5 N ((X75 N).kc ρ 9):=by kernel_rfl
theorem aiF(ρ):(X75 N).kc ((X75 N).bp ρ) 9=wi.l4 N N:=Fx.uL [] (aiE N) ρ (wi.l4 N) fun n ρ' e d=>by rw[e];rfl
theorem h75(K):(X75 N).top K=wi.b N ((X75 N).kc K 9):=by kernel_rfl
noncomputable def k75:Kn Tryz.prog:=⟨75,(X75 N).S true (wi N),Fx.u1 (X75 N) ar Tryz.func75 [9] (h75 N) (by rw[aiF];rfl)⟩
noncomputable def IC:Fx:=⟨46,tab,[],N,Tryz.f144,[.v cC],[.v B],[⟨5,[(0,.v cC),(5,.v cC),(6,.v I),(7,.v I)],[1,0,1,0,0],[]⟩],none⟩
theorem acU(K ρ):(IC N).bd K ρ 5=lF.dr N ((IC N).kc ρ 5):=by kernel_rfl
theorem acV(ρ):(IC N).kc ((IC N).bp ρ) 5=lF.l2 N N:=Fx.uL [] (acU N) ρ (lF.l2 N) fun n ρ' e d=>by rw[e];rfl
theorem an2(K):(IC N).top K=lF.b N ((IC N).kc K 5):=by kernel_rfl
noncomputable def aiG:Kn Tryz.prog:=⟨144,(IC N).S true (lF N),Fx.u1 (IC N) ar Tryz.func144 [5] (an2 N) (by rw[acV];rfl)⟩
noncomputable def ID:Fx:=⟨77,tab,[],N,Tryz.f143,[.v dA],[.v B],[⟨7,[(0,.v dA),(3,.obj (.arr 13 B)),(6,.v dA),(7,.v I),(8,.v I)],[1,1,0,1,0,0],[]⟩],none⟩
theorem acW(K ρ):(ID N).bd K ρ 7=jD.kq N ((ID N).kc ρ 7):=by kernel_rfl
theorem acX(ρ):(ID N).kc ((ID N).bp ρ) 7=jD.l3 N N:=Fx.uL [] (acW N) ρ (jD.l3 N) fun n ρ' e d=>by rw[e];rfl
theorem an3(K):(ID N).top K=jD.b N ((ID N).kc K 7):=by kernel_rfl
noncomputable def aiH:Kn Tryz.prog:=⟨143,(ID N).S true (jD N),Fx.u1 (ID N) ar Tryz.func143 [7] (an3 N) (by rw[acX];rfl)⟩
noncomputable def X63:Fx:=⟨23,tab,Kn.l [aiG N],N,Tryz.f63,[.v cC,.v I],[.v I],[⟨9,[(1,.v I),(10,.v cC),(11,.v I),(12,.v I)],[1,1,0,1,0,0],[]⟩],none⟩
theorem aiI(K ρ):(X63 N).bd K ρ 9=vr.c5 N ((X63 N).kc ρ 9):=by kernel_rfl
theorem aiJ(ρ):(X63 N).kc ((X63 N).bp ρ) 9=vr.l4 N N:=Fx.uL [] (aiI N) ρ (vr.l4 N) fun n ρ' e d=>by rw[e];rfl
theorem h63(K):(X63 N).top K=vr.b N ((X63 N).kc K 9):=by kernel_rfl
noncomputable def k63:Kn Tryz.prog:=⟨63,(X63 N).S true (vr N),Fx.u1 (X63 N) ar Tryz.func63 [9] (h63 N) (by rw[aiJ];rfl)⟩
noncomputable def X76:Fx:=⟨27,tab,Kn.l [aiG N,aiH N,k63 N],N,Tryz.f76,[.v cC,.v dA],[.v B],[⟨9,[(0,.v cC),(15,.v dA),(16,.v I),(17,.v I)],[1,1,0,1,0,0],[]⟩],none⟩
theorem aiK(K ρ):(X76 N).bd K ρ 9=yI.c5 N ((X76 N).kc ρ 9):=by kernel_rfl
theorem aiL(ρ):(X76 N).kc ((X76 N).bp ρ) 9=yI.l4 N N:=Fx.uL [] (aiK N) ρ (yI.l4 N) fun n ρ' e d=>by rw[e];rfl
theorem h76(K):(X76 N).top K=yI.b N ((X76 N).kc K 9):=by kernel_rfl
noncomputable def k76:Kn Tryz.prog:=⟨76,(X76 N).S true (yI N),Fx.u1 (X76 N) ar Tryz.func76 [9] (h76 N) (by rw[aiL];rfl)⟩
noncomputable def aiM:Fx:=⟨30,tab,[],N,Tryz.f151,[.v I,.v I],[.v B],[],none⟩
noncomputable def aiN:Kn Tryz.prog:=⟨151,(aiM N).S true (Kk N),Fx.u0 (aiM N) ar Tryz.func151⟩
noncomputable def aiO:Fx:=⟨19,tab,[],N,Tryz.f152,[.v I,.v I,.v fA],[.v I],[],none⟩
noncomputable def aiP:Kn Tryz.prog:=⟨152,(aiO N).S true (Km N),Fx.u0 (aiO N) ar Tryz.func152⟩
noncomputable def X77:Fx:=⟨41,tab,Kn.l [aiN N,aiP N],N,Tryz.f77,[.v bT],[.v B],[⟨5,[(0,.v bT),(5,.v bT),(6,.v I),(7,.v I)],[1,0,1,0,0],[]⟩],none⟩
theorem aiQ(K ρ):(X77 N).bd K ρ 5=wj.dr N ((X77 N).kc ρ 5):=by kernel_rfl
theorem aiR(ρ):(X77 N).kc ((X77 N).bp ρ) 5=wj.l2 N N:=Fx.uL [] (aiQ N) ρ (wj.l2 N) fun n ρ' e d=>by rw[e];rfl
theorem h77(K):(X77 N).top K=wj.b N ((X77 N).kc K 5):=by kernel_rfl
noncomputable def k77:Kn Tryz.prog:=⟨77,(X77 N).S true (wj N),Fx.u1 (X77 N) ar Tryz.func77 [5] (h77 N) (by rw[aiR];rfl)⟩
noncomputable def X64:Fx:=⟨8,tab,[],N,Tryz.f64,[.v I],[.v cn],[],none⟩
noncomputable def VS:Kn Tryz.prog:=⟨64,(X64 N).S true (B8 N),Fx.u0 (X64 N) ar Tryz.func64⟩
noncomputable def IE:Fx:=⟨51,tab,Kn.l [E9 N],N,Tryz.f153,[.v Lt],[.v cn,.v B],[⟨7,[(2,.obj cn),(4,.v I),(5,.v U),(6,.v U),(10,.v Lt),(11,.v I),(12,.v I)],[1,1,0,1,0,0],[]⟩],none⟩
theorem acY(K ρ):(IE N).bd K ρ 7=jA.kq N ((IE N).kc ρ 7):=by kernel_rfl
theorem acZ(ρ):(IE N).kc ((IE N).bp ρ) 7=jA.l3 N N:=Fx.uL [] (acY N) ρ (jA.l3 N) fun n ρ' e d=>by rw[e];rfl
theorem an5(K):(IE N).top K=jA.b N ((IE N).kc K 7):=by kernel_rfl
noncomputable def Pl:Kn Tryz.prog:=⟨153,(IE N).S true (jA N),Fx.u1 (IE N) ar Tryz.func153 [7] (an5 N) (by rw[acZ];rfl)⟩
noncomputable def X79:Fx:=⟨31,tab,Kn.l [k77 N,VS N,Pl N],N,Tryz.f79,[.v bT],[.v cn],[⟨11,[(2,.obj cn),(3,.own cn),(12,.v bT),(13,.v I),(14,.v I)],[1,1,1,0,1,0,0],[]⟩],none⟩
theorem ac0(K ρ):(X79 N).bd K ρ 11=xO.c0 N ((X79 N).kc ρ 11):=by kernel_rfl
theorem ac1(ρ):(X79 N).kc ((X79 N).bp ρ) 11=xO.l5 N N:=Fx.uL [] (ac0 N) ρ (xO.l5 N) fun n ρ' e d=>by rw[e];rfl
theorem h79(K):(X79 N).top K=xO.b N ((X79 N).kc K 11):=by kernel_rfl
noncomputable def k79:Kn Tryz.prog:=⟨79,(X79 N).S true (xO N),Fx.u1 (X79 N) ar Tryz.func79 [11] (h79 N) (by rw[ac1];rfl)⟩
noncomputable def aiS:Fx:=⟨27,tab,[],N,Tryz.f111,[.v cn,.v cn],[.v I],[],none⟩
noncomputable def SX:Kn Tryz.prog:=⟨111,(aiS N).S true (Cb N),Fx.u0 (aiS N) ar Tryz.func111⟩
noncomputable def X78:Fx:=⟨6,tab,Kn.l [SX N],N,Tryz.f78,[.v cn],[.v I],[],none⟩
noncomputable def k78:Kn Tryz.prog:=⟨78,(X78 N).S true (Py N),Fx.u0 (X78 N) ar Tryz.func78⟩
noncomputable def aiT:Fx:=⟨19,tab,[],N,Tryz.f207,[.v I,.v I],[.v B],[],none⟩
noncomputable def aiU:Kn Tryz.prog:=⟨207,(aiT N).S true (QQ N),Fx.u0 (aiT N) ar Tryz.func207⟩
noncomputable def aiV:Fx:=⟨5,tab,[],N,Tryz.f198,[.v I],[.v B],[],none⟩
noncomputable def ac2:Kn Tryz.prog:=⟨198,(aiV N).S true (Kp N),Fx.u0 (aiV N) ar Tryz.func198⟩
noncomputable def aiW:Fx:=⟨19,tab,[],N,Tryz.f209,[.v I,.v I,.v fA],[.v I],[],none⟩
noncomputable def aiX:Kn Tryz.prog:=⟨209,(aiW N).S true (NY N),Fx.u0 (aiW N) ar Tryz.func209⟩
noncomputable def IF:Fx:=⟨47,tab,Kn.l [aiU N,ac2 N,aiX N],N,Tryz.f155,[.v bT],[.v B],[⟨5,[(0,.v bT),(5,.v bT),(6,.v I),(7,.v I)],[1,0,1,0,0],[]⟩],none⟩
theorem ac3(K ρ):(IF N).bd K ρ 5=ki.dr N ((IF N).kc ρ 5):=by kernel_rfl
theorem ac4(ρ):(IF N).kc ((IF N).bp ρ) 5=ki.l2 N N:=Fx.uL [] (ac3 N) ρ (ki.l2 N) fun n ρ' e d=>by rw[e];rfl
theorem an6(K):(IF N).top K=ki.b N ((IF N).kc K 5):=by kernel_rfl
noncomputable def VT:Kn Tryz.prog:=⟨155,(IF N).S true (ki N),Fx.u1 (IF N) ar Tryz.func155 [5] (an6 N) (by rw[ac4];rfl)⟩
noncomputable def IG:Fx:=⟨37,tab,Kn.l [VT N,VS N,Pl N],N,Tryz.f154,[.v bT,.v I],[.v cn],[⟨11,[(1,.v I),(4,.obj cn),(5,.own cn),(14,.v bT),(15,.v I),(16,.v I)],[1,1,1,0,1,0,0],[]⟩],none⟩
theorem VU(K ρ):(IG N).bd K ρ 11=lI.c0 N ((IG N).kc ρ 11):=by kernel_rfl
theorem VV(ρ):(IG N).kc ((IG N).bp ρ) 11=lI.l5 N N:=Fx.uL [] (VU N) ρ (lI.l5 N) fun n ρ' e d=>by rw[e];rfl
theorem an7(K):(IG N).top K=lI.b N ((IG N).kc K 11):=by kernel_rfl
noncomputable def an8:Kn Tryz.prog:=⟨154,(IG N).S true (lI N),Fx.u1 (IG N) ar Tryz.func154 [11] (an7 N) (by rw[VV];rfl)⟩
noncomputable def X80:Fx:=⟨15,tab,Kn.l [an8 N,k78 N,VT N],N,Tryz.f80,[.v bT],[.v B],[⟨5,[(0,.v bT),(4,.v I)],[1,0,1,0,0],[]⟩],none⟩
theorem aiY(K ρ):(X80 N).bd K ρ 5=yJ.dr N ((X80 N).kc ρ 5):=by kernel_rfl
theorem aiZ(ρ):(X80 N).kc ((X80 N).bp ρ) 5=yJ.l2 N N:=Fx.uL [] (aiY N) ρ (yJ.l2 N) fun n ρ' e d=>by rw[e];rfl
theorem h80(K):(X80 N).top K=yJ.b N ((X80 N).kc K 5):=by kernel_rfl
noncomputable def k80:Kn Tryz.prog:=⟨80,(X80 N).S true (yJ N),Fx.u1 (X80 N) ar Tryz.func80 [5] (h80 N) (by rw[aiZ];rfl)⟩
noncomputable def ai0:Fx:=⟨61,tab,[],N,Tryz.f118,[.v jg],[.v B],[],none⟩
noncomputable def ac5:Kn Tryz.prog:=⟨118,(ai0 N).S true (NZ N),Fx.u0 (ai0 N) ar Tryz.func118⟩
noncomputable def X81:Fx:=⟨34,tab,Kn.l [ac5 N],N,Tryz.f81,[.v jF],[.v B],[⟨5,[(0,.v jF),(5,.v jF),(6,.v I),(7,.v I)],[1,0,1,0,0],[]⟩],none⟩
theorem ai1(K ρ):(X81 N).bd K ρ 5=xM.dr N ((X81 N).kc ρ 5):=by kernel_rfl
theorem ai2(ρ):(X81 N).kc ((X81 N).bp ρ) 5=xM.l2 N N:=Fx.uL [] (ai1 N) ρ (xM.l2 N) fun n ρ' e d=>by rw[e];rfl
theorem h81(K):(X81 N).top K=xM.b N ((X81 N).kc K 5):=by kernel_rfl
noncomputable def k81:Kn Tryz.prog:=⟨81,(X81 N).S true (xM N),Fx.u1 (X81 N) ar Tryz.func81 [5] (h81 N) (by rw[ai2];rfl)⟩
noncomputable def IH:Fx:=⟨25,tab,Kn.l [aiH N],N,Tryz.f119,[.v dA,.v I],[.v cU,.v B],[⟨9,[(1,.v I),(4,.obj cU),(12,.v dA),(13,.v I),(14,.v I)],[1,1,0,1,0,0],[]⟩],none⟩
theorem ac6(K ρ):(IH N).bd K ρ 9=kJ.c5 N ((IH N).kc ρ 9):=by kernel_rfl
theorem ac7(ρ):(IH N).kc ((IH N).bp ρ) 9=kJ.l4 N N:=Fx.uL [] (ac6 N) ρ (kJ.l4 N) fun n ρ' e d=>by rw[e];rfl
theorem an9(K):(IH N).top K=kJ.b N ((IH N).kc K 9):=by kernel_rfl
noncomputable def ai3:Kn Tryz.prog:=⟨119,(IH N).S true (kJ N),Fx.u1 (IH N) ar Tryz.func119 [9] (an9 N) (by rw[ac7];rfl)⟩
noncomputable def X82:Fx:=⟨15,tab,Kn.l [ai3 N],N,Tryz.f82,[.v az,.v I],[.v B],[],none⟩
noncomputable def k82:Kn Tryz.prog:=⟨82,(X82 N).S true (UB N),Fx.u0 (X82 N) ar Tryz.func82⟩
noncomputable def X85:Fx:=⟨9,tab,[],N,Tryz.f85,[.v I],[.v B],[],none⟩
noncomputable def k85:Kn Tryz.prog:=⟨85,(X85 N).S true (Ux N),Fx.u0 (X85 N) ar Tryz.func85⟩
noncomputable def X84:Fx:=⟨6,tab,Kn.l [k85 N],N,Tryz.f84,[.v I],[.v B],[],none⟩
noncomputable def k84:Kn Tryz.prog:=⟨84,(X84 N).S true (F84 N),Fx.u0 (X84 N) ar Tryz.func84⟩
noncomputable def II:Fx:=⟨19,tab,Kn.l [k84 N],N,Tryz.f156,[.v LI,.fn 84 .unit],[.v I],[⟨5,[(0,.v LI),(1,.fn 84 .unit),(7,.v I),(8,.v I)],[1,0,1,0,0],[]⟩],none⟩
theorem ac8(K ρ):(II N).bd K ρ 5=ot.dr N ((II N).kc ρ 5):=by kernel_rfl
theorem ac9(ρ):(II N).kc ((II N).bp ρ) 5=ot.l2 N N:=Fx.uL [] (ac8 N) ρ (ot.l2 N) fun n ρ' e d=>by rw[e];rfl
theorem aoa(K):(II N).top K=ot.b N ((II N).kc K 5):=by kernel_rfl
noncomputable def aob:Kn Tryz.prog:=⟨156,(II N).S true (ot N),Fx.u1 (II N) ar Tryz.func156 [5] (aoa N) (by rw[ac9];rfl)⟩
noncomputable def X83:Fx:=⟨9,tab,Kn.l [aob N],N,Tryz.f83,[.v LI,.fn 84 .unit],[.v B],[],none⟩
noncomputable def k83:Kn Tryz.prog:=⟨83,(X83 N).S true (F83 N),Fx.u0 (X83 N) ar Tryz.func83⟩
noncomputable def FC:Fx:=⟨133,tab,Kn.l [k75 N,k76 N,k77 N,k79 N,k78 N,k80 N,k81 N,k82 N,k63 N,k83 N],N,Tryz.f25,[.v aq,.v az],[.v B],[⟨45,[(2,.obj aq),(3,.obj az),(109,.v jF),(110,.v I),(111,.v I)],[1,1,1,1,0,1,0,0],[]⟩,⟨33,[(2,.obj aq),(3,.obj az),(83,.v bT),(84,.v I),(85,.v I)],[1,1,1,0,1,0,0],[]⟩,⟨9,[(2,.obj aq),(3,.obj az),(57,.v bT),(58,.v I),(59,.v I)],[1,1,0,1,0,0],[]⟩],none⟩
theorem ada(K ρ):(FC N).bd K ρ 45=ix.sf N ((FC N).kc ρ 45):=by kernel_rfl
theorem adb(ρ):(FC N).kc ((FC N).bp ρ) 45=ix.tq N N:=Fx.uL [] (ada N) ρ (ix.tq N) fun n ρ' e d=>by rw[e];rfl
theorem ade(K ρ):(FC N).bd K ρ 33=ix.se N ((FC N).kc K 45) ((FC N).kc ρ 33):=by kernel_rfl
theorem adf(ρ):(FC N).kc ((FC N).bp ρ) 33=ix.tp N N:=Fx.uL [45] (ade N) ρ (ix.tp N) fun n ρ' e d=>by rw[adb,e];rfl
theorem ai5(K ρ):(FC N).bd K ρ 9=ix.c5 N ((FC N).kc K 33) ((FC N).kc ρ 9):=by kernel_rfl
theorem ai6(ρ):(FC N).kc ((FC N).bp ρ) 9=ix.l4 N N:=Fx.uL [33,45] (ai5 N) ρ (ix.l4 N) fun n ρ' e d=>by rw[adf,e];rfl
theorem h25(K):(FC N).top K=ix.b N ((FC N).kc K 9):=by kernel_rfl
noncomputable def k25:Kn Tryz.prog:=⟨25,(FC N).S true (ix N),Fx.u1 (FC N) ar Tryz.func25 [9,33,45] (h25 N) (by rw[ai6];rfl)⟩
noncomputable def IJ:Fx:=⟨31,tab,Kn.l [VT N],N,Tryz.f107,[.v bT,.v I],[.own gC],[⟨11,[(1,.v I),(5,.own gC),(11,.v bT),(12,.v I),(13,.v I)],[1,1,1,0,1,0,0],[]⟩],none⟩
theorem VW(K ρ):(IJ N).bd K ρ 11=kO.c0 N ((IJ N).kc ρ 11):=by kernel_rfl
theorem VX(ρ):(IJ N).kc ((IJ N).bp ρ) 11=kO.l5 N N:=Fx.uL [] (VW N) ρ (kO.l5 N) fun n ρ' e d=>by rw[e];rfl
theorem aoc(K):(IJ N).top K=kO.b N ((IJ N).kc K 11):=by kernel_rfl
noncomputable def ai7:Kn Tryz.prog:=⟨107,(IJ N).S false (kO N),Fx.u1 (IJ N) ar Tryz.func107 [11] (aoc N) (by rw[VX];rfl)⟩
noncomputable def X96:Fx:=⟨10,tab,[],N,Tryz.f96,[.v I],[.v U],[],none⟩
noncomputable def k96:Kn Tryz.prog:=⟨96,(X96 N).S true (F96 N),Fx.u0 (X96 N) ar Tryz.func96⟩
noncomputable def ai8:Fx:=⟨51,tab,[],N,Tryz.f171,[.v U,.v U],[.v U,.v U],[],none⟩
noncomputable def ai9:Kn Tryz.prog:=⟨171,(ai8 N).S true (NU N),Fx.u0 (ai8 N) ar Tryz.func171⟩
noncomputable def LG:Fx:=⟨47,tab,Kn.l [Lu N],N,Tryz.f172,[.v B,.v U,.v U],[.v cn,.v B],[⟨14,[(1,.v U),(2,.v U),(6,.obj cn)],[1,1,1],[]⟩],none⟩
theorem VY(K ρ):(LG N).bd K ρ 14=mg.Kh N:=by kernel_rfl
theorem VZ(ρ):(LG N).kc ((LG N).bp ρ) 14=mg.j7 N:=Fx.uJ [] (VY N) ρ
theorem aod(K):(LG N).top K=mg.b N ((LG N).kc K 14):=by kernel_rfl
noncomputable def adg:Kn Tryz.prog:=⟨172,(LG N).S true (mg N),Fx.u1 (LG N) ar Tryz.func172 [14] (aod N) (by rw[VZ];rfl)⟩
noncomputable def aja:Fx:=⟨29,tab,Kn.l [k96 N,ai9 N,adg N],N,Tryz.f109,[.v I,.v I],[.v cn],[],none⟩
noncomputable def adh:Kn Tryz.prog:=⟨109,(aja N).S true (B7 N),Fx.u0 (aja N) ar Tryz.func109⟩
noncomputable def ajb:Fx:=⟨52,tab,Kn.l [E9 N],N,Tryz.f108,[.v cn,.v cn],[.v cn,.v B],[],none⟩
noncomputable def adi:Kn Tryz.prog:=⟨108,(ajb N).S true (Hf N),Fx.u0 (ajb N) ar Tryz.func108⟩
noncomputable def X43:Fx:=⟨52,tab,Kn.l [k25 N,ai7 N,adh N,adi N],N,Tryz.f43,[.v aq,.v az],[.own cn,.v I],[⟨11,[(2,.obj aq),(3,.obj az),(6,.own cn),(17,.own gC),(18,.v I),(19,.v I)],[1,1,1,0,1,0,0],[]⟩],none⟩
theorem adj(K ρ):(X43 N).bd K ρ 11=wm.c0 N ((X43 N).kc ρ 11):=by kernel_rfl
theorem adk(ρ):(X43 N).kc ((X43 N).bp ρ) 11=wm.l5 N N:=Fx.uL [] (adj N) ρ (wm.l5 N) fun n ρ' e d=>by rw[e];rfl
theorem h43(K):(X43 N).top K=wm.b N ((X43 N).kc K 11):=by kernel_rfl
noncomputable def k43:Kn Tryz.prog:=⟨43,(X43 N).S false (wm N),Fx.u1 (X43 N) ar Tryz.func43 [11] (h43 N) (by rw[adk];rfl)⟩
noncomputable def ajc:Fx:=⟨52,tab,Kn.l [Lu N],N,Tryz.f183,[.v cn,.v cn],[.v cn,.v B],[],none⟩
noncomputable def ajd:Kn Tryz.prog:=⟨183,(ajc N).S true (KS N),Fx.u0 (ajc N) ar Tryz.func183⟩
noncomputable def aje:Fx:=⟨9,tab,Kn.l [ajd N],N,Tryz.f173,[.v cn],[.v cn,.v B],[],none⟩
noncomputable def aoe:Kn Tryz.prog:=⟨173,(aje N).S true (UT N),Fx.u0 (aje N) ar Tryz.func173⟩
noncomputable def ajf:Fx:=⟨12,tab,Kn.l [aoe N],N,Tryz.f110,[.v cn],[.v cn,.v B],[],none⟩
noncomputable def ajg:Kn Tryz.prog:=⟨110,(ajf N).S true (Hu N),Fx.u0 (ajf N) ar Tryz.func110⟩
noncomputable def IK:Fx:=⟨29,tab,Kn.l [k75 N],N,Tryz.f112,[.v aq,.v I],[.own I],[⟨11,[(1,.v I),(5,.own I),(12,.v dA),(13,.v I),(14,.v I)],[1,1,1,0,1,0,0],[]⟩],none⟩
theorem V0(K ρ):(IK N).bd K ρ 11=lQ.c0 N ((IK N).kc ρ 11):=by kernel_rfl
theorem V1(ρ):(IK N).kc ((IK N).bp ρ) 11=lQ.l5 N N:=Fx.uL [] (V0 N) ρ (lQ.l5 N) fun n ρ' e d=>by rw[e];rfl
theorem aof(K):(IK N).top K=lQ.b N ((IK N).kc K 11):=by kernel_rfl
noncomputable def aog:Kn Tryz.prog:=⟨112,(IK N).S false (lQ N),Fx.u1 (IK N) ar Tryz.func112 [11] (aof N) (by rw[V1];rfl)⟩
noncomputable def ajh:Fx:=⟨32,tab,Kn.l [Lu N],N,Tryz.f174,[.v cn],[.v U,.v U],[],none⟩
noncomputable def aji:Kn Tryz.prog:=⟨174,(ajh N).S true (QO N),Fx.u0 (ajh N) ar Tryz.func174⟩
noncomputable def Bu:Fx:=⟨25,tab,[],N,Tryz.f271,[.v U],[.v I],[⟨14,[(0,.v U),(2,.v I)],[1,1,1],[]⟩,⟨8,[(0,.v U),(2,.v I)],[1,1],[]⟩],none⟩
theorem V2(K ρ):(Bu N).bd K ρ 14=jz.Kh N:=by kernel_rfl
theorem V3(ρ):(Bu N).kc ((Bu N).bp ρ) 14=jz.j7 N:=Fx.uJ [] (V2 N) ρ
theorem adl(K ρ):(Bu N).bd K ρ 8=jz.j4b N ((Bu N).kc K 14):=by kernel_rfl
theorem adm(ρ):(Bu N).kc ((Bu N).bp ρ) 8=jz.j4 N:=Fx.uJ [14] (adl N) ρ (by rw[V3];rfl)
theorem aoh(K):(Bu N).top K=jz.b N ((Bu N).kc K 8):=by kernel_rfl
noncomputable def aoi:Kn Tryz.prog:=⟨271,(Bu N).S true (jz N),Fx.u1 (Bu N) ar Tryz.func271 [8,14] (aoh N) (by rw[adm];rfl)⟩
noncomputable def ajj:Fx:=⟨6,tab,Kn.l [aoi N],N,Tryz.f230,[.v U],[.v I],[],none⟩
noncomputable def aoj:Kn Tryz.prog:=⟨230,(ajj N).S true (Uk N),Fx.u0 (ajj N) ar Tryz.func230⟩
noncomputable def py:Fx:=⟨135,tab,Kn.l [aoj N],N,Tryz.f175,[.v U,.v U,.v U],[.v U,.v U],[⟨56,[(2,.v U),(8,.v U),(14,.v U),(15,.v U),(17,.v U),(18,.v U)],[1,1,1,1,1,1,1,1,1,1,1,1,1,1,1,1,1,1,1],[]⟩,⟨49,[(2,.v U),(8,.v U),(9,.v U),(10,.v U),(14,.v U),(15,.v U),(16,.v U),(17,.v U),(18,.v U)],[1,1,1,1,1,1,1,1,1,1,1,1,1,1,1,1,1,1,0,0,0],[]⟩,⟨42,[(2,.v U),(8,.v U),(9,.v U),(10,.v U),(11,.v U),(13,.v U),(14,.v U),(15,.v U)],[1,1,1,1,1,1,1,1,1,1,1,1,1,1,1],[]⟩,⟨35,[(2,.v U),(8,.v U),(9,.v U),(10,.v U),(11,.v U),(13,.v U),(14,.v U),(15,.v U),(16,.v U)],[1,1,1,1,1,1,1,1,1,1,1,1,1,1,0,0,0],[]⟩],none⟩
theorem V4(K ρ):(py N).bd K ρ 56=cV.aca N:=by kernel_rfl
theorem V5(ρ):(py N).kc ((py N).bp ρ) 56=cV.j28 N:=Fx.uJ [] (V4 N) ρ
theorem V6(K ρ):(py N).bd K ρ 49=cV.z5 N ((py N).kc K 56) ((py N).kc ρ 49):=by kernel_rfl
theorem V7(ρ):(py N).kc ((py N).bp ρ) 49=cV.y5 N N:=Fx.uL [56] (V6 N) ρ (cV.y5 N) fun n ρ' e d=>by rw[V5,e];rfl
theorem V8(K ρ):(py N).bd K ρ 42=cV.z6 N ((py N).kc K 49):=by kernel_rfl
theorem V9(ρ):(py N).kc ((py N).bp ρ) 42=cV.Gy N:=Fx.uJ [49,56] (V8 N) ρ (by rw[V7];rfl)
theorem Wa(K ρ):(py N).bd K ρ 35=cV.Gz N ((py N).kc K 42) ((py N).kc ρ 35):=by kernel_rfl
theorem Wb(ρ):(py N).kc ((py N).bp ρ) 35=cV.Gx N N:=Fx.uL [42,49,56] (Wa N) ρ (cV.Gx N) fun n ρ' e d=>by rw[V9,e];rfl
theorem aok(K):(py N).top K=cV.b N ((py N).kc K 35):=by kernel_rfl
noncomputable def aol:Kn Tryz.prog:=⟨175,(py N).S true (cV N),Fx.u1 (py N) ar Tryz.func175 [35,42,49,56] (aok N) (by rw[Wb];rfl)⟩
noncomputable def LH:Fx:=⟨70,tab,Kn.l [aji N,aol N,E9 N,adg N],N,Tryz.f113,[.v cn,.v I],[.v cn,.v I,.v B],[⟨26,[(4,.obj cn),(10,.v U),(11,.v U),(12,.v U)],[1,1,1,1,1,1,1,1],[]⟩],none⟩
theorem Wc(K ρ):(LH N).bd K ρ 26=pT.yD N:=by kernel_rfl
theorem Wd(ρ):(LH N).kc ((LH N).bp ρ) 26=pT.JM N:=Fx.uJ [] (Wc N) ρ
theorem aom(K):(LH N).top K=pT.b N ((LH N).kc K 26):=by kernel_rfl
noncomputable def aon:Kn Tryz.prog:=⟨113,(LH N).S true (pT N),Fx.u1 (LH N) ar Tryz.func113 [26] (aom N) (by rw[Wd];rfl)⟩
noncomputable def ajk:Fx:=⟨14,tab,[],N,Tryz.f114,[.v cn],[.v I,.v B],[],none⟩
noncomputable def adn:Kn Tryz.prog:=⟨114,(ajk N).S true (GO N),Fx.u0 (ajk N) ar Tryz.func114⟩
noncomputable def M7:Fx:=⟨102,tab,Kn.l [k43 N,ajg N,VS N,SX N,aog N,aon N,adn N,k78 N],N,Tryz.f44,[.v aq,.v az,.v I],[.own cU,.v I],[⟨30,[(2,.v I),(3,.obj aq),(4,.obj az),(10,.own cU),(12,.obj cn),(15,.v I),(19,.v I),(38,.own cn),(39,.v I),(40,.v I)],[1,1,1,1,0,1,0,0,1,1,0,0,1,1,1,1,1,1,1],[13]⟩,⟨13,[(2,.v I),(3,.obj aq),(4,.obj az),(10,.own cU),(38,.own cn),(39,.v I),(40,.v I)],[1,1,1,1,0,1,0,0],[]⟩],none⟩
theorem ado(K ρ):(M7 N).bd K ρ 30=qP.mu N ((M7 N).kc ρ 13):=by kernel_rfl
theorem adp(ρ):(M7 N).kc ((M7 N).bp ρ) 30=qP.rA N ((M7 N).kc ρ 13):=Fx.uJ [] (ado N) ρ
theorem adq(K ρ):(M7 N).bd K ρ 13=qP.pn N ((M7 N).kc K 30) ((M7 N).kc ρ 13):=by kernel_rfl
theorem ads(ρ):(M7 N).kc ((M7 N).bp ρ) 13=qP.l6 N N:=Fx.uL [30] (adq N) ρ (qP.l6 N) fun n ρ' e d=>by rw[adp,e];rfl
theorem h44(K):(M7 N).top K=qP.b N ((M7 N).kc K 13):=by kernel_rfl
noncomputable def k44:Kn Tryz.prog:=⟨44,(M7 N).S false (qP N),Fx.u1 (M7 N) ar Tryz.func44 [13] (h44 N) (by rw[ads];rfl)⟩
noncomputable def ajl:Fx:=⟨9,tab,[],N,Tryz.f116,[.v I],[.v B],[],none⟩
noncomputable def ajm:Kn Tryz.prog:=⟨116,(ajl N).S true (KY N),Fx.u0 (ajl N) ar Tryz.func116⟩
noncomputable def X48:Fx:=⟨36,tab,Kn.l [ajm N],N,Tryz.f48,[.v cU],[.v B],[],none⟩
noncomputable def k48:Kn Tryz.prog:=⟨48,(X48 N).S true (F48 N),Fx.u0 (X48 N) ar Tryz.func48⟩
noncomputable def tv:Fx:=⟨64,tab,Kn.l [k81 N],N,Tryz.f121,[.v jF,.v I],[.own fA],[⟨19,[(0,.v jF),(1,.v I),(5,.own fA),(6,.v I),(7,.obj fA),(13,.v I),(18,.v jF),(19,.v I),(20,.v I)],[1,1,1,0,1,0,0,1,1,0,0,1,1,0,1,0,0],[11]⟩,⟨11,[(0,.v jF),(1,.v I),(5,.own fA),(13,.v I)],[1,1,1,0,1,0,0],[]⟩],none⟩
theorem We(K ρ):(tv N).bd K ρ 19=eh.tk N ((tv N).kc ρ 11) ((tv N).kc ρ 19):=by kernel_rfl
theorem Wf(ρ):(tv N).kc ((tv N).bp ρ) 19=eh.l9 N ((tv N).kc ρ 11) N:=Fx.uL [] (We N) ρ (eh.l9 N ((tv N).kc ρ 11)) fun n ρ' e d=>by rw[e,d 11 rfl];rfl
theorem Wg(K ρ):(tv N).bd K ρ 11=eh.c0 N ((tv N).kc K 19) ((tv N).kc ρ 11):=by kernel_rfl
theorem Wh(ρ):(tv N).kc ((tv N).bp ρ) 11=eh.l5 N N:=Fx.uL [19] (Wg N) ρ (eh.l5 N) fun n ρ' e d=>by rw[Wf,e];rfl
theorem aoo(K):(tv N).top K=eh.b N ((tv N).kc K 11):=by kernel_rfl
noncomputable def aop:Kn Tryz.prog:=⟨121,(tv N).S false (eh N),Fx.u1 (tv N) ar Tryz.func121 [11] (aoo N) (by rw[Wh];rfl)⟩
noncomputable def tw:Fx:=⟨67,tab,Kn.l [SO N],N,Tryz.f120,[.own fA,.v jg],[.own fA],[⟨12,[(0,.own fA),(3,.obj jg),(5,.v I)],[1,1,1,1],[]⟩,⟨8,[(0,.own fA),(3,.obj jg),(5,.v I)],[1,1,1],[]⟩,⟨5,[(0,.own fA),(3,.obj jg),(5,.v I)],[1,1,0,0,0],[]⟩],none⟩
theorem Wi(K ρ):(tw N).bd K ρ 12=eD.JK N:=by kernel_rfl
theorem Wj(ρ):(tw N).kc ((tw N).bp ρ) 12=eD.j6 N:=Fx.uJ [] (Wi N) ρ
theorem adt(K ρ):(tw N).bd K ρ 8=eD.j4b N ((tw N).kc K 12):=by kernel_rfl
theorem adu(ρ):(tw N).kc ((tw N).bp ρ) 8=eD.j4 N:=Fx.uJ [12] (adt N) ρ (by rw[Wj];rfl)
theorem adv(K ρ):(tw N).bd K ρ 5=eD.dr N ((tw N).kc K 8) ((tw N).kc ρ 5):=by kernel_rfl
theorem adw(ρ):(tw N).kc ((tw N).bp ρ) 5=eD.l2 N N:=Fx.uL [8,12] (adv N) ρ (eD.l2 N) fun n ρ' e d=>by rw[adu,e];rfl
theorem aoq(K):(tw N).top K=eD.b N ((tw N).kc K 5):=by kernel_rfl
noncomputable def aor:Kn Tryz.prog:=⟨120,(tw N).S false (eD N),Fx.u1 (tw N) ar Tryz.func120 [5,8,12] (aoq N) (by rw[adw];rfl)⟩
noncomputable def IL:Fx:=⟨54,tab,Kn.l [ac2 N,k75 N],N,Tryz.f138,[.v aq,.v cC],[.v B],[⟨5,[(1,.v cC),(2,.obj aq),(7,.v cC),(8,.v I),(9,.v I)],[1,0,1,0,0],[]⟩],none⟩
theorem adx(K ρ):(IL N).bd K ρ 5=lM.dr N ((IL N).kc ρ 5):=by kernel_rfl
theorem ady(ρ):(IL N).kc ((IL N).bp ρ) 5=lM.l2 N N:=Fx.uL [] (adx N) ρ (lM.l2 N) fun n ρ' e d=>by rw[e];rfl
theorem aos(K):(IL N).top K=lM.b N ((IL N).kc K 5):=by kernel_rfl
noncomputable def ajn:Kn Tryz.prog:=⟨138,(IL N).S true (lM N),Fx.u1 (IL N) ar Tryz.func138 [5] (aos N) (by rw[ady];rfl)⟩
noncomputable def IM:Fx:=⟨73,tab,Kn.l [k75 N],N,Tryz.f182,[.v aq,.v bT],[.v B],[⟨5,[(1,.v bT),(2,.obj aq),(7,.v bT),(8,.v I),(9,.v I)],[1,0,1,0,0],[]⟩],none⟩
theorem adz(K ρ):(IM N).bd K ρ 5=lV.dr N ((IM N).kc ρ 5):=by kernel_rfl
theorem adA(ρ):(IM N).kc ((IM N).bp ρ) 5=lV.l2 N N:=Fx.uL [] (adz N) ρ (lV.l2 N) fun n ρ' e d=>by rw[e];rfl
theorem aot(K):(IM N).top K=lV.b N ((IM N).kc K 5):=by kernel_rfl
noncomputable def ajo:Kn Tryz.prog:=⟨182,(IM N).S true (lV N),Fx.u1 (IM N) ar Tryz.func182 [5] (aot N) (by rw[adA];rfl)⟩
noncomputable def w9:Fx:=⟨104,tab,Kn.l [ajn N,ajo N,VS N,adi N,ajd N,ajg N,SX N],N,Tryz.f122,[.v aq,.v cC,.v bT,.v I],[.v cn,.v I],[⟨27,[(3,.v I),(8,.obj cn),(10,.v I),(11,.v I),(12,.v I),(57,.v bT),(58,.v I),(59,.v I)],[1,1,1,1,0,1,0,0],[]⟩,⟨15,[(2,.v bT),(3,.v I),(8,.obj cn),(10,.v I),(11,.v I),(12,.v I),(44,.v cC),(45,.v I),(46,.v I)],[1,1,1,0,1,0,0],[]⟩],none⟩
theorem Wk(K ρ):(w9 N).bd K ρ 27=eH.jY N ((w9 N).kc ρ 27):=by kernel_rfl
theorem Wl(ρ):(w9 N).kc ((w9 N).bp ρ) 27=eH.lN N N:=Fx.uL [] (Wk N) ρ (eH.lN N) fun n ρ' e d=>by rw[e];rfl
theorem Wm(K ρ):(w9 N).bd K ρ 15=eH.oT N ((w9 N).kc K 27) ((w9 N).kc ρ 15):=by kernel_rfl
theorem Wn(ρ):(w9 N).kc ((w9 N).bp ρ) 15=eH.l7 N N:=Fx.uL [27] (Wm N) ρ (eH.l7 N) fun n ρ' e d=>by rw[Wl,e];rfl
theorem aou(K):(w9 N).top K=eH.b N ((w9 N).kc K 15):=by kernel_rfl
noncomputable def ajp:Kn Tryz.prog:=⟨122,(w9 N).S true (eH N),Fx.u1 (w9 N) ar Tryz.func122 [15,27] (aou N) (by rw[Wn];rfl)⟩
noncomputable def ajq:Fx:=⟨55,tab,Kn.l [aji N,k96 N,ai9 N,E9 N,adg N],N,Tryz.f184,[.v cn,.v I],[.v cn,.v B],[],none⟩
noncomputable def aov:Kn Tryz.prog:=⟨184,(ajq N).S true (U0 N),Fx.u0 (ajq N) ar Tryz.func184⟩
noncomputable def IN:Fx:=⟨62,tab,Kn.l [ajn N,ajo N,ajp N,aov N,Pl N],N,Tryz.f123,[.v aq,.v cC,.v bT],[.v cn,.v I],[⟨11,[(1,.v cC),(2,.v bT),(3,.obj aq),(6,.obj cn),(8,.own cn),(29,.v dA),(30,.v I),(31,.v I)],[1,1,1,0,1,0,0],[]⟩],none⟩
theorem Wo(K ρ):(IN N).bd K ρ 11=mU.c0 N ((IN N).kc ρ 11):=by kernel_rfl
theorem Wp(ρ):(IN N).kc ((IN N).bp ρ) 11=mU.l5 N N:=Fx.uL [] (Wo N) ρ (mU.l5 N) fun n ρ' e d=>by rw[e];rfl
theorem aow(K):(IN N).top K=mU.b N ((IN N).kc K 11):=by kernel_rfl
noncomputable def aox:Kn Tryz.prog:=⟨123,(IN N).S true (mU N),Fx.u1 (IN N) ar Tryz.func123 [11] (aow N) (by rw[Wp];rfl)⟩
noncomputable def ajr:Fx:=⟨38,tab,Kn.l [ac5 N,k85 N,adh N,k78 N],N,Tryz.f124,[.v jg,.v I],[.v cn,.v I],[],none⟩
noncomputable def aoy:Kn Tryz.prog:=⟨124,(ajr N).S true (RI N),Fx.u0 (ajr N) ar Tryz.func124⟩
noncomputable def IP:Fx:=⟨31,tab,Kn.l [k77 N],N,Tryz.f126,[.v bT,.v I,.v I],[.v I],[⟨9,[(1,.v I),(2,.v I),(12,.v bT),(13,.v I),(14,.v I)],[1,1,0,1,0,0],[]⟩],none⟩
theorem adB(K ρ):(IP N).bd K ρ 9=lO.c5 N ((IP N).kc ρ 9):=by kernel_rfl
theorem adC(ρ):(IP N).kc ((IP N).bp ρ) 9=lO.l4 N N:=Fx.uL [] (adB N) ρ (lO.l4 N) fun n ρ' e d=>by rw[e];rfl
theorem aoz(K):(IP N).top K=lO.b N ((IP N).kc K 9):=by kernel_rfl
noncomputable def aoA:Kn Tryz.prog:=⟨126,(IP N).S true (lO N),Fx.u1 (IP N) ar Tryz.func126 [9] (aoz N) (by rw[adC];rfl)⟩
noncomputable def ajs:Fx:=⟨10,tab,Kn.l [VS N,SX N],N,Tryz.f125,[.v I,.v cn],[.v B],[],none⟩
noncomputable def aoB:Kn Tryz.prog:=⟨125,(ajs N).S true (U4 N),Fx.u0 (ajs N) ar Tryz.func125⟩
noncomputable def X50:Fx:=⟨110,tab,Kn.l [k25 N,ac5 N,ai3 N,k63 N,ai7 N,aop N,aor N,ajp N,VS N,SX N,aox N,aoy N,adi N,aoA N,aoB N],N,Tryz.f50,[.v aq,.v az,.v jg],[.v I],[],none⟩
noncomputable def k50:Kn Tryz.prog:=⟨50,(X50 N).S true (F50 N),Fx.u0 (X50 N) ar Tryz.func50⟩
noncomputable def IQ:Fx:=⟨50,tab,Kn.l [k85 N],N,Tryz.f179,[.v oi],[.v B],[⟨5,[(1,.obj oi),(9,.v (.arr 2 I)),(10,.v I)],[1,0,1,0,0],[]⟩],none⟩
theorem adD(K ρ):(IQ N).bd K ρ 5=kP.dr N ((IQ N).kc ρ 5):=by kernel_rfl
theorem adE(ρ):(IQ N).kc ((IQ N).bp ρ) 5=kP.l2 N N:=Fx.uL [] (adD N) ρ (kP.l2 N) fun n ρ' e d=>by rw[e];rfl
theorem aoC(K):(IQ N).top K=kP.b N ((IQ N).kc K 5):=by kernel_rfl
noncomputable def ajt:Kn Tryz.prog:=⟨179,(IQ N).S true (kP N),Fx.u1 (IQ N) ar Tryz.func179 [5] (aoC N) (by rw[adE];rfl)⟩
noncomputable def aju:Fx:=⟨6,tab,Kn.l [ajt N],N,Tryz.f178,[.v oi],[.v B],[],none⟩
noncomputable def aoD:Kn Tryz.prog:=⟨178,(aju N).S true (aco N),Fx.u0 (aju N) ar Tryz.func178⟩
noncomputable def IS:Fx:=⟨19,tab,Kn.l [aoD N],N,Tryz.f231,[.v tu,.fn 178 .unit],[.v I],[⟨5,[(0,.v tu),(1,.fn 178 .unit),(7,.v I),(8,.v I)],[1,0,1,0,0],[]⟩],none⟩
theorem adF(K ρ):(IS N).bd K ρ 5=ou.dr N ((IS N).kc ρ 5):=by kernel_rfl
theorem adG(ρ):(IS N).kc ((IS N).bp ρ) 5=ou.l2 N N:=Fx.uL [] (adF N) ρ (ou.l2 N) fun n ρ' e d=>by rw[e];rfl
theorem aoE(K):(IS N).top K=ou.b N ((IS N).kc K 5):=by kernel_rfl
noncomputable def aoF:Kn Tryz.prog:=⟨231,(IS N).S true (ou N),Fx.u1 (IS N) ar Tryz.func231 [5] (aoE N) (by rw[adG];rfl)⟩
noncomputable def ajv:Fx:=⟨9,tab,Kn.l [aoF N],N,Tryz.f177,[.v tu,.fn 178 .unit],[.v B],[],none⟩
noncomputable def aoG:Kn Tryz.prog:=⟨177,(ajv N).S true (UN N),Fx.u0 (ajv N) ar Tryz.func177⟩
noncomputable def ajw:Fx:=⟨12,tab,[],N,Tryz.f232,[.v I,.v cn],[.v q3],[],none⟩
noncomputable def aoH:Kn Tryz.prog:=⟨232,(ajw N).S true (Rm N),Fx.u0 (ajw N) ar Tryz.func232⟩
noncomputable def ajx:Fx:=⟨41,tab,Kn.l [ajt N,k85 N,adh N,aoH N],N,Tryz.f180,[.v oi,.v I],[.own q3,.v I],[],none⟩
noncomputable def aoI:Kn Tryz.prog:=⟨180,(ajx N).S false (Rn N),Fx.u0 (ajx N) ar Tryz.func180⟩
noncomputable def ajy:Fx:=⟨22,tab,Kn.l [SP N,SQ N,Iv N,Ix N,SS N,SU N],N,Tryz.f145,[.v az],[.v az],[],none⟩
noncomputable def aoJ:Kn Tryz.prog:=⟨145,(ajy N).S false (UK N),Fx.u0 (ajy N) ar Tryz.func145⟩
noncomputable def tx:Fx:=⟨42,tab,Kn.l [VS N,Pl N,k78 N],N,Tryz.f208,[.v bT],[.v B],[⟨13,[(0,.v bT),(3,.v I),(4,.own cn),(9,.v I),(12,.v bT),(13,.v I),(14,.v I)],[1,0,1,0,0,1,1,0,0,1,1,0,1,0,0],[5]⟩,⟨5,[(0,.v bT),(9,.v I)],[1,0,1,0,0],[]⟩],none⟩
theorem Wq(K ρ):(tx N).bd K ρ 13=ed.pn N ((tx N).kc ρ 5) ((tx N).kc ρ 13):=by kernel_rfl
theorem Wr(ρ):(tx N).kc ((tx N).bp ρ) 13=ed.l6 N ((tx N).kc ρ 5) N:=Fx.uL [] (Wq N) ρ (ed.l6 N ((tx N).kc ρ 5)) fun n ρ' e d=>by rw[e,d 5 rfl];rfl
theorem adH(K ρ):(tx N).bd K ρ 5=ed.dr N ((tx N).kc K 13) ((tx N).kc ρ 5):=by kernel_rfl
theorem adI(ρ):(tx N).kc ((tx N).bp ρ) 5=ed.l2 N N:=Fx.uL [13] (adH N) ρ (ed.l2 N) fun n ρ' e d=>by rw[Wr,e];rfl
theorem aoK(K):(tx N).top K=ed.b N ((tx N).kc K 5):=by kernel_rfl
noncomputable def aoL:Kn Tryz.prog:=⟨208,(tx N).S true (ed N),Fx.u1 (tx N) ar Tryz.func208 [5] (aoK N) (by rw[adI];rfl)⟩
noncomputable def ajz:Fx:=⟨9,tab,[],N,Tryz.f211,[.v bT],[.v bT],[],none⟩
noncomputable def aoM:Kn Tryz.prog:=⟨211,(ajz N).S false (UC N),Fx.u0 (ajz N) ar Tryz.func211⟩
noncomputable def fB:Fx:=⟨173,tab,Kn.l [VT N,aiU N,ac2 N,aoL N,Ix N,aiX N,SV N,VS N,Pl N,adn N,aoM N],N,Tryz.f146,[.v bT,.v bT],[.v bT,.v I],[⟨36,[(1,.v bT),(8,.own fA),(10,.obj fA),(11,.v I),(54,.v bT),(55,.v I),(56,.v I)],[1,1,1,1,1,0,1,0,0,1,1,0,0,1,1,1],[27]⟩,⟨33,[(1,.v bT),(8,.own fA),(10,.obj fA),(11,.v I),(54,.v bT),(55,.v I),(56,.v I)],[1,1,1,1,1,0,1,0,0,1,1,0,0,1,1,0,0,0],[27]⟩,⟨55,[(1,.v bT),(12,.own fA),(14,.obj fA),(15,.own cn),(107,.own fA),(108,.v I),(109,.v I),(117,.v bT),(118,.v I),(119,.v I)],[1,1,1,1,1,1,1,0,1,0,0,1,1,0,0,1,1,0,1,0,0],[47]⟩,⟨47,[(1,.v bT),(12,.own fA),(107,.own fA),(108,.v I),(109,.v I)],[1,1,1,1,1,1,1,0,1,0,0],[]⟩,⟨27,[(1,.v bT),(8,.own fA),(54,.v bT),(55,.v I),(56,.v I)],[1,1,1,1,1,0,1,0,0],[]⟩,⟨9,[(0,.v bT),(1,.v bT),(30,.v bT),(31,.v I),(32,.v I)],[1,1,0,1,0,0],[]⟩],none⟩
theorem Ws(K ρ):(fB N).bd K ρ 36=bA.acf N ((fB N).kc ρ 27):=by kernel_rfl
theorem Wt(ρ):(fB N).kc ((fB N).bp ρ) 36=bA.j18 N ((fB N).kc ρ 27):=Fx.uJ [47] (Ws N) ρ
theorem Wu(K ρ):(fB N).bd K ρ 33=bA.se N ((fB N).kc K 36) ((fB N).kc ρ 27) ((fB N).kc ρ 33):=by kernel_rfl
theorem Wv(ρ):(fB N).kc ((fB N).bp ρ) 33=bA.tp N ((fB N).kc ρ 27) N:=Fx.uL [47,36] (Wu N) ρ (bA.tp N ((fB N).kc ρ 27)) fun n ρ' e d=>by rw[Wt,e,d 27 rfl];rfl
theorem Ww(K ρ):(fB N).bd K ρ 55=bA.UD N ((fB N).kc ρ 47) ((fB N).kc ρ 55):=by kernel_rfl
theorem Wx(ρ):(fB N).kc ((fB N).bp ρ) 55=bA.l27 N ((fB N).kc ρ 47) N:=Fx.uL [] (Ww N) ρ (bA.l27 N ((fB N).kc ρ 47)) fun n ρ' e d=>by rw[e,d 47 rfl];rfl
theorem Wy(K ρ):(fB N).bd K ρ 47=bA.UF N ((fB N).kc K 55) ((fB N).kc ρ 47):=by kernel_rfl
theorem Wz(ρ):(fB N).kc ((fB N).bp ρ) 47=bA.UE N N:=Fx.uL [55] (Wy N) ρ (bA.UE N) fun n ρ' e d=>by rw[Wx,e];rfl
theorem WA(K ρ):(fB N).bd K ρ 27=bA.jY N ((fB N).kc K 33) ((fB N).kc K 47) ((fB N).kc ρ 27):=by kernel_rfl
theorem WB(ρ):(fB N).kc ((fB N).bp ρ) 27=bA.lN N N:=Fx.uL [47,33,36] (WA N) ρ (bA.lN N) fun n ρ' e d=>by rw[Wv,Wz,e];rfl
theorem adJ(K ρ):(fB N).bd K ρ 9=bA.c5 N ((fB N).kc K 27) ((fB N).kc ρ 9):=by kernel_rfl
theorem adK(ρ):(fB N).kc ((fB N).bp ρ) 9=bA.l4 N N:=Fx.uL [27,47] (adJ N) ρ (bA.l4 N) fun n ρ' e d=>by rw[WB,e];rfl
theorem aoN(K):(fB N).top K=bA.b N ((fB N).kc K 9):=by kernel_rfl
noncomputable def aoO:Kn Tryz.prog:=⟨146,(fB N).S false (bA N),Fx.u1 (fB N) ar Tryz.func146 [9,27,47] (aoN N) (by rw[adK];rfl)⟩
noncomputable def ajA:Fx:=⟨9,tab,[],N,Tryz.f213,[.v bT],[.v bT],[],none⟩
noncomputable def aoP:Kn Tryz.prog:=⟨213,(ajA N).S false (ach N),Fx.u0 (ajA N) ar Tryz.func213⟩
noncomputable def fC:Fx:=⟨185,tab,Kn.l [k77 N,aiN N,Pl N,k78 N,Iv N,aiP N,SW N,VS N,adn N,aoP N],N,Tryz.f147,[.v bT,.v gu],[.v bT,.v I],[⟨42,[(1,.v gu),(11,.own fA),(13,.obj q3),(14,.v I),(68,.v gu),(69,.v I),(70,.v I)],[1,1,1,1,1,1,0,1,0,0,1,1,0,0,1,1,1],[33]⟩,⟨39,[(1,.v gu),(11,.own fA),(13,.obj q3),(14,.v I),(68,.v gu),(69,.v I),(70,.v I)],[1,1,1,1,1,1,0,1,0,0,1,1,0,0,1,1,0,0,0],[33]⟩,⟨61,[(1,.v gu),(15,.own fA),(17,.obj fA),(18,.own cn),(121,.own fA),(122,.v I),(123,.v I),(131,.v gu),(132,.v I),(133,.v I)],[1,1,1,1,1,1,1,1,0,1,0,0,1,1,0,0,1,1,0,1,0,0],[53]⟩,⟨53,[(1,.v gu),(15,.own fA),(121,.own fA),(122,.v I),(123,.v I)],[1,1,1,1,1,1,1,1,0,1,0,0],[]⟩,⟨33,[(1,.v gu),(11,.own fA),(68,.v gu),(69,.v I),(70,.v I)],[1,1,1,1,1,1,0,1,0,0],[]⟩,⟨11,[(0,.v bT),(1,.v gu),(6,.own cn),(36,.v gu),(37,.v I),(38,.v I)],[1,1,1,0,1,0,0],[]⟩],none⟩
theorem WC(K ρ):(fC N).bd K ρ 42=bB.z6 N ((fC N).kc ρ 33):=by kernel_rfl
theorem WD(ρ):(fC N).kc ((fC N).bp ρ) 42=bB.Gy N ((fC N).kc ρ 33):=Fx.uJ [53] (WC N) ρ
theorem WE(K ρ):(fC N).bd K ρ 39=bB.KA N ((fC N).kc K 42) ((fC N).kc ρ 33) ((fC N).kc ρ 39):=by kernel_rfl
theorem WG(ρ):(fC N).kc ((fC N).bp ρ) 39=bB.Oc N ((fC N).kc ρ 33) N:=Fx.uL [53,42] (WE N) ρ (bB.Oc N ((fC N).kc ρ 33)) fun n ρ' e d=>by rw[WD,e,d 33 rfl];rfl
theorem WH(K ρ):(fC N).bd K ρ 61=bB.G7 N ((fC N).kc ρ 53) ((fC N).kc ρ 61):=by kernel_rfl
theorem WI(ρ):(fC N).kc ((fC N).bp ρ) 61=bB.Kz N ((fC N).kc ρ 53) N:=Fx.uL [] (WH N) ρ (bB.Kz N ((fC N).kc ρ 53)) fun n ρ' e d=>by rw[e,d 53 rfl];rfl
theorem WJ(K ρ):(fC N).bd K ρ 53=bB.UJ N ((fC N).kc K 61) ((fC N).kc ρ 53):=by kernel_rfl
theorem WK(ρ):(fC N).kc ((fC N).bp ρ) 53=bB.UI N N:=Fx.uL [61] (WJ N) ρ (bB.UI N) fun n ρ' e d=>by rw[WI,e];rfl
theorem WL(K ρ):(fC N).bd K ρ 33=bB.se N ((fC N).kc K 39) ((fC N).kc K 53) ((fC N).kc ρ 33):=by kernel_rfl
theorem WM(ρ):(fC N).kc ((fC N).bp ρ) 33=bB.tp N N:=Fx.uL [53,39,42] (WL N) ρ (bB.tp N) fun n ρ' e d=>by rw[WG,WK,e];rfl
theorem WN(K ρ):(fC N).bd K ρ 11=bB.c0 N ((fC N).kc K 33) ((fC N).kc ρ 11):=by kernel_rfl
theorem WO(ρ):(fC N).kc ((fC N).bp ρ) 11=bB.l5 N N:=Fx.uL [33,53] (WN N) ρ (bB.l5 N) fun n ρ' e d=>by rw[WM,e];rfl
theorem aoQ(K):(fC N).top K=bB.b N ((fC N).kc K 11):=by kernel_rfl
noncomputable def aoR:Kn Tryz.prog:=⟨147,(fC N).S false (bB N),Fx.u1 (fC N) ar Tryz.func147 [11,33,53] (aoQ N) (by rw[WO];rfl)⟩
noncomputable def X65:Fx:=⟨37,tab,Kn.l [aoJ N,aoO N,aoR N],N,Tryz.f65,[.v az,.v bT,.v gu],[.v az,.v I],[],none⟩
noncomputable def k65:Kn Tryz.prog:=⟨65,(X65 N).S false (F65 N),Fx.u0 (X65 N) ar Tryz.func65⟩
noncomputable def xa:Fx:=⟨113,tab,Kn.l [k25 N,aoG N,k82 N,aoI N,k65 N],N,Tryz.f117,[.v aq,.v az,.v tu],[.v az,.v I],[⟨25,[(4,.obj az),(6,.obj az),(10,.own fA),(11,.own q3),(68,.v tu),(69,.v I),(70,.v I)],[1,1,1,1,1,0,1,0,0],[]⟩,⟨9,[(2,.v tu),(3,.obj aq),(4,.obj az),(6,.obj az),(30,.v tu),(31,.v I),(32,.v I)],[1,1,0,1,0,0],[]⟩],none⟩
theorem WQ(K ρ):(xa N).bd K ρ 25=fk.jV N ((xa N).kc ρ 25):=by kernel_rfl
theorem WR(ρ):(xa N).kc ((xa N).bp ρ) 25=fk.kL N N:=Fx.uL [] (WQ N) ρ (fk.kL N) fun n ρ' e d=>by rw[e];rfl
theorem adL(K ρ):(xa N).bd K ρ 9=fk.c5 N ((xa N).kc K 25) ((xa N).kc ρ 9):=by kernel_rfl
theorem adM(ρ):(xa N).kc ((xa N).bp ρ) 9=fk.l4 N N:=Fx.uL [25] (adL N) ρ (fk.l4 N) fun n ρ' e d=>by rw[WR,e];rfl
theorem aoS(K):(xa N).top K=fk.b N ((xa N).kc K 9):=by kernel_rfl
noncomputable def aoT:Kn Tryz.prog:=⟨117,(xa N).S false (fk N),Fx.u1 (xa N) ar Tryz.func117 [9,25] (aoS N) (by rw[adM];rfl)⟩
noncomputable def X49:Fx:=⟨101,tab,Kn.l [k25 N,k48 N,ajm N,k85 N,k50 N,aoT N],N,Tryz.f49,[.v aq,.v az,.v cU,.v I,.v I,.v I],[.v az,.v cU,.v I],[⟨24,[(4,.v I),(6,.obj aq),(7,.obj az),(8,.obj cU),(12,.obj az),(13,.obj cU),(17,.obj oi)],[1,1,1,1,1,1],[]⟩],none⟩
theorem adO(K ρ):(X49 N).bd K ρ 24=A0.acv N:=by kernel_rfl
theorem adP(ρ):(X49 N).kc ((X49 N).bp ρ) 24=A0.j12 N:=Fx.uJ [] (adO N) ρ
theorem h49(K):(X49 N).top K=A0.b N ((X49 N).kc K 24):=by kernel_rfl
noncomputable def k49:Kn Tryz.prog:=⟨49,(X49 N).S false (A0 N),Fx.u1 (X49 N) ar Tryz.func49 [24] (h49 N) (by rw[adP];rfl)⟩
noncomputable def X69:Fx:=⟨78,tab,[],N,Tryz.f69,[.v bT],[.v B],[⟨5,[(0,.v bT),(3,.v I)],[1,0,1,0,0],[]⟩],none⟩
theorem ajB(K ρ):(X69 N).bd K ρ 5=uH.dr N ((X69 N).kc ρ 5):=by kernel_rfl
theorem ajC(ρ):(X69 N).kc ((X69 N).bp ρ) 5=uH.l2 N N:=Fx.uL [] (ajB N) ρ (uH.l2 N) fun n ρ' e d=>by rw[e];rfl
theorem h69(K):(X69 N).top K=uH.b N ((X69 N).kc K 5):=by kernel_rfl
noncomputable def k69:Kn Tryz.prog:=⟨69,(X69 N).S true (uH N),Fx.u1 (X69 N) ar Tryz.func69 [5] (h69 N) (by rw[ajC];rfl)⟩
noncomputable def X20:Fx:=⟨38,tab,Kn.l [k69 N],N,Tryz.f20,[.v bT,.v I,.v I],[.v I],[⟨9,[(0,.v bT),(1,.v I),(2,.v I),(7,.v I)],[1,1,0,1,0,0],[]⟩],none⟩
theorem ajD(K ρ):(X20 N).bd K ρ 9=tJ.c5 N ((X20 N).kc ρ 9):=by kernel_rfl
theorem ajE(ρ):(X20 N).kc ((X20 N).bp ρ) 9=tJ.l4 N N:=Fx.uL [] (ajD N) ρ (tJ.l4 N) fun n ρ' e d=>by rw[e];rfl
theorem h20(K):(X20 N).top K=tJ.b N ((X20 N).kc K 9):=by kernel_rfl
noncomputable def k20:Kn Tryz.prog:=⟨20,(X20 N).S true (tJ N),Fx.u1 (X20 N) ar Tryz.func20 [9] (h20 N) (by rw[ajE];rfl)⟩
noncomputable def ajF:Fx:=⟨30,tab,[],N,Tryz.f149,[.v I,.v I],[.v B],[],none⟩
noncomputable def ajG:Kn Tryz.prog:=⟨149,(ajF N).S true (Kl N),Fx.u0 (ajF N) ar Tryz.func149⟩
noncomputable def X68:Fx:=⟨74,tab,Kn.l [ajG N],N,Tryz.f68,[.v bT],[.v B],[⟨5,[(0,.v bT),(3,.v I)],[1,0,1,0,0],[]⟩],none⟩
theorem ajH(K ρ):(X68 N).bd K ρ 5=wL.dr N ((X68 N).kc ρ 5):=by kernel_rfl
theorem ajI(ρ):(X68 N).kc ((X68 N).bp ρ) 5=wL.l2 N N:=Fx.uL [] (ajH N) ρ (wL.l2 N) fun n ρ' e d=>by rw[e];rfl
theorem h68(K):(X68 N).top K=wL.b N ((X68 N).kc K 5):=by kernel_rfl
noncomputable def k68:Kn Tryz.prog:=⟨68,(X68 N).S true (wL N),Fx.u1 (X68 N) ar Tryz.func68 [5] (h68 N) (by rw[ajI];rfl)⟩
noncomputable def X19:Fx:=⟨38,tab,Kn.l [k68 N],N,Tryz.f19,[.v bT,.v I,.v I],[.v I],[⟨9,[(0,.v bT),(1,.v I),(2,.v I),(7,.v I)],[1,1,0,1,0,0],[]⟩],none⟩
theorem ajJ(K ρ):(X19 N).bd K ρ 9=ri.c5 N ((X19 N).kc ρ 9):=by kernel_rfl
theorem ajK(ρ):(X19 N).kc ((X19 N).bp ρ) 9=ri.l4 N N:=Fx.uL [] (ajJ N) ρ (ri.l4 N) fun n ρ' e d=>by rw[e];rfl
theorem h19(K):(X19 N).top K=ri.b N ((X19 N).kc K 9):=by kernel_rfl
noncomputable def SY:Kn Tryz.prog:=⟨19,(X19 N).S true (ri N),Fx.u1 (X19 N) ar Tryz.func19 [9] (h19 N) (by rw[ajK];rfl)⟩
noncomputable def WS:Fx:=⟨108,tab,Kn.l [k99 N,k43 N,k44 N,k49 N,k20 N,SY N,k48 N],N,Tryz.f38,[],[.v B],[],none⟩
theorem asY:pN Tryz.prog (WS N).E:=Fx.Me (WS N) ar (Kn.all _) (by kernel_rfl)
theorem asZ: ∀x,Jy (WS N).E (WS N).fn (WS N).args (WS N).res x=D9 (WS N).args (F38 N) x:=Fx.ab4 (by kernel_rfl)
noncomputable def k38:Kn Tryz.prog:=⟨38,(WS N).S true (F38 N),Fx.u0 (WS N) ar Tryz.func38⟩
noncomputable def X13:Fx:=⟨6,tab,[],N,Tryz.f13,[.v LU],[.ptr dj],[],none⟩
noncomputable def k13:Kn Tryz.prog:=⟨13,(X13 N).S false (F13 N),Fx.u0 (X13 N) ar Tryz.func13⟩
noncomputable def X42:Fx:=⟨32,tab,[],N,Tryz.f42,[.io dj],[.v U,.io dj],[],none⟩
noncomputable def k42:Kn Tryz.prog:=⟨42,(X42 N).S false (F42 N),Fx.u0 (X42 N) ar Tryz.func42⟩
noncomputable def X41:Fx:=⟨11,tab,Kn.l [k42 N],N,Tryz.f41,[.io dj,.v I],[.v I,.io dj],[],none⟩
noncomputable def Tv:Kn Tryz.prog:=⟨41,(X41 N).S false (ox N),Fx.u0 (X41 N) ar Tryz.func41⟩
noncomputable def X54:Fx:=⟨11,tab,Kn.l [Tv N],N,Tryz.f54,[.io dj,.v I],[.v B,.io dj],[],none⟩
noncomputable def k54:Kn Tryz.prog:=⟨54,(X54 N).S false (Tk N),Fx.u0 (X54 N) ar Tryz.func54⟩
noncomputable def X89:Fx:=⟨29,tab,Kn.l [k42 N],N,Tryz.f89,[.io dj],[.v I,.io dj],[],none⟩
noncomputable def k89:Kn Tryz.prog:=⟨89,(X89 N).S false (JN N),Fx.u0 (X89 N) ar Tryz.func89⟩
noncomputable def M8:Fx:=⟨71,tab,Kn.l [Tv N,k54 N,k89 N],N,Tryz.f27,[.io dj],[.v aq,.io dj],[⟨16,[(0,.io dj),(2,.obj aq),(3,.dW aq [.gX 0] cU),(4,.v I),(5,.obj cU)],[1,1,0,1,0,0,1,0,0,1,1],[7]⟩,⟨7,[(0,.io dj),(2,.obj aq),(3,.dW aq [.gX 0] cU),(4,.v I)],[1,1,0,1,0,0],[]⟩],some (aq,[.gX 0],cU,[3])⟩
theorem adQ(K ρ):(M8 N).bd K ρ 16=qV.Rb N ((M8 N).kc ρ 7):=by kernel_rfl
theorem adR(ρ):(M8 N).kc ((M8 N).bp ρ) 16=qV.j8 N ((M8 N).kc ρ 7):=Fx.uJ [] (adQ N) ρ
theorem ajM(K ρ):(M8 N).bd K ρ 7=qV.kq N ((M8 N).kc K 16) ((M8 N).kc ρ 7):=by kernel_rfl
theorem ajN(ρ):(M8 N).kc ((M8 N).bp ρ) 7=qV.l3 N N:=Fx.uL [16] (ajM N) ρ (qV.l3 N) fun n ρ' e d=>by rw[adR,e];rfl
theorem h27(K):(M8 N).top K=qV.b N ((M8 N).kc K 7):=by kernel_rfl
noncomputable def k27:Kn Tryz.prog:=⟨27,(M8 N).S false (qV N),Fx.u1 (M8 N) ar Tryz.func27 [7] (h27 N) (by rw[ajN];rfl)⟩
noncomputable def ry:Fx:=⟨62,tab,Kn.l [k54 N,Tv N],N,Tryz.f157,[.io dj,.v aq],[.own nj,.io dj],[⟨27,[(0,.io dj),(5,.own nj),(8,.v I)],[1,1,1,1,0,1,0,0],[]⟩,⟨19,[(0,.io dj),(5,.own nj),(7,.v I)],[1,1,1,0,1,0,0],[]⟩,⟨7,[(0,.io dj),(5,.own nj),(6,.v I)],[1,1,0,1,0,0],[]⟩],none⟩
theorem WT(K ρ):(ry N).bd K ρ 27=dL.jY N ((ry N).kc ρ 27):=by kernel_rfl
theorem WU(ρ):(ry N).kc ((ry N).bp ρ) 27=dL.lN N N:=Fx.uL [] (WT N) ρ (dL.lN N) fun n ρ' e d=>by rw[e];rfl
theorem WV(K ρ):(ry N).bd K ρ 19=dL.tk N ((ry N).kc K 27) ((ry N).kc ρ 19):=by kernel_rfl
theorem WW(ρ):(ry N).kc ((ry N).bp ρ) 19=dL.l9 N N:=Fx.uL [27] (WV N) ρ (dL.l9 N) fun n ρ' e d=>by rw[WU,e];rfl
theorem adS(K ρ):(ry N).bd K ρ 7=dL.kq N ((ry N).kc K 19) ((ry N).kc ρ 7):=by kernel_rfl
theorem adT(ρ):(ry N).kc ((ry N).bp ρ) 7=dL.l3 N N:=Fx.uL [19,27] (adS N) ρ (dL.l3 N) fun n ρ' e d=>by rw[WW,e];rfl
theorem aoW(K):(ry N).top K=dL.b N ((ry N).kc K 7):=by kernel_rfl
noncomputable def aoX:Kn Tryz.prog:=⟨157,(ry N).S false (dL N),Fx.u1 (ry N) ar Tryz.func157 [7,19,27] (aoW N) (by rw[adT];rfl)⟩
noncomputable def ajO:Fx:=⟨30,tab,Kn.l [Tv N,k54 N,k89 N],N,Tryz.f159,[.io dj,.v aq,.v I],[.v nj,.io dj],[],none⟩
noncomputable def adU:Kn Tryz.prog:=⟨159,(ajO N).S false (OO N),Fx.u0 (ajO N) ar Tryz.func159⟩
noncomputable def ajP:Fx:=⟨48,tab,Kn.l [Tv N,k54 N,k89 N],N,Tryz.f160,[.io dj,.v aq],[.v nj,.io dj],[],none⟩
noncomputable def ajQ:Kn Tryz.prog:=⟨160,(ajP N).S false (RQ N),Fx.u0 (ajP N) ar Tryz.func160⟩
noncomputable def ajR:Fx:=⟨133,tab,Kn.l [Tv N,k89 N,adU N,ajQ N],N,Tryz.f158,[.io dj,.v aq],[.v nj,.io dj],[],none⟩
noncomputable def ajS:Kn Tryz.prog:=⟨158,(ajR N).S false (RS N),Fx.u0 (ajR N) ar Tryz.func158⟩
noncomputable def X90:Fx:=⟨50,tab,Kn.l [aoX N,Tv N,ajS N,adU N,ajQ N],N,Tryz.f90,[.io dj,.v aq,.v I],[.own nj,.io dj],[⟨7,[(0,.io dj),(4,.obj aq),(7,.own nj),(8,.v I)],[1,1,0,1,0,0],[]⟩],none⟩
theorem ajT(K ρ):(X90 N).bd K ρ 7=zm.kq N ((X90 N).kc ρ 7):=by kernel_rfl
theorem ajU(ρ):(X90 N).kc ((X90 N).bp ρ) 7=zm.l3 N N:=Fx.uL [] (ajT N) ρ (zm.l3 N) fun n ρ' e d=>by rw[e];rfl
theorem h90(K):(X90 N).top K=zm.b N ((X90 N).kc K 7):=by kernel_rfl
noncomputable def k90:Kn Tryz.prog:=⟨90,(X90 N).S false (zm N),Fx.u1 (X90 N) ar Tryz.func90 [7] (h90 N) (by rw[ajU];rfl)⟩
noncomputable def X91:Fx:=⟨33,tab,Kn.l [Tv N,k54 N,adU N,ajS N],N,Tryz.f91,[.io dj,.v aq],[.own nj,.io dj],[⟨7,[(0,.io dj),(3,.obj aq),(5,.own nj),(6,.v I)],[1,1,0,1,0,0],[]⟩],none⟩
theorem ajV(K ρ):(X91 N).bd K ρ 7=yN.kq N ((X91 N).kc ρ 7):=by kernel_rfl
theorem ajW(ρ):(X91 N).kc ((X91 N).bp ρ) 7=yN.l3 N N:=Fx.uL [] (ajV N) ρ (yN.l3 N) fun n ρ' e d=>by rw[e];rfl
theorem h91(K):(X91 N).top K=yN.b N ((X91 N).kc K 7):=by kernel_rfl
noncomputable def k91:Kn Tryz.prog:=⟨91,(X91 N).S false (yN N),Fx.u1 (X91 N) ar Tryz.func91 [7] (h91 N) (by rw[ajW];rfl)⟩
noncomputable def ajX:Fx:=⟨15,tab,[],N,Tryz.f176,[.v I,.v I,.v I],[.v B],[],none⟩
noncomputable def aoY:Kn Tryz.prog:=⟨176,(ajX N).S true (B9 N),Fx.u0 (ajX N) ar Tryz.func176⟩
noncomputable def IT:Fx:=⟨77,tab,Kn.l [aoY N],N,Tryz.f115,[.v aq],[.v B],[⟨9,[(1,.obj aq),(3,.v I)],[1,1,0,1,0,0],[]⟩],none⟩
theorem adV(K ρ):(IT N).bd K ρ 9=iZ.c5 N ((IT N).kc ρ 9):=by kernel_rfl
theorem adW(ρ):(IT N).kc ((IT N).bp ρ) 9=iZ.l4 N N:=Fx.uL [] (adV N) ρ (iZ.l4 N) fun n ρ' e d=>by rw[e];rfl
theorem aoZ(K):(IT N).top K=iZ.b N ((IT N).kc K 9):=by kernel_rfl
noncomputable def LJ:Kn Tryz.prog:=⟨115,(IT N).S true (iZ N),Fx.u1 (IT N) ar Tryz.func115 [9] (aoZ N) (by rw[adW];rfl)⟩
noncomputable def yQ:Fx:=⟨41,tab,Kn.l [LJ N],N,Tryz.f214,[.v aq],[.v az,.v I],[⟨15,[(1,.obj aq),(2,.obj az),(4,.dW az [.gX 4] I),(5,.v I)],[1,1,1,1,0,1,0,0],[]⟩,⟨12,[(1,.obj aq),(2,.obj az),(4,.dW az [.gX 4] I)],[1,1,1,1],[]⟩],some (az,[.gX 4],I,[4])⟩
theorem WX(K ρ):(yQ N).bd K ρ 15=gU.oT N ((yQ N).kc ρ 15):=by kernel_rfl
theorem WY(ρ):(yQ N).kc ((yQ N).bp ρ) 15=gU.l7 N N:=Fx.uL [] (WX N) ρ (gU.l7 N) fun n ρ' e d=>by rw[e];rfl
theorem WZ(K ρ):(yQ N).bd K ρ 12=gU.JK N ((yQ N).kc K 15):=by kernel_rfl
theorem W0(ρ):(yQ N).kc ((yQ N).bp ρ) 12=gU.j6 N:=Fx.uJ [15] (WZ N) ρ (by rw[WY];rfl)
theorem ao0(K):(yQ N).top K=gU.b N ((yQ N).kc K 12):=by kernel_rfl
noncomputable def ao1:Kn Tryz.prog:=⟨214,(yQ N).S false (gU N),Fx.u1 (yQ N) ar Tryz.func214 [12,15] (ao0 N) (by rw[W0];rfl)⟩
noncomputable def ajY:Fx:=⟨17,tab,Kn.l [ao1 N],N,Tryz.f161,[.v aq],[.v cz,.v I],[],none⟩
noncomputable def ao2:Kn Tryz.prog:=⟨161,(ajY N).S false (acM N),Fx.u0 (ajY N) ar Tryz.func161⟩
noncomputable def ajZ:Fx:=⟨9,tab,[],N,Tryz.f246,[.v I],[.v B],[],none⟩
noncomputable def ao3:Kn Tryz.prog:=⟨246,(ajZ N).S true (acA N),Fx.u0 (ajZ N) ar Tryz.func246⟩
noncomputable def aj0:Fx:=⟨32,tab,[],N,Tryz.f247,[.v I],[.v Z],[],none⟩
noncomputable def ao4:Kn Tryz.prog:=⟨247,(aj0 N).S true (Vf N),Fx.u0 (aj0 N) ar Tryz.func247⟩
noncomputable def aj1:Fx:=⟨12,tab,[],N,Tryz.f275,[.v I],[.v I,.v I],[],none⟩
noncomputable def ao5:Kn Tryz.prog:=⟨275,(aj1 N).S true (acy N),Fx.u0 (aj1 N) ar Tryz.func275⟩
noncomputable def aj2:Fx:=⟨6,tab,[],N,Tryz.f276,[.v I],[.v I,.v I],[],none⟩
noncomputable def ao6:Kn Tryz.prog:=⟨276,(aj2 N).S true (acz N),Fx.u0 (aj2 N) ar Tryz.func276⟩
noncomputable def aj3:Fx:=⟨27,tab,Kn.l [ao5 N,ao6 N],N,Tryz.f248,[.v I,.v (.int .u8)],[.v I,.v I],[],none⟩
noncomputable def ao7:Kn Tryz.prog:=⟨248,(aj3 N).S true (Vg N),Fx.u0 (aj3 N) ar Tryz.func248⟩
noncomputable def aj4:Fx:=⟨32,tab,[],N,Tryz.f249,[.v nj,.v (.int .u8)],[.v I],[],none⟩
noncomputable def ao8:Kn Tryz.prog:=⟨249,(aj4 N).S true (Vh N),Fx.u0 (aj4 N) ar Tryz.func249⟩
noncomputable def aj5:Fx:=⟨35,tab,[],N,Tryz.f250,[.v nj,.v (.int .u8),.v I],[.v nj],[],none⟩
noncomputable def ao9:Kn Tryz.prog:=⟨250,(aj5 N).S true (Vi N),Fx.u0 (aj5 N) ar Tryz.func250⟩
noncomputable def IU:Fx:=⟨56,tab,Kn.l [ao3 N,ao4 N,ao7 N,ao8 N,ao9 N],N,Tryz.f215,[.v nj],[.v B],[⟨13,[(1,.obj nj),(3,.v Z),(4,.obj nj),(5,.v I)],[1,1,1,1,0,1,0,0],[]⟩],none⟩
theorem W1(K ρ):(IU N).bd K ρ 13=nV.pn N ((IU N).kc ρ 13):=by kernel_rfl
theorem W2(ρ):(IU N).kc ((IU N).bp ρ) 13=nV.l6 N N:=Fx.uL [] (W1 N) ρ (nV.l6 N) fun n ρ' e d=>by rw[e];rfl
theorem apa(K):(IU N).top K=nV.b N ((IU N).kc K 13):=by kernel_rfl
noncomputable def apb:Kn Tryz.prog:=⟨215,(IU N).S true (nV N),Fx.u1 (IU N) ar Tryz.func215 [13] (apa N) (by rw[W2];rfl)⟩
noncomputable def IV:Fx:=⟨58,tab,[],N,Tryz.f235,[.v cC],[.v B],[⟨5,[(0,.v cC),(3,.v I)],[1,0,1,0,0],[]⟩],none⟩
theorem adX(K ρ):(IV N).bd K ρ 5=kg.dr N ((IV N).kc ρ 5):=by kernel_rfl
theorem adY(ρ):(IV N).kc ((IV N).bp ρ) 5=kg.l2 N N:=Fx.uL [] (adX N) ρ (kg.l2 N) fun n ρ' e d=>by rw[e];rfl
theorem apc(K):(IV N).top K=kg.b N ((IV N).kc K 5):=by kernel_rfl
noncomputable def W3:Kn Tryz.prog:=⟨235,(IV N).S true (kg N),Fx.u1 (IV N) ar Tryz.func235 [5] (apc N) (by rw[adY];rfl)⟩
noncomputable def IW:Fx:=⟨24,tab,[],N,Tryz.f236,[.v cC,.v I],[.v I],[⟨5,[(0,.v cC),(1,.v I),(5,.v I)],[1,0,1,0,0],[]⟩],none⟩
theorem adZ(K ρ):(IW N).bd K ρ 5=jC.dr N ((IW N).kc ρ 5):=by kernel_rfl
theorem ad0(ρ):(IW N).kc ((IW N).bp ρ) 5=jC.l2 N N:=Fx.uL [] (adZ N) ρ (jC.l2 N) fun n ρ' e d=>by rw[e];rfl
theorem apd(K):(IW N).top K=jC.b N ((IW N).kc K 5):=by kernel_rfl
noncomputable def Pm:Kn Tryz.prog:=⟨236,(IW N).S true (jC N),Fx.u1 (IW N) ar Tryz.func236 [5] (apd N) (by rw[ad0];rfl)⟩
noncomputable def yR:Fx:=⟨53,tab,Kn.l [W3 N,Pm N],N,Tryz.f251,[.v cC,.v I],[.own gC,.v I],[⟨18,[(0,.v cC),(1,.v I),(6,.own gC),(7,.v I)],[1,1,1,1,1,1],[]⟩,⟨15,[(0,.v cC),(1,.v I),(6,.own gC),(7,.v I)],[1,1,1,1,1,0,0,0],[]⟩],none⟩
theorem W4(K ρ):(yR N).bd K ρ 18=ij.Ki N:=by kernel_rfl
theorem W5(ρ):(yR N).kc ((yR N).bp ρ) 18=ij.j9 N:=Fx.uJ [] (W4 N) ρ
theorem W6(K ρ):(yR N).bd K ρ 15=ij.oT N ((yR N).kc K 18) ((yR N).kc ρ 15):=by kernel_rfl
theorem W7(ρ):(yR N).kc ((yR N).bp ρ) 15=ij.l7 N N:=Fx.uL [18] (W6 N) ρ (ij.l7 N) fun n ρ' e d=>by rw[W5,e];rfl
theorem ape(K):(yR N).top K=ij.b N ((yR N).kc K 15):=by kernel_rfl
noncomputable def apf:Kn Tryz.prog:=⟨251,(yR N).S false (ij N),Fx.u1 (yR N) ar Tryz.func251 [15,18] (ape N) (by rw[W7];rfl)⟩
noncomputable def aj6:Fx:=⟨5,tab,[],N,Tryz.f252,[.v I],[.v fA],[],none⟩
noncomputable def W8:Kn Tryz.prog:=⟨252,(aj6 N).S true (ea N),Fx.u0 (aj6 N) ar Tryz.func252⟩
noncomputable def BI:Fx:=⟨95,tab,[],N,Tryz.f71,[.v dA],[.v B],[⟨17,[(0,.v dA),(3,.v I),(4,.obj cU),(5,.v I)],[1,0,1,0,0,1,0,0,1,1,1,0,0],[5]⟩,⟨14,[(0,.v dA),(3,.v I),(4,.obj cU)],[1,0,1,0,0,1,0,0,1,1],[5]⟩,⟨5,[(0,.v dA),(3,.v I)],[1,0,1,0,0],[]⟩],none⟩
theorem ad1(K ρ):(BI N).bd K ρ 17=iQ.wk N ((BI N).kc ρ 5) ((BI N).kc ρ 17):=by kernel_rfl
theorem ad2(ρ):(BI N).kc ((BI N).bp ρ) 17=iQ.l8 N ((BI N).kc ρ 5) N:=Fx.uL [] (ad1 N) ρ (iQ.l8 N ((BI N).kc ρ 5)) fun n ρ' e d=>by rw[e,d 5 rfl];rfl
theorem ad3(K ρ):(BI N).bd K ρ 14=iQ.Kh N ((BI N).kc K 17) ((BI N).kc ρ 5):=by kernel_rfl
theorem ad4(ρ):(BI N).kc ((BI N).bp ρ) 14=iQ.j7 N ((BI N).kc ρ 5):=Fx.uJ [17] (ad3 N) ρ (by rw[ad2];rfl)
theorem aj7(K ρ):(BI N).bd K ρ 5=iQ.dr N ((BI N).kc K 14) ((BI N).kc ρ 5):=by kernel_rfl
theorem aj8(ρ):(BI N).kc ((BI N).bp ρ) 5=iQ.l2 N N:=Fx.uL [14,17] (aj7 N) ρ (iQ.l2 N) fun n ρ' e d=>by rw[ad4,e];rfl
theorem h71(K):(BI N).top K=iQ.b N ((BI N).kc K 5):=by kernel_rfl
noncomputable def k71:Kn Tryz.prog:=⟨71,(BI N).S true (iQ N),Fx.u1 (BI N) ar Tryz.func71 [5] (h71 N) (by rw[aj8];rfl)⟩
noncomputable def IX:Fx:=⟨28,tab,Kn.l [W3 N,k71 N,Pm N],N,Tryz.f185,[.v cC,.v dA],[.v B],[⟨9,[(0,.v cC),(1,.v dA),(5,.v I)],[1,1,0,1,0,0],[]⟩],none⟩
theorem ad5(K ρ):(IX N).bd K ρ 9=kK.c5 N ((IX N).kc ρ 9):=by kernel_rfl
theorem ad6(ρ):(IX N).kc ((IX N).bp ρ) 9=kK.l4 N N:=Fx.uL [] (ad5 N) ρ (kK.l4 N) fun n ρ' e d=>by rw[e];rfl
theorem apg(K):(IX N).top K=kK.b N ((IX N).kc K 9):=by kernel_rfl
noncomputable def ad7:Kn Tryz.prog:=⟨185,(IX N).S true (kK N),Fx.u1 (IX N) ar Tryz.func185 [9] (apg N) (by rw[ad6];rfl)⟩
noncomputable def IY:Fx:=⟨25,tab,[],N,Tryz.f267,[.v dA,.v I],[.v cU,.v B],[⟨5,[(0,.v dA),(1,.v I),(4,.obj cU),(6,.v I)],[1,0,1,0,0],[]⟩],none⟩
theorem ad8(K ρ):(IY N).bd K ρ 5=kj.dr N ((IY N).kc ρ 5):=by kernel_rfl
theorem ad9(ρ):(IY N).kc ((IY N).bp ρ) 5=kj.l2 N N:=Fx.uL [] (ad8 N) ρ (kj.l2 N) fun n ρ' e d=>by rw[e];rfl
theorem aph(K):(IY N).top K=kj.b N ((IY N).kc K 5):=by kernel_rfl
noncomputable def W9:Kn Tryz.prog:=⟨267,(IY N).S true (kj N),Fx.u1 (IY N) ar Tryz.func267 [5] (aph N) (by rw[ad9];rfl)⟩
noncomputable def X22:Fx:=⟨35,tab,Kn.l [k71 N],N,Tryz.f22,[.v dA,.v I],[.v I],[⟨9,[(0,.v dA),(1,.v I),(5,.v I)],[1,1,0,1,0,0],[]⟩],none⟩
theorem aj9(K ρ):(X22 N).bd K ρ 9=ue.c5 N ((X22 N).kc ρ 9):=by kernel_rfl
theorem aka(ρ):(X22 N).kc ((X22 N).bp ρ) 9=ue.l4 N N:=Fx.uL [] (aj9 N) ρ (ue.l4 N) fun n ρ' e d=>by rw[e];rfl
theorem h22(K):(X22 N).top K=ue.b N ((X22 N).kc K 9):=by kernel_rfl
noncomputable def k22:Kn Tryz.prog:=⟨22,(X22 N).S true (ue N),Fx.u1 (X22 N) ar Tryz.func22 [9] (h22 N) (by rw[aka];rfl)⟩
noncomputable def tz:Fx:=⟨81,tab,Kn.l [ad7 N,k71 N,Pm N,W9 N,k22 N],N,Tryz.f253,[.v cC,.v dA,.v cU],[.own cU,.v I],[⟨30,[(1,.v dA),(5,.obj cU),(11,.own cU),(12,.v I)],[1,1,1,1,1,1,1,1,1],[]⟩,⟨27,[(1,.v dA),(5,.obj cU),(11,.own cU),(12,.v I)],[1,1,1,1,1,1,1,1,0,0,0],[]⟩,⟨22,[(1,.v dA),(5,.obj cU)],[1,1,1,1,1,1],[]⟩],none⟩
theorem Xa(K ρ):(tz N).bd K ρ 30=eI.mu N:=by kernel_rfl
theorem Xb(ρ):(tz N).kc ((tz N).bp ρ) 30=eI.rA N:=Fx.uJ [] (Xa N) ρ
theorem Xc(K ρ):(tz N).bd K ρ 27=eI.jY N ((tz N).kc K 30) ((tz N).kc ρ 27):=by kernel_rfl
theorem Xd(ρ):(tz N).kc ((tz N).bp ρ) 27=eI.lN N N:=Fx.uL [30] (Xc N) ρ (eI.lN N) fun n ρ' e d=>by rw[Xb,e];rfl
theorem Xe(K ρ):(tz N).bd K ρ 22=eI.A7 N ((tz N).kc K 27):=by kernel_rfl
theorem Xf(ρ):(tz N).kc ((tz N).bp ρ) 22=eI.JO N:=Fx.uJ [27,30] (Xe N) ρ (by rw[Xd];rfl)
theorem api(K):(tz N).top K=eI.b N ((tz N).kc K 22):=by kernel_rfl
noncomputable def apj:Kn Tryz.prog:=⟨253,(tz N).S false (eI N),Fx.u1 (tz N) ar Tryz.func253 [22,27,30] (api N) (by rw[Xf];rfl)⟩
noncomputable def akc:Fx:=⟨15,tab,Kn.l [k71 N,W9 N],N,Tryz.f222,[.v dA,.v I],[.v cU,.v B],[],none⟩
noncomputable def LK:Kn Tryz.prog:=⟨222,(akc N).S true (Ai N),Fx.u0 (akc N) ar Tryz.func222⟩
noncomputable def akd:Fx:=⟨16,tab,Kn.l [LK N],N,Tryz.f254,[.v cz,.v I],[.v B],[],none⟩
noncomputable def apk:Kn Tryz.prog:=⟨254,(akd N).S true (Sp N),Fx.u0 (akd N) ar Tryz.func254⟩
noncomputable def IZ:Fx:=⟨22,tab,[],N,Tryz.f148,[.v LU],[.v LU],[⟨5,[(0,.v LU),(3,.v I)],[1,1,0,0,0],[]⟩],none⟩
theorem aea(K ρ):(IZ N).bd K ρ 5=kG.dr N ((IZ N).kc ρ 5):=by kernel_rfl
theorem aeb(ρ):(IZ N).kc ((IZ N).bp ρ) 5=kG.l2 N N:=Fx.uL [] (aea N) ρ (kG.l2 N) fun n ρ' e d=>by rw[e];rfl
theorem apl(K):(IZ N).top K=kG.b N ((IZ N).kc K 5):=by kernel_rfl
noncomputable def aec:Kn Tryz.prog:=⟨148,(IZ N).S false (kG N),Fx.u1 (IZ N) ar Tryz.func148 [5] (apl N) (by rw[aeb];rfl)⟩
noncomputable def X67:Fx:=⟨9,tab,Kn.l [aec N],N,Tryz.f67,[.v U],[.v LU],[],none⟩
noncomputable def k67:Kn Tryz.prog:=⟨67,(X67 N).S false (F67 N),Fx.u0 (X67 N) ar Tryz.func67⟩
noncomputable def X66:Fx:=⟨15,tab,Kn.l [aec N],N,Tryz.f66,[.v B,.v LU],[.v bY],[],none⟩
noncomputable def k66:Kn Tryz.prog:=⟨66,(X66 N).S false (QJ N),Fx.u0 (X66 N) ar Tryz.func66⟩
noncomputable def X18:Fx:=⟨15,tab,Kn.l [k67 N,k66 N],N,Tryz.f18,[.v I],[.v bY],[],none⟩
noncomputable def uM:Kn Tryz.prog:=⟨18,(X18 N).S false (gN N),Fx.u0 (X18 N) ar Tryz.func18⟩
noncomputable def X70:Fx:=⟨9,tab,Kn.l [k66 N],N,Tryz.f70,[.v bY],[.v bY],[],none⟩
noncomputable def k70:Kn Tryz.prog:=⟨70,(X70 N).S false (Pw N),Fx.u0 (X70 N) ar Tryz.func70⟩
noncomputable def akf:Fx:=⟨21,tab,Kn.l [k70 N],N,Tryz.f134,[.v I,.v I,.v I,.v I,.v bY],[.own oc],[],none⟩
noncomputable def SZ:Kn Tryz.prog:=⟨134,(akf N).S false (A9 N),Fx.u0 (akf N) ar Tryz.func134⟩
noncomputable def X98:Fx:=⟨13,tab,[],N,Tryz.f98,[.v LU,.v I],[.v U],[],none⟩
noncomputable def k98:Kn Tryz.prog:=⟨98,(X98 N).S true (Ul N),Fx.u0 (X98 N) ar Tryz.func98⟩
noncomputable def M9:Fx:=⟨41,tab,Kn.l [k98 N],N,Tryz.f72,[.v LU,.v LU],[.own U],[⟨12,[(0,.v LU),(1,.v LU),(5,.own U),(6,.v U),(7,.v I)],[1,1,1,0,1,0,0,1],[9]⟩,⟨9,[(0,.v LU),(1,.v LU),(5,.own U),(6,.v U),(7,.v I)],[1,1,1,0,1,0,0],[]⟩],none⟩
theorem aee(K ρ):(M9 N).bd K ρ 12=rf.JK N ((M9 N).kc ρ 9):=by kernel_rfl
theorem aef(ρ):(M9 N).kc ((M9 N).bp ρ) 12=rf.j6 N ((M9 N).kc ρ 9):=Fx.uJ [] (aee N) ρ
theorem akg(K ρ):(M9 N).bd K ρ 9=rf.c5 N ((M9 N).kc K 12) ((M9 N).kc ρ 9):=by kernel_rfl
theorem akh(ρ):(M9 N).kc ((M9 N).bp ρ) 9=rf.l4 N N:=Fx.uL [12] (akg N) ρ (rf.l4 N) fun n ρ' e d=>by rw[aef,e];rfl
theorem h72(K):(M9 N).top K=rf.b N ((M9 N).kc K 9):=by kernel_rfl
noncomputable def k72:Kn Tryz.prog:=⟨72,(M9 N).S false (rf N),Fx.u1 (M9 N) ar Tryz.func72 [9] (h72 N) (by rw[akh];rfl)⟩
noncomputable def X73:Fx:=⟨41,tab,[],N,Tryz.f73,[.v LU,.v LU],[.v I],[⟨13,[(0,.v LU),(1,.v LU),(5,.v I)],[1,1,0,1,0,0],[]⟩],none⟩
theorem aeg(K ρ):(X73 N).bd K ρ 13=yC.pn N ((X73 N).kc ρ 13):=by kernel_rfl
theorem aeh(ρ):(X73 N).kc ((X73 N).bp ρ) 13=yC.l6 N N:=Fx.uL [] (aeg N) ρ (yC.l6 N) fun n ρ' e d=>by rw[e];rfl
theorem h73(K):(X73 N).top K=yC.b N ((X73 N).kc K 13):=by kernel_rfl
noncomputable def k73:Kn Tryz.prog:=⟨73,(X73 N).S true (yC N),Fx.u1 (X73 N) ar Tryz.func73 [13] (h73 N) (by rw[aeh];rfl)⟩
noncomputable def X74:Fx:=⟨37,tab,Kn.l [k98 N],N,Tryz.f74,[.v LU,.v LU],[.own U],[⟨9,[(0,.v LU),(1,.v LU),(5,.own U),(6,.v U),(7,.v I)],[1,1,1,0,1,0,0],[]⟩],none⟩
theorem aki(K ρ):(X74 N).bd K ρ 9=y6.c5 N ((X74 N).kc ρ 9):=by kernel_rfl
theorem akj(ρ):(X74 N).kc ((X74 N).bp ρ) 9=y6.l4 N N:=Fx.uL [] (aki N) ρ (y6.l4 N) fun n ρ' e d=>by rw[e];rfl
theorem h74(K):(X74 N).top K=y6.b N ((X74 N).kc K 9):=by kernel_rfl
noncomputable def k74:Kn Tryz.prog:=⟨74,(X74 N).S false (y6 N),Fx.u1 (X74 N) ar Tryz.func74 [9] (h74 N) (by rw[akj];rfl)⟩
noncomputable def X23:Fx:=⟨40,tab,Kn.l [k72 N,k66 N,k73 N,k74 N],N,Tryz.f23,[.v bY,.v bY],[.v bY],[],none⟩
noncomputable def LM:Kn Tryz.prog:=⟨23,(X23 N).S false (vk N),Fx.u0 (X23 N) ar Tryz.func23⟩
noncomputable def akk:Fx:=⟨28,tab,Kn.l [k98 N],N,Tryz.f102,[.v bY],[.v I,.v B],[],none⟩
noncomputable def Bv:Kn Tryz.prog:=⟨102,(akk N).S true (rZ N),Fx.u0 (akk N) ar Tryz.func102⟩
noncomputable def akl:Fx:=⟨18,tab,Kn.l [Bv N],N,Tryz.f239,[.v bY],[.v I,.v B],[],none⟩
noncomputable def akm:Kn Tryz.prog:=⟨239,(akl N).S true (RL N),Fx.u0 (akl N) ar Tryz.func239⟩
noncomputable def gW:Fx:=⟨106,tab,Kn.l [uM N,LM N,akm N],N,Tryz.f196,[.v bT,.v bT],[.own fA,.v B],[⟨31,[(0,.v bT),(1,.v bT),(6,.own fA),(7,.v I),(8,.v I),(9,.v I),(10,.v I),(11,.v B),(12,.obj bY),(13,.v I)],[1,1,1,0,1,0,0,1,0,0,1,0,0,1,0,0,1,1,1,0,1,0,0],[9,15]⟩,⟨26,[(0,.v bT),(1,.v bT),(6,.own fA),(7,.v I),(8,.v I),(9,.v I),(10,.v I),(11,.v B)],[1,1,1,0,1,0,0,1,0,0,1,0,0,1,0,0,1,1],[9,15]⟩,⟨15,[(0,.v bT),(1,.v bT),(6,.own fA),(7,.v I),(8,.v I),(9,.v I)],[1,1,1,0,1,0,0,1,0,0,1,0,0],[9]⟩,⟨9,[(0,.v bT),(1,.v bT),(6,.own fA),(7,.v I),(8,.v I)],[1,1,1,0,1,0,0],[]⟩],none⟩
theorem Xg(K ρ):(gW N).bd K ρ 31=cg.K2 N ((gW N).kc ρ 9) ((gW N).kc ρ 15) ((gW N).kc ρ 31):=by kernel_rfl
theorem Xh(ρ):(gW N).kc ((gW N).bp ρ) 31=cg.OL N ((gW N).kc ρ 9) ((gW N).kc ρ 15) N:=Fx.uL [] (Xg N) ρ (cg.OL N ((gW N).kc ρ 9) ((gW N).kc ρ 15)) fun n ρ' e d=>by rw[e,d 9 rfl,d 15 rfl];rfl
theorem Xi(K ρ):(gW N).bd K ρ 26=cg.yD N ((gW N).kc K 31) ((gW N).kc ρ 9) ((gW N).kc ρ 15):=by kernel_rfl
theorem Xj(ρ):(gW N).kc ((gW N).bp ρ) 26=cg.JM N ((gW N).kc ρ 9) ((gW N).kc ρ 15):=Fx.uJ [31] (Xi N) ρ (by rw[Xh];rfl)
theorem Xk(K ρ):(gW N).bd K ρ 15=cg.oT N ((gW N).kc K 26) ((gW N).kc ρ 9) ((gW N).kc ρ 15):=by kernel_rfl
theorem Xl(ρ):(gW N).kc ((gW N).bp ρ) 15=cg.l7 N ((gW N).kc ρ 9) N:=Fx.uL [26,31] (Xk N) ρ (cg.l7 N ((gW N).kc ρ 9)) fun n ρ' e d=>by rw[Xj,e,d 9 rfl];rfl
theorem aei(K ρ):(gW N).bd K ρ 9=cg.c5 N ((gW N).kc K 15) ((gW N).kc ρ 9):=by kernel_rfl
theorem aej(ρ):(gW N).kc ((gW N).bp ρ) 9=cg.l4 N N:=Fx.uL [15] (aei N) ρ (cg.l4 N) fun n ρ' e d=>by rw[Xl,e];rfl
theorem apm(K):(gW N).top K=cg.b N ((gW N).kc K 9):=by kernel_rfl
noncomputable def apn:Kn Tryz.prog:=⟨196,(gW N).S false (cg N),Fx.u1 (gW N) ar Tryz.func196 [9] (apm N) (by rw[aej];rfl)⟩
noncomputable def I0:Fx:=⟨53,tab,Kn.l [LM N,uM N,Bv N],N,Tryz.f240,[.v I,.v I,.v I,.v kX],[.v I,.v B],[⟨7,[(0,.v I),(1,.v I),(2,.v I),(3,.v kX),(10,.obj bY),(11,.v B),(12,.v I)],[1,1,0,1,0,0],[]⟩],none⟩
theorem aek(K ρ):(I0 N).bd K ρ 7=pt.kq N ((I0 N).kc ρ 7):=by kernel_rfl
theorem ael(ρ):(I0 N).kc ((I0 N).bp ρ) 7=pt.l3 N N:=Fx.uL [] (aek N) ρ (pt.l3 N) fun n ρ' e d=>by rw[e];rfl
theorem apo(K):(I0 N).top K=pt.b N ((I0 N).kc K 7):=by kernel_rfl
noncomputable def apq:Kn Tryz.prog:=⟨240,(I0 N).S true (pt N),Fx.u1 (I0 N) ar Tryz.func240 [7] (apo N) (by rw[ael];rfl)⟩
noncomputable def m0:Fx:=⟨69,tab,Kn.l [apq N],N,Tryz.f197,[.v bT,.v kX],[.own fA,.v B],[⟨26,[(0,.v bT),(1,.v kX),(6,.own fA),(7,.v I),(8,.v I),(9,.v I),(10,.v I)],[1,1,1,0,1,0,0,1,0,0,1,0,0,1,0,0,1,1],[9,15]⟩,⟨15,[(0,.v bT),(1,.v kX),(6,.own fA),(7,.v I),(8,.v I),(9,.v I)],[1,1,1,0,1,0,0,1,0,0,1,0,0],[9]⟩,⟨9,[(0,.v bT),(1,.v kX),(6,.own fA),(7,.v I),(8,.v I)],[1,1,1,0,1,0,0],[]⟩],none⟩
theorem Xm(K ρ):(m0 N).bd K ρ 26=di.yD N ((m0 N).kc ρ 9) ((m0 N).kc ρ 15):=by kernel_rfl
theorem Xn(ρ):(m0 N).kc ((m0 N).bp ρ) 26=di.JM N ((m0 N).kc ρ 9) ((m0 N).kc ρ 15):=Fx.uJ [] (Xm N) ρ
theorem Xo(K ρ):(m0 N).bd K ρ 15=di.oT N ((m0 N).kc K 26) ((m0 N).kc ρ 9) ((m0 N).kc ρ 15):=by kernel_rfl
theorem Xp(ρ):(m0 N).kc ((m0 N).bp ρ) 15=di.l7 N ((m0 N).kc ρ 9) N:=Fx.uL [26] (Xo N) ρ (di.l7 N ((m0 N).kc ρ 9)) fun n ρ' e d=>by rw[Xn,e,d 9 rfl];rfl
theorem aem(K ρ):(m0 N).bd K ρ 9=di.c5 N ((m0 N).kc K 15) ((m0 N).kc ρ 9):=by kernel_rfl
theorem aen(ρ):(m0 N).kc ((m0 N).bp ρ) 9=di.l4 N N:=Fx.uL [15] (aem N) ρ (di.l4 N) fun n ρ' e d=>by rw[Xp,e];rfl
theorem apr(K):(m0 N).top K=di.b N ((m0 N).kc K 9):=by kernel_rfl
noncomputable def aps:Kn Tryz.prog:=⟨197,(m0 N).S false (di N),Fx.u1 (m0 N) ar Tryz.func197 [9] (apr N) (by rw[aen];rfl)⟩
noncomputable def akn:Fx:=⟨36,tab,Kn.l [apn N,aps N],N,Tryz.f135,[.v az,.v bT,.v kX],[.v az,.v I],[],none⟩
noncomputable def I1:Kn Tryz.prog:=⟨135,(akn N).S false (A4 N),Fx.u0 (akn N) ar Tryz.func135⟩
noncomputable def ako:Fx:=⟨34,tab,Kn.l [uM N,SZ N,I1 N],N,Tryz.f255,[.v cz,.v I,.v I,.v I,.v I,.v I],[.v cz,.v fA],[],none⟩
noncomputable def apt:Kn Tryz.prog:=⟨255,(ako N).S false (O8 N),Fx.u0 (ako N) ar Tryz.func255⟩
noncomputable def I2:Fx:=⟨33,tab,Kn.l [k69 N,uM N,LM N],N,Tryz.f237,[.v bT,.v I],[.v bY],[⟨11,[(0,.v bT),(1,.v I),(4,.obj bY),(5,.obj bY),(6,.v I)],[1,1,1,0,1,0,0],[]⟩],none⟩
theorem Xq(K ρ):(I2 N).bd K ρ 11=lJ.c0 N ((I2 N).kc ρ 11):=by kernel_rfl
theorem Xr(ρ):(I2 N).kc ((I2 N).bp ρ) 11=lJ.l5 N N:=Fx.uL [] (Xq N) ρ (lJ.l5 N) fun n ρ' e d=>by rw[e];rfl
theorem apu(K):(I2 N).top K=lJ.b N ((I2 N).kc K 11):=by kernel_rfl
noncomputable def apv:Kn Tryz.prog:=⟨237,(I2 N).S false (lJ N),Fx.u1 (I2 N) ar Tryz.func237 [11] (apu N) (by rw[Xr];rfl)⟩
noncomputable def X47:Fx:=⟨9,tab,[],N,Tryz.f47,[.v bY],[.v I],[],none⟩
noncomputable def Xs:Kn Tryz.prog:=⟨47,(X47 N).S true (Mq N),Fx.u0 (X47 N) ar Tryz.func47⟩
noncomputable def I3:Fx:=⟨15,tab,Kn.l [apv N,Xs N,k69 N],N,Tryz.f186,[.v bT],[.v B],[⟨5,[(0,.v bT),(3,.v I)],[1,0,1,0,0],[]⟩],none⟩
theorem aeo(K ρ):(I3 N).bd K ρ 5=mj.dr N ((I3 N).kc ρ 5):=by kernel_rfl
theorem aep(ρ):(I3 N).kc ((I3 N).bp ρ) 5=mj.l2 N N:=Fx.uL [] (aeo N) ρ (mj.l2 N) fun n ρ' e d=>by rw[e];rfl
theorem apw(K):(I3 N).top K=mj.b N ((I3 N).kc K 5):=by kernel_rfl
noncomputable def apx:Kn Tryz.prog:=⟨186,(I3 N).S true (mj N),Fx.u1 (I3 N) ar Tryz.func186 [5] (apw N) (by rw[aep];rfl)⟩
noncomputable def akp:Fx:=⟨9,tab,[],N,Tryz.f191,[.v I],[.v B],[],none⟩
noncomputable def LN:Kn Tryz.prog:=⟨191,(akp N).S true (yH N),Fx.u0 (akp N) ar Tryz.func191⟩
noncomputable def akq:Fx:=⟨56,tab,Kn.l [LN N],N,Tryz.f221,[.v jg],[.v B],[],none⟩
noncomputable def Xt:Kn Tryz.prog:=⟨221,(akq N).S true (Kr N),Fx.u0 (akq N) ar Tryz.func221⟩
noncomputable def I4:Fx:=⟨37,tab,Kn.l [Xt N],N,Tryz.f187,[.v jF],[.v B],[⟨9,[(0,.v jF),(3,.v I)],[1,1,0,1,0,0],[]⟩],none⟩
theorem aeq(K ρ):(I4 N).bd K ρ 9=jB.c5 N ((I4 N).kc ρ 9):=by kernel_rfl
theorem aer(ρ):(I4 N).kc ((I4 N).bp ρ) 9=jB.l4 N N:=Fx.uL [] (aeq N) ρ (jB.l4 N) fun n ρ' e d=>by rw[e];rfl
theorem apy(K):(I4 N).top K=jB.b N ((I4 N).kc K 9):=by kernel_rfl
noncomputable def Pn:Kn Tryz.prog:=⟨187,(I4 N).S true (jB N),Fx.u1 (I4 N) ar Tryz.func187 [9] (apy N) (by rw[aer];rfl)⟩
noncomputable def I5:Fx:=⟨24,tab,Kn.l [k68 N,uM N,LM N],N,Tryz.f188,[.v bT],[.v bY],[⟨11,[(0,.v bT),(2,.obj bY),(3,.obj bY),(4,.v I)],[1,1,1,0,1,0,0],[]⟩],none⟩
theorem Xu(K ρ):(I5 N).bd K ρ 11=lH.c0 N ((I5 N).kc ρ 11):=by kernel_rfl
theorem Xv(ρ):(I5 N).kc ((I5 N).bp ρ) 11=lH.l5 N N:=Fx.uL [] (Xu N) ρ (lH.l5 N) fun n ρ' e d=>by rw[e];rfl
theorem apz(K):(I5 N).top K=lH.b N ((I5 N).kc K 11):=by kernel_rfl
noncomputable def apA:Kn Tryz.prog:=⟨188,(I5 N).S false (lH N),Fx.u1 (I5 N) ar Tryz.func188 [11] (apz N) (by rw[Xv];rfl)⟩
noncomputable def akr:Fx:=⟨19,tab,Kn.l [LK N],N,Tryz.f189,[.v az,.v I],[.v B],[],none⟩
noncomputable def aks:Kn Tryz.prog:=⟨189,(akr N).S true (Es N),Fx.u0 (akr N) ar Tryz.func189⟩
noncomputable def akt:Fx:=⟨11,tab,Kn.l [W3 N,Pm N],N,Tryz.f190,[.v cC,.v I],[.v I],[],none⟩
noncomputable def LO:Kn Tryz.prog:=⟨190,(akt N).S true (vt N),Fx.u0 (akt N) ar Tryz.func190⟩
noncomputable def oh:Fx:=⟨163,tab,Kn.l [LJ N,ad7 N,k68 N,apx N,Pn N,apA N,Xs N,aks N,LO N,LN N],N,Tryz.f127,[.v aq,.v az],[.v B],[⟨45,[(2,.obj aq),(3,.obj az),(9,.v I)],[1,1,1,1,1,1,0,1,0,0],[]⟩,⟨35,[(2,.obj aq),(3,.obj az),(8,.v I)],[1,1,1,1,1,0,1,0,0],[]⟩,⟨25,[(2,.obj aq),(3,.obj az),(7,.v I)],[1,1,1,1,0,1,0,0],[]⟩,⟨13,[(2,.obj aq),(3,.obj az),(5,.v I)],[1,1,1,0,1,0,0],[]⟩],none⟩
theorem Xw(K ρ):(oh N).bd K ρ 45=bO.sf N ((oh N).kc ρ 45):=by kernel_rfl
theorem Xx(ρ):(oh N).kc ((oh N).bp ρ) 45=bO.tq N N:=Fx.uL [] (Xw N) ρ (bO.tq N) fun n ρ' e d=>by rw[e];rfl
theorem Xy(K ρ):(oh N).bd K ρ 35=bO.Gz N ((oh N).kc K 45) ((oh N).kc ρ 35):=by kernel_rfl
theorem Xz(ρ):(oh N).kc ((oh N).bp ρ) 35=bO.Gx N N:=Fx.uL [45] (Xy N) ρ (bO.Gx N) fun n ρ' e d=>by rw[Xx,e];rfl
theorem XA(K ρ):(oh N).bd K ρ 25=bO.jV N ((oh N).kc K 35) ((oh N).kc ρ 25):=by kernel_rfl
theorem XB(ρ):(oh N).kc ((oh N).bp ρ) 25=bO.kL N N:=Fx.uL [35,45] (XA N) ρ (bO.kL N) fun n ρ' e d=>by rw[Xz,e];rfl
theorem XC(K ρ):(oh N).bd K ρ 13=bO.pn N ((oh N).kc K 25) ((oh N).kc ρ 13):=by kernel_rfl
theorem XD(ρ):(oh N).kc ((oh N).bp ρ) 13=bO.l6 N N:=Fx.uL [25,35,45] (XC N) ρ (bO.l6 N) fun n ρ' e d=>by rw[XB,e];rfl
theorem apB(K):(oh N).top K=bO.b N ((oh N).kc K 13):=by kernel_rfl
noncomputable def p8:Kn Tryz.prog:=⟨127,(oh N).S true (bO N),Fx.u1 (oh N) ar Tryz.func127 [13,25,35,45] (apB N) (by rw[XD];rfl)⟩
noncomputable def X21:Fx:=⟨9,tab,Kn.l [k70 N,LM N],N,Tryz.f21,[.v bY,.v bY],[.v bY],[],none⟩
noncomputable def k21:Kn Tryz.prog:=⟨21,(X21 N).S false (Mp N),Fx.u0 (X21 N) ar Tryz.func21⟩
noncomputable def X31:Fx:=⟨39,tab,Kn.l [k69 N],N,Tryz.f31,[.v bT,.v I],[.own gC],[⟨11,[(0,.v bT),(1,.v I),(5,.own gC),(6,.v I)],[1,1,1,0,1,0,0],[]⟩],none⟩
theorem aet(K ρ):(X31 N).bd K ρ 11=tK.c0 N ((X31 N).kc ρ 11):=by kernel_rfl
theorem aeu(ρ):(X31 N).kc ((X31 N).bp ρ) 11=tK.l5 N N:=Fx.uL [] (aet N) ρ (tK.l5 N) fun n ρ' e d=>by rw[e];rfl
theorem h31(K):(X31 N).top K=tK.b N ((X31 N).kc K 11):=by kernel_rfl
noncomputable def k31:Kn Tryz.prog:=⟨31,(X31 N).S false (tK N),Fx.u1 (X31 N) ar Tryz.func31 [11] (h31 N) (by rw[aeu];rfl)⟩
noncomputable def tA:Fx:=⟨74,tab,[],N,Tryz.f224,[.v jF,.v I],[.own fA],[⟨15,[(0,.v jF),(1,.v I),(5,.own fA),(6,.v I),(7,.obj fA),(8,.v I)],[1,1,0,1,0,0,1,0,0,1,0,1,0,0],[7]⟩,⟨7,[(0,.v jF),(1,.v I),(5,.own fA),(6,.v I)],[1,1,0,1,0,0],[]⟩],none⟩
theorem XE(K ρ):(tA N).bd K ρ 15=eS.oT N ((tA N).kc ρ 7) ((tA N).kc ρ 15):=by kernel_rfl
theorem XF(ρ):(tA N).kc ((tA N).bp ρ) 15=eS.l7 N ((tA N).kc ρ 7) N:=Fx.uL [] (XE N) ρ (eS.l7 N ((tA N).kc ρ 7)) fun n ρ' e d=>by rw[e,d 7 rfl];rfl
theorem aev(K ρ):(tA N).bd K ρ 7=eS.kq N ((tA N).kc K 15) ((tA N).kc ρ 7):=by kernel_rfl
theorem aew(ρ):(tA N).kc ((tA N).bp ρ) 7=eS.l3 N N:=Fx.uL [15] (aev N) ρ (eS.l3 N) fun n ρ' e d=>by rw[XF,e];rfl
theorem apC(K):(tA N).top K=eS.b N ((tA N).kc K 7):=by kernel_rfl
noncomputable def aex:Kn Tryz.prog:=⟨224,(tA N).S false (eS N),Fx.u1 (tA N) ar Tryz.func224 [7] (apC N) (by rw[aew];rfl)⟩
noncomputable def I6:Fx:=⟨66,tab,Kn.l [LJ N],N,Tryz.f194,[.v aq,.v cC],[.v B],[⟨9,[(1,.v cC),(2,.obj aq),(5,.v I)],[1,1,0,1,0,0],[]⟩],none⟩
theorem aey(K ρ):(I6 N).bd K ρ 9=jW.c5 N ((I6 N).kc ρ 9):=by kernel_rfl
theorem aez(ρ):(I6 N).kc ((I6 N).bp ρ) 9=jW.l4 N N:=Fx.uL [] (aey N) ρ (jW.l4 N) fun n ρ' e d=>by rw[e];rfl
theorem apD(K):(I6 N).top K=jW.b N ((I6 N).kc K 9):=by kernel_rfl
noncomputable def XG:Kn Tryz.prog:=⟨194,(I6 N).S true (jW N),Fx.u1 (I6 N) ar Tryz.func194 [9] (apD N) (by rw[aez];rfl)⟩
noncomputable def I7:Fx:=⟨79,tab,Kn.l [LJ N],N,Tryz.f268,[.v aq,.v bT],[.v B],[⟨11,[(1,.v bT),(2,.obj aq),(5,.v I),(6,.v I)],[1,1,1,0,1,0,0],[]⟩],none⟩
theorem XH(K ρ):(I7 N).bd K ρ 11=mV.c0 N ((I7 N).kc ρ 11):=by kernel_rfl
theorem XI(ρ):(I7 N).kc ((I7 N).bp ρ) 11=mV.l5 N N:=Fx.uL [] (XH N) ρ (mV.l5 N) fun n ρ' e d=>by rw[e];rfl
theorem apE(K):(I7 N).top K=mV.b N ((I7 N).kc K 11):=by kernel_rfl
noncomputable def aku:Kn Tryz.prog:=⟨268,(I7 N).S true (mV N),Fx.u1 (I7 N) ar Tryz.func268 [11] (apE N) (by rw[XI];rfl)⟩
noncomputable def X36:Fx:=⟨6,tab,Kn.l [k66 N],N,Tryz.f36,[.v bY],[.v bY],[],none⟩
noncomputable def k36:Kn Tryz.prog:=⟨36,(X36 N).S false (QK N),Fx.u0 (X36 N) ar Tryz.func36⟩
noncomputable def X24:Fx:=⟨9,tab,Kn.l [k21 N,Xs N],N,Tryz.f24,[.v bY,.v bY],[.v I],[],none⟩
noncomputable def XJ:Kn Tryz.prog:=⟨24,(X24 N).S true (JL N),Fx.u0 (X24 N) ar Tryz.func24⟩
noncomputable def xb:Fx:=⟨96,tab,Kn.l [XG N,aku N,uM N,LM N,k36 N,k21 N,XJ N],N,Tryz.f223,[.v aq,.v cC,.v bT,.v I],[.v bY,.v I],[⟨25,[(2,.v bT),(3,.v I),(8,.obj bY),(10,.obj bY),(11,.obj bY),(12,.obj bY),(14,.v I)],[1,1,1,1,1,0,1,0,0],[]⟩,⟨15,[(1,.v cC),(2,.v bT),(3,.v I),(8,.obj bY),(10,.obj bY),(11,.obj bY),(12,.obj bY),(13,.v I)],[1,1,1,1,0,1,0,0],[]⟩],none⟩
theorem XK(K ρ):(xb N).bd K ρ 25=fN.jV N ((xb N).kc ρ 25):=by kernel_rfl
theorem XL(ρ):(xb N).kc ((xb N).bp ρ) 25=fN.kL N N:=Fx.uL [] (XK N) ρ (fN.kL N) fun n ρ' e d=>by rw[e];rfl
theorem XM(K ρ):(xb N).bd K ρ 15=fN.oT N ((xb N).kc K 25) ((xb N).kc ρ 15):=by kernel_rfl
theorem XN(ρ):(xb N).kc ((xb N).bp ρ) 15=fN.l7 N N:=Fx.uL [25] (XM N) ρ (fN.l7 N) fun n ρ' e d=>by rw[XL,e];rfl
theorem apF(K):(xb N).top K=fN.b N ((xb N).kc K 15):=by kernel_rfl
noncomputable def akv:Kn Tryz.prog:=⟨223,(xb N).S false (fN N),Fx.u1 (xb N) ar Tryz.func223 [15,25] (apF N) (by rw[XN];rfl)⟩
noncomputable def zo:Fx:=⟨71,tab,Kn.l [k98 N,k66 N],N,Tryz.f37,[.v bY,.v bY],[.v bY],[⟨18,[(2,.obj bY),(3,.obj bY),(4,.obj bY),(5,.own U),(6,.v I),(7,.v U),(8,.v I)],[1,1,0,1,0,0,1,0,0,1,1,0,0,1],[7,15]⟩,⟨15,[(2,.obj bY),(3,.obj bY),(4,.obj bY),(5,.own U),(6,.v I),(7,.v U),(8,.v I)],[1,1,0,1,0,0,1,0,0,1,1,0,0],[7]⟩,⟨7,[(2,.obj bY),(3,.obj bY),(4,.obj bY),(5,.own U),(6,.v I)],[1,1,0,1,0,0],[]⟩],none⟩
theorem aeA(K ρ):(zo N).bd K ρ 18=gv.Ki N ((zo N).kc ρ 7) ((zo N).kc ρ 15):=by kernel_rfl
theorem aeB(ρ):(zo N).kc ((zo N).bp ρ) 18=gv.j9 N ((zo N).kc ρ 7) ((zo N).kc ρ 15):=Fx.uJ [] (aeA N) ρ
theorem aeC(K ρ):(zo N).bd K ρ 15=gv.oT N ((zo N).kc K 18) ((zo N).kc ρ 7) ((zo N).kc ρ 15):=by kernel_rfl
theorem aeD(ρ):(zo N).kc ((zo N).bp ρ) 15=gv.l7 N ((zo N).kc ρ 7) N:=Fx.uL [18] (aeC N) ρ (gv.l7 N ((zo N).kc ρ 7)) fun n ρ' e d=>by rw[aeB,e,d 7 rfl];rfl
theorem akw(K ρ):(zo N).bd K ρ 7=gv.kq N ((zo N).kc K 15) ((zo N).kc ρ 7):=by kernel_rfl
theorem akx(ρ):(zo N).kc ((zo N).bp ρ) 7=gv.l3 N N:=Fx.uL [15] (akw N) ρ (gv.l3 N) fun n ρ' e d=>by rw[aeD,e];rfl
theorem h37(K):(zo N).top K=gv.b N ((zo N).kc K 7):=by kernel_rfl
noncomputable def Tw:Kn Tryz.prog:=⟨37,(zo N).S false (gv N),Fx.u1 (zo N) ar Tryz.func37 [7] (h37 N) (by rw[akx];rfl)⟩
noncomputable def I8:Fx:=⟨50,tab,Kn.l [XG N,aku N,akv N,uM N,Tw N,LM N],N,Tryz.f269,[.v aq,.v cC,.v bT],[.v bY,.v I],[⟨11,[(1,.v cC),(2,.v bT),(3,.obj aq),(6,.obj bY),(8,.obj bY),(9,.v I)],[1,1,1,0,1,0,0],[]⟩],none⟩
theorem XO(K ρ):(I8 N).bd K ρ 11=mW.c0 N ((I8 N).kc ρ 11):=by kernel_rfl
theorem XP(ρ):(I8 N).kc ((I8 N).bp ρ) 11=mW.l5 N N:=Fx.uL [] (XO N) ρ (mW.l5 N) fun n ρ' e d=>by rw[e];rfl
theorem apG(K):(I8 N).top K=mW.b N ((I8 N).kc K 11):=by kernel_rfl
noncomputable def aky:Kn Tryz.prog:=⟨269,(I8 N).S false (mW N),Fx.u1 (I8 N) ar Tryz.func269 [11] (apG N) (by rw[XP];rfl)⟩
noncomputable def akz:Fx:=⟨31,tab,Kn.l [k31 N,aex N,aky N],N,Tryz.f226,[.v aq,.v az,.v I,.v jF],[.v bY],[],none⟩
noncomputable def akA:Kn Tryz.prog:=⟨226,(akz N).S false (RO N),Fx.u0 (akz N) ar Tryz.func226⟩
noncomputable def akB:Fx:=⟨63,tab,Kn.l [p8 N,LK N,LO N,SY N,uM N,k21 N,akA N,XJ N,SZ N,I1 N],N,Tryz.f256,[.v aq,.v az,.v I,.v I],[.v az,.v I],[],none⟩
noncomputable def apH:Kn Tryz.prog:=⟨256,(akB N).S false (Vp N),Fx.u0 (akB N) ar Tryz.func256⟩
noncomputable def akC:Fx:=⟨10,tab,Kn.l [LO N],N,Tryz.f257,[.v cz,.v I],[.v I],[],none⟩
noncomputable def akD:Kn Tryz.prog:=⟨257,(akC N).S true (E4 N),Fx.u0 (akC N) ar Tryz.func257⟩
noncomputable def I9:Fx:=⟨53,tab,Kn.l [k71 N,W9 N],N,Tryz.f258,[.v dA,.v I,.v I],[.own cU,.v I],[⟨17,[(1,.v I),(2,.v I),(10,.own cU),(11,.v I)],[1,1,1,1,0,1,0,0],[]⟩],none⟩
theorem XQ(K ρ):(I9 N).bd K ρ 17=nW.wk N ((I9 N).kc ρ 17):=by kernel_rfl
theorem XR(ρ):(I9 N).kc ((I9 N).bp ρ) 17=nW.l8 N N:=Fx.uL [] (XQ N) ρ (nW.l8 N) fun n ρ' e d=>by rw[e];rfl
theorem apI(K):(I9 N).top K=nW.b N ((I9 N).kc K 17):=by kernel_rfl
noncomputable def apJ:Kn Tryz.prog:=⟨258,(I9 N).S false (nW N),Fx.u1 (I9 N) ar Tryz.func258 [17] (apI N) (by rw[XR];rfl)⟩
noncomputable def akE:Fx:=⟨36,tab,Kn.l [Xt N,LN N,uM N,Tw N],N,Tryz.f225,[.v jg,.v I],[.v bY,.v I],[],none⟩
noncomputable def apK:Kn Tryz.prog:=⟨225,(akE N).S false (Vc N),Fx.u0 (akE N) ar Tryz.func225⟩
noncomputable def akF:Fx:=⟨104,tab,Kn.l [p8 N,Xt N,LK N,LO N,k31 N,aex N,akv N,uM N,XJ N,apK N,SY N,k21 N,akA N],N,Tryz.f168,[.v aq,.v az,.v jg],[.v I],[],none⟩
noncomputable def akG:Kn Tryz.prog:=⟨168,(akF N).S true (RP N),Fx.u0 (akF N) ar Tryz.func168⟩
noncomputable def akH:Fx:=⟨24,tab,[],N,Tryz.f302,[.v jg,.v jg],[.v B],[],none⟩
noncomputable def apL:Kn Tryz.prog:=⟨302,(akH N).S true (Vm N),Fx.u0 (akH N) ar Tryz.func302⟩
noncomputable def oz:Fx:=⟨72,tab,Kn.l [Pn N,apL N],N,Tryz.f290,[.v jF,.v I,.v I],[.own jg],[⟨22,[(0,.v jF),(1,.v I),(2,.v I),(7,.own jg),(8,.v I),(9,.v I)],[1,1,1,0,1,0,0,1,0,0,1,1,1],[11]⟩,⟨19,[(0,.v jF),(1,.v I),(2,.v I),(7,.own jg),(8,.v I),(9,.v I)],[1,1,1,0,1,0,0,1,0,0,1,1,0,0,0],[11]⟩,⟨11,[(0,.v jF),(1,.v I),(2,.v I),(7,.own jg),(8,.v I)],[1,1,1,0,1,0,0],[]⟩],none⟩
theorem XS(K ρ):(oz N).bd K ρ 22=dn.A7 N ((oz N).kc ρ 11):=by kernel_rfl
theorem XT(ρ):(oz N).kc ((oz N).bp ρ) 22=dn.JO N ((oz N).kc ρ 11):=Fx.uJ [] (XS N) ρ
theorem XU(K ρ):(oz N).bd K ρ 19=dn.tk N ((oz N).kc K 22) ((oz N).kc ρ 11) ((oz N).kc ρ 19):=by kernel_rfl
theorem XV(ρ):(oz N).kc ((oz N).bp ρ) 19=dn.l9 N ((oz N).kc ρ 11) N:=Fx.uL [22] (XU N) ρ (dn.l9 N ((oz N).kc ρ 11)) fun n ρ' e d=>by rw[XT,e,d 11 rfl];rfl
theorem XW(K ρ):(oz N).bd K ρ 11=dn.c0 N ((oz N).kc K 19) ((oz N).kc ρ 11):=by kernel_rfl
theorem XX(ρ):(oz N).kc ((oz N).bp ρ) 11=dn.l5 N N:=Fx.uL [19,22] (XW N) ρ (dn.l5 N) fun n ρ' e d=>by rw[XV,e];rfl
theorem apM(K):(oz N).top K=dn.b N ((oz N).kc K 11):=by kernel_rfl
noncomputable def apN:Kn Tryz.prog:=⟨290,(oz N).S false (dn N),Fx.u1 (oz N) ar Tryz.func290 [11] (apM N) (by rw[XX];rfl)⟩
noncomputable def gh:Fx:=⟨174,tab,Kn.l [Pn N,Xt N,apN N],N,Tryz.f277,[.v jF,.v jg],[.own jg,.own oi,.v I,.v I],[⟨49,[(8,.own jg),(9,.v I),(10,.own oi),(16,.own jg),(17,.v I)],[1,1,1,1,1,1,1,0,1,0,0],[]⟩,⟨44,[(8,.own jg),(9,.v I),(10,.own oi)],[1,1,1,1,1,1],[]⟩,⟨37,[(3,.obj jg),(8,.own jg),(9,.v I),(10,.own oi),(11,.own jg),(12,.v I),(13,.v I),(15,.v I)],[1,1,1,1,1,0,1,0,0,1,0,0,1,1,1,1,1,1,1,1,0,0],[15]⟩,⟨30,[(3,.obj jg),(8,.own jg),(9,.v I),(10,.own oi),(11,.own jg),(12,.v I),(13,.v I),(14,.obj oi)],[1,1,1,1,1,0,1,0,0,1,0,0,1,1,1,1,1],[15]⟩,⟨20,[(3,.obj jg),(8,.own jg),(9,.v I),(10,.own oi),(11,.own jg),(12,.v I)],[1,1,1,1,1,0,1,0,0,1,0,0,1],[15]⟩,⟨15,[(3,.obj jg),(8,.own jg),(9,.v I),(10,.own oi),(11,.own jg),(12,.v I)],[1,1,1,1,1,0,1,0,0],[]⟩],none⟩
theorem XY(K ρ):(gh N).bd K ρ 49=bX.z5 N ((gh N).kc ρ 49):=by kernel_rfl
theorem XZ(ρ):(gh N).kc ((gh N).bp ρ) 49=bX.y5 N N:=Fx.uL [] (XY N) ρ (bX.y5 N) fun n ρ' e d=>by rw[e];rfl
theorem X0(K ρ):(gh N).bd K ρ 44=bX.acB N ((gh N).kc K 49):=by kernel_rfl
theorem X1(ρ):(gh N).kc ((gh N).bp ρ) 44=bX.j22 N:=Fx.uJ [49] (X0 N) ρ (by rw[XZ];rfl)
theorem X2(K ρ):(gh N).bd K ρ 37=bX.A8 N ((gh N).kc ρ 15) ((gh N).kc ρ 37):=by kernel_rfl
theorem X3(ρ):(gh N).kc ((gh N).bp ρ) 37=bX.DB N ((gh N).kc ρ 15) N:=Fx.uL [44,49] (X2 N) ρ (bX.DB N ((gh N).kc ρ 15)) fun n ρ' e d=>by rw[e,d 15 rfl];rfl
theorem X4(K ρ):(gh N).bd K ρ 30=bX.mu N ((gh N).kc K 37) ((gh N).kc ρ 15):=by kernel_rfl
theorem X5(ρ):(gh N).kc ((gh N).bp ρ) 30=bX.rA N ((gh N).kc ρ 15):=Fx.uJ [44,49,37] (X4 N) ρ (by rw[X3];rfl)
theorem X6(K ρ):(gh N).bd K ρ 20=bX.K6 N ((gh N).kc K 30) ((gh N).kc ρ 15):=by kernel_rfl
theorem X7(ρ):(gh N).kc ((gh N).bp ρ) 20=bX.R4 N ((gh N).kc ρ 15):=Fx.uJ [44,49,30,37] (X6 N) ρ (by rw[X5];rfl)
theorem X8(K ρ):(gh N).bd K ρ 15=bX.oT N ((gh N).kc K 44) ((gh N).kc K 20) ((gh N).kc ρ 15):=by kernel_rfl
theorem X9(ρ):(gh N).kc ((gh N).bp ρ) 15=bX.l7 N N:=Fx.uL [44,49,20,30,37] (X8 N) ρ (bX.l7 N) fun n ρ' e d=>by rw[X1,X7,e];rfl
theorem apO(K):(gh N).top K=bX.b N ((gh N).kc K 15):=by kernel_rfl
noncomputable def apP:Kn Tryz.prog:=⟨277,(gh N).S false (bX N),Fx.u1 (gh N) ar Tryz.func277 [15,44,49] (apO N) (by rw[X9];rfl)⟩
noncomputable def akI:Fx:=⟨53,tab,Kn.l [LN N],N,Tryz.f227,[.v oi],[.v B],[],none⟩
noncomputable def akJ:Kn Tryz.prog:=⟨227,(akI N).S true (Rk N),Fx.u0 (akI N) ar Tryz.func227⟩
noncomputable def akK:Fx:=⟨7,tab,[],N,Tryz.f270,[.v I],[.v I,.v I],[],none⟩
noncomputable def akL:Kn Tryz.prog:=⟨270,(akK N).S true (K3 N),Fx.u0 (akK N) ar Tryz.func270⟩
noncomputable def akM:Fx:=⟨53,tab,Kn.l [akJ N,LN N,uM N,Tw N,Xs N,akL N,k70 N],N,Tryz.f228,[.v oi,.v I],[.own oc,.v I],[],none⟩
noncomputable def apQ:Kn Tryz.prog:=⟨228,(akM N).S false (U9 N),Fx.u0 (akM N) ar Tryz.func228⟩
noncomputable def xc:Fx:=⟨107,tab,Kn.l [p8 N,akJ N,aks N,apQ N,I1 N],N,Tryz.f169,[.v aq,.v az,.v tu],[.v az,.v I],[⟨23,[(2,.v tu),(3,.obj aq),(4,.obj az),(6,.obj az),(9,.own fA),(10,.own oc),(11,.v I)],[1,1,1,1,1,0,1,0,0],[]⟩,⟨9,[(2,.v tu),(3,.obj aq),(4,.obj az),(6,.obj az),(8,.v I)],[1,1,0,1,0,0],[]⟩],none⟩
theorem Ya(K ρ):(xc N).bd K ρ 23=fM.A5 N ((xc N).kc ρ 23):=by kernel_rfl
theorem Yb(ρ):(xc N).kc ((xc N).bp ρ) 23=fM.Dz N N:=Fx.uL [] (Ya N) ρ (fM.Dz N) fun n ρ' e d=>by rw[e];rfl
theorem aeE(K ρ):(xc N).bd K ρ 9=fM.c5 N ((xc N).kc K 23) ((xc N).kc ρ 9):=by kernel_rfl
theorem aeF(ρ):(xc N).kc ((xc N).bp ρ) 9=fM.l4 N N:=Fx.uL [23] (aeE N) ρ (fM.l4 N) fun n ρ' e d=>by rw[Yb,e];rfl
theorem apR(K):(xc N).top K=fM.b N ((xc N).kc K 9):=by kernel_rfl
noncomputable def akN:Kn Tryz.prog:=⟨169,(xc N).S false (fM N),Fx.u1 (xc N) ar Tryz.func169 [9,23] (apR N) (by rw[aeF];rfl)⟩
noncomputable def Bx:Fx:=⟨85,tab,Kn.l [akG N,apP N,akN N],N,Tryz.f259,[.v aq,.v az,.v jg],[.v az,.v tu,.v I,.v I],[⟨20,[(3,.obj aq),(4,.obj az),(5,.obj jg),(6,.obj az),(12,.own jg),(13,.own oi),(14,.v I)],[1,1,1,1,1],[]⟩,⟨14,[(3,.obj aq),(4,.obj az),(5,.obj jg),(6,.obj az)],[1,1,1],[]⟩],none⟩
theorem Yc(K ρ):(Bx N).bd K ρ 20=jE.K6 N:=by kernel_rfl
theorem Yd(ρ):(Bx N).kc ((Bx N).bp ρ) 20=jE.R4 N:=Fx.uJ [] (Yc N) ρ
theorem Ye(K ρ):(Bx N).bd K ρ 14=jE.Kh N ((Bx N).kc K 20):=by kernel_rfl
theorem Yf(ρ):(Bx N).kc ((Bx N).bp ρ) 14=jE.j7 N:=Fx.uJ [20] (Ye N) ρ (by rw[Yd];rfl)
theorem apS(K):(Bx N).top K=jE.b N ((Bx N).kc K 14):=by kernel_rfl
noncomputable def apT:Kn Tryz.prog:=⟨259,(Bx N).S false (jE N),Fx.u1 (Bx N) ar Tryz.func259 [14,20] (apS N) (by rw[Yf];rfl)⟩
noncomputable def Ja:Fx:=⟨48,tab,Kn.l [Pn N],N,Tryz.f260,[.v jF,.v I,.v I],[.own jg,.v I],[⟨11,[(0,.v jF),(1,.v I),(2,.v I),(8,.own jg),(9,.v I)],[1,1,1,0,1,0,0],[]⟩],none⟩
theorem Yg(K ρ):(Ja N).bd K ρ 11=nZ.c0 N ((Ja N).kc ρ 11):=by kernel_rfl
theorem Yh(ρ):(Ja N).kc ((Ja N).bp ρ) 11=nZ.l5 N N:=Fx.uL [] (Yg N) ρ (nZ.l5 N) fun n ρ' e d=>by rw[e];rfl
theorem apU(K):(Ja N).top K=nZ.b N ((Ja N).kc K 11):=by kernel_rfl
noncomputable def apV:Kn Tryz.prog:=⟨260,(Ja N).S false (nZ N),Fx.u1 (Ja N) ar Tryz.func260 [11] (apU N) (by rw[Yh];rfl)⟩
noncomputable def Jb:Fx:=⟨76,tab,Kn.l [k69 N,LN N,uM N,k21 N,Xs N,akL N,Tw N],N,Tryz.f278,[.v bT,.v I,.v I,.v I],[.own oc,.v I],[⟨13,[(0,.v bT),(1,.v I),(10,.own oc),(11,.obj bY),(12,.v I)],[1,1,1,1,0,1,0,0],[]⟩],none⟩
theorem Yi(K ρ):(Jb N).bd K ρ 13=n0.pn N ((Jb N).kc ρ 13):=by kernel_rfl
theorem Yj(ρ):(Jb N).kc ((Jb N).bp ρ) 13=n0.l6 N N:=Fx.uL [] (Yi N) ρ (n0.l6 N) fun n ρ' e d=>by rw[e];rfl
theorem apW(K):(Jb N).top K=n0.b N ((Jb N).kc K 13):=by kernel_rfl
noncomputable def apX:Kn Tryz.prog:=⟨278,(Jb N).S false (n0 N),Fx.u1 (Jb N) ar Tryz.func278 [13] (apW N) (by rw[Yj];rfl)⟩
noncomputable def akO:Fx:=⟨70,tab,Kn.l [p8 N,LN N,apX N,I1 N],N,Tryz.f261,[.v aq,.v az,.v I,.v I],[.v az,.v kX,.v I],[],some (az,[.gX 4],I,[5,13])⟩
noncomputable def apY:Kn Tryz.prog:=⟨261,(akO N).S false (Vo N),Fx.u0 (akO N) ar Tryz.func261⟩
noncomputable def Jc:Fx:=⟨50,tab,[],N,Tryz.f279,[.v cC],[.v B],[⟨5,[(0,.v cC),(3,.v I)],[1,0,1,0,0],[]⟩],none⟩
theorem aeG(K ρ):(Jc N).bd K ρ 5=mX.dr N ((Jc N).kc ρ 5):=by kernel_rfl
theorem aeH(ρ):(Jc N).kc ((Jc N).bp ρ) 5=mX.l2 N N:=Fx.uL [] (aeG N) ρ (mX.l2 N) fun n ρ' e d=>by rw[e];rfl
theorem apZ(K):(Jc N).top K=mX.b N ((Jc N).kc K 5):=by kernel_rfl
noncomputable def akP:Kn Tryz.prog:=⟨279,(Jc N).S true (mX N),Fx.u1 (Jc N) ar Tryz.func279 [5] (apZ N) (by rw[aeH];rfl)⟩
noncomputable def m4:Fx:=⟨84,tab,Kn.l [akP N,uM N,LM N,Bv N],N,Tryz.f262,[.v cC,.v kX],[.own gC,.v I],[⟨29,[(0,.v cC),(1,.v kX),(6,.own gC),(7,.v I),(8,.obj bY),(10,.v I)],[1,1,1,0,1,0,0,1,0,0,1,1,0,1,0,0],[11]⟩,⟨19,[(0,.v cC),(1,.v kX),(6,.own gC),(7,.v I),(8,.obj bY),(9,.v I)],[1,1,1,0,1,0,0,1,0,0,1,0,1,0,0],[11]⟩,⟨11,[(0,.v cC),(1,.v kX),(6,.own gC),(7,.v I)],[1,1,1,0,1,0,0],[]⟩],none⟩
theorem Yk(K ρ):(m4 N).bd K ρ 29=df.AL N ((m4 N).kc ρ 11) ((m4 N).kc ρ 29):=by kernel_rfl
theorem Yl(ρ):(m4 N).kc ((m4 N).bp ρ) 29=df.C9 N ((m4 N).kc ρ 11) N:=Fx.uL [] (Yk N) ρ (df.C9 N ((m4 N).kc ρ 11)) fun n ρ' e d=>by rw[e,d 11 rfl];rfl
theorem Ym(K ρ):(m4 N).bd K ρ 19=df.tk N ((m4 N).kc K 29) ((m4 N).kc ρ 11) ((m4 N).kc ρ 19):=by kernel_rfl
theorem Yn(ρ):(m4 N).kc ((m4 N).bp ρ) 19=df.l9 N ((m4 N).kc ρ 11) N:=Fx.uL [29] (Ym N) ρ (df.l9 N ((m4 N).kc ρ 11)) fun n ρ' e d=>by rw[Yl,e,d 11 rfl];rfl
theorem Yo(K ρ):(m4 N).bd K ρ 11=df.c0 N ((m4 N).kc K 19) ((m4 N).kc ρ 11):=by kernel_rfl
theorem Yp(ρ):(m4 N).kc ((m4 N).bp ρ) 11=df.l5 N N:=Fx.uL [19,29] (Yo N) ρ (df.l5 N) fun n ρ' e d=>by rw[Yn,e];rfl
theorem ap0(K):(m4 N).top K=df.b N ((m4 N).kc K 11):=by kernel_rfl
noncomputable def ap1:Kn Tryz.prog:=⟨262,(m4 N).S false (df N),Fx.u1 (m4 N) ar Tryz.func262 [11] (ap0 N) (by rw[Yp];rfl)⟩
noncomputable def akQ:Fx:=⟨15,tab,Kn.l [uM N,LM N,Bv N],N,Tryz.f263,[.v cz,.v I],[.v I,.v B],[],none⟩
noncomputable def aeI:Kn Tryz.prog:=⟨263,(akQ N).S true (O7 N),Fx.u0 (akQ N) ar Tryz.func263⟩
noncomputable def akR:Fx:=⟨41,tab,[],N,Tryz.f291,[.v I,.v I],[.v I,.v B],[],none⟩
noncomputable def ap2:Kn Tryz.prog:=⟨291,(akR N).S true (Vk N),Fx.u0 (akR N) ar Tryz.func291⟩
noncomputable def Jd:Fx:=⟨51,tab,Kn.l [W3 N,Pm N,ap2 N],N,Tryz.f280,[.v cC,.v I,.v I],[.own gC,.v I],[⟨23,[(1,.v I),(9,.v I),(11,.own gC),(12,.v I)],[1,1,1,1,1,1,1,0,1,0,0],[]⟩],none⟩
theorem Yq(K ρ):(Jd N).bd K ρ 23=lX.A5 N ((Jd N).kc ρ 23):=by kernel_rfl
theorem Yr(ρ):(Jd N).kc ((Jd N).bp ρ) 23=lX.Dz N N:=Fx.uL [] (Yq N) ρ (lX.Dz N) fun n ρ' e d=>by rw[e];rfl
theorem ap3(K):(Jd N).top K=lX.b N ((Jd N).kc K 23):=by kernel_rfl
noncomputable def akS:Kn Tryz.prog:=⟨280,(Jd N).S false (lX N),Fx.u1 (Jd N) ar Tryz.func280 [23] (ap3 N) (by rw[Yr];rfl)⟩
noncomputable def Je:Fx:=⟨33,tab,Kn.l [k71 N],N,Tryz.f293,[.v dA,.v I],[.own I],[⟨11,[(0,.v dA),(1,.v I),(5,.own I),(6,.v I)],[1,1,1,0,1,0,0],[]⟩],none⟩
theorem Ys(K ρ):(Je N).bd K ρ 11=nY.c0 N ((Je N).kc ρ 11):=by kernel_rfl
theorem Yt(ρ):(Je N).kc ((Je N).bp ρ) 11=nY.l5 N N:=Fx.uL [] (Ys N) ρ (nY.l5 N) fun n ρ' e d=>by rw[e];rfl
theorem ap4(K):(Je N).top K=nY.b N ((Je N).kc K 11):=by kernel_rfl
noncomputable def ap5:Kn Tryz.prog:=⟨293,(Je N).S false (nY N),Fx.u1 (Je N) ar Tryz.func293 [11] (ap4 N) (by rw[Yt];rfl)⟩
noncomputable def tB:Fx:=⟨48,tab,Kn.l [Pn N],N,Tryz.f292,[.v jF,.v LI],[.own jg],[⟨19,[(0,.v jF),(1,.v LI),(5,.own jg),(6,.v I),(7,.v B),(8,.v I)],[1,1,1,0,1,0,0,1,0,0,1,0,1,0,0],[11]⟩,⟨11,[(0,.v jF),(1,.v LI),(5,.own jg),(6,.v I)],[1,1,1,0,1,0,0],[]⟩],none⟩
theorem Yu(K ρ):(tB N).bd K ρ 19=fb.tk N ((tB N).kc ρ 11) ((tB N).kc ρ 19):=by kernel_rfl
theorem Yv(ρ):(tB N).kc ((tB N).bp ρ) 19=fb.l9 N ((tB N).kc ρ 11) N:=Fx.uL [] (Yu N) ρ (fb.l9 N ((tB N).kc ρ 11)) fun n ρ' e d=>by rw[e,d 11 rfl];rfl
theorem Yw(K ρ):(tB N).bd K ρ 11=fb.c0 N ((tB N).kc K 19) ((tB N).kc ρ 11):=by kernel_rfl
theorem Yx(ρ):(tB N).kc ((tB N).bp ρ) 11=fb.l5 N N:=Fx.uL [19] (Yw N) ρ (fb.l5 N) fun n ρ' e d=>by rw[Yv,e];rfl
theorem ap6(K):(tB N).top K=fb.b N ((tB N).kc K 11):=by kernel_rfl
noncomputable def ap7:Kn Tryz.prog:=⟨292,(tB N).S false (fb N),Fx.u1 (tB N) ar Tryz.func292 [11] (ap6 N) (by rw[Yx];rfl)⟩
noncomputable def akT:Fx:=⟨28,tab,Kn.l [p8 N,LO N,ap5 N,ap7 N],N,Tryz.f281,[.v aq,.v az,.v I],[.v az,.v I],[],none⟩
noncomputable def ap8:Kn Tryz.prog:=⟨281,(akT N).S false (OT N),Fx.u0 (akT N) ar Tryz.func281⟩
noncomputable def akU:Fx:=⟨41,tab,[],N,Tryz.f195,[.v cU],[.v B],[],none⟩
noncomputable def akV:Kn Tryz.prog:=⟨195,(akU N).S true (QX N),Fx.u0 (akU N) ar Tryz.func195⟩
noncomputable def oA:Fx:=⟨67,tab,Kn.l [akV N],N,Tryz.f132,[.v dA],[.v B],[⟨19,[(0,.v dA),(3,.v I),(4,.v I)],[1,1,0,1,0,0,1,0,0,1,1,0,0],[9]⟩,⟨16,[(0,.v dA),(3,.v I)],[1,1,0,1,0,0,1,0,0,1],[9]⟩,⟨9,[(0,.v dA),(3,.v I)],[1,1,0,1,0,0],[]⟩],none⟩
theorem Yy(K ρ):(oA N).bd K ρ 19=c9.tk N ((oA N).kc ρ 9) ((oA N).kc ρ 19):=by kernel_rfl
theorem Yz(ρ):(oA N).kc ((oA N).bp ρ) 19=c9.l9 N ((oA N).kc ρ 9) N:=Fx.uL [] (Yy N) ρ (c9.l9 N ((oA N).kc ρ 9)) fun n ρ' e d=>by rw[e,d 9 rfl];rfl
theorem YA(K ρ):(oA N).bd K ρ 16=c9.Rb N ((oA N).kc K 19) ((oA N).kc ρ 9):=by kernel_rfl
theorem YB(ρ):(oA N).kc ((oA N).bp ρ) 16=c9.j8 N ((oA N).kc ρ 9):=Fx.uJ [19] (YA N) ρ (by rw[Yz];rfl)
theorem aeJ(K ρ):(oA N).bd K ρ 9=c9.c5 N ((oA N).kc K 16) ((oA N).kc ρ 9):=by kernel_rfl
theorem aeK(ρ):(oA N).kc ((oA N).bp ρ) 9=c9.l4 N N:=Fx.uL [16,19] (aeJ N) ρ (c9.l4 N) fun n ρ' e d=>by rw[YB,e];rfl
theorem ap9(K):(oA N).top K=c9.b N ((oA N).kc K 9):=by kernel_rfl
noncomputable def S1:Kn Tryz.prog:=⟨132,(oA N).S true (c9 N),Fx.u1 (oA N) ar Tryz.func132 [9] (ap9 N) (by rw[aeK];rfl)⟩
noncomputable def Jf:Fx:=⟨32,tab,Kn.l [S1 N],N,Tryz.f282,[.v dA,.v I],[.own cU],[⟨11,[(0,.v dA),(1,.v I),(5,.own cU),(6,.v I)],[1,1,1,0,1,0,0],[]⟩],none⟩
theorem YC(K ρ):(Jf N).bd K ρ 11=mv.c0 N ((Jf N).kc ρ 11):=by kernel_rfl
theorem YD(ρ):(Jf N).kc ((Jf N).bp ρ) 11=mv.l5 N N:=Fx.uL [] (YC N) ρ (mv.l5 N) fun n ρ' e d=>by rw[e];rfl
theorem aqa(K):(Jf N).top K=mv.b N ((Jf N).kc K 11):=by kernel_rfl
noncomputable def aqb:Kn Tryz.prog:=⟨282,(Jf N).S false (mv N),Fx.u1 (Jf N) ar Tryz.func282 [11] (aqa N) (by rw[YD];rfl)⟩
noncomputable def akW:Fx:=⟨66,tab,[],N,Tryz.f283,[.v cz,.v I],[.v B],[],none⟩
noncomputable def aqc:Kn Tryz.prog:=⟨283,(akW N).S true (VE N),Fx.u0 (akW N) ar Tryz.func283⟩
noncomputable def akX:Fx:=⟨9,tab,Kn.l [LO N],N,Tryz.f133,[.v az,.v I],[.v I],[],none⟩
noncomputable def YE:Kn Tryz.prog:=⟨133,(akX N).S true (E0 N),Fx.u0 (akX N) ar Tryz.func133⟩
noncomputable def Jg:Fx:=⟨56,tab,Kn.l [XG N,uM N,k36 N,Tw N,LM N],N,Tryz.f193,[.v aq,.v cC,.v B],[.v bY,.v I],[⟨11,[(1,.v cC),(2,.v B),(3,.obj aq),(6,.obj bY),(8,.obj bY),(9,.v I)],[1,1,1,0,1,0,0],[]⟩],none⟩
theorem YF(K ρ):(Jg N).bd K ρ 11=mw.c0 N ((Jg N).kc ρ 11):=by kernel_rfl
theorem YG(ρ):(Jg N).kc ((Jg N).bp ρ) 11=mw.l5 N N:=Fx.uL [] (YF N) ρ (mw.l5 N) fun n ρ' e d=>by rw[e];rfl
theorem aqd(K):(Jg N).top K=mw.b N ((Jg N).kc K 11):=by kernel_rfl
noncomputable def akY:Kn Tryz.prog:=⟨193,(Jg N).S false (mw N),Fx.u1 (Jg N) ar Tryz.func193 [11] (aqd N) (by rw[YG];rfl)⟩
noncomputable def akZ:Fx:=⟨11,tab,Kn.l [akY N],N,Tryz.f317,[.v aq,.v cC],[.v bY,.v I],[],none⟩
noncomputable def aqe:Kn Tryz.prog:=⟨317,(akZ N).S false (acD N),Fx.u0 (akZ N) ar Tryz.func317⟩
noncomputable def ak0:Fx:=⟨9,tab,Kn.l [SY N],N,Tryz.f306,[.v az,.v I],[.v I],[],none⟩
noncomputable def YH:Kn Tryz.prog:=⟨306,(ak0 N).S true (K8 N),Fx.u0 (ak0 N) ar Tryz.func306⟩
noncomputable def ak1:Fx:=⟨69,tab,Kn.l [p8 N,LK N,YE N,k31 N,aqe N,YH N,uM N,XJ N],N,Tryz.f303,[.v aq,.v az,.v I,.v I,.v I],[.v I],[],none⟩
noncomputable def aqf:Kn Tryz.prog:=⟨303,(ak1 N).S true (Vs N),Fx.u0 (ak1 N) ar Tryz.func303⟩
noncomputable def Jh:Fx:=⟨61,tab,Kn.l [ad7 N,W9 N,Pm N],N,Tryz.f304,[.v cC,.v dA,.v I,.v I],[.own cU,.v I],[⟨27,[(2,.v I),(3,.v I),(13,.own cU),(14,.v I)],[1,1,1,1,1,1,1,1,0,1,0,0],[]⟩],none⟩
theorem YI(K ρ):(Jh N).bd K ρ 27=nX.jY N ((Jh N).kc ρ 27):=by kernel_rfl
theorem YJ(ρ):(Jh N).kc ((Jh N).bp ρ) 27=nX.lN N N:=Fx.uL [] (YI N) ρ (nX.lN N) fun n ρ' e d=>by rw[e];rfl
theorem aqg(K):(Jh N).top K=nX.b N ((Jh N).kc K 27):=by kernel_rfl
noncomputable def aqh:Kn Tryz.prog:=⟨304,(Jh N).S false (nX N),Fx.u1 (Jh N) ar Tryz.func304 [27] (aqg N) (by rw[YJ];rfl)⟩
noncomputable def ak2:Fx:=⟨42,tab,Kn.l [aqf N,aqh N],N,Tryz.f294,[.v aq,.v az,.v I,.v I,.v I],[.v az,.v I],[],none⟩
noncomputable def aqi:Kn Tryz.prog:=⟨294,(ak2 N).S false (Vr N),Fx.u0 (ak2 N) ar Tryz.func294⟩
noncomputable def ak3:Fx:=⟨11,tab,Kn.l [akY N],N,Tryz.f130,[.v aq,.v cC],[.v bY,.v I],[],none⟩
noncomputable def ak4:Kn Tryz.prog:=⟨130,(ak3 N).S false (Sc N),Fx.u0 (ak3 N) ar Tryz.func130⟩
noncomputable def ak5:Fx:=⟨55,tab,Kn.l [p8 N,LK N,k31 N,ak4 N,YH N,Bv N],N,Tryz.f305,[.v aq,.v az,.v I],[.v I,.v I],[],none⟩
noncomputable def aqj:Kn Tryz.prog:=⟨305,(ak5 N).S true (VB N),Fx.u0 (ak5 N) ar Tryz.func305⟩
noncomputable def Ji:Fx:=⟨76,tab,Kn.l [k69 N],N,Tryz.f307,[.v bT,.v I,.v I],[.own fA],[⟨11,[(0,.v bT),(1,.v I),(2,.v I),(7,.own fA),(8,.v I)],[1,1,1,0,1,0,0],[]⟩],none⟩
theorem YK(K ρ):(Ji N).bd K ρ 11=mZ.c0 N ((Ji N).kc ρ 11):=by kernel_rfl
theorem YL(ρ):(Ji N).kc ((Ji N).bp ρ) 11=mZ.l5 N N:=Fx.uL [] (YK N) ρ (mZ.l5 N) fun n ρ' e d=>by rw[e];rfl
theorem aqk(K):(Ji N).top K=mZ.b N ((Ji N).kc K 11):=by kernel_rfl
noncomputable def aql:Kn Tryz.prog:=⟨307,(Ji N).S false (mZ N),Fx.u1 (Ji N) ar Tryz.func307 [11] (aqk N) (by rw[YL];rfl)⟩
noncomputable def wb:Fx:=⟨86,tab,Kn.l [p8 N,YE N,aqj N,uM N,SZ N,YH N,k70 N,aql N,I1 N],N,Tryz.f295,[.v aq,.v az,.v I],[.v az,.v I],[⟨30,[(2,.v I),(3,.obj aq),(4,.obj az),(6,.obj az),(8,.own fA),(9,.own oc),(10,.v I),(11,.obj cU)],[1,1,1,1,1,0,1,0,0,1,0,0,1,1,1],[17]⟩,⟨17,[(2,.v I),(3,.obj aq),(4,.obj az),(6,.obj az),(8,.own fA),(9,.own oc),(10,.v I)],[1,1,1,1,1,0,1,0,0],[]⟩],none⟩
theorem YM(K ρ):(wb N).bd K ρ 30=fW.mu N ((wb N).kc ρ 17):=by kernel_rfl
theorem YN(ρ):(wb N).kc ((wb N).bp ρ) 30=fW.rA N ((wb N).kc ρ 17):=Fx.uJ [] (YM N) ρ
theorem YO(K ρ):(wb N).bd K ρ 17=fW.wk N ((wb N).kc K 30) ((wb N).kc ρ 17):=by kernel_rfl
theorem YP(ρ):(wb N).kc ((wb N).bp ρ) 17=fW.l8 N N:=Fx.uL [30] (YO N) ρ (fW.l8 N) fun n ρ' e d=>by rw[YN,e];rfl
theorem aqm(K):(wb N).top K=fW.b N ((wb N).kc K 17):=by kernel_rfl
noncomputable def aqn:Kn Tryz.prog:=⟨295,(wb N).S false (fW N),Fx.u1 (wb N) ar Tryz.func295 [17] (aqm N) (by rw[YP];rfl)⟩
noncomputable def Jj:Fx:=⟨48,tab,Kn.l [p8 N,k20 N,uM N,Tw N,LM N],N,Tryz.f100,[.v aq,.v az],[.own bY,.v I],[⟨11,[(2,.obj aq),(3,.obj az),(6,.own bY),(7,.v I)],[1,1,1,0,1,0,0],[]⟩],none⟩
theorem YQ(K ρ):(Jj N).bd K ρ 11=j2.c0 N ((Jj N).kc ρ 11):=by kernel_rfl
theorem YR(ρ):(Jj N).kc ((Jj N).bp ρ) 11=j2.l5 N N:=Fx.uL [] (YQ N) ρ (j2.l5 N) fun n ρ' e d=>by rw[e];rfl
theorem aqo(K):(Jj N).top K=j2.b N ((Jj N).kc K 11):=by kernel_rfl
noncomputable def aqp:Kn Tryz.prog:=⟨100,(Jj N).S false (j2 N),Fx.u1 (Jj N) ar Tryz.func100 [11] (aqo N) (by rw[YR];rfl)⟩
noncomputable def X45:Fx:=⟨31,tab,Kn.l [LJ N],N,Tryz.f45,[.v aq,.v I],[.own I],[⟨11,[(1,.v I),(2,.obj aq),(5,.own I),(6,.v I)],[1,1,1,0,1,0,0],[]⟩],none⟩
theorem aeL(K ρ):(X45 N).bd K ρ 11=xV.c0 N ((X45 N).kc ρ 11):=by kernel_rfl
theorem aeM(ρ):(X45 N).kc ((X45 N).bp ρ) 11=xV.l5 N N:=Fx.uL [] (aeL N) ρ (xV.l5 N) fun n ρ' e d=>by rw[e];rfl
theorem h45(K):(X45 N).top K=xV.b N ((X45 N).kc K 11):=by kernel_rfl
noncomputable def k45:Kn Tryz.prog:=⟨45,(X45 N).S false (xV N),Fx.u1 (X45 N) ar Tryz.func45 [11] (h45 N) (by rw[aeM];rfl)⟩
noncomputable def Jk:Fx:=⟨35,tab,Kn.l [aec N],N,Tryz.f167,[.v LU],[.v LU,.v U],[⟨9,[(0,.v LU),(4,.own U),(5,.v U),(6,.v I)],[1,1,1,0,1,0,0],[]⟩],none⟩
theorem aeN(K ρ):(Jk N).bd K ρ 9=mf.c5 N ((Jk N).kc ρ 9):=by kernel_rfl
theorem aeO(ρ):(Jk N).kc ((Jk N).bp ρ) 9=mf.l4 N N:=Fx.uL [] (aeN N) ρ (mf.l4 N) fun n ρ' e d=>by rw[e];rfl
theorem aqq(K):(Jk N).top K=mf.b N ((Jk N).kc K 9):=by kernel_rfl
noncomputable def aqr:Kn Tryz.prog:=⟨167,(Jk N).S false (mf N),Fx.u1 (Jk N) ar Tryz.func167 [9] (aqq N) (by rw[aeO];rfl)⟩
noncomputable def xd:Fx:=⟨77,tab,Kn.l [aqr N,LM N,uM N,XJ N,k21 N,Xs N,k70 N],N,Tryz.f101,[.v bY,.v bY],[.v bY,.v bY],[⟨19,[(2,.obj bY),(3,.obj bY),(4,.obj bY),(5,.obj bY),(6,.own U),(10,.obj bY),(11,.obj bY),(12,.v I)],[1,1,1,1,0,1,0,0],[]⟩,⟨7,[(2,.obj bY),(3,.obj bY),(4,.obj bY),(5,.obj bY),(6,.own U),(7,.v LU)],[1,1,0,1,0,0],[]⟩],none⟩
theorem YS(K ρ):(xd N).bd K ρ 19=fa.tk N ((xd N).kc ρ 19):=by kernel_rfl
theorem YT(ρ):(xd N).kc ((xd N).bp ρ) 19=fa.l9 N N:=Fx.uL [] (YS N) ρ (fa.l9 N) fun n ρ' e d=>by rw[e];rfl
theorem aeP(K ρ):(xd N).bd K ρ 7=fa.kq N ((xd N).kc K 19) ((xd N).kc ρ 7):=by kernel_rfl
theorem aeQ(ρ):(xd N).kc ((xd N).bp ρ) 7=fa.l3 N N:=Fx.uL [19] (aeP N) ρ (fa.l3 N) fun n ρ' e d=>by rw[YT,e];rfl
theorem aqs(K):(xd N).top K=fa.b N ((xd N).kc K 7):=by kernel_rfl
noncomputable def ak6:Kn Tryz.prog:=⟨101,(xd N).S false (fa N),Fx.u1 (xd N) ar Tryz.func101 [7,19] (aqs N) (by rw[aeQ];rfl)⟩
noncomputable def Na:Fx:=⟨104,tab,Kn.l [aqp N,k45 N,k36 N,uM N,XJ N,ak6 N,Bv N,Xs N],N,Tryz.f39,[.v aq,.v az,.v I],[.own cU,.v I],[⟨30,[(2,.v I),(3,.obj aq),(4,.obj az),(8,.own bY),(10,.own cU),(11,.v I),(12,.own I),(16,.v I)],[1,1,1,1,0,1,0,0,1,0,0,1,1,1,1,1,1],[13]⟩,⟨13,[(2,.v I),(3,.obj aq),(4,.obj az),(8,.own bY),(10,.own cU),(11,.v I)],[1,1,1,1,0,1,0,0],[]⟩],none⟩
theorem aeR(K ρ):(Na N).bd K ρ 30=mD.mu N ((Na N).kc ρ 13):=by kernel_rfl
theorem aeS(ρ):(Na N).kc ((Na N).bp ρ) 30=mD.rA N ((Na N).kc ρ 13):=Fx.uJ [] (aeR N) ρ
theorem aeT(K ρ):(Na N).bd K ρ 13=mD.pn N ((Na N).kc K 30) ((Na N).kc ρ 13):=by kernel_rfl
theorem aeU(ρ):(Na N).kc ((Na N).bp ρ) 13=mD.l6 N N:=Fx.uL [30] (aeT N) ρ (mD.l6 N) fun n ρ' e d=>by rw[aeS,e];rfl
theorem h39(K):(Na N).top K=mD.b N ((Na N).kc K 13):=by kernel_rfl
noncomputable def k39:Kn Tryz.prog:=⟨39,(Na N).S false (mD N),Fx.u1 (Na N) ar Tryz.func39 [13] (h39 N) (by rw[aeU];rfl)⟩
noncomputable def ak7:Fx:=⟨41,tab,[],N,Tryz.f106,[.v cU],[.v B],[],none⟩
noncomputable def aqt:Kn Tryz.prog:=⟨106,(ak7 N).S true (RK N),Fx.u0 (ak7 N) ar Tryz.func106⟩
noncomputable def LP:Fx:=⟨113,tab,Kn.l [p8 N,aqt N,akG N,akN N],N,Tryz.f103,[.v aq,.v az,.v cU,.v I,.v I,.v I],[.v az,.v cU,.v I],[⟨28,[(4,.v I),(6,.obj aq),(7,.obj az),(8,.obj cU),(12,.obj az),(13,.obj cU),(17,.obj oi)],[1,1,1,1,1,1,1,1],[]⟩],none⟩
theorem YU(K ρ):(LP N).bd K ρ 28=qU.acx N:=by kernel_rfl
theorem YV(ρ):(LP N).kc ((LP N).bp ρ) 28=qU.j14 N:=Fx.uJ [] (YU N) ρ
theorem aqu(K):(LP N).top K=qU.b N ((LP N).kc K 28):=by kernel_rfl
noncomputable def aqv:Kn Tryz.prog:=⟨103,(LP N).S false (qU N),Fx.u1 (LP N) ar Tryz.func103 [28] (aqu N) (by rw[YV];rfl)⟩
noncomputable def Jl:Fx:=⟨77,tab,Kn.l [aqv N,W8 N],N,Tryz.f296,[.v aq,.v cz,.v nj],[.v cz,.v fA],[⟨11,[(3,.obj aq),(4,.obj cz),(5,.obj nj),(6,.obj cz),(7,.obj fA),(8,.own cU),(9,.v B),(10,.v I),(11,.v I)],[1,1,1,1,0,1,0,0],[]⟩],none⟩
theorem YW(K ρ):(Jl N).bd K ρ 11=oa.c0 N ((Jl N).kc ρ 11):=by kernel_rfl
theorem YX(ρ):(Jl N).kc ((Jl N).bp ρ) 11=oa.l5 N N:=Fx.uL [] (YW N) ρ (oa.l5 N) fun n ρ' e d=>by rw[e];rfl
theorem aqw(K):(Jl N).top K=oa.b N ((Jl N).kc K 11):=by kernel_rfl
noncomputable def aqx:Kn Tryz.prog:=⟨296,(Jl N).S false (oa N),Fx.u1 (Jl N) ar Tryz.func296 [11] (aqw N) (by rw[YX];rfl)⟩
noncomputable def Jm:Fx:=⟨28,tab,Kn.l [Xs N,uM N,Tw N,XJ N],N,Tryz.f128,[.v bY,.v I],[.v I],[⟨9,[(1,.v I),(2,.obj bY),(5,.v I)],[1,1,1,0,0,0],[]⟩],none⟩
theorem aeV(K ρ):(Jm N).bd K ρ 9=n4.c5 N ((Jm N).kc ρ 9):=by kernel_rfl
theorem aeW(ρ):(Jm N).kc ((Jm N).bp ρ) 9=n4.l4 N N:=Fx.uL [] (aeV N) ρ (n4.l4 N) fun n ρ' e d=>by rw[e];rfl
theorem acn(K):(Jm N).top K=n4.b N ((Jm N).kc K 9):=by kernel_rfl
noncomputable def aqy:Kn Tryz.prog:=⟨128,(Jm N).S true (n4 N),Fx.u1 (Jm N) ar Tryz.func128 [9] (acn N) (by rw[aeW];rfl)⟩
noncomputable def Jn:Fx:=⟨24,tab,[],N,Tryz.f217,[.v I,.v LI],[.v B],[⟨9,[(1,.v LI),(5,.v I)],[1,1,0,1,0,0],[]⟩],none⟩
theorem aeX(K ρ):(Jn N).bd K ρ 9=mq.c5 N ((Jn N).kc ρ 9):=by kernel_rfl
theorem aeY(ρ):(Jn N).kc ((Jn N).bp ρ) 9=mq.l4 N N:=Fx.uL [] (aeX N) ρ (mq.l4 N) fun n ρ' e d=>by rw[e];rfl
theorem aqz(K):(Jn N).top K=mq.b N ((Jn N).kc K 9):=by kernel_rfl
noncomputable def ak8:Kn Tryz.prog:=⟨217,(Jn N).S true (mq N),Fx.u1 (Jn N) ar Tryz.func217 [9] (aqz N) (by rw[aeY];rfl)⟩
noncomputable def Jo:Fx:=⟨19,tab,Kn.l [uM N,LM N],N,Tryz.f218,[.v LI],[.v bY],[⟨7,[(0,.v LI),(2,.obj bY),(3,.obj bY),(4,.v I)],[1,1,0,1,0,0],[]⟩],none⟩
theorem aeZ(K ρ):(Jo N).bd K ρ 7=me.kq N ((Jo N).kc ρ 7):=by kernel_rfl
theorem ae0(ρ):(Jo N).kc ((Jo N).bp ρ) 7=me.l3 N N:=Fx.uL [] (aeZ N) ρ (me.l3 N) fun n ρ' e d=>by rw[e];rfl
theorem aqA(K):(Jo N).top K=me.b N ((Jo N).kc K 7):=by kernel_rfl
noncomputable def ae1:Kn Tryz.prog:=⟨218,(Jo N).S false (me N),Fx.u1 (Jo N) ar Tryz.func218 [7] (aqA N) (by rw[ae0];rfl)⟩
noncomputable def oB:Fx:=⟨48,tab,[],N,Tryz.f238,[.v LI],[.own I],[⟨16,[(0,.v LI),(3,.own I),(4,.v I),(5,.v I)],[1,1,0,1,0,0,1,0,0,1,1],[7]⟩,⟨13,[(0,.v LI),(3,.own I),(4,.v I),(5,.v I)],[1,1,0,1,0,0,1,0,0,1,0,0,0],[7]⟩,⟨7,[(0,.v LI),(3,.own I),(4,.v I)],[1,1,0,1,0,0],[]⟩],none⟩
theorem YY(K ρ):(oB N).bd K ρ 16=dy.Rb N ((oB N).kc ρ 7):=by kernel_rfl
theorem YZ(ρ):(oB N).kc ((oB N).bp ρ) 16=dy.j8 N ((oB N).kc ρ 7):=Fx.uJ [] (YY N) ρ
theorem Y0(K ρ):(oB N).bd K ρ 13=dy.pn N ((oB N).kc K 16) ((oB N).kc ρ 7) ((oB N).kc ρ 13):=by kernel_rfl
theorem Y1(ρ):(oB N).kc ((oB N).bp ρ) 13=dy.l6 N ((oB N).kc ρ 7) N:=Fx.uL [16] (Y0 N) ρ (dy.l6 N ((oB N).kc ρ 7)) fun n ρ' e d=>by rw[YZ,e,d 7 rfl];rfl
theorem ae2(K ρ):(oB N).bd K ρ 7=dy.kq N ((oB N).kc K 13) ((oB N).kc ρ 7):=by kernel_rfl
theorem ae3(ρ):(oB N).kc ((oB N).bp ρ) 7=dy.l3 N N:=Fx.uL [13,16] (ae2 N) ρ (dy.l3 N) fun n ρ' e d=>by rw[Y1,e];rfl
theorem aqB(K):(oB N).top K=dy.b N ((oB N).kc K 7):=by kernel_rfl
noncomputable def aqC:Kn Tryz.prog:=⟨238,(oB N).S false (dy N),Fx.u1 (oB N) ar Tryz.func238 [7] (aqB N) (by rw[ae3];rfl)⟩
noncomputable def sG:Fx:=⟨112,tab,Kn.l [ak8 N,ae1 N,Xs N,Bv N,uM N,Tw N,ak6 N,aqC N],N,Tryz.f192,[.v I,.v LI],[.own I,.v I],[⟨45,[(9,.own I),(11,.v I),(15,.own I),(16,.v I)],[1,1,1,1,1,1,1,1,1,1,0,1,0,0],[]⟩,⟨29,[(0,.v I),(1,.v LI),(6,.obj bY),(9,.own I),(10,.own I),(11,.v I),(12,.v I)],[1,1,1,1,1,1,1,1,0,1,0,0],[]⟩,⟨12,[(0,.v I),(1,.v LI),(6,.obj bY)],[1,1,1,1],[]⟩],none⟩
theorem Y2(K ρ):(sG N).bd K ρ 45=dJ.sf N ((sG N).kc ρ 45):=by kernel_rfl
theorem Y3(ρ):(sG N).kc ((sG N).bp ρ) 45=dJ.tq N N:=Fx.uL [] (Y2 N) ρ (dJ.tq N) fun n ρ' e d=>by rw[e];rfl
theorem Y4(K ρ):(sG N).bd K ρ 29=dJ.AL N ((sG N).kc K 45) ((sG N).kc ρ 29):=by kernel_rfl
theorem Y5(ρ):(sG N).kc ((sG N).bp ρ) 29=dJ.C9 N N:=Fx.uL [45] (Y4 N) ρ (dJ.C9 N) fun n ρ' e d=>by rw[Y3,e];rfl
theorem Y6(K ρ):(sG N).bd K ρ 12=dJ.JK N ((sG N).kc K 29):=by kernel_rfl
theorem Y7(ρ):(sG N).kc ((sG N).bp ρ) 12=dJ.j6 N:=Fx.uJ [29,45] (Y6 N) ρ (by rw[Y5];rfl)
theorem aqD(K):(sG N).top K=dJ.b N ((sG N).kc K 12):=by kernel_rfl
noncomputable def ae4:Kn Tryz.prog:=⟨192,(sG N).S false (dJ N),Fx.u1 (sG N) ar Tryz.func192 [12,29,45] (aqD N) (by rw[Y7];rfl)⟩
noncomputable def Jp:Fx:=⟨33,tab,Kn.l [ae4 N],N,Tryz.f129,[.v I,.v I],[.own I,.v I],[⟨11,[(0,.v I),(1,.v I),(6,.own I),(7,.v I)],[1,1,1,0,1,0,0],[]⟩],none⟩
theorem Y8(K ρ):(Jp N).bd K ρ 11=nQ.c0 N ((Jp N).kc ρ 11):=by kernel_rfl
theorem Y9(ρ):(Jp N).kc ((Jp N).bp ρ) 11=nQ.l5 N N:=Fx.uL [] (Y8 N) ρ (nQ.l5 N) fun n ρ' e d=>by rw[e];rfl
theorem aqE(K):(Jp N).top K=nQ.b N ((Jp N).kc K 11):=by kernel_rfl
noncomputable def aqF:Kn Tryz.prog:=⟨129,(Jp N).S false (nQ N),Fx.u1 (Jp N) ar Tryz.func129 [11] (aqE N) (by rw[Y9];rfl)⟩
noncomputable def kY:Fx:=⟨175,tab,Kn.l [p8 N,k31 N,uM N,k36 N,LM N,aqy N,aqF N,ak4 N,k70 N,Bv N],N,Tryz.f53,[.v aq,.v az,.v I],[.own gA,.v I],[⟨64,[(2,.v I),(3,.obj aq),(8,.own gC),(9,.own gA),(10,.v I),(11,.own gC),(14,.v I),(15,.v I),(16,.dW gA [.gX 1] gC),(17,.v I),(19,.own I)],[1,1,1,1,1,0,1,0,0,1,0,0,1,1,1,1,1,0,0,1,0,0,1,0,1,0,0,1,0,0,1,1,1,1],[17,41,49]⟩,⟨58,[(2,.v I),(3,.obj aq),(8,.own gC),(9,.own gA),(10,.v I),(11,.own gC),(14,.v I),(15,.v I),(16,.dW gA [.gX 1] gC),(17,.v I),(18,.v I)],[1,1,1,1,1,0,1,0,0,1,0,0,1,1,1,1,1,0,0,1,0,0,1,0,1,0,0,1,0,0,1,1],[17,41,49]⟩,⟨49,[(2,.v I),(3,.obj aq),(8,.own gC),(9,.own gA),(10,.v I),(11,.own gC),(14,.v I),(15,.v I),(16,.dW gA [.gX 1] gC),(17,.v I)],[1,1,1,1,1,0,1,0,0,1,0,0,1,1,1,1,1,0,0,1,0,0,1,0,1,0,0],[17,41]⟩,⟨41,[(2,.v I),(3,.obj aq),(8,.own gC),(9,.own gA),(10,.v I),(11,.own gC),(14,.v I),(15,.v I)],[1,1,1,1,1,0,1,0,0,1,0,0,1,1,1,1,1,0,0],[17]⟩,⟨27,[(2,.v I),(3,.obj aq),(8,.own gC),(9,.own gA),(10,.v I),(11,.own gC),(12,.obj bY),(13,.v I)],[1,1,1,1,1,0,1,0,0,1,0,0,1,1,0,1,0,0],[17]⟩,⟨17,[(2,.v I),(3,.obj aq),(8,.own gC),(9,.own gA),(10,.v I)],[1,1,1,1,1,0,1,0,0],[]⟩],some (gA,[.gX 1],gC,[16])⟩
theorem ae5(K ρ):(kY N).bd K ρ 64=cZ.acF N ((kY N).kc ρ 17) ((kY N).kc ρ 41) ((kY N).kc ρ 49):=by kernel_rfl
theorem ae6(ρ):(kY N).kc ((kY N).bp ρ) 64=cZ.j32 N ((kY N).kc ρ 17) ((kY N).kc ρ 41) ((kY N).kc ρ 49):=Fx.uJ [] (ae5 N) ρ
theorem ae7(K ρ):(kY N).bd K ρ 58=cZ.Lb N ((kY N).kc K 64) ((kY N).kc ρ 17) ((kY N).kc ρ 41) ((kY N).kc ρ 49):=by kernel_rfl
theorem ae8(ρ):(kY N).kc ((kY N).bp ρ) 58=cZ.Sb N ((kY N).kc ρ 17) ((kY N).kc ρ 41) ((kY N).kc ρ 49):=Fx.uJ [64] (ae7 N) ρ (by rw[ae6];rfl)
theorem ae9(K ρ):(kY N).bd K ρ 49=cZ.z5 N ((kY N).kc K 58) ((kY N).kc ρ 17) ((kY N).kc ρ 41) ((kY N).kc ρ 49):=by kernel_rfl
theorem afa(ρ):(kY N).kc ((kY N).bp ρ) 49=cZ.y5 N ((kY N).kc ρ 17) ((kY N).kc ρ 41) N:=Fx.uL [58,64] (ae9 N) ρ (cZ.y5 N ((kY N).kc ρ 17) ((kY N).kc ρ 41)) fun n ρ' e d=>by rw[ae8,e,d 17 rfl,d 41 rfl];rfl
theorem afb(K ρ):(kY N).bd K ρ 41=cZ.La N ((kY N).kc K 49) ((kY N).kc ρ 17) ((kY N).kc ρ 41):=by kernel_rfl
theorem afc(ρ):(kY N).kc ((kY N).bp ρ) 41=cZ.E1 N ((kY N).kc ρ 17) N:=Fx.uL [49] (afb N) ρ (cZ.E1 N ((kY N).kc ρ 17)) fun n ρ' e d=>by rw[afa,e,d 17 rfl];rfl
theorem afd(K ρ):(kY N).bd K ρ 27=cZ.jY N ((kY N).kc K 41) ((kY N).kc ρ 17) ((kY N).kc ρ 27):=by kernel_rfl
theorem afe(ρ):(kY N).kc ((kY N).bp ρ) 27=cZ.lN N ((kY N).kc ρ 17) N:=Fx.uL [41] (afd N) ρ (cZ.lN N ((kY N).kc ρ 17)) fun n ρ' e d=>by rw[afc,e,d 17 rfl];rfl
theorem aff(K ρ):(kY N).bd K ρ 17=cZ.wk N ((kY N).kc K 27) ((kY N).kc ρ 17):=by kernel_rfl
theorem afg(ρ):(kY N).kc ((kY N).bp ρ) 17=cZ.l8 N N:=Fx.uL [27,41] (aff N) ρ (cZ.l8 N) fun n ρ' e d=>by rw[afe,e];rfl
theorem h53(K):(kY N).top K=cZ.b N ((kY N).kc K 17):=by kernel_rfl
noncomputable def k53:Kn Tryz.prog:=⟨53,(kY N).S false (cZ N),Fx.u1 (kY N) ar Tryz.func53 [17] (h53 N) (by rw[afg];rfl)⟩
noncomputable def Jq:Fx:=⟨48,tab,Kn.l [p8 N,SY N],N,Tryz.f297,[.v aq,.v az],[.own I,.v I],[⟨11,[(3,.obj az),(6,.own I),(7,.v I)],[1,1,1,0,1,0,0],[]⟩],none⟩
theorem Za(K ρ):(Jq N).bd K ρ 11=n5.c0 N ((Jq N).kc ρ 11):=by kernel_rfl
theorem Zb(ρ):(Jq N).kc ((Jq N).bp ρ) 11=n5.l5 N N:=Fx.uL [] (Za N) ρ (n5.l5 N) fun n ρ' e d=>by rw[e];rfl
theorem aqG(K):(Jq N).top K=n5.b N ((Jq N).kc K 11):=by kernel_rfl
noncomputable def aqH:Kn Tryz.prog:=⟨297,(Jq N).S false (n5 N),Fx.u1 (Jq N) ar Tryz.func297 [11] (aqG N) (by rw[Zb];rfl)⟩
noncomputable def wc:Fx:=⟨99,tab,Kn.l [LJ N,XG N],N,Tryz.f131,[.v aq,.v iM],[.v B],[⟨18,[(1,.v iM),(2,.obj aq),(5,.v I),(6,.obj gA)],[1,1,0,1,0,0,1,0,0,1,1],[9]⟩,⟨9,[(1,.v iM),(2,.obj aq),(5,.v I)],[1,1,0,1,0,0],[]⟩],none⟩
theorem Zc(K ρ):(wc N).bd K ρ 18=fy.Ki N ((wc N).kc ρ 9):=by kernel_rfl
theorem Zd(ρ):(wc N).kc ((wc N).bp ρ) 18=fy.j9 N ((wc N).kc ρ 9):=Fx.uJ [] (Zc N) ρ
theorem afh(K ρ):(wc N).bd K ρ 9=fy.c5 N ((wc N).kc K 18) ((wc N).kc ρ 9):=by kernel_rfl
theorem afi(ρ):(wc N).kc ((wc N).bp ρ) 9=fy.l4 N N:=Fx.uL [18] (afh N) ρ (fy.l4 N) fun n ρ' e d=>by rw[Zd,e];rfl
theorem aqI(K):(wc N).top K=fy.b N ((wc N).kc K 9):=by kernel_rfl
noncomputable def afj:Kn Tryz.prog:=⟨131,(wc N).S true (fy N),Fx.u1 (wc N) ar Tryz.func131 [9] (aqI N) (by rw[afi];rfl)⟩
noncomputable def Jr:Fx:=⟨25,tab,[],N,Tryz.f318,[.v iM,.v I],[.v gA,.v B],[⟨5,[(0,.v iM),(1,.v I),(4,.obj gA),(6,.v I)],[1,0,1,0,0],[]⟩],none⟩
theorem afk(K ρ):(Jr N).bd K ρ 5=mY.dr N ((Jr N).kc ρ 5):=by kernel_rfl
theorem afl(ρ):(Jr N).kc ((Jr N).bp ρ) 5=mY.l2 N N:=Fx.uL [] (afk N) ρ (mY.l2 N) fun n ρ' e d=>by rw[e];rfl
theorem aqJ(K):(Jr N).top K=mY.b N ((Jr N).kc K 5):=by kernel_rfl
noncomputable def ak9:Kn Tryz.prog:=⟨318,(Jr N).S false (mY N),Fx.u1 (Jr N) ar Tryz.func318 [5] (aqJ N) (by rw[afl];rfl)⟩
noncomputable def m5:Fx:=⟨75,tab,Kn.l [uM N,LM N,akm N],N,Tryz.f319,[.v cC,.v cC],[.own gC,.v B],[⟨25,[(0,.v cC),(1,.v cC),(6,.own gC),(7,.v I),(8,.obj bY),(10,.v I)],[1,1,0,1,0,0,1,0,0,1,1,0,1,0,0],[7]⟩,⟨15,[(0,.v cC),(1,.v cC),(6,.own gC),(7,.v I),(8,.obj bY),(9,.v I)],[1,1,0,1,0,0,1,0,0,1,0,1,0,0],[7]⟩,⟨7,[(0,.v cC),(1,.v cC),(6,.own gC),(7,.v I)],[1,1,0,1,0,0],[]⟩],none⟩
theorem Ze(K ρ):(m5 N).bd K ρ 25=dg.jV N ((m5 N).kc ρ 7) ((m5 N).kc ρ 25):=by kernel_rfl
theorem Zf(ρ):(m5 N).kc ((m5 N).bp ρ) 25=dg.kL N ((m5 N).kc ρ 7) N:=Fx.uL [] (Ze N) ρ (dg.kL N ((m5 N).kc ρ 7)) fun n ρ' e d=>by rw[e,d 7 rfl];rfl
theorem Zg(K ρ):(m5 N).bd K ρ 15=dg.oT N ((m5 N).kc K 25) ((m5 N).kc ρ 7) ((m5 N).kc ρ 15):=by kernel_rfl
theorem Zh(ρ):(m5 N).kc ((m5 N).bp ρ) 15=dg.l7 N ((m5 N).kc ρ 7) N:=Fx.uL [25] (Zg N) ρ (dg.l7 N ((m5 N).kc ρ 7)) fun n ρ' e d=>by rw[Zf,e,d 7 rfl];rfl
theorem afm(K ρ):(m5 N).bd K ρ 7=dg.kq N ((m5 N).kc K 15) ((m5 N).kc ρ 7):=by kernel_rfl
theorem afn(ρ):(m5 N).kc ((m5 N).bp ρ) 7=dg.l3 N N:=Fx.uL [15,25] (afm N) ρ (dg.l3 N) fun n ρ' e d=>by rw[Zh,e];rfl
theorem aqK(K):(m5 N).top K=dg.b N ((m5 N).kc K 7):=by kernel_rfl
noncomputable def aqL:Kn Tryz.prog:=⟨319,(m5 N).S false (dg N),Fx.u1 (m5 N) ar Tryz.func319 [7] (aqK N) (by rw[afn];rfl)⟩
noncomputable def ala:Fx:=⟨11,tab,Kn.l [Pn N,aex N],N,Tryz.f320,[.v jF,.v I],[.own fA],[],none⟩
noncomputable def aqM:Kn Tryz.prog:=⟨320,(ala N).S false (acE N),Fx.u0 (ala N) ar Tryz.func320⟩
noncomputable def yS:Fx:=⟨157,tab,Kn.l [p8 N,afj N,S1 N,akV N,YE N,ak9 N,k22 N,uM N,Tw N,XJ N,k31 N,aqL N,aqM N,aky N,YH N,k21 N],N,Tryz.f308,[.v aq,.v az,.v iM,.v dA,.v cU],[.v I],[⟨27,[(3,.v dA),(5,.obj aq),(6,.obj az),(9,.obj cU),(12,.obj gA),(14,.v I),(15,.v I)],[1,1,1,1,1,1,1,1,0,1,0,0],[]⟩,⟨6,[(2,.v iM),(3,.v dA),(5,.obj aq),(6,.obj az),(9,.obj cU)],[1,1],[]⟩],none⟩
theorem Zi(K ρ):(yS N).bd K ρ 27=ik.jY N ((yS N).kc ρ 27):=by kernel_rfl
theorem Zj(ρ):(yS N).kc ((yS N).bp ρ) 27=ik.lN N N:=Fx.uL [] (Zi N) ρ (ik.lN N) fun n ρ' e d=>by rw[e];rfl
theorem afo(K ρ):(yS N).bd K ρ 6=ik.j3b N ((yS N).kc K 27):=by kernel_rfl
theorem afp(ρ):(yS N).kc ((yS N).bp ρ) 6=ik.j3 N:=Fx.uJ [27] (afo N) ρ (by rw[Zj];rfl)
theorem aqN(K):(yS N).top K=ik.b N ((yS N).kc K 6):=by kernel_rfl
noncomputable def aqO:Kn Tryz.prog:=⟨308,(yS N).S true (ik N),Fx.u1 (yS N) ar Tryz.func308 [6,27] (aqN N) (by rw[afp];rfl)⟩
noncomputable def alb:Fx:=⟨28,tab,Kn.l [aqO N],N,Tryz.f298,[.v aq,.v az,.v iM,.v dA,.v cU],[.own cU,.v I],[],none⟩
noncomputable def aqP:Kn Tryz.prog:=⟨298,(alb N).S false (Vu N),Fx.u0 (alb N) ar Tryz.func298⟩
noncomputable def X56:Fx:=⟨46,tab,Kn.l [S1 N],N,Tryz.f56,[.v dA,.v I],[.v cU,.v B],[⟨13,[(0,.v dA),(1,.v I),(4,.obj cU),(6,.obj cU),(7,.v B),(8,.v I)],[1,1,1,1,0,1,0,0],[]⟩],none⟩
theorem afq(K ρ):(X56 N).bd K ρ 13=Bd.pn N ((X56 N).kc ρ 13):=by kernel_rfl
theorem afr(ρ):(X56 N).kc ((X56 N).bp ρ) 13=Bd.l6 N N:=Fx.uL [] (afq N) ρ (Bd.l6 N) fun n ρ' e d=>by rw[e];rfl
theorem h56(K):(X56 N).top K=Bd.b N ((X56 N).kc K 13):=by kernel_rfl
noncomputable def k56:Kn Tryz.prog:=⟨56,(X56 N).S true (Bd N),Fx.u1 (X56 N) ar Tryz.func56 [13] (h56 N) (by rw[afr];rfl)⟩
noncomputable def JU:Fx:=⟨158,tab,Kn.l [p8 N,afj N,S1 N,k56 N,k22 N,YE N,uM N,SZ N,I1 N],N,Tryz.f55,[.v aq,.v az,.v iM,.v dA],[.v az,.own gA,.v I],[⟨45,[(2,.v iM),(3,.v dA),(5,.obj az),(8,.obj az),(11,.own fA),(12,.own oc),(13,.own gA),(14,.v I),(15,.obj gA),(16,.obj cU),(18,.v I),(19,.v I)],[1,1,1,1,1,0,1,0,0,1,0,0,1,1,1,1,1,1,1,1,0,1,0,0],[15]⟩,⟨15,[(2,.v iM),(3,.v dA),(5,.obj az),(8,.obj az),(11,.own fA),(12,.own oc),(13,.own gA),(14,.v I)],[1,1,1,1,1,0,1,0,0],[]⟩],none⟩
theorem afs(K ρ):(JU N).bd K ρ 45=pv.sf N ((JU N).kc ρ 15) ((JU N).kc ρ 45):=by kernel_rfl
theorem aft(ρ):(JU N).kc ((JU N).bp ρ) 45=pv.tq N ((JU N).kc ρ 15) N:=Fx.uL [] (afs N) ρ (pv.tq N ((JU N).kc ρ 15)) fun n ρ' e d=>by rw[e,d 15 rfl];rfl
theorem afu(K ρ):(JU N).bd K ρ 15=pv.oT N ((JU N).kc K 45) ((JU N).kc ρ 15):=by kernel_rfl
theorem afv(ρ):(JU N).kc ((JU N).bp ρ) 15=pv.l7 N N:=Fx.uL [45] (afu N) ρ (pv.l7 N) fun n ρ' e d=>by rw[aft,e];rfl
theorem h55(K):(JU N).top K=pv.b N ((JU N).kc K 15):=by kernel_rfl
noncomputable def k55:Kn Tryz.prog:=⟨55,(JU N).S false (pv N),Fx.u1 (JU N) ar Tryz.func55 [15] (h55 N) (by rw[afv];rfl)⟩
noncomputable def Js:Fx:=⟨58,tab,[],N,Tryz.f309,[.v cC],[.v B],[⟨5,[(0,.v cC),(3,.v I)],[1,0,1,0,0],[]⟩],none⟩
theorem afw(K ρ):(Js N).bd K ρ 5=lY.dr N ((Js N).kc ρ 5):=by kernel_rfl
theorem afx(ρ):(Js N).kc ((Js N).bp ρ) 5=lY.l2 N N:=Fx.uL [] (afw N) ρ (lY.l2 N) fun n ρ' e d=>by rw[e];rfl
theorem aqQ(K):(Js N).top K=lY.b N ((Js N).kc K 5):=by kernel_rfl
noncomputable def Zk:Kn Tryz.prog:=⟨309,(Js N).S true (lY N),Fx.u1 (Js N) ar Tryz.func309 [5] (aqQ N) (by rw[afx];rfl)⟩
noncomputable def Jt:Fx:=⟨38,tab,[],N,Tryz.f310,[.v LI],[.v B],[⟨5,[(0,.v LI),(3,.v I)],[1,0,1,0,0],[]⟩],none⟩
theorem afy(K ρ):(Jt N).bd K ρ 5=n6.dr N ((Jt N).kc ρ 5):=by kernel_rfl
theorem afz(ρ):(Jt N).kc ((Jt N).bp ρ) 5=n6.l2 N N:=Fx.uL [] (afy N) ρ (n6.l2 N) fun n ρ' e d=>by rw[e];rfl
theorem aqR(K):(Jt N).top K=n6.b N ((Jt N).kc K 5):=by kernel_rfl
noncomputable def aqS:Kn Tryz.prog:=⟨310,(Jt N).S true (n6 N),Fx.u1 (Jt N) ar Tryz.func310 [5] (aqR N) (by rw[afz];rfl)⟩
noncomputable def xe:Fx:=⟨72,tab,Kn.l [ak9 N],N,Tryz.f311,[.v I,.v iM,.v dA],[.v I],[⟨25,[(0,.v I),(1,.v iM),(7,.v I),(12,.v I)],[1,1,1,0,1,0,0],[]⟩,⟨7,[(0,.v I),(1,.v iM),(2,.v dA),(7,.v I),(8,.v I)],[1,1,0,1,0,0],[]⟩],none⟩
theorem Zl(K ρ):(xe N).bd K ρ 25=fV.jV N ((xe N).kc ρ 25):=by kernel_rfl
theorem Zm(ρ):(xe N).kc ((xe N).bp ρ) 25=fV.kL N N:=Fx.uL [] (Zl N) ρ (fV.kL N) fun n ρ' e d=>by rw[e];rfl
theorem afA(K ρ):(xe N).bd K ρ 7=fV.kq N ((xe N).kc K 25) ((xe N).kc ρ 7):=by kernel_rfl
theorem afB(ρ):(xe N).kc ((xe N).bp ρ) 7=fV.l3 N N:=Fx.uL [25] (afA N) ρ (fV.l3 N) fun n ρ' e d=>by rw[Zm,e];rfl
theorem aqT(K):(xe N).top K=fV.b N ((xe N).kc K 7):=by kernel_rfl
noncomputable def aqU:Kn Tryz.prog:=⟨311,(xe N).S true (fV N),Fx.u1 (xe N) ar Tryz.func311 [7,25] (aqT N) (by rw[afB];rfl)⟩
noncomputable def iN:Fx:=⟨104,tab,Kn.l [Zk N,aqS N,afj N,S1 N,aqU N],N,Tryz.f299,[.v aq,.v cC,.v LI,.v iM,.v dA],[.own gC,.v I],[⟨37,[(1,.v cC),(2,.v LI),(3,.v iM),(4,.v dA),(12,.own gC),(13,.v I),(14,.v I),(15,.v B),(18,.v I)],[1,1,1,0,1,0,0,1,0,0,1,1,1,0,1,0,0],[11]⟩,⟨29,[(1,.v cC),(2,.v LI),(3,.v iM),(4,.v dA),(12,.own gC),(13,.v I),(14,.v I),(15,.v B),(17,.v I)],[1,1,1,0,1,0,0,1,0,0,1,1,0,1,0,0],[11]⟩,⟨19,[(1,.v cC),(2,.v LI),(3,.v iM),(4,.v dA),(12,.own gC),(13,.v I),(14,.v I),(15,.v B),(16,.v I)],[1,1,1,0,1,0,0,1,0,0,1,0,1,0,0],[11]⟩,⟨11,[(1,.v cC),(2,.v LI),(3,.v iM),(4,.v dA),(12,.own gC),(13,.v I)],[1,1,1,0,1,0,0],[]⟩],none⟩
theorem Zn(K ρ):(iN N).bd K ρ 37=cB.A8 N ((iN N).kc ρ 11) ((iN N).kc ρ 37):=by kernel_rfl
theorem Zo(ρ):(iN N).kc ((iN N).bp ρ) 37=cB.DB N ((iN N).kc ρ 11) N:=Fx.uL [] (Zn N) ρ (cB.DB N ((iN N).kc ρ 11)) fun n ρ' e d=>by rw[e,d 11 rfl];rfl
theorem Zp(K ρ):(iN N).bd K ρ 29=cB.AL N ((iN N).kc K 37) ((iN N).kc ρ 11) ((iN N).kc ρ 29):=by kernel_rfl
theorem Zq(ρ):(iN N).kc ((iN N).bp ρ) 29=cB.C9 N ((iN N).kc ρ 11) N:=Fx.uL [37] (Zp N) ρ (cB.C9 N ((iN N).kc ρ 11)) fun n ρ' e d=>by rw[Zo,e,d 11 rfl];rfl
theorem Zr(K ρ):(iN N).bd K ρ 19=cB.tk N ((iN N).kc K 29) ((iN N).kc ρ 11) ((iN N).kc ρ 19):=by kernel_rfl
theorem Zs(ρ):(iN N).kc ((iN N).bp ρ) 19=cB.l9 N ((iN N).kc ρ 11) N:=Fx.uL [29,37] (Zr N) ρ (cB.l9 N ((iN N).kc ρ 11)) fun n ρ' e d=>by rw[Zq,e,d 11 rfl];rfl
theorem Zt(K ρ):(iN N).bd K ρ 11=cB.c0 N ((iN N).kc K 19) ((iN N).kc ρ 11):=by kernel_rfl
theorem Zu(ρ):(iN N).kc ((iN N).bp ρ) 11=cB.l5 N N:=Fx.uL [19,29,37] (Zt N) ρ (cB.l5 N) fun n ρ' e d=>by rw[Zs,e];rfl
theorem aqV(K):(iN N).top K=cB.b N ((iN N).kc K 11):=by kernel_rfl
noncomputable def aqW:Kn Tryz.prog:=⟨299,(iN N).S false (cB N),Fx.u1 (iN N) ar Tryz.func299 [11] (aqV N) (by rw[Zu];rfl)⟩
noncomputable def alc:Fx:=⟨28,tab,Kn.l [SY N],N,Tryz.f321,[.own oi,.v az,.v I,.v I,.v I],[.own oi],[],none⟩
noncomputable def aqX:Kn Tryz.prog:=⟨321,(alc N).S false (Ld N),Fx.u0 (alc N) ar Tryz.func321⟩
noncomputable def ald:Fx:=⟨9,tab,[],N,Tryz.f323,[.v I],[.v B],[],none⟩
noncomputable def ale:Kn Tryz.prog:=⟨323,(ald N).S true (Sg N),Fx.u0 (ald N) ar Tryz.func323⟩
noncomputable def Ju:Fx:=⟨27,tab,Kn.l [Zk N],N,Tryz.f325,[.v cC,.v I],[.v I],[⟨9,[(0,.v cC),(1,.v I),(5,.v I)],[1,1,0,1,0,0],[]⟩],none⟩
theorem afC(K ρ):(Ju N).bd K ρ 9=n7.c5 N ((Ju N).kc ρ 9):=by kernel_rfl
theorem afD(ρ):(Ju N).kc ((Ju N).bp ρ) 9=n7.l4 N N:=Fx.uL [] (afC N) ρ (n7.l4 N) fun n ρ' e d=>by rw[e];rfl
theorem aqY(K):(Ju N).top K=n7.b N ((Ju N).kc K 9):=by kernel_rfl
noncomputable def aqZ:Kn Tryz.prog:=⟨325,(Ju N).S true (n7 N),Fx.u1 (Ju N) ar Tryz.func325 [9] (aqY N) (by rw[afD];rfl)⟩
noncomputable def Jv:Fx:=⟨67,tab,Kn.l [p8 N,Zk N,ale N,SY N,aqZ N],N,Tryz.f322,[.v aq,.v az,.v cC,.v I,.v I],[.own I,.v I],[⟨11,[(2,.v cC),(3,.v I),(4,.v I),(6,.obj az),(12,.own I),(13,.v I)],[1,1,1,0,1,0,0],[]⟩],none⟩
theorem Zv(K ρ):(Jv N).bd K ρ 11=n8.c0 N ((Jv N).kc ρ 11):=by kernel_rfl
theorem Zw(ρ):(Jv N).kc ((Jv N).bp ρ) 11=n8.l5 N N:=Fx.uL [] (Zv N) ρ (n8.l5 N) fun n ρ' e d=>by rw[e];rfl
theorem aq0(K):(Jv N).top K=n8.b N ((Jv N).kc K 11):=by kernel_rfl
noncomputable def aq1:Kn Tryz.prog:=⟨322,(Jv N).S false (n8 N),Fx.u1 (Jv N) ar Tryz.func322 [11] (aq0 N) (by rw[Zw];rfl)⟩
noncomputable def jG:Fx:=⟨188,tab,Kn.l [p8 N,Zk N,akP N,LO N,k22 N,aqX N,aq1 N,ale N,uM N,SY N,Tw N,Bv N,LK N],N,Tryz.f312,[.v aq,.v az,.v I,.v cC,.v cC],[.own oi,.v I],[⟨33,[(2,.v I),(3,.v cC),(4,.v cC),(5,.obj aq),(6,.obj az),(12,.own oi),(14,.v I),(15,.own I),(17,.v I)],[1,1,1,1,1,1,1,0,1,0,0,1,0,0,1,1,0,0],[25]⟩,⟨61,[(2,.v I),(4,.v cC),(6,.obj az),(12,.own oi),(22,.v I)],[1,1,1,1,1,1,1,1,1,0,1,0,0],[]⟩,⟨41,[(2,.v I),(4,.v cC),(5,.obj aq),(6,.obj az),(12,.own oi),(18,.v I)],[1,1,1,1,1,1,1,1,0,1,0,0],[]⟩,⟨25,[(2,.v I),(3,.v cC),(4,.v cC),(5,.obj aq),(6,.obj az),(12,.own oi),(14,.v I)],[1,1,1,1,1,1,1,0,1,0,0],[]⟩,⟨18,[(2,.v I),(3,.v cC),(4,.v cC),(5,.obj aq),(6,.obj az),(12,.own oi)],[1,1,1,1,1],[]⟩],none⟩
theorem Zx(K ρ):(jG N).bd K ρ 33=cm.se N ((jG N).kc ρ 25) ((jG N).kc ρ 33):=by kernel_rfl
theorem Zy(ρ):(jG N).kc ((jG N).bp ρ) 33=cm.tp N ((jG N).kc ρ 25) N:=Fx.uL [41,61] (Zx N) ρ (cm.tp N ((jG N).kc ρ 25)) fun n ρ' e d=>by rw[e,d 25 rfl];rfl
theorem Zz(K ρ):(jG N).bd K ρ 61=cm.G7 N ((jG N).kc ρ 61):=by kernel_rfl
theorem ZA(ρ):(jG N).kc ((jG N).bp ρ) 61=cm.Kz N N:=Fx.uL [] (Zz N) ρ (cm.Kz N) fun n ρ' e d=>by rw[e];rfl
theorem ZB(K ρ):(jG N).bd K ρ 41=cm.La N ((jG N).kc K 61) ((jG N).kc ρ 41):=by kernel_rfl
theorem ZC(ρ):(jG N).kc ((jG N).bp ρ) 41=cm.E1 N N:=Fx.uL [61] (ZB N) ρ (cm.E1 N) fun n ρ' e d=>by rw[ZA,e];rfl
theorem ZD(K ρ):(jG N).bd K ρ 25=cm.jV N ((jG N).kc K 33) ((jG N).kc K 41) ((jG N).kc ρ 25):=by kernel_rfl
theorem ZE(ρ):(jG N).kc ((jG N).bp ρ) 25=cm.kL N N:=Fx.uL [41,61,33] (ZD N) ρ (cm.kL N) fun n ρ' e d=>by rw[Zy,ZC,e];rfl
theorem ZF(K ρ):(jG N).bd K ρ 18=cm.Ki N ((jG N).kc K 25):=by kernel_rfl
theorem ZG(ρ):(jG N).kc ((jG N).bp ρ) 18=cm.j9 N:=Fx.uJ [25,41,61] (ZF N) ρ (by rw[ZE];rfl)
theorem aq2(K):(jG N).top K=cm.b N ((jG N).kc K 18):=by kernel_rfl
noncomputable def aq3:Kn Tryz.prog:=⟨312,(jG N).S false (cm N),Fx.u1 (jG N) ar Tryz.func312 [18,25,41,61] (aq2 N) (by rw[ZG];rfl)⟩
noncomputable def alf:Fx:=⟨19,tab,Kn.l [p8 N,SY N],N,Tryz.f313,[.v aq,.v az],[.v I,.v I],[],none⟩
noncomputable def aq4:Kn Tryz.prog:=⟨313,(alf N).S true (Vw N),Fx.u0 (alf N) ar Tryz.func313⟩
noncomputable def Jw:Fx:=⟨97,tab,Kn.l [ajG N],N,Tryz.f324,[.v tu],[.v B],[⟨9,[(0,.v tu),(3,.v I)],[1,1,0,1,0,0],[]⟩],none⟩
theorem afE(K ρ):(Jw N).bd K ρ 9=n9.c5 N ((Jw N).kc ρ 9):=by kernel_rfl
theorem afF(ρ):(Jw N).kc ((Jw N).bp ρ) 9=n9.l4 N N:=Fx.uL [] (afE N) ρ (n9.l4 N) fun n ρ' e d=>by rw[e];rfl
theorem aq5(K):(Jw N).top K=n9.b N ((Jw N).kc K 9):=by kernel_rfl
noncomputable def aq6:Kn Tryz.prog:=⟨324,(Jw N).S true (n9 N),Fx.u1 (Jw N) ar Tryz.func324 [9] (aq5 N) (by rw[afF];rfl)⟩
noncomputable def jH:Fx:=⟨106,tab,Kn.l [aq6 N,ae1 N,Bv N,ae4 N],N,Tryz.f314,[.v tu,.v I],[.own oi,.v I,.v I],[⟨37,[(7,.own oi),(8,.v I),(9,.v I),(10,.v I),(14,.own I),(16,.v I)],[1,1,1,0,1,0,0,1,0,1,1,1,1,1,1,1,0,1,0,0],[11]⟩,⟨22,[(7,.own oi),(8,.v I),(9,.v I),(10,.v I),(11,.own I)],[1,1,1,0,1,0,0,1,0,1,1,1],[11]⟩,⟨17,[(7,.own oi),(8,.v I),(9,.v I),(10,.v I),(11,.own I)],[1,1,1,0,1,0,0,1,0,1,1,0,0,0],[11]⟩,⟨11,[(7,.own oi),(8,.v I),(9,.v I)],[1,1,1,0,1,0,0],[]⟩],none⟩
theorem ZH(K ρ):(jH N).bd K ρ 37=cJ.A8 N ((jH N).kc ρ 11) ((jH N).kc ρ 37):=by kernel_rfl
theorem ZI(ρ):(jH N).kc ((jH N).bp ρ) 37=cJ.DB N ((jH N).kc ρ 11) N:=Fx.uL [] (ZH N) ρ (cJ.DB N ((jH N).kc ρ 11)) fun n ρ' e d=>by rw[e,d 11 rfl];rfl
theorem ZJ(K ρ):(jH N).bd K ρ 22=cJ.A7 N ((jH N).kc K 37) ((jH N).kc ρ 11):=by kernel_rfl
theorem ZK(ρ):(jH N).kc ((jH N).bp ρ) 22=cJ.JO N ((jH N).kc ρ 11):=Fx.uJ [37] (ZJ N) ρ (by rw[ZI];rfl)
theorem ZL(K ρ):(jH N).bd K ρ 17=cJ.wk N ((jH N).kc K 22) ((jH N).kc ρ 11) ((jH N).kc ρ 17):=by kernel_rfl
theorem ZM(ρ):(jH N).kc ((jH N).bp ρ) 17=cJ.l8 N ((jH N).kc ρ 11) N:=Fx.uL [22,37] (ZL N) ρ (cJ.l8 N ((jH N).kc ρ 11)) fun n ρ' e d=>by rw[ZK,e,d 11 rfl];rfl
theorem ZN(K ρ):(jH N).bd K ρ 11=cJ.c0 N ((jH N).kc K 17) ((jH N).kc ρ 11):=by kernel_rfl
theorem ZO(ρ):(jH N).kc ((jH N).bp ρ) 11=cJ.l5 N N:=Fx.uL [17,22,37] (ZN N) ρ (cJ.l5 N) fun n ρ' e d=>by rw[ZM,e];rfl
theorem aq7(K):(jH N).top K=cJ.b N ((jH N).kc K 11):=by kernel_rfl
noncomputable def aq8:Kn Tryz.prog:=⟨314,(jH N).S false (cJ N),Fx.u1 (jH N) ar Tryz.func314 [11] (aq7 N) (by rw[ZO];rfl)⟩
noncomputable def alg:Fx:=⟨14,tab,Kn.l [p8 N,SY N],N,Tryz.f315,[.v aq,.v az],[.v I,.v I],[],none⟩
noncomputable def aq9:Kn Tryz.prog:=⟨315,(alg N).S true (Vx N),Fx.u0 (alg N) ar Tryz.func315⟩
noncomputable def yT:Fx:=⟨156,tab,Kn.l [aq3 N,aq4 N,aq8 N,uM N,SZ N,aq9 N,k22 N,I1 N],N,Tryz.f300,[.v aq,.v az,.v I,.v cC,.v cC],[.v az,.v dZ,.v I],[⟨52,[(6,.obj az),(10,.obj az),(11,.obj dZ),(18,.own oc),(19,.dW dZ [.gX 2] oi),(21,.v I),(23,.v I),(24,.v I)],[1,1,1,1,1,1,1,1,1,1,1,1,1,1,1],[]⟩,⟨31,[(2,.v I),(5,.obj aq),(6,.obj az),(10,.obj az),(11,.obj dZ),(13,.own oi),(17,.v I),(18,.own oc),(19,.dW dZ [.gX 2] oi),(20,.v I)],[1,1,1,1,1,1,1,1,1,1,0,1,0,0],[]⟩],some (dZ,[.gX 2],oi,[19])⟩
theorem ZP(K ρ):(yT N).bd K ρ 52=il.acH N:=by kernel_rfl
theorem ZQ(ρ):(yT N).kc ((yT N).bp ρ) 52=il.j26 N:=Fx.uJ [] (ZP N) ρ
theorem ZR(K ρ):(yT N).bd K ρ 31=il.K2 N ((yT N).kc K 52) ((yT N).kc ρ 31):=by kernel_rfl
theorem ZS(ρ):(yT N).kc ((yT N).bp ρ) 31=il.OL N N:=Fx.uL [52] (ZR N) ρ (il.OL N) fun n ρ' e d=>by rw[ZQ,e];rfl
theorem ara(K):(yT N).top K=il.b N ((yT N).kc K 31):=by kernel_rfl
noncomputable def arb:Kn Tryz.prog:=⟨300,(yT N).S false (il N),Fx.u1 (yT N) ar Tryz.func300 [31,52] (ara N) (by rw[ZS];rfl)⟩
noncomputable def m6:Fx:=⟨129,tab,Kn.l [ak8 N,ae1 N,Bv N,ae4 N],N,Tryz.f163,[.v I,.v LI,.v LI],[.own I,.v I,.v I],[⟨39,[(1,.v LI),(2,.v LI),(11,.own I),(12,.v I),(13,.v I),(17,.own I),(19,.v I)],[1,1,1,1,0,1,0,0,1,0,0,1,1,1,1,1,0,0],[17]⟩,⟨25,[(1,.v LI),(2,.v LI),(11,.own I),(12,.v I),(13,.v I),(14,.own I),(15,.v B),(16,.v I)],[1,1,1,1,0,1,0,0,1,0,0,1,0,1,0,0],[17]⟩,⟨17,[(1,.v LI),(2,.v LI),(11,.own I),(12,.v I),(13,.v I)],[1,1,1,1,0,1,0,0],[]⟩],none⟩
theorem ZT(K ρ):(m6 N).bd K ρ 39=db.KA N ((m6 N).kc ρ 17) ((m6 N).kc ρ 39):=by kernel_rfl
theorem ZU(ρ):(m6 N).kc ((m6 N).bp ρ) 39=db.Oc N ((m6 N).kc ρ 17) N:=Fx.uL [] (ZT N) ρ (db.Oc N ((m6 N).kc ρ 17)) fun n ρ' e d=>by rw[e,d 17 rfl];rfl
theorem ZV(K ρ):(m6 N).bd K ρ 25=db.jV N ((m6 N).kc K 39) ((m6 N).kc ρ 17) ((m6 N).kc ρ 25):=by kernel_rfl
theorem ZW(ρ):(m6 N).kc ((m6 N).bp ρ) 25=db.kL N ((m6 N).kc ρ 17) N:=Fx.uL [39] (ZV N) ρ (db.kL N ((m6 N).kc ρ 17)) fun n ρ' e d=>by rw[ZU,e,d 17 rfl];rfl
theorem ZX(K ρ):(m6 N).bd K ρ 17=db.wk N ((m6 N).kc K 25) ((m6 N).kc ρ 17):=by kernel_rfl
theorem ZY(ρ):(m6 N).kc ((m6 N).bp ρ) 17=db.l8 N N:=Fx.uL [25,39] (ZX N) ρ (db.l8 N) fun n ρ' e d=>by rw[ZW,e];rfl
theorem arc(K):(m6 N).top K=db.b N ((m6 N).kc K 17):=by kernel_rfl
noncomputable def ard:Kn Tryz.prog:=⟨163,(m6 N).S false (db N),Fx.u1 (m6 N) ar Tryz.func163 [17] (arc N) (by rw[ZY];rfl)⟩
noncomputable def Po:Fx:=⟨127,tab,Kn.l [p8 N,k20 N,ard N],N,Tryz.f93,[.v aq,.v az,.v I],[.own fA,.v I],[⟨43,[(2,.v I),(8,.v I),(9,.own I),(13,.own I),(16,.own fA),(17,.v I)],[1,1,1,1,1,1,1,1,1,1,1,0,1,0,0],[]⟩,⟨23,[(2,.v I),(4,.obj az),(8,.v I),(9,.own I),(10,.own I),(11,.v I)],[1,1,1,1,1,1,1,0,1,0,0],[]⟩],none⟩
theorem afG(K ρ):(Po N).bd K ρ 43=qW.acJ N ((Po N).kc ρ 43):=by kernel_rfl
theorem afH(ρ):(Po N).kc ((Po N).bp ρ) 43=qW.l21 N N:=Fx.uL [] (afG N) ρ (qW.l21 N) fun n ρ' e d=>by rw[e];rfl
theorem afI(K ρ):(Po N).bd K ρ 23=qW.A5 N ((Po N).kc K 43) ((Po N).kc ρ 23):=by kernel_rfl
theorem afJ(ρ):(Po N).kc ((Po N).bp ρ) 23=qW.Dz N N:=Fx.uL [43] (afI N) ρ (qW.Dz N) fun n ρ' e d=>by rw[afH,e];rfl
theorem h93(K):(Po N).top K=qW.b N ((Po N).kc K 23):=by kernel_rfl
noncomputable def k93:Kn Tryz.prog:=⟨93,(Po N).S false (qW N),Fx.u1 (Po N) ar Tryz.func93 [23,43] (h93 N) (by rw[afJ];rfl)⟩
noncomputable def X94:Fx:=⟨41,tab,Kn.l [p8 N,k93 N,I1 N],N,Tryz.f94,[.v aq,.v az],[.v az,.v I],[⟨11,[(2,.obj aq),(3,.obj az),(4,.obj az),(6,.own fA),(7,.v I)],[1,1,1,0,1,0,0],[]⟩],none⟩
theorem afK(K ρ):(X94 N).bd K ρ 11=Bc.c0 N ((X94 N).kc ρ 11):=by kernel_rfl
theorem afL(ρ):(X94 N).kc ((X94 N).bp ρ) 11=Bc.l5 N N:=Fx.uL [] (afK N) ρ (Bc.l5 N) fun n ρ' e d=>by rw[e];rfl
theorem h94(K):(X94 N).top K=Bc.b N ((X94 N).kc K 11):=by kernel_rfl
noncomputable def k94:Kn Tryz.prog:=⟨94,(X94 N).S false (Bc N),Fx.u1 (X94 N) ar Tryz.func94 [11] (h94 N) (by rw[afL];rfl)⟩
noncomputable def Jx:Fx:=⟨325,tab,Kn.l [aqi N,W8 N,aqn N,k39 N,aqx N,k53 N,aeI N,aqH N,aqP N,k55 N,aqW N,arb N,k94 N,akS N],N,Tryz.f284,[.v aq,.v cz,.v nj],[.v cz,.v fA],[⟨83,[(4,.obj cz),(6,.obj cz),(7,.obj fA),(14,.v iM),(16,.v I),(17,.v I)],[1,1,0,1,0,1,1,1,1,1,1,1,1,1,1,1,1,1,0,1,1,1,1,1,1,0,1,0,0],[]⟩],none⟩
theorem ZZ(K ρ):(Jx N).bd K ρ 83=ob.acK N ((Jx N).kc ρ 83):=by kernel_rfl
theorem Z0(ρ):(Jx N).kc ((Jx N).bp ρ) 83=ob.l41 N N:=Fx.uL [] (ZZ N) ρ (ob.l41 N) fun n ρ' e d=>by rw[e];rfl
theorem are(K):(Jx N).top K=ob.b N ((Jx N).kc K 83):=by kernel_rfl
noncomputable def arf:Kn Tryz.prog:=⟨284,(Jx N).S false (ob N),Fx.u1 (Jx N) ar Tryz.func284 [83] (are N) (by rw[Z0];rfl)⟩
noncomputable def LR:Fx:=⟨141,tab,Kn.l [akS N,ap8 N,aqb N,W8 N,akD N,aeI N,aqc N,arf N],N,Tryz.f264,[.v aq,.v cz,.v nj],[.v cz,.v fA],[⟨58,[(3,.obj aq),(4,.obj cz),(5,.obj nj),(6,.obj cz),(7,.obj fA)],[1,1,1],[]⟩],none⟩
theorem Z1(K ρ):(LR N).bd K ρ 58=qX.Lb N:=by kernel_rfl
theorem Z2(ρ):(LR N).kc ((LR N).bp ρ) 58=qX.Sb N:=Fx.uJ [] (Z1 N) ρ
theorem arh(K):(LR N).top K=qX.b N ((LR N).kc K 58):=by kernel_rfl
noncomputable def ari:Kn Tryz.prog:=⟨264,(LR N).S false (qX N),Fx.u1 (LR N) ar Tryz.func264 [58] (arh N) (by rw[Z2];rfl)⟩
noncomputable def alh:Fx:=⟨295,tab,Kn.l [apf N,W8 N,apj N,apk N,apt N,apH N,akD N,SY N,uM N,k70 N,XJ N,apJ N,apT N,apV N,apY N,ap1 N,aeI N,ari N],N,Tryz.f216,[.v aq,.v cz,.v nj],[.v cz,.v fA],[],none⟩
noncomputable def arj:Kn Tryz.prog:=⟨216,(alh N).S false (VH N),Fx.u0 (alh N) ar Tryz.func216⟩
noncomputable def ali:Fx:=⟨36,tab,Kn.l [LJ N,apb N,arj N],N,Tryz.f162,[.v aq,.v cz,.v nj],[.v cz,.v fA],[],none⟩
noncomputable def ark:Kn Tryz.prog:=⟨162,(ali N).S false (VJ N),Fx.u0 (ali N) ar Tryz.func162⟩
noncomputable def X92:Fx:=⟨43,tab,Kn.l [ao2 N,ark N],N,Tryz.f92,[.v aq,.v acT],[.v cz,.own fA],[⟨13,[(1,.v acT),(2,.obj aq),(4,.obj cz),(6,.obj cz),(8,.own fA),(9,.v I)],[1,1,1,1,0,1,0,0],[]⟩],none⟩
theorem afM(K ρ):(X92 N).bd K ρ 13=Bf.pn N ((X92 N).kc ρ 13):=by kernel_rfl
theorem afN(ρ):(X92 N).kc ((X92 N).bp ρ) 13=Bf.l6 N N:=Fx.uL [] (afM N) ρ (Bf.l6 N) fun n ρ' e d=>by rw[e];rfl
theorem h92(K):(X92 N).top K=Bf.b N ((X92 N).kc K 13):=by kernel_rfl
noncomputable def k92:Kn Tryz.prog:=⟨92,(X92 N).S false (Bf N),Fx.u1 (X92 N) ar Tryz.func92 [13] (h92 N) (by rw[afN];rfl)⟩
noncomputable def X28:Fx:=⟨46,tab,Kn.l [k90 N,Tv N,k91 N,k92 N],N,Tryz.f28,[.io dj,.v aq,.v I],[.v cz,.io dj],[],none⟩
noncomputable def k28:Kn Tryz.prog:=⟨28,(X28 N).S false (F28 N),Fx.u0 (X28 N) ar Tryz.func28⟩
noncomputable def X34:Fx:=⟨26,tab,[],N,Tryz.f34,[.v jF,.v jF],[.v B],[⟨9,[(0,.v jF),(1,.v jF),(5,.v I)],[1,1,0,1,0,0],[]⟩],none⟩
theorem alj(K ρ):(X34 N).bd K ρ 9=yL.c5 N ((X34 N).kc ρ 9):=by kernel_rfl
theorem alk(ρ):(X34 N).kc ((X34 N).bp ρ) 9=yL.l4 N N:=Fx.uL [] (alj N) ρ (yL.l4 N) fun n ρ' e d=>by rw[e];rfl
theorem h34(K):(X34 N).top K=yL.b N ((X34 N).kc K 9):=by kernel_rfl
noncomputable def k34:Kn Tryz.prog:=⟨34,(X34 N).S true (yL N),Fx.u1 (X34 N) ar Tryz.func34 [9] (h34 N) (by rw[alk];rfl)⟩
noncomputable def xf:Fx:=⟨174,tab,Kn.l [k38 N,k13 N,k27 N,k28 N,k39 N,Tv N,k42 N,k49 N,k50 N,k20 N,k34 N],N,Tryz.f11,[.v LU],[.v B],[⟨42,[(3,.obj dj),(4,.obj aq),(5,.obj cz),(6,.own cU),(8,.v I),(9,.obj cU),(10,.v I),(11,.v I),(13,.obj az),(14,.obj cU),(16,.v I)],[1,1,1,1,1,1,0,1,0,0,1,0,0,1,1,1,1,1,1,1],[17]⟩,⟨30,[(3,.obj dj),(4,.obj aq),(5,.obj cz),(6,.own cU),(8,.v I),(9,.obj cU),(10,.v I),(11,.v I),(13,.obj az),(14,.obj cU),(15,.v I)],[1,1,1,1,1,1,0,1,0,0,1,0,0,1,1,1,1],[17]⟩,⟨17,[(3,.obj dj),(4,.obj aq),(5,.obj cz),(6,.own cU),(8,.v I)],[1,1,1,1,1,1,0,1,0,0],[]⟩],none⟩
theorem alm:pN Tryz.prog (xf N).E:=Fx.Me (xf N) ar (Kn.all _) (by kernel_rfl)
theorem afO(K ρ):(xf N).bd K ρ 42=ky.z6 N ((xf N).kc ρ 17):=by kernel_rfl
theorem afP(ρ):(xf N).kc ((xf N).bp ρ) 42=ky.Gy N ((xf N).kc ρ 17):=Fx.uJ [] (afO N) ρ
theorem afQ(K ρ):(xf N).bd K ρ 30=ky.mu N ((xf N).kc K 42) ((xf N).kc ρ 17):=by kernel_rfl
theorem afR(ρ):(xf N).kc ((xf N).bp ρ) 30=ky.rA N ((xf N).kc ρ 17):=Fx.uJ [42] (afQ N) ρ (by rw[afP];rfl)
theorem afS(K ρ):(xf N).bd K ρ 17=ky.wk N ((xf N).kc K 30) ((xf N).kc ρ 17):=by kernel_rfl
theorem S2(ρ):(xf N).kc ((xf N).bp ρ) 17=ky.l8 N N:=Fx.uL [30,42] (afS N) ρ (ky.l8 N) fun n ρ' e d=>by rw[afR,e];rfl
theorem h11(K):(xf N).top K=ky.b N ((xf N).kc K 17):=by kernel_rfl
theorem aln: ∀x,Jy (xf N).E (xf N).fn (xf N).args (xf N).res x=D9 (xf N).args (ky N) x:=Fx.ahs (by kernel_rfl) [17] (fun K=>by kernel_rfl) (h11 N) (by rw[S2];rfl)
noncomputable def Tl:Kn Tryz.prog:=⟨11,(xf N).S true (ky N),Fx.u1 (xf N) ar Tryz.func11 [17] (h11 N) (by rw[S2];rfl)⟩
end
end VM.F
