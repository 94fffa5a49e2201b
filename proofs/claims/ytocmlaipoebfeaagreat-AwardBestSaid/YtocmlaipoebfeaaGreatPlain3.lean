/- A part of the proof of AwardBest of layer 25: what the functions compute, in plain words. -/
import Derived.Test.YtocmlaipoebfeaaGreatPlain2
import Derived.Test.YtocmlaipoebfeaaGreatVm6
import Derived.Test.YtocmlaipoebfeaaGreatPlain0
set_option linter.all false
section
namespace VM
open Go VM.F
theorem AJ{p:Int}(h: -1152921504606846976≤p∧p≤1152921504606846976):(-9223372036854775808≤p∧p<9223372036854775808)∧(-9223372036854775808≤0-p∧0-p<9223372036854775808):=by omega
theorem XB(N:Nat)(K:ly.cR)(l:ay)(b db:ah)(out dD:aB)(s e:aj)(w:bp)(h:Int)(i:Nat)(hi:i≤1000)(hs:s.length≤1000)(he:e.length≤1000)(hw: -1152921504606846976≤w.2.2.2.1∧w.2.2.2.1≤1152921504606846976){t:ax}(g:qz t)(hN:2000000≤N):
  ly.tR N K N l b db out s (e.map fl) w h dD (dD.length:Int) (i:Int) t (t.length:Int) 0=K l b db out (s++ed h t) ((e++Ec h w.2.2.2.1).map fl) dD (dD.length:Int) ((i+1:Nat):Int):=by
 have hlen:=g.len
 have:=oS t bO (fun n j s=>ly.tR N K n l b db out s (e.map fl) w h dD (dD.length:Int) (i:Int) t (t.length:Int) j) (fun u s=>K l b db out (s++ed h u) ((e++Ec h w.2.2.2.1).map fl) dD (dD.length:Int) ((i+1:Nat):Int)) (fun j s=>s.length≤1000+2*j)
  (fun n j s hj hI hr=> ?_) (fun n s hI=> ?_) t.length N 0 s (by omega) (by omega) (by omega) (by omega)
 ·exact this
 ·unfold ly.tR ly.rB
  have hm:t.getD j bO∈t:=by
   rw[List.getD_eq_getElem?_getD,List.getElem?_eq_getElem hj];exact List.getElem_mem hj
  have hn:=(acM (g.q _ hm)).1
  unfold aD at hn
  rw[aK (by omega),cond_true,aN (by omega) (by omega),cond_true,Int.toNat_natCast,aq (x:=(j:Int)+1) (by omega) (by omega),ae j,aq hn.1 hn.2]
  dsimp only
  rw[bB (by rw[List.length_cons,List.length_singleton];omega),cond_true,je]
  refine(hr _ ?_).trans ?_
  ·rw[List.length_append,List.length_cons,List.length_singleton];omega
  ·rw[List.append_assoc];rfl
 ·unfold ly.tR ly.rB
  rw[aF (by omega),cond_false,aq (x:=0-w.2.2.2.1) (AJ hw).2.1 (AJ hw).2.2,qo N (AJ hw).2.1 (AJ hw).2.2,Option.bind_some,qo N (AJ hw).1.1 (AJ hw).1.2,Option.bind_some,bB (by rw[List.length_map,List.length_cons,List.length_singleton];omega),cond_true,aq (x:=(i:Int)+1) (by omega) (by omega),ae i]
  show _=K l b db out (s++[]) _ _ _ _
  rw[List.append_nil,List.map_append]
  rfl
theorem B1{D T:aB}{x:cN}{i:Nat}(h:D.length=i):(D++x::T).getD i ((0:Int),(aV,aA))=x:=by
 subst h;simp
theorem w8{D T:aB}{x y:cN}{i:Nat}(h:D.length=i):(D++x::T).set i y=D++y::T:=by
 subst h;simp
theorem tS{D T:aB}{x:cN}{i:Nat}(h:D.length=i):i<(D++x::T).length:=by
 rw[List.length_append,List.length_cons];omega
theorem yw{D T:aB}{x:cN}:D++x::T=(D++[x])++T:=by rw[List.append_assoc];rfl
structure B2(l:aB):Prop where
 len:vN l
 q: ∀x∈l,∀y∈x.2.1,aD y.2.1
theorem KA{c:aa}{l:aB}(h:jK c l=true)(w:B2 l){i:Nat}(hi:i<l.length):qz (l.getD i ((0:Int),(aV,aA))).2.1:=by
 unfold jK at h
 have h':=of_decide_eq_true (Bool.and_eq_true_iff.1 (Bool.and_eq_true_iff.1 (Bool.and_eq_true_iff.1 h).2).2).1
 have hl:qv c (l.getD i ((0:Int),(aV,aA))).2.1=true:=(h' i hi).2.2.2.1
 refine Kz hl ?_
 have hm:l.getD i ((0:Int),(aV,aA))∈l:=by
  rw[List.getD_eq_getElem?_getD,List.getElem?_eq_getElem hi];exact List.getElem_mem hi
 exact w.q _ hm
theorem Hl{c:aa}{l:aB}(h:jK c l=true):l.length≤12:=by
 unfold jK at h
 exact of_decide_eq_true (Bool.and_eq_true_iff.1 (Bool.and_eq_true_iff.1 h).2).1
theorem tT{c:aa}{b:ah}(h:dT c b=true):fx b.2.2.1=true∧dI b.2.2.2.1=true:=by
 unfold dT at h
 have h1:=(Bool.and_eq_true_iff.1 (Bool.and_eq_true_iff.1 h).2).2
 have h2:=Bool.and_eq_true_iff.1 h1
 have h3:=(Bool.and_eq_true_iff.1 (Bool.and_eq_true_iff.1 h2.2).2).1
 refine⟨h2.1,?_⟩
 unfold uW at h3
 exact(Bool.and_eq_true_iff.1 h3).2
structure B3(b:ah):Prop where
 w:yi b
 r:b.2.2.1.length≤90000
 s:b.2.2.2.1.length≤90000
theorem Eh(N:Nat)(hN:4000000≤N)(c:aa){b:ah}{dD:aB}{l:ay}(w:B3 b)(hl:l.length≤100000)(JK:dD.length≤100000)(lw:B2 dD):
  ly N c b dD l=some (nC c b dD l):=by
 unfold ly ly.b nC
 rw[Qp N hN w.w,Option.bind_some,QF N (by omega) c JK lw.len,Option.bind_some,IX N hl (by omega),Option.bind_some,Np N JK lw.len (by omega),Option.bind_some,cond_not,cond_not,cond_not]
 by_cases hB:dT c b=false
 ·rw[hB];rfl
 rw[Bool.not_eq_false]at hB
 rw[hB,cond_true,if_pos rfl]
 by_cases hL:jK c dD=false
 ·rw[hL];rfl
 rw[Bool.not_eq_false]at hL
 rw[hL,cond_true,if_pos rfl]
 by_cases hD:jJ l=false
 ·rw[hD];rfl
 rw[Bool.not_eq_false]at hD
 rw[hD,cond_true,if_pos rfl]
 obtain⟨hr,hs⟩:=tT hB
 have OZ:=Hl hL
 have:=oS dD ((0:Int),(aV,aA)) (fun n i (z:Nq)=>ly.l7 N n l b (aV,(cm,(bh,(bh,(cK,(cT,())))))) (z.2.2++dD.drop i.toNat) z.1 (z.2.1.map fl) dD (dD.length:Int) i) (fun t z=>some (Ee b (Ky b l t z))) (fun i z=>nD z i)
  (fun n i z hi I tw=> ?_) (fun n z I=> ?_) dD.length N 0 ([],[],[]) (by omega) (by omega) (by omega) nD.nil
 ·exact this
 ·unfold ly.l7 ly.ns
  have Lq:=I.out
  have hle:=I.len
  have aox:=I.QH
  rw[Int.toNat_natCast,drop_cons hi ((0:Int),(aV,aA)),Ed]
  generalize hx:dD.getD i ((0:Int),(aV,aA))=x at*
  have hg:qz x.2.1:=by rw[←hx];exact KA hL lw hi
  rw[aK (by omega),cond_true,aN (by omega) (by omega),cond_true,aq (x:=(i:Int)+1) (by omega) (by omega),ae i,cond_not,aG]
  by_cases h1:x.2.2.2.1=1
  ·rw[if_pos h1,if_pos h1,BZ N hl (by omega),Option.bind_some,cond_not]
   by_cases h2:(ch l x.1).2=true
   ·have hb:=QG h2
    unfold qw sx at hb
    rw[h2,cond_true,if_pos rfl,MS N w.w.a (by omega),Option.bind_some,uS N w.w.m (by omega),Option.bind_some,aG,aG]
    by_cases h3:fU b.1 (ch l x.1).1.2.2.1=0
    ·rw[if_pos h3,if_pos (Or.inl h3)];rfl
    ·rw[if_neg h3]
     by_cases h4:dW b.2.1 (ch l x.1).1.2.2.1=0
     ·rw[if_pos h4,if_pos (Or.inr h4)];rfl
     ·rw[if_neg h4,if_neg (fun h=>h.elim h3 h4),aN (by omega) (by have:=tS (T:=dD.drop (i+1)) (x:=x) Lq;omega),cond_true]
      dsimp only
      rw[B1 Lq,w8 Lq]
      rw[aN (by omega) (by have:=tS (T:=dD.drop (i+1)) (x:=x) Lq;rw[List.length_append,List.length_cons]at this ⊢;omega),cond_true,B1 Lq,w8 Lq]
      rw[aN (by omega) (by have:=tS (T:=dD.drop (i+1)) (x:=x) Lq;rw[List.length_append,List.length_cons]at this ⊢;omega),cond_true,B1 Lq,w8 Lq]
      rw[XB N _ l b _ _ _ _ _ _ _ i (by omega) (by omega) (by omega) hb.2.2.2 hg (by omega),yw]
      exact tw _ (I.ahY (Nr h4) hb.2.2.2 hg _)
   ·rw[Bool.not_eq_true]at h2
    rw[h2,cond_false,if_neg (by decide),aN (by omega) (by have:=tS (T:=dD.drop (i+1)) (x:=x) Lq;omega),cond_true,B1 Lq,w8 Lq,yw]
    exact tw _ (I.pass _)
  ·rw[if_neg h1,if_neg h1,yw]
   exact tw _ (I.pass x)
 ·unfold ly.l7 ly.ns
  rw[aF (by omega),cond_false,Int.toNat_natCast,List.drop_length,List.append_nil,Nm N (by omega) w.w hr hs w.r w.s (I.acN OZ) (I.acO OZ),Option.bind_some,cond_not,aG]
  show _=some (Ee b (some z))
  unfold Ee
  by_cases h:(gq b z.1 z.2.1).2=0
  ·rw[if_pos h]
   dsimp only
   rw[if_pos (show fH (gq b z.1 z.2.1).2 0 from h)]
  ·rw[if_neg h]
   dsimp only
   rw[if_neg (show ¬fH (gq b z.1 z.2.1).2 0 from h)]
end VM
end
section
namespace VM
open Go VM.F
end VM
end
section
namespace VM
open Go VM.F
theorem tU(x:Int):az x x=true:=cg rfl
theorem XC(x:Kg):pz (.pair (.int .i64) (.pair (.int .i64) .unit)) x x=true:=by
 show(az x.1 x.1&&(az x.2.1 x.2.1&&true))=true
 rw[tU,tU];rfl
theorem AK{F:Nat→Int→Option Bool}{len:Nat}(hs: ∀n (i:Nat),i<len→F n ((i+1:Nat):Int)=some true→F (n+1) (i:Int)=some true)(he: ∀n,F (n+1) (len:Int)=some true): ∀(m n i:Nat),len-i≤m→m<n→i≤len→F n (i:Int)=some true
 |m,0,i,_,hn,_=>by omega
 |m,n+1,i,hm,hn,hi=>by
  by_cases h:i<len
  ·exact hs n i h (AK hs he (m-1) n (i+1) (by omega) (by omega) (by omega))
  ·have:i=len:=by omega
   subst this;exact he n
end VM
end
section
namespace VM
open Go VM.F Go.RowKit
def jV(a b:Int):aj→Int
 |[]=>0
 |x::t=>if x.1=a then(if x.2.1=b then x.2.2.1 else jV a b t)else jV a b t
theorem o6(a b:Int)(x:cy)(t:aj):jV a b (x::t)=if x.1=a then(if x.2.1=b then x.2.2.1 else jV a b t)else jV a b t:=rfl
def sD(l:aj)(a b:Int):Int:=if dI l then jV a b l else 0
def AL(l:aj)(a b:Int):Int:=if fx l then jV a b l else 0
theorem w9(N:Nat){l:aj}(hl:l.length≤100000)(hN:200000≤N)(a b:Int):sQ N l a b=some (sD l a b):=by
 unfold sQ sQ.b sD
 rw[lN N hl hN,Option.bind_some,cond_not]
 have:=rO l a7 (fun n i=>sQ.l4 N n l a b i) (fun t=>some (jV a b t)) (fun n i hi hr=> ?_) (fun n=> ?_) N (by omega)
 ·rw[this];cases dI l<;>rfl
 ·unfold sQ.l4 sQ.cL
  rw[aK (by omega),cond_true,aN (by omega) (by omega),cond_true,cond_true,cond_true,Int.toNat_natCast,aq (x:=(i:Int)+1) (by omega) (by omega),ae i,hr,aG,aG,o6]
  split
  ·split<;>rfl
  ·rfl
 ·unfold sQ.l4 sQ.cL
  rw[aF (by omega),cond_false];rfl
theorem Hm(N:Nat){l:aj}(hl:l.length≤100000)(hN:200000≤N)(a b:Int):oz N l a b=some (AL l a b):=by
 unfold oz oz.b AL
 rw[xZ N hl hN,Option.bind_some,cond_not]
 have:=rO l a7 (fun n i=>oz.l4 N n l a b i) (fun t=>some (jV a b t)) (fun n i hi hr=> ?_) (fun n=> ?_) N (by omega)
 ·rw[this];cases fx l<;>rfl
 ·unfold oz.l4 oz.cL
  rw[aK (by omega),cond_true,aN (by omega) (by omega),cond_true,cond_true,cond_true,Int.toNat_natCast,aq (x:=(i:Int)+1) (by omega) (by omega),ae i,hr,aG,aG,o6]
  split
  ·split<;>rfl
  ·rfl
 ·unfold oz.l4 oz.cL
  rw[aF (by omega),cond_false];rfl
def kC:aa:=([((0:Int),((100:Int),bO))],((0:Int),((0:Int),((0:Int),((0:Int),((1:Int),((0:Int),())))))))
def kS:aj:=[((0:Int),((0:Int),((5:Int),()))),((2:Int),((0:Int),((-5:Int),())))]
def kM:ax:=[((1:Int),((1:Int),())),((2:Int),((1:Int),()))]
def kA:ay:=[((1:Int),((1:Int),((1:Int),((0:Int),())))),((2:Int),((2:Int),((1:Int),((0:Int),()))))]
def kB:ah:=(kM,(kA,(bh,(kS,([(100:Int)],(cT,()))))))
def kL:aB:=[((3:Int),([((0:Int),((3:Int),()))],((0:Int),((1:Int),bO)))),((4:Int),([((0:Int),((2:Int),()))],((0:Int),((1:Int),bO))))]
def kD:ay:=[((1:Int),((3:Int),((1:Int),((5:Int),())))),((2:Int),((3:Int),((2:Int),((5:Int),()))))]
def kE:ah×aB×Int:=
 ((kM,(kA,([((2:Int),((0:Int),((5:Int),()))),((5:Int),((1:Int),((-5:Int),())))],([((0:Int),((0:Int),((2:Int),()))),((1:Int),((0:Int),((3:Int),()))),((2:Int),((0:Int),((-5:Int),())))],([(100:Int)],(cT,())))))),
  ([((3:Int),([((0:Int),((3:Int),()))],((0:Int),((2:Int),((1:Int),((5:Int),())))))),((4:Int),([((0:Int),((2:Int),()))],((0:Int),((3:Int),bO))))],0))
theorem acP:nC kC kB kL kD=kE:=by kernel_rfl
theorem kB1:ch kD 3=(((1:Int),((3:Int),((1:Int),((5:Int),())))),true):=by decide+kernel
theorem kB2:ch kD 4=(aA,false):=by decide+kernel
theorem QI{l:aj}(h: ∀i,i<l.length→aD (fW (l.getD i a7))):eW l:=fun x hx=>by
 obtain⟨i,hi,e⟩:=List.getElem_of_mem hx
 have:=h i hi
 rw[List.getD_eq_getElem?_getD,List.getElem?_eq_getElem hi]at this
 rw[←e];exact this
theorem kW:B3 kB:=⟨⟨by decide,by decide,by decide,by decide,by decide,by decide,fun x hx=>(nomatch hx),QI (l:=kS) (by decide)⟩,by decide,by decide⟩
theorem kLW:B2 kL:=⟨fun x hx=>by
 have:x.2.1.length=1:=by
  rcases List.mem_cons.1 hx with rfl|hx
  ·rfl
  ·rw[List.mem_singleton.1 hx];rfl
 omega,fun x hx y hy=>by
 rcases List.mem_cons.1 hx with rfl|hx
 ·rw[List.mem_singleton.1 hy];exact⟨by decide,by decide⟩
 ·rw[List.mem_singleton.1 hx]at hy
  rw[List.mem_singleton.1 hy];exact⟨by decide,by decide⟩⟩
theorem XD:sD kE.1.2.2.2.1 1 0=3:=by decide+kernel
theorem XE:sD kE.1.2.2.2.1 0 0=2:=by decide+kernel
theorem acQ:AL kE.1.2.2.1 2 0=5:=by decide+kernel
theorem acR:AL kE.1.2.2.1 5 1= -5:=by decide+kernel
theorem KB(N:Nat)(hN:5000000≤N):F12 N=some true:=by
 unfold F12 F51
 rw[Option.bind_some]
 show(tQ N kD 3).bind _=_
 rw[BZ N (by decide) (by omega),Option.bind_some,kB1]
 show(tQ N kD 4).bind _=_
 rw[BZ N (by decide) (by omega),Option.bind_some,kB2]
 show(ly N kC kB kL kD).bind _=_
 rw[Eh N (by omega) kC kW (by decide) (by decide) kLW,Option.bind_some,acP]
 have h1:sQ N kE.1.2.2.2.1 1 0=some 3:=by rw[w9 N (by decide) (by omega),XD]
 have h2:sQ N kE.1.2.2.2.1 0 0=some 2:=by rw[w9 N (by decide) (by omega),XE]
 have h3:oz N kE.1.2.2.1 2 0=some 5:=by rw[Hm N (by decide) (by omega),acQ]
 have h4:oz N kE.1.2.2.1 5 1=some (-5):=by rw[Hm N (by decide) (by omega),acR]
 rw[h1,h2,h3,h4]
 simp only[Option.bind_some,tU]
 have e1:az kE.2.2 0=true:=cg rfl
 have e2:az (kE.2.1.length:Int) 2=true:=cg rfl
 have e3:aL 0 kE.2.1.length=true:=aN (by decide) (by decide)
 have e4:aL 1 kE.2.1.length=true:=aN (by decide) (by decide)
 have e5:az (kE.2.1.getD (0:Int).toNat ((0:Int),(aV,aA))).2.2.2.1 2=true:=cg rfl
 have e6:az (kE.2.1.getD (0:Int).toNat ((0:Int),(aV,aA))).2.2.2.2.1 1=true:=cg rfl
 have e7:az (kE.2.1.getD (0:Int).toNat ((0:Int),(aV,aA))).2.2.2.2.2.1 5=true:=cg rfl
 have e8:az (kE.2.1.getD (1:Int).toNat ((0:Int),(aV,aA))).2.2.2.1 3=true:=cg rfl
 simp only[e1,e2,e3,e4,e5,e6,e7,e8,cond_true,Bool.not_false]
namespace Pure
end Pure
end VM
end
section
namespace VM
open Go VM.F
theorem yx{l:aj}(h:eW l)(a b:Int):aD (jV a b l):=by
 induction l with
 |nil=>show aD 0;decide
 |cons x t ih=>
  have ih:=ih (fun y hy=>h y (List.mem_cons_of_mem _ hy))
  rw[o6]
  split
  ·split
   ·exact h x (List.mem_cons_self ..)
   ·exact ih
  ·exact ih
theorem Ns{l:aj}(h:eW l)(a b:Int):aD (AL l a b):=by
 unfold AL
 split
 ·exact yx h a b
 ·exact⟨by decide,by decide⟩
def nS(a:Int):aj→ax
 |[]=>[]
 |x::t=>if x.1=a then(x.2.1,(x.2.2.1,()))::nS a t else nS a t
theorem qA(a:Int)(x:cy)(t:aj):nS a (x::t)=if x.1=a then(x.2.1,(x.2.2.1,()))::nS a t else nS a t:=rfl
def posOf(l:aj)(a:Int):ax:=if dI l then nS a l else []
theorem yz(a:Int): ∀l:aj,(nS a l).length≤l.length
 |[]=>Nat.le_refl _
 |x::t=>by
  have:=yz a t
  rw[qA,List.length_cons]
  split
  ·rw[List.length_cons];omega
  ·omega
theorem KC(a:Int)(l:aj):(posOf l a).length≤l.length:=by
 unfold posOf
 split
 ·exact yz a l
 ·exact Nat.zero_le _
theorem o7{a:Int}{y:Kg}: ∀{l:aj},y∈nS a l→ ∃x∈l,x.1=a∧y=(x.2.1,(x.2.2.1,()))
 |[],h=>nomatch h
 |x::t,h=>by
  rw[qA]at h
  by_cases e:x.1=a
  ·rw[if_pos e]at h
   rcases List.mem_cons.1 h with h|h
   ·exact⟨x,List.mem_cons_self ..,e,h⟩
   ·obtain⟨x',hx,h'⟩:=o7 h
    exact⟨x',List.mem_cons_of_mem _ hx,h'⟩
  ·rw[if_neg e]at h
   obtain⟨x',hx,h'⟩:=o7 h
   exact⟨x',List.mem_cons_of_mem _ hx,h'⟩
theorem Nt(N:Nat){l:aj}(hl:l.length≤100000)(hN:200000≤N)(a:Int):rQ N l a=some (posOf l a):=by
 unfold rQ rQ.b posOf
 rw[lN N hl hN,Option.bind_some,cond_not]
 have:=oS l a7 (fun n i s=>rQ.l5 N n l a s i) (fun t s=>some (s++nS a t)) (fun i (s:ax)=>s.length≤i) (fun n i s hi hI hr=> ?_) (fun n s hI=> ?_) l.length N 0 [] (by omega) (by omega) (by omega) (Nat.le_refl _)
 ·have e:rQ.l5 N N l a [] 0=some (nS a l):=this
  rw[e];cases dI l<;>rfl
 ·unfold rQ.l5 rQ.dd
  rw[aK (by omega),cond_true,aN (by omega) (by omega),cond_true,cond_true,cond_true,Int.toNat_natCast,aq (x:=(i:Int)+1) (by omega) (by omega),ae i,aG,bB (by rw[List.length_singleton];omega),cond_true,qA]
  split
  ·rw[hr _ (by rw[List.length_append,List.length_singleton];omega),List.append_assoc];rfl
  ·exact hr s (by omega)
 ·unfold rQ.l5 rQ.dd
  rw[aF (by omega),cond_false]
  show some s=some (s++[])
  rw[List.append_nil]
def B4(a n:Int):Prop:=0≤a∧a<n
end VM
end
section
namespace VM
open Go VM.F
end VM
end
section
namespace VM
open Go VM.F
def jW(p:Int):Prop:=1≤p∧p≤1000000000000
instance(p:Int):Decidable (jW p):=by unfold jW;infer_instance
theorem Hn(N:Nat)(p:Int):wD N p=some (decide (jW p)):=(iz N p).trans (congrArg some (decide_eq_decide.2 Iff.rfl))
def jf(a b c d e:Int):Prop:=(0≤a∧a≤24)∧(0≤b∧b≤24)∧a≠b∧(0≤c∧c<6)∧(1≤d∧d≤1000000000)∧jW e
instance(a b c d e:Int):Decidable (jf a b c d e):=by unfold jf;infer_instance
def q9(t:tV):Prop:=jf t.1 t.2.1 t.2.2.1 t.2.2.2.1 t.2.2.2.2.1
instance:DecidablePred q9:=fun t=>by unfold q9;infer_instance
theorem Ei(a b c d e:Int):cond (bS 0 a) (cond (bS a 24) (cond (bS 0 b) (cond (bS b 24) (cond (!az a b) (cond (bS 0 c) (cond (aM c 6) (cond (bS 1 d) (cond (bS d 1000000000) (some (decide (jW e))) (some false)) (some false)) (some false)) (some false)) (some false)) (some false)) (some false)) (some false)) (some false)=some (decide (jf a b c d e)):=by
 simp only[bH,cond_not,aG,bX]
 by_cases hP:jf a b c d e
 ·have hp:=hP.2.2.2.2.2
  rw[decide_eq_true hP,decide_eq_true hp]
  unfold jf at hP
  repeat' split
  all_goals first|rfl|omega
 ·rw[decide_eq_false hP]
  by_cases hp:jW e
  ·unfold jf at hP
   repeat' split
   all_goals first|rfl|(exact absurd ⟨by omega,by omega,by omega,by omega,by omega,hp⟩ hP)
  ·rw[decide_eq_false hp]
   repeat' split
   all_goals rfl
theorem AN(N:Nat)(t:tV):Nu N t=some (decide (q9 t)):=by
 unfold Nu
 rw[Hn,Option.bind_some]
 exact Ei _ _ _ _ _
theorem gT{c:aa}{b:ah}(h:dT c b=true):b.2.2.2.2.1.length=c.1.length∧fY b.2.2.2.2.1=true:=by
 unfold dT at h
 simp only[Bool.and_eq_true]at h
 have h1:=of_decide_eq_true h.2.2.2.2.2.2.1
 unfold fH at h1
 exact⟨by omega,h.2.2.2.2.2.2.2.2.2.2⟩
end VM
end
section
namespace VM
open Go VM.F
theorem Ej{l:List Int}(h:fY l=true){i:Nat}(hi:i<l.length):jW (l.getD i 0):=of_decide_eq_true h i hi
end VM
end
section
namespace VM
open Go VM.F
theorem o8{c:aa}{b:ah}(h:dT c b=true):fv c=true:=by
 unfold dT at h
 exact(Bool.and_eq_true_iff.1 h).1
def jg(k:Int):Nat→ay→List Int
 |_,[]=>[]
 |i,x::t=>if x.1=k then(i:Int)::jg k (i+1) t else jg k (i+1) t
theorem tW(k:Int)(i:Nat)(x:bp)(t:ay):jg k i (x::t)=if x.1=k then(i:Int)::jg k (i+1) t else jg k (i+1) t:=rfl
def eO(c:aa)(k:Int):List Int:=if fv c then jg k 0 c.1 else []
theorem Ho(N:Nat)(hN:200000≤N)(c:aa)(hl:c.1.length≤100000)(k:Int):vO N c k=some (eO c k):=by
 unfold vO vO.b eO
 rw[mj N (by omega),Option.bind_some,cond_not]
 have:=oS c.1 aA (fun n i s=>vO.l5 N n k c s i) (fun t s=>some (s++jg k (c.1.length-t.length) t)) (fun i (s:List Int)=>s.length≤i) (fun n i s hi hI hr=> ?_) (fun n s hI=> ?_) c.1.length N 0 [] (by omega) (by omega) (by omega) (Nat.le_refl _)
 ·have e:vO.l5 N N k c [] 0=some (jg k 0 c.1):=by
   refine this.trans ?_
   rw[List.drop_zero,Nat.sub_self];rfl
  rw[e];cases fv c<;>rfl
 ·unfold vO.l5 vO.dd
  have e1:c.1.length-(c.1.getD i aA::c.1.drop (i+1)).length=i:=by rw[List.length_cons,List.length_drop];omega
  have e2:c.1.length-(c.1.drop (i+1)).length=i+1:=by rw[List.length_drop];omega
  rw[e2]at hr
  rw[aK (by omega),cond_true,aN (by omega) (by omega),cond_true,Int.toNat_natCast,aq (x:=(i:Int)+1) (by omega) (by omega),ae i,aG,bB (by rw[List.length_singleton];omega),cond_true,e1,tW]
  split
  ·rw[hr _ (by rw[List.length_append,List.length_singleton];omega),List.append_assoc];rfl
  ·exact hr s (by omega)
 ·unfold vO.l5 vO.dd
  rw[aF (by omega),cond_false]
  show some s=some (s++[])
  rw[List.append_nil]
theorem vP{c:aa}(h:fv c=true):c.1.length≤6∧ ∀i,i<c.1.length→0≤(c.1.getD i aA).1∧(c.1.getD i aA).1≤3:=by
 unfold fv at h
 simp only[Bool.and_eq_true]at h
 have h1:=of_decide_eq_true h.1
 have h2:=of_decide_eq_true h.2.1
 exact⟨h1.2,fun i hi=>(h2 i hi).1⟩
theorem Nv{l:aj}(h:eW l)(a b:Int):aD (sD l a b):=by
 unfold sD
 cases dI l
 ·show aD 0;decide
 ·exact yx h a b
end VM
end
section
namespace VM
open Go VM.F
end VM
end
section
namespace VM
open Go VM.F
end VM
end
section
namespace VM
open Go VM.F
def tX(l:List Int)(k:Int):Int:=l.getD k.toNat 0
def ins(l:List Int):List Int→Int→List Int
 |[],i=>[i]
 |k::t,i=>if tX l i≤tX l k then k::ins l t i else i::k::t
def dh(l:List Int):Nat→List Int
 |0=>[]
 |n+1=>ins l (dh l n) n
def ga(l:List Int):List Int:=dh l l.length
def rR(l:List Int)(a b:Int):Prop:=tX l b<tX l a∨(tX l b=tX l a∧a<b)
theorem I9(l:List Int): ∀(o:List Int) (i:Int),(ins l o i).length=o.length+1
 |[],i=>rfl
 |k::t,i=>by unfold ins;split<;>simp[I9 l t i]
theorem nE(l:List Int): ∀n,(dh l n).length=n
 |0=>rfl
 |n+1=>by unfold dh;rw[I9,nE l n]
theorem sE(l:List Int):(ga l).length=l.length:=nE l _
theorem B5(l:List Int){x:Int}: ∀{o:List Int} {i:Int},x∈ins l o i↔x=i∨x∈o
 |[],i=>by simp[ins]
 |k::t,i=>by
  unfold ins;split
  ·rw[List.mem_cons,B5 l,List.mem_cons]
   exact⟨fun h=>h.elim (fun h=> .inr (.inl h)) (fun h=>h.elim .inl (fun h=> .inr (.inr h))),fun h=>h.elim (fun h=> .inr (.inl h)) (fun h=>h.elim .inl (fun h=> .inr (.inr h)))⟩
  ·rw[List.mem_cons]
theorem nF(l:List Int){x:Int}: ∀{n:Nat},x∈dh l n↔0≤x∧x<n
 |0=>⟨(fun h=>nomatch h),fun h=>absurd h.1 (by omega)⟩
 |n+1=>by unfold dh;rw[B5,nF l];omega
theorem tY(l:List Int): ∀{o:List Int} {i:Int},o.Pairwise (rR l)→(∀x∈o,x<i)→(ins l o i).Pairwise (rR l)
 |[],i,_,_=>List.pairwise_singleton _ _
 |k::t,i,h,hi=>by
  rw[List.pairwise_cons]at h
  have hk:k<i:=hi k (List.mem_cons_self ..)
  unfold ins;split
  ·rename_i hle
   rw[List.pairwise_cons]
   refine⟨fun x hx=> ?_,tY l h.2 (fun x hx=>hi x (List.mem_cons_of_mem _ hx))⟩
   rcases(B5 l).1 hx with rfl|hx
   ·unfold rR;omega
   ·exact h.1 x hx
  ·rename_i hle
   rw[List.pairwise_cons,List.pairwise_cons]
   refine⟨fun x hx=> ?_,h.1,h.2⟩
   rcases List.mem_cons.1 hx with rfl|hx
   ·unfold rR;omega
   ·have:=h.1 x hx;unfold rR at*;omega
theorem jL(l:List Int): ∀n,(dh l n).Pairwise (rR l)
 |0=>List.Pairwise.nil
 |n+1=>by unfold dh;exact tY l (jL l n) (fun x hx=>((nF l).1 hx).2)
theorem Nw(l:List Int): ∀(o:List Int) (i:Int) (p:Nat),p≤o.length→(∀j,j<p→tX l i≤tX l (o.getD j 0))→(p<o.length→tX l (o.getD p 0)<tX l i)→ins l o i=o.take p++i::o.drop p
 |[],i,p,hp,_,_=>by simp at hp;subst hp;rfl
 |k::t,i,0,hp,_,h=>by
  unfold ins;rw[if_neg (by have:=h (by simp);simp at this;omega)];rfl
 |k::t,i,p+1,hp,h0,h=>by
  unfold ins
  have h1:tX l i≤tX l k:=h0 0 (by omega)
  rw[if_pos h1,Nw l t i p (by simpa using hp) (fun j hj=>by have:=h0 (j+1) (by omega);simpa using this) (fun Ip=>by have:=h (by simpa using Ip);simpa using this)]
  rfl
theorem Ja(l:List Int)(f:Int→Int): ∀(o:List Int) (i:Int),((ins l o i).map f).sum=(o.map f).sum+f i
 |[],i=>by simp[ins]
 |k::t,i=>by
  unfold ins;split
  ·rw[List.map_cons,List.sum_cons,Ja l f t i,List.map_cons,List.sum_cons];omega
  ·simp only[List.map_cons,List.sum_cons];omega
theorem vQ(l r:List Int): ∀n,n≤r.length→((dh l n).map (tX r)).sum=(r.take n).sum
 |0,_=>rfl
 |n+1,h=>by
  unfold dh;rw[Ja,vQ l r n (by omega),gR r (by omega)]
  unfold tX;rw[Int.toNat_natCast]
theorem Hp(l r:List Int)(h:l.length=r.length):((ga l).map (tX r)).sum=r.sum:=by
 unfold ga;rw[vQ l r _ (by omega),List.take_of_length_le (by omega)]
theorem yA{o:List Int}{j:Nat}(h:j<o.length):o.getD j 0∈o:=by
 rw[List.getD_eq_getElem?_getD,List.getElem?_eq_getElem h];exact List.getElem_mem h
theorem Hr{l:List Int}{n j:Nat}(h:j<n):0≤(dh l n).getD j 0∧(dh l n).getD j 0<n:=by
 exact(nF l).1 (yA (by rw[nE];exact h))
theorem AO(N:Nat)(K:List Int→List Int→Int→Option (List Int)){l:List Int}(hl:l.length≤100000)(i:Nat)(hi:i<l.length): ∀(m n p:Nat),i-p≤m→m<n→p≤i→(∀j,j<p→tX l i≤tX l ((dh l i).getD j 0))→
  de.l6 N K n l (dh l i) (i:Int) (p:Int)=K l (dh l (i+1)) ((i+1:Nat):Int)
 |m,0,p,_,hn,_,_=>by omega
 |m,n+1,p,hm,hn,hp,h=>by
  have hlen:=nE l i
  have fin: ∀h2:(p<i→tX l ((dh l i).getD p 0)<tX l i),de.j8 N K l (dh l i) (i:Int) (p:Int)=K l (dh l (i+1)) ((i+1:Nat):Int):=fun h2=>by
   have e:=Nw l (dh l i) i p (by omega) h (fun h3=>h2 (by omega))
   unfold de.j8 de.Hk
   dsimp only
   rw[cj (by omega) (by omega) (by omega) (by omega),cond_true,Int.toNat_natCast,Int.toNat_natCast,Int.toNat_zero,List.drop_zero]
   rw[bB (by rw[List.length_take];omega),cond_true,bB (by rw[List.length_take];simp only[List.length_singleton];omega),cond_true,cj (by omega) (by omega) (by omega) (by omega),cond_true,bB (by simp only[List.length_append,List.length_take,List.length_drop,List.length_singleton];omega),cond_true,aq (by omega) (by omega),List.take_length,List.append_assoc,List.singleton_append,←e]
   rfl
  unfold de.l6 de.n4
  by_cases hpi:p<i
  ·have hr:=Hr (l:=l) (n:=i) (j:=p) hpi
   rw[aK (by omega),cond_true,aN (by omega) (by omega),cond_true,Int.toNat_natCast,Int.toNat_natCast,aN (by omega) (by omega),cond_true,aN (by omega) (by omega),cond_true]
   by_cases h3:l.getD i 0≤l.getD ((dh l i).getD p 0).toNat 0
   ·rw[du h3,cond_true,aq (by omega) (by omega)]
    refine AO N K hl i hi (m-1) n (p+1) (by omega) (by omega) (by omega) (fun j hj=> ?_)
    by_cases hjp:j=p
    ·rw[hjp];unfold tX;rw[Int.toNat_natCast];exact h3
    ·exact h j (by omega)
   ·rw[dv (by omega),cond_false]
    exact fin (fun _=>by unfold tX;rw[Int.toNat_natCast];omega)
  ·rw[aF (by omega),cond_false]
   exact fin (fun h=>absurd h hpi)
theorem yB(N:Nat){l:List Int}(hl:l.length≤100000)(hN:l.length<N): ∀(m n i:Nat),l.length-i≤m→m<n→i≤l.length→
  de.l3 N n l (dh l i) (i:Int)=some (ga l)
 |m,0,i,_,hn,_=>by omega
 |m,n+1,i,hm,hn,hi=>by
  unfold de.l3 de.iE
  by_cases h:i<l.length
  ·have:=AO N (de.l3 N n) hl i h i N 0 (by omega) (by omega) (by omega) (fun j hj=>by omega)
   rw[aK (by omega),cond_true]
   refine Eq.trans this ?_
   exact yB N hl hN (m-1) n (i+1) (by omega) (by omega) (by omega)
  ·rw[aF (by omega),cond_false,show i=l.length by omega];rfl
theorem KD(N:Nat){l:List Int}(hl:l.length≤100000)(hN:l.length<N):de N l=some (ga l):=by
 unfold de de.b
 exact yB N hl hN l.length N 0 (by omega) (by omega) (by omega)
end VM
end
section
namespace VM
open Go VM.F
def B6(l:List Int):Prop:= ∀x∈l,-9223372036854775808≤x∧x<9223372036854775808
def Pos(l:List Int):Prop:= ∀x∈l,0≤x
def may(w:List Int):Bool:=decide (w.length≤64)&&w.all (fun x=>decide (0≤x))
theorem jX{w:List Int}:may w=true↔w.length≤64∧Pos w:=by
 unfold may Pos;rw[Bool.and_eq_true,decide_eq_true_iff,List.all_eq_true]
 simp only[decide_eq_true_iff]
theorem yC(N:Nat){l:List Int}(hl:l.length≤1000000): ∀(m n i:Nat),l.length-i≤m→m<n→i≤l.length→ ∃r,kT.l4 N n l (i:Int)=some r∧(r=true↔ ∃x∈l.drop i,x<0)
 |m,0,i,_,hn,_=>by omega
 |m,n+1,i,hm,hn,hi=>by
  unfold kT.l4 kT.cL
  by_cases h:i<l.length
  ·have hd:l.drop i=l.getD i 0::l.drop (i+1):=by
    rw[List.drop_eq_getElem_cons h,List.getD_eq_getElem?_getD,List.getElem?_eq_getElem h];rfl
   rw[aK (by omega),cond_true,aN (by omega) (by omega),cond_true,Int.toNat_natCast,hd]
   by_cases hx:l.getD i 0<0
   ·rw[aK hx,cond_true]
    exact⟨_,rfl,fun _=>⟨_,List.mem_cons_self ..,hx⟩,fun _=>rfl⟩
   ·rw[aF (by omega),cond_false,aq (by omega) (by omega)]
    obtain⟨r,e,h1⟩:=yC N hl (m-1) n (i+1) (by omega) (by omega) (by omega)
    refine⟨r,e,h1.trans ⟨fun⟨x,P6,hx2⟩=>⟨x,List.mem_cons_of_mem _ P6,hx2⟩,fun⟨x,P6,hx2⟩=> ?_⟩⟩
    rcases List.mem_cons.1 P6 with rfl|P6
    ·exact absurd hx2 hx
    ·exact⟨x,P6,hx2⟩
  ·rw[aF (by omega),cond_false,List.drop_eq_nil_of_le (by omega)]
   exact⟨_,rfl,(fun h=>nomatch h),fun⟨x,hx,_⟩=>nomatch hx⟩
theorem yD(N:Nat){w:List Int}(hN:100≤N)(t:Int):kT N t w=some (decide (t<0)|| !may w):=by
 unfold kT kT.b
 by_cases ht:t<0
 ·rw[aK ht,cond_true,decide_eq_true ht];rfl
 rw[aF (by omega),cond_false,decide_eq_false ht,Bool.false_or]
 by_cases h:w.length≤64
 ·rw[aF (by omega),cond_false]
  obtain⟨r,e,hr⟩:=yC N (l:=w) (by omega) w.length N 0 (by omega) (by omega) (by omega)
  rw[List.drop_zero]at hr
  rw[show((0:Nat):Int)=0 from rfl]at e
  rw[e]
  congr 1
  rw[Bool.eq_iff_iff,hr,Bool.not_eq_true',Bool.eq_false_iff,Ne,jX]
  constructor
  ·rintro⟨x,hx,PU⟩ h;have:=h.2 x hx;omega
  ·intro h1
   by_cases h2: ∃x∈w,x<0
   ·exact h2
   ·exact absurd ⟨h,fun x hx=>by
     by_cases PU:x<0
     ·exact absurd ⟨x,hx,PU⟩ h2
     ·omega⟩ h1
 ·rw[aK (by omega),cond_true]
  have:may w=false:=by
   rw[Bool.eq_false_iff];intro hm;exact h (jX.1 hm).1
  rw[this];rfl
def bump(q:List Int):List Int→List Int
 |[]=>q
 |k::t=>bump (q.set k.toNat (q.getD k.toNat 0+1)) t
def m2(t S:Int)(w:List Int):List Int:=w.map fun x=>t*x/S
def gI(t S:Int)(w:List Int):List Int:=w.map fun x=>t*x%S
def a8(t:Int)(w:List Int):List Int:=
 bump (m2 t w.sum w) ((ga (gI t w.sum w)).take (t-(m2 t w.sum w).sum).toNat)
def mq(t:Int)(w:List Int):List Int×Int:=
 if t<0∨may w=false then([],1)else if 9223372036854775808≤w.sum then([],2)
 else if w.sum=0 then(if t=0 then(List.replicate w.length 0,0)else([],1))else(a8 t w,0)
theorem Ek: ∀(ks q:List Int),(bump q ks).length=q.length
 |[],q=>rfl
 |k::t,q=>by unfold bump;rw[Ek t];simp
theorem B7: ∀(q:List Int) (k:Nat) (x:Int),k<q.length→(q.set k x).sum=q.sum-q.getD k 0+x
 |[],k,x,h=>absurd h (by simp)
 |a::q,0,x,h=>by simp;omega
 |a::q,k+1,x,h=>by
  have:=B7 q k x (by simpa using h)
  simp[this];omega
theorem fC: ∀{q:List Int},Pos q→0≤q.sum
 |[],_=>by simp
 |a::q,h=>by
  have:=fC (q:=q) (fun x hx=>h x (List.mem_cons_of_mem _ hx))
  have:=h a (List.mem_cons_self ..)
  rw[List.sum_cons];omega
theorem sF: ∀{q:List Int},Pos q→ ∀i,q.getD i 0≤q.sum
 |[],_,i=>by simp
 |a::q,h,0=>by
  have:=fC (q:=q) (fun x hx=>h x (List.mem_cons_of_mem _ hx))
  rw[List.sum_cons];simp;omega
 |a::q,h,i+1=>by
  have:=sF (q:=q) (fun x hx=>h x (List.mem_cons_of_mem _ hx)) i
  have:=h a (List.mem_cons_self ..)
  rw[List.sum_cons];simp;simp at*;omega
theorem eP{q:List Int}(h:Pos q)(i:Nat):0≤q.getD i 0:=by
 by_cases hi:i<q.length
 ·exact h _ (yA hi)
 ·rw[oQ q (by omega)];omega
theorem QJ{q:List Int}(h:Pos q){x:Int}(hx:0≤x)(k:Nat):Pos (q.set k x):=fun y hy=>by
 rcases List.mem_or_eq_of_mem_set hy with hy|rfl
 ·exact h y hy
 ·exact hx
theorem El{q:List Int}(h:Pos q)(n:Nat):Pos (q.take n):=fun x hx=>h x (List.mem_of_mem_take hx)
theorem Em: ∀(ks q:List Int),(∀k∈ks,0≤k∧k<q.length)→(bump q ks).sum=q.sum+ks.length
 |[],q,_=>by simp[bump]
 |k::t,q,h=>by
  have hk:=h k (List.mem_cons_self ..)
  unfold bump
  rw[Em t _ (fun x hx=>by rw[List.length_set];exact h x (List.mem_cons_of_mem _ hx)),B7 q _ _ (by omega),List.length_cons];omega
theorem qB(t S:Int)(w:List Int):(m2 t S w).length=w.length:=by unfold m2;rw[List.length_map]
theorem kt(t S:Int)(w:List Int):(gI t S w).length=w.length:=by unfold gI;rw[List.length_map]
theorem Jb{t S:Int}{w:List Int}(i:Nat):(m2 t S w).getD i 0=t*w.getD i 0/S:=by
 unfold m2
 by_cases h:i<w.length
 ·rw[List.getD_eq_getElem?_getD,List.getElem?_map,List.getElem?_eq_getElem h,List.getD_eq_getElem?_getD,List.getElem?_eq_getElem h];rfl
 ·rw[oQ _ (by rw[List.length_map];omega),oQ w (by omega)];simp
theorem Jc{t S:Int}{w:List Int}(i:Nat):(gI t S w).getD i 0=t*w.getD i 0%S:=by
 unfold gI
 by_cases h:i<w.length
 ·rw[List.getD_eq_getElem?_getD,List.getElem?_map,List.getElem?_eq_getElem h,List.getD_eq_getElem?_getD,List.getElem?_eq_getElem h];rfl
 ·rw[oQ _ (by rw[List.length_map];omega),oQ w (by omega)];simp
theorem yE{t S:Int}{w:List Int}(ht:0≤t)(hS:0≤S)(hw:Pos w):Pos (m2 t S w):=fun x hx=>by
 obtain⟨y,hy,rfl⟩:=List.mem_map.1 hx
 exact Int.ediv_nonneg (Int.mul_nonneg ht (hw y hy)) hS
theorem En{t S:Int}{w:List Int}(hS:0<S):Pos (gI t S w):=fun x hx=>by
 obtain⟨y,hy,rfl⟩:=List.mem_map.1 hx
 exact Int.emod_nonneg _ (by omega)
theorem B8(t S:Int): ∀w:List Int,S*(m2 t S w).sum+(gI t S w).sum=t*w.sum
 |[]=>by simp[m2,gI]
 |x::w=>by
  have h:=B8 t S w
  have e:=Int.mul_ediv_add_emod (t*x) S
  unfold m2 gI at*
  simp only[List.map_cons,List.sum_cons,Int.mul_add]
  omega
theorem Nx{t S:Int}{w:List Int}(ht:0≤t)(hS:0<S)(h:w.sum≤S):(m2 t S w).sum≤t:=by
 have e:=B8 t S w
 have h1:=fC (En (t:=t) (w:=w) hS)
 have h2:=Int.mul_le_mul_of_nonneg_left h ht
 have h3:S*(m2 t S w).sum≤S*t:=by rw[Int.mul_comm S t];omega
 exact Int.le_of_mul_le_mul_left h3 hS
theorem vR{w:List Int}(h:Pos w)(i:Nat):(w.take i).sum≤w.sum:=by
 have e:w.take i++w.drop i=w:=List.take_append_drop i w
 have h1:(w.take i).sum+(w.drop i).sum=w.sum:=by rw[←List.sum_append,e]
 have:=fC (q:=w.drop i) (fun x hx=>h x (List.mem_of_mem_drop hx))
 omega
theorem AP(t S:Int)(w:List Int)(i:Nat):(m2 t S w).take i=m2 t S (w.take i):=by unfold m2;rw[List.map_take]
theorem yF(N:Nat){ks:List Int}(hl:ks.length≤1000000)(L:Nat)(hk: ∀k∈ks,0≤k∧k<L): ∀(m n i left:Nat) (q:List Int),ks.length-i≤m→m<n→i≤ks.length→q.length=L→Pos q→left≤9223372036854775807→q.sum+left≤9223372036854775807→
  dn.rA N n q (left:Int) ks (i:Int)=some (bump q ((ks.drop i).take left),0)
 |m,0,i,left,q,_,hn,_,_,_,_,_=>by omega
 |m,n+1,i,left,q,hm,hn,hi,hq,hp,hle,hs=>by
  unfold dn.rA dn.qu
  by_cases h:i<ks.length
  ·have hd:ks.drop i=ks.getD i 0::ks.drop (i+1):=by
    rw[List.drop_eq_getElem_cons h,List.getD_eq_getElem?_getD,List.getElem?_eq_getElem h];rfl
   have xA:=hk _ (yA h)
   rw[aK (by omega),cond_true]
   match left,hle,hs with
   |0,hle,hs=>rw[aF (by omega),cond_false,List.take_zero];rfl
   |left+1,hle,hs=>
    rw[aK (by omega),cond_true,aN (by omega) (by omega),cond_true,Int.toNat_natCast,aN (by omega) (by omega),cond_true,cond_true,hd]
    have h1:=sF hp (ks.getD i 0).toNat
    have h2:=eP hp (ks.getD i 0).toNat
    rw[aq (x:=q.getD _ 0+1) (by omega) (by omega),aq (x:=(i:Int)+1) (by omega) (by omega),aq (by omega) (by omega),show((left+1:Nat):Int)-1=(left:Int)by omega]
    refine(yF N hl L hk (m-1) n (i+1) left _ (by omega) (by omega) (by omega) (by rw[List.length_set];exact hq) (QJ hp (by omega) _) (by omega) ?_).trans rfl
    rw[B7 q _ _ (by omega)];omega
  ·rw[aF (by omega),cond_false,List.drop_eq_nil_of_le (by omega),List.take_nil];rfl
theorem yG(l:List Int): ∀k∈ga l,0≤k∧k<l.length:=fun k hk=>(nF l).1 hk
theorem take_set(l:List Int){i:Nat}(x:Int)(h:i<l.length):(l.set i x).take (i+1)=l.take i++[x]:=by
 rw[eA (l.set i x) (by rw[List.length_set];exact h),iv l x h,List.take_set_of_le (by omega)]
theorem B9{v:Int}(h0: -9223372036854775808≤v)(h1:v<9223372036854775808):zN v=(v,true):=by unfold zN;rw[if_pos ⟨h0,h1⟩]
end VM
end
section
namespace VM
open Go VM.F
theorem ku{a b:List Int}(hl:a.length=b.length)(h: ∀i,i<a.length→a.getD i 0=b.getD i 0):a=b:=by
 refine List.ext_getElem hl (fun i h1 h2=> ?_)
 have:=h i h1
 rwa [List.getD_eq_getElem?_getD,List.getElem?_eq_getElem h1,List.getD_eq_getElem?_getD,List.getElem?_eq_getElem h2]at this
theorem Jd: ∀(ks q:List Int) (i:Nat),ks.Nodup→(∀k∈ks,0≤k∧k<q.length)→(bump q ks).getD i 0=q.getD i 0+(if(i:Int)∈ks then 1 else 0)
 |[],q,i,_,_=>by simp[bump]
 |k::t,q,i,hn,h=>by
  have hk:=h k (List.mem_cons_self ..)
  rw[List.nodup_cons]at hn
  unfold bump
  rw[Jd t _ i hn.2 (fun x hx=>by rw[List.length_set];exact h x (List.mem_cons_of_mem _ hx))]
  by_cases hik:(i:Int)=k
  ·rw[if_neg (by rw[hik];exact hn.1),if_pos (by rw[hik];exact List.mem_cons_self ..),←hik,Int.toNat_natCast,iv q _ (by omega)];omega
  ·rw[getD_set_ne q _ (by omega)]
   by_cases ht:(i:Int)∈t
   ·rw[if_pos ht,if_pos (List.mem_cons_of_mem _ ht)]
   ·rw[if_neg ht,if_neg (fun hc=>by rcases List.mem_cons.1 hc with hc|hc;exact hik hc;exact ht hc)]
theorem Eo(l:List Int):(ga l).Nodup:=(jL l l.length).imp (fun{a b} h he=>by unfold rR at h;rw[he]at h;omega)
theorem Je(t S:Int)(hS:0<S): ∀u:List Int,(gI t S u).sum≤u.length*S
 |[]=>by simp[gI]
 |x::u=>by
  have ih:=Je t S hS u
  have:=Int.emod_lt_of_pos (t*x) hS
  unfold gI at*
  rw[List.map_cons,List.sum_cons,List.length_cons,Int.natCast_add,Int.add_mul];simp;omega
def iB(t:Int)(w:List Int):Int:=t-(m2 t w.sum w).sum
theorem left_eq(t:Int)(w:List Int):w.sum*iB t w=(gI t w.sum w).sum:=by
 have:=B8 t w.sum w
 unfold iB;rw[Int.mul_sub,Int.mul_comm w.sum t];omega
theorem yH{t:Int}{w:List Int}(ht:0≤t)(hS:0<w.sum):0≤iB t w:=by
 have:=Nx ht hS (Int.le_refl _);unfold iB;omega
theorem Jf{t:Int}{w:List Int}(hS:0<w.sum):iB t w≤w.length:=by
 have h1:=left_eq t w
 have h2:=Je t w.sum hS w
 rw[←h1,Int.mul_comm (w.length:Int)]at h2
 exact Int.le_of_mul_le_mul_left h2 hS
theorem jM(t:Int)(w:List Int):(a8 t w).length=w.length:=by unfold a8;rw[Ek,qB]
theorem o9{t:Int}{w:List Int}(ht:0≤t)(hS:0<w.sum):(a8 t w).sum=t:=by
 unfold a8
 have h1:=yH ht hS
 have h2:=Jf (t:=t) hS
 unfold iB at*
 rw[Em _ _ (fun k hk=>by have:=yG _ k (List.mem_of_mem_take hk);rw[kt]at this;rwa [qB]),List.length_take,sE,kt]
 omega
theorem sG{f:Int→Int}{c:Int}: ∀{o:List Int},(∀x∈o,f x≤c)→(o.map f).sum≤o.length*c
 |[],_=>by simp
 |x::o,h=>by
  have ih:=sG (f:=f) (c:=c) (o:=o) (fun y hy=>h y (List.mem_cons_of_mem _ hy))
  have:=h x (List.mem_cons_self ..)
  rw[List.map_cons,List.sum_cons,List.length_cons,Int.natCast_add,Int.add_mul];simp;omega
theorem Hs{l o:List Int}(h:o.Pairwise (rR l)){m:Nat}{x y:Int}(hx:x∈o.take m)(hy:y∈o.drop m):rR l x y:=by
 rw[←List.take_append_drop m o,List.pairwise_append]at h
 exact h.2.2 x hx y hy
theorem KE{t:Int}{w:List Int}(ht:0≤t)(hS:0<w.sum){i:Int}(hi:i∈(ga (gI t w.sum w)).take (iB t w).toNat):0<tX (gI t w.sum w) i:=by
 have GM: ∀k:Int,0≤tX (gI t w.sum w) k:=fun k=>eP (En hS) _
 have dF: ∀k:Int,tX (gI t w.sum w) k≤w.sum-1:=fun k=>by
  unfold tX;rw[Jc]
  have:=Int.emod_lt_of_pos (t*w.getD k.toNat 0) hS;omega
 have h0:=GM i
 rcases Int.lt_or_le 0 (tX (gI t w.sum w) i)with h|h
 ·exact h
 exfalso
 have acT:=Hp (gI t w.sum w) (gI t w.sum w) rfl
 rw[←left_eq]at acT
 have ahZ:=List.take_append_drop (iB t w).toNat (ga (gI t w.sum w))
 rw[←ahZ,List.map_append,List.sum_append]at acT
 have hd:(((ga (gI t w.sum w)).drop (iB t w).toNat).map (tX (gI t w.sum w))).sum≤((ga (gI t w.sum w)).drop (iB t w).toNat).length*0:=sG (fun y hy=>by
  have:=Hs (jL _ _) hi hy
  unfold rR at this;omega)
 have htk:(((ga (gI t w.sum w)).take (iB t w).toNat).map (tX (gI t w.sum w))).sum≤((ga (gI t w.sum w)).take (iB t w).toNat).length*(w.sum-1):=sG (fun y _=>dF y)
 have h1:=yH ht hS
 have h2:=Jf (t:=t) hS
 rw[List.length_take,sE,kt,Nat.min_eq_left (by omega),Int.mul_sub]at htk
 rw[Int.mul_zero]at hd
 have h3:(((iB t w).toNat:Nat):Int)=iB t w:=by omega
 have h4:0<(iB t w).toNat:=by
  rcases Nat.eq_zero_or_pos (iB t w).toNat with h|h
  ·rw[h,List.take_zero]at hi;nomatch hi
  ·exact h
 rw[h3,Int.mul_comm (iB t w)]at htk
 omega
def extra(t:Int)(w:List Int)(i:Nat):Int:=if(i:Int)∈(ga (gI t w.sum w)).take (iB t w).toNat then 1 else 0
theorem AQ(t:Int)(w:List Int)(i:Nat):(a8 t w).getD i 0=t*w.getD i 0/w.sum+extra t w i:=by
 unfold a8
 rw[Jd _ _ i ((Eo _).sublist (List.take_sublist ..)) (fun k hk=>by have:=yG _ k (List.mem_of_mem_take hk);rw[kt]at this;rwa [qB]),Jb]
 rfl
theorem AS(t:Int)(w:List Int)(i:Nat):extra t w i=0∨extra t w i=1:=by unfold extra;split<;>omega
theorem KF{t:Int}{w:List Int}(ht:0≤t)(hS:0<w.sum){i:Nat}(h:extra t w i=1):0<t*w.getD i 0%w.sum:=by
 unfold extra at h
 by_cases hi:(i:Int)∈(ga (gI t w.sum w)).take (iB t w).toNat
 ·have:=KE ht hS hi
  unfold tX at this;rwa [Jc,Int.toNat_natCast]at this
 ·rw[if_neg hi]at h;omega
theorem pa{t:Int}{w:List Int}(ht:0≤t)(hS:0<w.sum)(hw:Pos w):Pos (a8 t w):=fun x hx=>by
 obtain⟨i,hi,rfl⟩:=List.mem_iff_getElem.1 hx
 have:=AQ t w i
 rw[List.getD_eq_getElem?_getD,List.getElem?_eq_getElem hi]at this
 have h1:=AS t w i
 have h2:0≤t*w.getD i 0/w.sum:=Int.ediv_nonneg (Int.mul_nonneg ht (eP hw i)) (by omega)
 simp only[Option.getD_some]at this
 omega
theorem vS{t:Int}{w:List Int}(ht:0≤t)(hS:0<w.sum){i:Nat}(h:w.getD i 0=0):(a8 t w).getD i 0=0:=by
 rw[AQ,h]
 rcases AS t w i with h1|h1
 ·rw[h1];simp
 ·have:=KF ht hS h1
  rw[h]at this;simp at this
end VM
end
section
namespace VM
open Go VM.F
theorem vT(N:Nat)(hN:5000000≤N){t:Int}{w:List Int}(ht:0≤t)(p9:t<9223372036854775808)(hw:w.length≤64)(hp:Pos w)(hS:0<w.sum)(hS1:w.sum<9223372036854775808):
  ∀(m n i:Nat) (q r:List Int),w.length-i≤m→m<n→i≤w.length→q.length=w.length→r.length=w.length→q.take i=m2 t w.sum (w.take i)→r.take i=gI t w.sum (w.take i)→
  dn.AT N n t w (cn w.sum) q r (t-(m2 t w.sum (w.take i)).sum) (i:Int)=some (a8 t w,0)
 |m,0,i,q,r,_,hn,_,_,_,_,_=>by omega
 |m,n+1,i,q,r,hm,hn,hi,hq,hr,eq,er=>by
  unfold dn.AT dn.yI
  by_cases h:i<w.length
  ·have hwi:=eP hp i
   have ah0:=sF hp i
   have hb:=mul_lt ht hwi (show t≤9223372036854775807 by omega) (show w.getD i 0≤9223372036854775807 by omega)
   have hqi:t*w.getD i 0/w.sum≤t:=Int.ediv_le_of_le_mul hS (Int.mul_le_mul_of_nonneg_left ah0 ht)
   have aoE:0≤t*w.getD i 0/w.sum:=Int.ediv_nonneg hb.1 (by omega)
   have hri:=Int.emod_lt_of_pos (t*w.getD i 0) hS
   have aoF:=Int.emod_nonneg (t*w.getD i 0) (show w.sum≠0 by omega)
   have hs0:=Nx ht hS (vR hp i)
   have Iu:=fC (yE ht (by omega:0≤w.sum) (El hp i))
   have ft:Fit t 2:=Fit.i64 (by omega) (by omega)
   have fw:Fit (w.getD i 0) 2:=Fit.i64 (by omega) (by omega)
   have fS:Fit w.sum 2:=Fit.i64 (by omega) (by omega)
   rw[aK (by omega),cond_true,iU N (by omega) (by omega) p9,Option.bind_some,aN (by omega) (by omega),cond_true,Int.toNat_natCast,iU N (by omega) (by omega) (by omega),Option.bind_some,
    DW N (by omega) (ft.mono (by omega)) (fw.mono (by omega)),Option.bind_some,IU N (by omega) hS ((ft.mul fw).mono (by omega)) (fS.mono (by omega)),Option.bind_some]
   dsimp only
   rw[ql,Option.bind_some,B9 (by omega) (by omega),ql,B9 (by omega) (by omega)]
   dsimp only
   rw[Option.bind_some,aN (by omega) (by omega),cond_true,aN (by omega) (by omega),cond_true,List.length_set,aN (by omega) (by omega),cond_true,iv q _ (by omega),aq (x:=(i:Int)+1) (by omega) (by omega),aq (by omega) (by omega)]
   have tw:=vT N hN ht p9 hw hp hS hS1 (m-1) n (i+1) (q.set i (t*w.getD i 0/w.sum)) (r.set i (t*w.getD i 0%w.sum)) (by omega) (by omega) (by omega) (by rw[List.length_set];exact hq) (by rw[List.length_set];exact hr)
    (by rw[take_set q _ (by omega),eq,eA w h];unfold m2;simp)
    (by rw[take_set r _ (by omega),er,eA w h];unfold gI;simp)
   rw[←AP,gR _ (by rw[qB];exact h),Jb,AP]at tw
   rw[Int.sub_sub]
   exact tw
  ·have j2:i=w.length:=by omega
   subst j2
   rw[List.take_of_length_le (by omega),List.take_of_length_le (by omega)]at eq er
   subst eq er
   rw[List.take_of_length_le (by omega)]
   have Iu:=fC (yE ht (by omega:0≤w.sum) hp)
   have h1:=yH ht hS
   unfold iB at h1
   rw[aF (by omega),cond_false,KD N (by rw[kt];omega) (by rw[kt];omega),Option.bind_some]
   have hlen:=sE (gI t w.sum w)
   rw[kt]at hlen
   have sN:=yF N (ks:=ga (gI t w.sum w)) (by omega) w.length (fun k hk=>by have:=yG _ k hk;rwa [kt]at this) 1000 N 0 (t-(m2 t w.sum w).sum).toNat (m2 t w.sum w) (by omega) (by omega) (by omega) (qB ..) (yE ht (by omega) hp) (by omega) (by omega)
   rw[List.drop_zero,Int.toNat_of_nonneg h1]at sN
   exact sN
theorem uY(N:Nat)(hN:5000000≤N){t:Int}{w:List Int}(p9:t<9223372036854775808)(hw:B6 w)(hl:w.length≤1000000):dn N t w=some (mq t w):=by
 unfold dn dn.b mq
 rw[yD N (by omega),Option.bind_some]
 by_cases h1:t<0
 ·rw[decide_eq_true h1,Bool.true_or,cond_true,if_pos (.inl h1)]
 rw[decide_eq_false h1,Bool.false_or]
 cases h2:may w
 ·rw[Bool.not_false,cond_true,if_pos (.inr rfl)]
 rw[Bool.not_true,cond_false,if_neg (by simp[h1]),so N (by omega) hw hl,Option.bind_some,oP,Option.bind_some]
 obtain⟨Ht,hp⟩:=jX.1 h2
 have hS0:=fC hp
 have hj: ∀h: ¬9223372036854775808≤w.sum,dn.j6 N t w (cn w.sum)=if w.sum=0 then some (List.replicate w.length 0,0)else some (a8 t w,0):=fun h=>by
  unfold dn.j6 dn.Lo
  rw[ql,Option.bind_some,B9 (by omega) (by omega),Bool.not_true,cond_false,bG (by omega) (by omega) (by omega),cond_true,cond_true,oP,Option.bind_some,Int.toNat_natCast]
  by_cases h4:w.sum=0
  ·rw[if_pos h4,h4,show qY 0=0 from rfl,cg rfl,cond_true]
  ·rw[if_neg h4,cI (by unfold qY;repeat' split<;>omega),cond_false]
   have:=vT N hN (by omega) p9 Ht hp (by omega) (by omega) w.length N 0 (List.replicate w.length 0) (List.replicate w.length 0) (by omega) (by omega) (by omega) (List.length_replicate ..) (List.length_replicate ..) rfl rfl
   rw[List.take_zero]at this
   simp only[m2,List.map_nil,List.sum_nil,Int.sub_zero]at this
   exact this
 by_cases h3:9223372036854775808≤w.sum
 ·rw[if_pos h3,cI (by unfold qY;repeat' split<;>omega),cond_false]
  unfold dn.j6 dn.Lo
  rw[ql,Option.bind_some];unfold zN;rw[if_neg (by omega)];rfl
 rw[if_neg h3,hj h3]
 by_cases h4:w.sum=0
 ·rw[if_pos h4,if_pos h4,h4,show qY 0=0 from rfl,cg rfl,cond_true]
  by_cases h5:t=0
  ·rw[if_pos h5,cg h5,Bool.not_true,cond_false]
  ·rw[if_neg h5,cI h5,Bool.not_false,cond_true]
 ·rw[if_neg h4,if_neg h4,cI (by unfold qY;repeat' split<;>omega),cond_false]
def AU(t n:Int):List Int×Int:=if t<0∨n<1∨64<n then([],1)else mq t (List.replicate n.toNat 1)
theorem Ny(n:Nat):B6 (List.replicate n 1):=fun x hx=>by rw[List.eq_of_mem_replicate hx];omega
theorem AV(N:Nat)(hN:5000000≤N){t:Int}{k:Nat}(hk:k≤64)(p9:t<9223372036854775808): ∀(m n i:Nat),k-i≤m→m<n→i≤k→
  mu.l5 N n t (k:Int) (List.replicate i 1++List.replicate (k-i) 0) (i:Int)=some (mq t (List.replicate k 1))
 |m,0,i,_,hn,_=>by omega
 |m,n+1,i,hm,hn,hi=>by
  unfold mu.l5 mu.dd
  by_cases h:i<k
  ·rw[aK (by omega),cond_true,aN (by omega) (by simp;omega),cond_true,aq (by omega) (by omega)]
   refine Eq.trans ?_ (AV N hN hk p9 (m-1) n (i+1) (by omega) (by omega) (by omega))
   congr 1
   rw[Int.toNat_natCast,List.set_append_right _ _ (by simp),List.length_replicate,Nat.sub_self,show k-i=(k-(i+1))+1 by omega,List.replicate_succ,List.set_cons_zero,List.replicate_succ',List.append_assoc]
   rfl
  ·rw[aF (by omega),cond_false,show k-i=0 by omega,List.replicate_zero,List.append_nil,show i=k by omega,uY N hN p9 (Ny _) (by rw[List.length_replicate];omega)]
   rfl
theorem Nz(N:Nat)(hN:5000000≤N){t n:Int}(p9:t<9223372036854775808):mu N t n=some (AU t n):=by
 unfold mu mu.b AU
 by_cases h1:t<0
 ·rw[aK h1,cond_true,if_pos (.inl h1)]
 by_cases h2:n<1
 ·rw[aF (by omega),cond_false,aK h2,cond_true,if_pos (.inr (.inl h2))]
 by_cases h3:64<n
 ·rw[aF (by omega),cond_false,aF (by omega),cond_false,aK h3,cond_true,if_pos (.inr (.inr h3))]
 rw[aF (by omega),cond_false,aF (by omega),cond_false,aF (by omega),cond_false,if_neg (by omega),bG (by omega) (by omega) (by omega),cond_true]
 have:=AV N hN (t:=t) (k:=n.toNat) (by omega) p9 n.toNat N 0 (by omega) (by omega) (by omega)
 rw[List.replicate_zero,List.nil_append,Nat.sub_zero,Int.toNat_of_nonneg (by omega)]at this
 exact this
end VM
end
section
namespace VM
open Go VM.F
def yJ(n:Nat)(f:Nat→Int):List Int:=(List.range n).map f
theorem dX(n:Nat)(f:Nat→Int):(yJ n f).length=n:=by unfold yJ;rw[List.length_map,List.length_range]
theorem dU{n:Nat}{f:Nat→Int}{i:Nat}(h:i<n):(yJ n f).getD i 0=f i:=by
 unfold yJ
 rw[List.getD_eq_getElem?_getD,List.getElem?_map,List.getElem?_range h];rfl
theorem Ca(n:Nat)(f:Nat→Int)(i:Nat):(yJ n f).getD i 0=if i<n then f i else 0:=by
 by_cases h:i<n
 ·rw[if_pos h,dU h]
 ·rw[if_neg h,oQ _ (by rw[dX];omega)]
theorem QK{n:Nat}{f:Nat→Int}(h: ∀i,i<n→0≤f i):Pos (yJ n f):=fun x hx=>by
 obtain⟨i,hi,rfl⟩:=List.mem_map.1 hx
 exact h i (List.mem_range.1 hi)
theorem nG{l:List Int}(h: ∀i,i<l.length→0≤l.getD i 0):Pos l:=fun x hx=>by
 obtain⟨i,hi,rfl⟩:=List.mem_iff_getElem.1 hx
 have:=h i hi
 rwa [List.getD_eq_getElem?_getD,List.getElem?_eq_getElem hi]at this
theorem uZ: ∀{a b:List Int},a.length=b.length→(∀i,i<a.length→a.getD i 0≤b.getD i 0)→a.sum≤b.sum
 |[],[],_,_=>Int.le_refl _
 |[],_::_,h,_=>nomatch h
 |_::_,[],h,_=>nomatch h
 |x::a,y::b,h,h1=>by
  have:=uZ (a:=a) (b:=b) (by simpa using h) (fun i hi=>by have:=h1 (i+1) (by simpa using hi);simpa using this)
  have h2:x≤y:=by have:=h1 0 (by simp);simpa using this
  rw[List.sum_cons,List.sum_cons];omega
theorem yK: ∀{a b c:List Int},a.length=b.length→a.length=c.length→(∀i,i<a.length→a.getD i 0=b.getD i 0+c.getD i 0)→a.sum=b.sum+c.sum
 |[],[],[],_,_,_=>rfl
 |[],_::_,_,h,_,_=>nomatch h
 |[],[],_::_,_,h,_=>nomatch h
 |_::_,[],_,h,_,_=>nomatch h
 |_::_,_::_,[],_,h,_=>nomatch h
 |x::a,y::b,z::c,h,h',h1=>by
  have:=yK (a:=a) (b:=b) (c:=c) (by simpa using h) (by simpa using h') (fun i hi=>by have:=h1 (i+1) (by simpa using hi);simpa using this)
  have h2:x=y+z:=by have:=h1 0 (by simp);simpa using this
  rw[List.sum_cons,List.sum_cons,List.sum_cons];omega
theorem qC: ∀{a:List Int},(∀i,i<a.length→a.getD i 0=0)→a.sum=0
 |[],_=>rfl
 |x::a,h=>by
  have:=qC (a:=a) (fun i hi=>by have:=h (i+1) (by simpa using hi);simpa using this)
  have h2:x=0:=by have:=h 0 (by simp);simpa using this
  rw[List.sum_cons];omega
def bC(w caps out:List Int):List Int:=yJ w.length fun i=>if out.getD i 0<caps.getD i 0 then w.getD i 0 else 0
def c9(parts caps out:List Int):List Int:=yJ out.length fun i=>min (parts.getD i 0) (caps.getD i 0-out.getD i 0)
def qD(out g:List Int):List Int:=yJ out.length fun i=>out.getD i 0+g.getD i 0
def pb(w caps:List Int):Nat→List Int→Int→List Int×Int
 |0,out,left=>(out,left)
 |f+1,out,left=>if left=0∨(bC w caps out).sum=0 then(out,left)else
  pb w caps f (qD out (c9 (a8 left (bC w caps out)) caps out)) (left-(c9 (a8 left (bC w caps out)) caps out).sum)
structure Jg(t:Int)(w caps out:List Int)(left:Int):Prop where
 n:w.length≤64
 l1:caps.length=w.length
 l2:out.length=w.length
 pw:Pos w
 sw:w.sum<9223372036854775808
 pc: ∀i,0≤caps.getD i 0∧caps.getD i 0<9223372036854775808
 po: ∀i,0≤out.getD i 0
 le: ∀i,i<w.length→out.getD i 0≤caps.getD i 0
 z: ∀i,w.getD i 0=0→out.getD i 0=0
 l:0≤left
 t1:t<9223372036854775808
 s:out.sum+left=t
theorem eQ(w caps out:List Int):(bC w caps out).length=w.length:=dX ..
theorem mv{w caps out:List Int}(h:Pos w):Pos (bC w caps out):=QK (fun i _=>by split;exact eP h i;omega)
theorem Ep{w caps out:List Int}(h:Pos w):(bC w caps out).sum≤w.sum:=uZ (eQ ..) (fun i hi=>by
 rw[eQ]at hi
 unfold bC;rw[dU hi];split
 ·omega
 ·exact eP h i)
theorem NA{t left:Int}{w caps out:List Int}(c:Jg t w caps out left):B6 (bC w caps out):=fun x hx=>by
 have h1:=mv (caps:=caps) (out:=out) c.pw
 have h2:=Ep (caps:=caps) (out:=out) c.pw
 have h3:=h1 x hx
 obtain⟨i,hi,rfl⟩:=List.mem_iff_getElem.1 hx
 have h4:=sF h1 i
 rw[List.getD_eq_getElem?_getD,List.getElem?_eq_getElem hi]at h4
 simp only[Option.getD_some]at h4
 have:=c.sw
 omega
theorem Er{t left:Int}{w caps out:List Int}(c:Jg t w caps out left):left≤t:=by
 have:=fC (q:=out) (nG (fun i _=>c.po i));have:=c.s;omega
theorem jY{t left:Int}{w caps out:List Int}(c:Jg t w caps out left)(hS:0<(bC w caps out).sum)(i:Nat):
  0≤(c9 (a8 left (bC w caps out)) caps out).getD i 0∧(c9 (a8 left (bC w caps out)) caps out).getD i 0≤(a8 left (bC w caps out)).getD i 0∧(i<w.length→out.getD i 0+(c9 (a8 left (bC w caps out)) caps out).getD i 0≤caps.getD i 0):=by
 have h0:=eP (pa c.l hS (mv c.pw)) i
 unfold c9
 rw[Ca]
 have:=c.l2
 by_cases h:i<out.length
 ·rw[if_pos h]
  have:=c.le i (by omega)
  omega
 ·rw[if_neg h];exact⟨by omega,h0,fun h=>by omega⟩
theorem qE(parts caps out:List Int):(c9 parts caps out).length=out.length:=dX ..
theorem yL{t left:Int}{w caps out:List Int}(c:Jg t w caps out left)(hS:0<(bC w caps out).sum):0≤(c9 (a8 left (bC w caps out)) caps out).sum∧(c9 (a8 left (bC w caps out)) caps out).sum≤left:=by
 constructor
 ·exact fC (nG (fun i _=>(jY c hS i).1))
 ·have:=uZ (a:=c9 (a8 left (bC w caps out)) caps out) (b:=a8 left (bC w caps out)) (by rw[qE,jM,eQ,c.l2]) (fun i _=>(jY c hS i).2.1)
  rwa [o9 c.l hS]at this
theorem Es{t left:Int}{w caps out:List Int}(c:Jg t w caps out left)(hS:0<(bC w caps out).sum):Jg t w caps (qD out (c9 (a8 left (bC w caps out)) caps out)) (left-(c9 (a8 left (bC w caps out)) caps out).sum):=by
 have lh: ∀i,(qD out (c9 (a8 left (bC w caps out)) caps out)).getD i 0=if i<out.length then out.getD i 0+(c9 (a8 left (bC w caps out)) caps out).getD i 0 else 0:=fun i=>by unfold qD;rw[Ca]
 have gs:=yL c hS
 refine⟨c.n,c.l1,?_,c.pw,c.sw,c.pc,fun i=> ?_,fun i hi=> ?_,fun i hi=> ?_,by omega,c.t1,?_⟩
 ·unfold qD;rw[dX,c.l2]
 ·rw[lh];have:=(jY c hS i).1;have:=c.po i;split<;>omega
 ·rw[lh,if_pos (by rw[c.l2];exact hi)];exact(jY c hS i).2.2 hi
 ·rw[lh]
  split
  ·have h1:(bC w caps out).getD i 0=0:=by unfold bC;rw[Ca,hi];split<;>(try split)<;>rfl
   have h2:=vS c.l hS h1
   have h3:=jY c hS i
   rw[c.z i hi];omega
  ·rfl
 ·have:=yK (a:=qD out (c9 (a8 left (bC w caps out)) caps out)) (b:=out) (c:=c9 (a8 left (bC w caps out)) caps out) (by unfold qD;rw[dX]) (by unfold qD;rw[dX,qE]) (fun i hi=>by
   unfold qD at hi;rw[dX]at hi;rw[lh,if_pos hi])
  have:=c.s
  omega
def opens(w caps out:List Int):Nat:=(List.range w.length).countP fun i=>decide (0<w.getD i 0∧out.getD i 0<caps.getD i 0)
theorem AW{p q:Nat→Bool}: ∀{l:List Nat},(∀x∈l,q x=true→p x=true)→(∃x∈l,p x=true∧q x=false)→l.countP q<l.countP p
 |[],_,⟨x,hx,_⟩=>nomatch hx
 |y::l,h,⟨x,hx,h1,h2⟩=>by
  have hle:l.countP q≤l.countP p:=List.countP_mono_left (fun z hz=>h z (List.mem_cons_of_mem _ hz))
  rw[List.countP_cons,List.countP_cons]
  rcases List.mem_cons.1 hx with rfl|hx
  ·rw[h1,h2];simp;omega
  ·have:=AW (p:=p) (q:=q) (l:=l) (fun z hz=>h z (List.mem_cons_of_mem _ hz)) ⟨x,hx,h1,h2⟩
   have h3:=h y (List.mem_cons_self ..)
   cases hq:q y<;>cases hp:p y<;>simp<;>try omega
   rw[hq,hp]at h3;simp at h3
theorem AX{w caps out:List Int}(hw:Pos w)(h:(bC w caps out).sum=0): ∀i,i<w.length→ ¬(0<w.getD i 0∧out.getD i 0<caps.getD i 0):=fun i hi ⟨h1,h2⟩=>by
 have:=sF (mv (caps:=caps) (out:=out) hw) i
 unfold bC at this h
 rw[dU hi,if_pos h2,h]at this
 omega
theorem Cb{w caps out:List Int}(hw:Pos w)(h:(bC w caps out).sum≠0): ∃i,i<w.length∧0<w.getD i 0∧out.getD i 0<caps.getD i 0:=by
 by_cases hx: ∃i,i<w.length∧0<w.getD i 0∧out.getD i 0<caps.getD i 0
 ·exact hx
 ·refine absurd (qC (fun i hi=> ?_)) h
  rw[eQ]at hi
  unfold bC
  rw[dU hi]
  split
  ·rename_i h1
   have:=eP hw i
   by_cases h2:0<w.getD i 0
   ·exact absurd ⟨i,hi,h2,h1⟩ hx
   ·omega
  ·rfl
theorem KG{t left:Int}{w caps out:List Int}(c:Jg t w caps out left)(hS:0<(bC w caps out).sum)(hl:left-(c9 (a8 left (bC w caps out)) caps out).sum≠0):opens w caps (qD out (c9 (a8 left (bC w caps out)) caps out))<opens w caps out:=by
 have lh: ∀i,i<w.length→(qD out (c9 (a8 left (bC w caps out)) caps out)).getD i 0=out.getD i 0+(c9 (a8 left (bC w caps out)) caps out).getD i 0:=fun i hi=>by unfold qD;rw[dU (by rw[c.l2];exact hi)]
 refine AW (fun i hi h=> ?_) ?_
 ·rw[List.mem_range]at hi
  rw[decide_eq_true_iff,lh i hi]at h
  rw[decide_eq_true_iff]
  have:=(jY c hS i).1
  omega
 ·by_cases hx: ∃i,i<w.length∧(0<w.getD i 0∧out.getD i 0<caps.getD i 0)∧caps.getD i 0≤out.getD i 0+(c9 (a8 left (bC w caps out)) caps out).getD i 0
  ·obtain⟨i,h1,h2,h3⟩:=hx
   refine⟨i,List.mem_range.2 h1,decide_eq_true h2,decide_eq_false ?_⟩
   rw[lh i h1];omega
  ·exfalso
   have h1:a8 left (bC w caps out)=c9 (a8 left (bC w caps out)) caps out:=by
    refine ku (by rw[qE,jM,eQ,c.l2]) (fun i hi=> ?_)
    rw[jM,eQ]at hi
    have h2:=jY c hS i
    have h3:=eP (pa c.l hS (mv (caps:=caps) (out:=out) c.pw)) i
    by_cases h4:0<w.getD i 0∧out.getD i 0<caps.getD i 0
    ·have h5: ¬caps.getD i 0≤out.getD i 0+(c9 (a8 left (bC w caps out)) caps out).getD i 0:=fun h=>hx ⟨i,hi,h4,h⟩
     have h6:(c9 (a8 left (bC w caps out)) caps out).getD i 0=min ((a8 left (bC w caps out)).getD i 0) (caps.getD i 0-out.getD i 0):=dU (by rw[c.l2];exact hi)
     omega
    ·have h7:(bC w caps out).getD i 0=0:=by
      unfold bC;rw[dU hi]
      have:=eP c.pw i
      split<;>omega
     have:=vS c.l hS h7
     omega
   rw[←h1,o9 c.l hS]at hl
   omega
theorem NB(w caps out:List Int):opens w caps out≤w.length:=by
 unfold opens
 have:=List.countP_le_length (p:=fun i=>decide (0<w.getD i 0∧out.getD i 0<caps.getD i 0)) (l:=List.range w.length)
 rwa [List.length_range]at this
structure Full(t:Int)(w caps out:List Int)(left:Int):Prop where
 c:Jg t w caps out left
 f:left=0∨ ∀i,i<w.length→ ¬(0<w.getD i 0∧out.getD i 0<caps.getD i 0)
theorem Et{t:Int}{w caps:List Int}: ∀(f:Nat) (out:List Int) (left:Int),Jg t w caps out left→(opens w caps out<f∨left=0)→Full t w caps (pb w caps f out left).1 (pb w caps f out left).2
 |0,out,left,c,h=>⟨c,.inl (show left=0 by omega)⟩
 |f+1,out,left,c,h=>by
  unfold pb
  have hS:=fC (mv (caps:=caps) (out:=out) c.pw)
  split
  ·rename_i h1
   exact⟨c,h1.imp id (AX c.pw)⟩
  ·rename_i h1
   refine Et f _ _ (Es c (by omega)) ?_
   by_cases h2:left-(c9 (a8 left (bC w caps out)) caps out).sum=0
   ·exact .inr h2
   ·have:=KG c (by omega) h2
    exact .inl (by omega)
def u2(out g:List Int)(i:Nat):List Int:=yJ out.length fun j=>if j<i then out.getD j 0+g.getD j 0 else out.getD j 0
theorem mid_zero(out g:List Int):u2 out g 0=out:=ku (dX ..) (fun i hi=>by unfold u2 at*;rw[dX]at hi;rw[dU hi,if_neg (by omega)])
theorem QL(out g:List Int){n:Nat}(h:out.length≤n):u2 out g n=qD out g:=ku (by unfold u2 qD;rw[dX,dX]) (fun i hi=>by unfold u2 qD at*;rw[dX]at hi;rw[dU hi,dU hi,if_pos (by omega)])
theorem tZ(out g:List Int)(i:Nat):(u2 out g i).length=out.length:=dX ..
theorem XF{out g:List Int}{i:Nat}(h:i<out.length):(u2 out g i).getD i 0=out.getD i 0:=by unfold u2;rw[dU h,if_neg (by omega)]
theorem QM{out g:List Int}{i:Nat}(h:i<out.length):(u2 out g i).set i (out.getD i 0+g.getD i 0)=u2 out g (i+1):=ku (by rw[List.length_set,tZ,tZ]) (fun j hj=>by
 rw[List.length_set,tZ]at hj
 by_cases si:i=j
 ·subst si
  rw[iv _ _ (by rw[tZ];exact h)];unfold u2;rw[dU h,if_pos (by omega)]
 ·rw[getD_set_ne _ _ si];unfold u2;rw[dU hj,dU hj]
  by_cases h1:j<i
  ·rw[if_pos h1,if_pos (by omega)]
  ·rw[if_neg h1,if_neg (by omega)])
def nH(s:List Int)(i:Nat):List Int:=yJ s.length fun j=>if j<i then s.getD j 0 else 0
theorem KH(s:List Int):nH s 0=List.replicate s.length 0:=ku (by unfold nH;rw[dX,List.length_replicate]) (fun i hi=>by
 unfold nH at*;rw[dX]at hi;rw[dU hi,if_neg (by omega),List.getD_eq_getElem?_getD,List.getElem?_replicate,if_pos hi];rfl)
theorem NC(s:List Int):nH s s.length=s:=ku (dX ..) (fun i hi=>by unfold nH at*;rw[dX]at hi;rw[dU hi,if_pos hi])
theorem kv(s:List Int)(i:Nat):(nH s i).length=s.length:=dX ..
theorem ND{s:List Int}{i:Nat}(h:i<s.length):(nH s i).set i (s.getD i 0)=nH s (i+1):=ku (by rw[List.length_set,kv,kv]) (fun j hj=>by
 rw[List.length_set,kv]at hj
 by_cases si:i=j
 ·subst si
  rw[iv _ _ (by rw[kv];exact h)];unfold nH;rw[dU h,if_pos (by omega)]
 ·rw[getD_set_ne _ _ si];unfold nH;rw[dU hj,dU hj]
  by_cases h1:j<i
  ·rw[if_pos h1,if_pos (by omega)]
  ·rw[if_neg h1,if_neg (by omega)])
theorem AY{s:List Int}{i:Nat}(h:s.getD i 0=0):nH s i=nH s (i+1):=ku (by rw[kv,kv]) (fun j hj=>by
 rw[kv]at hj
 unfold nH;rw[dU hj,dU hj]
 by_cases h1:j<i
 ·rw[if_pos h1,if_pos (by omega)]
 ·rw[if_neg h1]
  by_cases h2:j=i
  ·subst h2;rw[if_pos (by omega),h]
  ·rw[if_neg (by omega)])
theorem XG(x y:Int):mn x y=min x y:=by rw[Vn];split<;>omega
theorem KI{t left:Int}{w caps out:List Int}(c:Jg t w caps out left)(hS:0<(bC w caps out).sum)(i:Nat):0≤((c9 (a8 left (bC w caps out)) caps out).take i).sum∧((c9 (a8 left (bC w caps out)) caps out).take i).sum≤left:=by
 have h:=nG (l:=c9 (a8 left (bC w caps out)) caps out) (fun i _=>(jY c hS i).1)
 have:=vR h i
 have:=yL c hS
 exact⟨fC (El h i),by omega⟩
theorem yM(N:Nat)(K:List Int→List Int→List Int→Int→Int→Option (List Int×Int×Int)){t left:Int}{w caps out:List Int}(c:Jg t w caps out left)(hS:0<(bC w caps out).sum)(rd:Int): ∀(m n i:Nat),w.length-i≤m→m<n→i≤w.length→
  cS.yq N K n w caps (u2 out (c9 (a8 left (bC w caps out)) caps out) i) (left-((c9 (a8 left (bC w caps out)) caps out).take i).sum) rd (a8 left (bC w caps out)) (i:Int)=
  K w caps (qD out (c9 (a8 left (bC w caps out)) caps out)) (left-(c9 (a8 left (bC w caps out)) caps out).sum) (W .i64 (rd+1))
 |m,0,i,_,hn,_=>by omega
 |m,n+1,i,hm,hn,hi=>by
  have n64:=c.n
  have e1:=c.l1
  have e2:=c.l2
  unfold cS.yq cS.wI
  by_cases h:i<w.length
  ·have hc:=c.pc i
   have ho:=c.po i
   have hle:=c.le i h
   have hg:=jY c hS i
   have h6:(c9 (a8 left (bC w caps out)) caps out).getD i 0=min ((a8 left (bC w caps out)).getD i 0) (caps.getD i 0-out.getD i 0):=dU (by rw[c.l2];exact h)
   have ht:=KI c hS i
   have hl:=Er c
   have p9:=c.t1
   have hgl:(c9 (a8 left (bC w caps out)) caps out).getD i 0≤left:=by
    have:=sF (nG (l:=c9 (a8 left (bC w caps out)) caps out) (fun i _=>(jY c hS i).1)) i
    have:=yL c hS
    omega
   dsimp only
   rw[aK (by omega),cond_true,aN (by omega) (by rw[jM,eQ];omega),cond_true,aN (by omega) (by omega),cond_true,aN (by omega) (by rw[tZ];omega),cond_true,cond_true,Int.toNat_natCast,XF (by omega),aq (x:=caps.getD i 0-out.getD i 0) (by omega) (by omega),XG,←h6,
    aq (x:=(i:Int)+1) (by omega) (by omega),aq (x:=out.getD i 0+_) (by omega) (by omega),aq (x:=left-_-_) (by omega) (by omega),QM (by omega)]
   have:=yM N K c hS rd (m-1) n (i+1) (by omega) (by omega) (by omega)
   rw[gR _ (by rw[qE];omega),←Int.sub_sub]at this
   exact this
  ·rw[aF (by omega),cond_false,QL _ _ (by omega),List.take_of_length_le (by rw[qE];omega)]
def Eu(w caps out:List Int)(i:Nat):Prop:= ∃j,j<i∧0<w.getD j 0∧out.getD j 0<caps.getD j 0
theorem pd(N:Nat)(hN:5000000≤N)(K:List Int→List Int→List Int→Int→Int→Option (List Int×Int×Int)){t left:Int}{w caps out:List Int}(c:Jg t w caps out left)(rd:Int): ∀(m n i:Nat) (b:Bool),w.length-i≤m→m<n→i≤w.length→(b=true↔Eu w caps out i)→
  cS.mT N K n w caps out left rd (nH (bC w caps out) i) b (i:Int)=
  if left=0∨(bC w caps out).sum=0 then some (out,left,0)else K w caps (qD out (c9 (a8 left (bC w caps out)) caps out)) (left-(c9 (a8 left (bC w caps out)) caps out).sum) (W .i64 (rd+1))
 |m,0,i,b,_,hn,_,_=>by omega
 |m,n+1,i,b,hm,hn,hi,hb=>by
  have n64:=c.n
  have e1:=c.l1
  have e2:=c.l2
  unfold cS.mT cS.lq
  by_cases h:i<w.length
  ·have h1:(bC w caps out).getD i 0=if out.getD i 0<caps.getD i 0 then w.getD i 0 else 0:=dU h
   have hw:=eP c.pw i
   have nn: ¬(0<w.getD i 0∧out.getD i 0<caps.getD i 0)→(b=true↔Eu w caps out (i+1)):=fun pB=>hb.trans ⟨fun⟨j,hj,h2⟩=>⟨j,by omega,h2⟩,fun⟨j,hj,h2⟩=>⟨j,by
    by_cases si:j=i
    ·subst si;exact absurd h2 pB
    ·omega,h2⟩⟩
   rw[aK (by omega),cond_true,aN (by omega) (by omega),cond_true,Int.toNat_natCast]
   by_cases h0:0<w.getD i 0
   ·rw[aK h0,cond_true,aN (by omega) (by omega),cond_true,aN (by omega) (by omega),cond_true]
    by_cases h2:out.getD i 0<caps.getD i 0
    ·rw[if_pos h2]at h1
     rw[aK h2,cond_true,cond_true,aN (by omega) (by rw[kv,eQ];omega),cond_true,aq (by omega) (by omega),←h1,ND (by rw[eQ];exact h)]
     exact pd N hN K c rd (m-1) n (i+1) true (by omega) (by omega) (by omega) ⟨fun _=>⟨i,by omega,h0,h2⟩,fun _=>rfl⟩
    ·rw[if_neg h2]at h1
     rw[aF (by omega),cond_false,aq (by omega) (by omega),AY h1]
     exact pd N hN K c rd (m-1) n (i+1) b (by omega) (by omega) (by omega) (nn (fun h=>h2 h.2))
   ·have h3:(bC w caps out).getD i 0=0:=by rw[h1];split<;>omega
    rw[aF (by omega),cond_false,aq (by omega) (by omega),AY h3]
    exact pd N hN K c rd (m-1) n (i+1) b (by omega) (by omega) (by omega) (nn (fun h=>h0 h.1))
  ·have hl1:=Er c
   have p9:=c.t1
   have hl0:=c.l
   have j2:i=(bC w caps out).length:=by rw[eQ];omega
   have hp:=mv (caps:=caps) (out:=out) c.pw
   have hs:=Ep (caps:=caps) (out:=out) c.pw
   have hs0:=fC hp
   have hsw:=c.sw
   have hm:may (bC w caps out)=true:=jX.2 ⟨by rw[eQ];omega,hp⟩
   rw[aF (by omega),cond_false]
   by_cases h4:left=0
   ·rw[cg h4,cond_true,if_pos (.inl h4)]
   rw[cI h4,cond_false]
   by_cases h3:(bC w caps out).sum=0
   ·have hbf:b=false:=by
     rw[Bool.eq_false_iff];intro ht
     obtain⟨j,hj,h5⟩:=hb.1 ht
     exact AX c.pw h3 j (by omega) h5
    rw[if_pos (.inr h3),hbf];rfl
   ·have hbt:b=true:=hb.2 (by
     obtain⟨j,hj,h5⟩:=Cb c.pw h3
     exact⟨j,by omega,h5⟩)
    rw[hbt,Bool.not_true,cond_false,if_neg (by omega),j2,NC,uY N (by omega) (by omega) (NA c) (by rw[eQ];omega),Option.bind_some]
    unfold mq
    rw[if_neg (by rw[hm];simp;omega),if_neg (by omega),if_neg h3]
    have:=yM N K c (by omega) rd w.length N 0 (by omega) (by omega) (by omega)
    rw[mid_zero,List.take_zero,List.sum_nil,Int.sub_zero]at this
    exact this
theorem AZ(N:Nat)(hN:5000000≤N){t:Int}{w caps:List Int}: ∀(f n:Nat) (out:List Int) (left:Int),Jg t w caps out left→f≤w.length+1→f<n→
  cS.l8 N n w caps out left ((w.length+1-f:Nat):Int)=some ((pb w caps f out left).1,(pb w caps f out left).2,0)
 |f,0,out,left,c,_,hn=>by omega
 |0,n+1,out,left,c,h,hn=>by
  unfold cS.l8 cS.w5
  rw[dv (by omega)];rfl
 |f+1,n+1,out,left,c,h,hn=>by
  have n64:=c.n
  have hl:=c.l
  unfold cS.l8 cS.w5
  rw[du (by omega),cond_true,bG (by omega) (by omega) (by omega),cond_true,Int.toNat_natCast]
  have:=pd N hN (cS.l8 N n) c ((w.length+1-(f+1):Nat):Int) w.length N 0 false (by omega) (by omega) (by omega) ⟨(fun h=>nomatch h),fun⟨j,hj,_⟩=>by omega⟩
  rw[KH,eQ]at this
  refine Eq.trans this ?_
  have hS:=fC (mv (caps:=caps) (out:=out) c.pw)
  unfold pb
  by_cases h1:left=0∨(bC w caps out).sum=0
  ·rw[if_pos h1,if_pos h1]
  ·rw[if_neg h1,if_neg h1,aq (by omega) (by omega),show(((w.length+1-(f+1):Nat):Int)+1)=((w.length+1-f:Nat):Int)by omega]
   exact AZ N hN f n _ _ (Es c (by omega)) (by omega) (by omega)
def pe(t:Int)(w caps:List Int):List Int×Int×Int:=
 if t<0∨may w=false∨caps.length≠w.length∨may caps=false then([],0,1)else if 9223372036854775808≤w.sum then([],0,2)
 else((pb w caps (w.length+1) (List.replicate w.length 0) t).1,(pb w caps (w.length+1) (List.replicate w.length 0) t).2,0)
theorem lz(n i:Nat):(List.replicate n (0:Int)).getD i 0=0:=by
 rw[List.getD_eq_getElem?_getD,List.getElem?_replicate];split<;>rfl
theorem A0{t:Int}{w caps:List Int}(ht:0≤t)(p9:t<9223372036854775808)(hw:may w=true)(hc:may caps=true)(hl:caps.length=w.length)(hi:B6 caps)(hs:w.sum<9223372036854775808):Jg t w caps (List.replicate w.length 0) t:=by
 obtain⟨h1,h2⟩:=jX.1 hw
 obtain⟨h3,h4⟩:=jX.1 hc
 refine⟨h1,hl,List.length_replicate ..,h2,hs,fun i=>⟨eP h4 i,(om hi i).2⟩,fun i=>by rw[lz];omega,fun i _=>by rw[lz];exact eP h4 i,fun i _=>lz ..,ht,p9,?_⟩
 rw[qC (fun i _=>lz ..)];omega
theorem Hu(N:Nat)(hN:5000000≤N){t:Int}{w caps:List Int}(p9:t<9223372036854775808)(hw:B6 w)(hc:B6 caps)(hl:w.length≤1000000):cS N t w caps=some (pe t w caps):=by
 unfold cS cS.b pe
 rw[yD N (by omega),Option.bind_some]
 by_cases h1:t<0
 ·rw[decide_eq_true h1,Bool.true_or,cond_true,if_pos (.inl h1)]
 rw[decide_eq_false h1,Bool.false_or]
 cases h2:may w
 ·rw[Bool.not_false,cond_true,if_pos (.inr (.inl rfl))]
 rw[Bool.not_true,cond_false]
 by_cases h3:caps.length=w.length
 case neg=>rw[cI (by omega),Bool.not_false,cond_true,if_pos (.inr (.inr (.inl h3)))]
 rw[cg (by omega),Bool.not_true,cond_false,yD N (by omega),Option.bind_some]
 cases h4:may caps
 ·rw[if_pos (.inr (.inr (.inr rfl)))];rfl
 have hp:=fC (jX.1 h2).2
 rw[show(decide ((0:Int)<0)|| !true)=false from rfl,cond_false,so N (by omega) hw hl,Option.bind_some,ql,Option.bind_some,if_neg (by simp;omega)]
 by_cases h5:9223372036854775808≤w.sum
 ·rw[if_pos h5];unfold zN;rw[if_neg (by omega)];rfl
 rw[if_neg h5,B9 (by omega) (by omega),Bool.not_true,cond_false,bG (by omega) (by omega) (by omega),cond_true,Int.toNat_natCast]
 have uu:=(jX.1 h2).1
 have:=AZ N hN (w.length+1) N _ _ (A0 (by omega) p9 h2 h4 h3 hc (by omega)) (by omega) (by omega)
 rw[Nat.sub_self]at this
 exact this
end VM
end
section
namespace VM
open Go VM.F
theorem Hv{t:Int}{w caps:List Int}(p9:t<9223372036854775808)(hc:B6 caps)(hx:(pe t w caps).2.2=0):Full t w caps (pe t w caps).1 (pe t w caps).2.1:=by
 unfold pe at*
 by_cases h1:t<0∨may w=false∨caps.length≠w.length∨may caps=false
 ·rw[if_pos h1]at hx;exact absurd hx (by decide)
 ·rw[if_neg h1]at hx ⊢
  by_cases h2:9223372036854775808≤w.sum
  ·rw[if_pos h2]at hx;exact absurd hx (by decide)
  ·rw[if_neg h2]
   have h3:may w=true:=by cases h:may w<;>simp_all
   have h4:may caps=true:=by cases h:may caps<;>simp_all
   have h5:caps.length=w.length:=Decidable.byContradiction fun h=>h1 (Or.inr (Or.inr (Or.inl h)))
   exact Et _ _ _ (A0 (by omega) p9 h3 h4 h5 hc (by omega)) (Or.inl (by have:=NB w caps (List.replicate w.length 0);omega))
end VM
end
section
namespace VM
open Go VM.F
end VM
end
section
namespace VM
open Go VM.F
theorem Cc{c:aa}{b:ah}(h:dT c b=true): ∀x∈b.2.2.2.1,B4 x.2.1 c.1.length:=fun x hx=>by
 have hk:=(tT h).2
 have h0:=(nB hk).2 x hx
 unfold dT at h
 simp only[Bool.and_eq_true]at h
 have h1:=of_decide_eq_true h.2.2.2.2.2.2.2.2.1
 obtain⟨i,hi,e⟩:=List.getElem_of_mem hx
 have h2:=h1 i hi
 unfold gp at h2
 rw[List.getD_eq_getElem?_getD,List.getElem?_eq_getElem hi]at h2
 simp only[Option.getD_some,e]at h2
 have g: ∀u v:Int,ck u v→MX v c.1.length→B4 v c.1.length:=fun u v h1 h2=>by unfold ck at h1;unfold MX at h2;unfold B4;omega
 exact g _ _ h0.1 h2.2
end VM
end
section
namespace VM
open Go VM.F
end VM
end
section
namespace VM
open Go VM.F
theorem vU{k:Int}: ∀{i:Nat} {l:ay},jg k i l≠[]→(i:Int)≤(jg k i l).getD 0 0∧(jg k i l).getD 0 0<((i+l.length:Nat):Int)
 |i,[],h=>absurd rfl h
 |i,y::t,h=>by
  rw[tW]at h ⊢
  by_cases e:y.1=k
  ·rw[if_pos e,List.length_cons]
   show(i:Int)≤(i:Int)∧(i:Int)<_
   omega
  ·rw[if_neg e]at h ⊢
   have:=vU h
   rw[List.length_cons];omega
def ah1(c:aa):Int:=c.2.2.2.2.2.2.1
end VM
end
