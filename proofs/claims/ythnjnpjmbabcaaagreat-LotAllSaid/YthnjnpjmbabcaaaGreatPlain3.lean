/- A part of the proof of LotAll of layer 23: what the functions compute, in plain words. -/
import Derived.Test.YthnjnpjmbabcaaaGreatPlain2
import Derived.Test.YthnjnpjmbabcaaaGreatPlain1
set_option linter.all false
open List renaming length→ℓ
section
namespace VM
open Go VM.F
variable(N:Nat)
def SH(l:List Int):Prop:= ∀x∈l,-9223372036854775808≤x∧x<9223372036854775808
def Pos(l:List Int):Prop:= ∀x∈l,0≤x
def may(w:List Int):Bool:=decide (w.length≤64)&&w.all (λx=>decide (0≤x))
theorem kF{w:List Int}:may w=true↔w.length≤64∧Pos w:=by
 unfold may Pos;rw[bg,im,kO]
 simp only[im]
theorem ye(N:Nat){l:List Int}(hl:l.length≤1000000): ∀(m n i:Nat),l.length-i≤m→m<n→i≤l.length→ ∃r,gd.l2 N n l () (l.length:Int) (i:Int)=some r∧(0≤r↔ ∃x∈l.drop i,x<0)
 |m,0,i,_,hn,_=>ω
 |m,n+1,i,hm,hn,hi=>by
  unfold gd.l2 gd.dV PZ
  by_cases h:i<l.length
  ·have hd:l.drop i=l.getD i 0::l.drop (i+1):=by
    rw[jf h,aY,ba h];rfl
   rw[au ω,aa,aB ω ω,aa,al,ar,hd]
   by_cases hx:l.getD i 0<0
   ·rw[au hx,aa]
    exact⟨_,rfl,λ_=>⟨_,bl ..,hx⟩,λ_=>ω⟩
   ·rw[aq ω,ah,ax ω ω]
    obtain⟨r,e,h1⟩:=ye N hl (m-1) n (i+1) ω ω ω
    refine⟨r,e,h1.trans ⟨λ⟨x,Am,Gi⟩=>⟨x,aR _ Am,Gi⟩,λ⟨x,Am,Gi⟩=> ?_⟩⟩
    rcases bu.1 Am with rfl|Am
    ·exact absurd Gi hx
    ·exact⟨x,Am,Gi⟩
  ·rw[aq ω,ah,rL ω]
   exact⟨_,rfl,λh=>absurd h δ,λ⟨x,hx,_⟩=>nomatch hx⟩
theorem P0{w:List Int}(hN:100≤N):Mq N w=some (may w):=by
 unfold Mq
 by_cases h:w.length≤64
 ·rw[cq ω,aa]
  unfold P1 gd gd.b
  obtain⟨r,e,hr⟩:=ye N (l:=w) ω w.length N 0 ω ω ω
  rw[bX]at hr
  rw[show((0:Nat):Int)=0 from rfl]at e
  rw[e,al,al]
  by_cases h0:0≤r
  ·rw[cq h0]
   obtain⟨x,hx,Ed⟩:=hr.1 h0
   have:may w=false:=by
    rw[oU];intro hm
    have:=(kF.1 hm).2 x hx;omega
   rw[this];rfl
  ·rw[cf ω]
   have:may w=true:=kF.2 ⟨h,λx hx=>by
    by_cases Ed:x<0
    ·exact absurd (hr.2 ⟨x,hx,Ed⟩) h0
    ·omega⟩
   rw[this];rfl
 ·rw[cf ω,ah]
  have:may w=false:=by
   rw[oU];intro hm;exact h (kF.1 hm).1
  rw[this]
theorem yf(N:Nat){l:List Int}(hl:l.length≤1000000): ∀(m n i:Nat),l.length-i≤m→m<n→i≤l.length→ ∃r,lG.l4 N n l (i:Int)=some r∧(r=true↔ ∃x∈l.drop i,x<0)
 |m,0,i,_,hn,_=>ω
 |m,n+1,i,hm,hn,hi=>by
  unfold lG.l4 lG.dF
  by_cases h:i<l.length
  ·have hd:l.drop i=l.getD i 0::l.drop (i+1):=by
    rw[jf h,aY,ba h];rfl
   rw[au ω,aa,aB ω ω,aa,ar,hd]
   by_cases hx:l.getD i 0<0
   ·rw[au hx,aa]
    exact⟨_,rfl,λ_=>⟨_,bl ..,hx⟩,λ_=>rfl⟩
   ·rw[aq ω,ah,ax ω ω]
    obtain⟨r,e,h1⟩:=yf N hl (m-1) n (i+1) ω ω ω
    refine⟨r,e,h1.trans ⟨λ⟨x,Am,Gi⟩=>⟨x,aR _ Am,Gi⟩,λ⟨x,Am,Gi⟩=> ?_⟩⟩
    rcases bu.1 Am with rfl|Am
    ·exact absurd Gi hx
    ·exact⟨x,Am,Gi⟩
  ·rw[aq ω,ah,rL ω]
   exact⟨_,rfl,(λh=>nomatch h),λ⟨x,hx,_⟩=>nomatch hx⟩
theorem JT{w:List Int}(hN:100≤N)(t:Int):lG N t w=some (decide (t<0)|| !may w):=by
 unfold lG lG.b
 by_cases ht:t<0
 ·rw[au ht,aa,bn ht];rfl
 rw[aq ω,ah,bm ht,sa]
 by_cases h:w.length≤64
 ·rw[aq ω,ah]
  obtain⟨r,e,hr⟩:=yf N (l:=w) ω w.length N 0 ω ω ω
  rw[bX]at hr
  rw[show((0:Nat):Int)=0 from rfl]at e
  rw[e]
  congr 1
  rw[mW,hr,mU,oU,Ne,kF]
  constructor
  ·rintro⟨x,hx,Ed⟩ h;have:=h.2 x hx;omega
  ·intro h1
   by_cases h2: ∃x∈w,x<0
   ·exact h2
   ·exact absurd ⟨h,λx hx=>by
     by_cases Ed:x<0
     ·exact absurd ⟨x,hx,Ed⟩ h2
     ·omega⟩ h1
 ·rw[au ω,aa]
  have:may w=false:=by
   rw[oU];intro hm;exact h (kF.1 hm).1
  rw[this];rfl
def bump(q:List Int):List Int→List Int
 |[]=>q
 |k::t=>bump (q.set k.toNat (q.getD k.toNat 0+1)) t
def gG(t S:Int)(w:List Int):List Int:=w.map λx=>t*x/S
def kd(t S:Int)(w:List Int):List Int:=w.map λx=>t*x%S
def fb(t:Int)(w:List Int):List Int:=
 bump (gG t w.sum w) ((kb (kd t w.sum w)).take (t-(gG t w.sum w).sum).toNat)
def pM(t:Int)(w:List Int):List Int×Int:=
 if t<0∨may w=false then([],1)else if 9223372036854775808≤w.sum then([],2)
 else if w.sum=0 then(if t=0 then(List.replicate w.length 0,0)else([],1))else(fb t w,0)
theorem C8: ∀(ks q:List Int),(bump q ks).length=q.length
 |[],q=>rfl
 |k::t,q=>by unfold bump;rw[C8 t];simp
theorem wg: ∀(q:List Int) (k:Nat) (x:Int),k<q.length→(q.set k x).sum=q.sum-q.getD k 0+x
 |[],k,x,h=>absurd h (by simp)
 |a::q,0,x,h=>by simp;omega
 |a::q,k+1,x,h=>by
  have:=wg q k x (by simpa using h)
  simp[this];omega
theorem jq: ∀{q:List Int},Pos q→0≤q.sum
 |[],_=>by simp
 |a::q,h=>by
  have:=jq (q:=q) (λx hx=>h x (aR _ hx))
  have:=h a (bl ..)
  rw[eV];omega
theorem tX: ∀{q:List Int},Pos q→ ∀i,q.getD i 0≤q.sum
 |[],_,i=>by simp
 |a::q,h,0=>by
  have:=jq (q:=q) (λx hx=>h x (aR _ hx))
  rw[eV];simp;omega
 |a::q,h,i+1=>by
  have:=tX (q:=q) (λx hx=>h x (aR _ hx)) i
  have:=h a (bl ..)
  rw[eV];simp;simp at*;omega
theorem pN{q:List Int}(h:Pos q)(i:Nat):0≤q.getD i 0:=by
 by_cases hi:i<q.length
 ·exact h _ (s8 hi)
 ·rw[vZ q ω];omega
theorem FI{q:List Int}(h:Pos q){x:Int}(hx:0≤x)(k:Nat):Pos (q.set k x):=λy hy=>by
 rcases rC hy with hy|rfl
 ·exact h y hy
 ·exact hx
theorem C9{q:List Int}(h:Pos q)(n:Nat):Pos (q.take n):=λx hx=>h x (il hx)
theorem Da: ∀(ks q:List Int),(∀k∈ks,0≤k∧k<q.length)→(bump q ks).sum=q.sum+ks.length
 |[],q,_=>by simp[bump]
 |k::t,q,h=>by
  have hk:=h k (bl ..)
  unfold bump
  rw[Da t _ (λx hx=>by rw[aT];exact h x (aR _ hx)),wg q _ _ ω,aG];omega
theorem lH(t S:Int)(w:List Int):(gG t S w).length=w.length:=by unfold gG;rw[iq]
theorem eL(t S:Int)(w:List Int):(kd t S w).length=w.length:=by unfold kd;rw[iq]
theorem AS{t S:Int}{w:List Int}(i:Nat):(gG t S w).getD i 0=t*w.getD i 0/S:=by
 unfold gG
 by_cases h:i<w.length
 ·rw[aY,rS,ba h,aY,ba h];rfl
 ·rw[vZ _ (by rw[iq];omega),vZ w ω];simp
theorem nu{t S:Int}{w:List Int}(ht:0≤t)(hS:0≤S)(hw:Pos w):Pos (gG t S w):=λx hx=>by
 obtain⟨y,hy,rfl⟩:=cN.1 hx
 exact gM (jt ht (hw y hy)) hS
theorem JU{t S:Int}{w:List Int}(hS:0<S):Pos (kd t S w):=λx hx=>by
 obtain⟨y,hy,rfl⟩:=cN.1 hx
 exact kP _ ω
theorem wh(t S:Int): ∀w:List Int,S*(gG t S w).sum+(kd t S w).sum=t*w.sum
 |[]=>by simp[gG,kd]
 |x::w=>by
  have h:=wh t S w
  have e:=nz (t*x) S
  unfold gG kd at*
  simp only[bQ,eV,eG]
  omega
theorem AT{t S:Int}{w:List Int}(ht:0≤t)(hS:0<S)(h:w.sum≤S):(gG t S w).sum≤t:=by
 have e:=wh t S w
 have h1:=jq (JU (t:=t) (w:=w) hS)
 have h2:=ko h ht
 have h3:S*(gG t S w).sum≤S*t:=by rw[cO S t];omega
 exact wx h3 hS
theorem ve{w:List Int}(h:Pos w)(i:Nat):(w.take i).sum≤w.sum:=by
 have e:w.take i++w.drop i=w:=ik i w
 have h1:(w.take i).sum+(w.drop i).sum=w.sum:=by rw[←oZ,e]
 have:=jq (q:=w.drop i) (λx hx=>h x (wz hx))
 omega
theorem qg(t S:Int)(w:List Int)(i:Nat):(gG t S w).take i=gG t S (w.take i):=by unfold gG;rw[List.map_take]
theorem zU(N:Nat){ks:List Int}(hl:ks.length≤1000000)(L:Nat)(hk: ∀k∈ks,0≤k∧k<L): ∀(m n i:Nat) (q:List Int),ks.length-i≤m→m<n→i≤ks.length→q.length=L→Pos q→q.sum+(ks.length-i:Nat)≤9223372036854775807→
  kk.AU N n q ks (ks.length:Int) (i:Int)=some (bump q (ks.drop i),0)
 |m,0,i,q,_,hn,_,_,_,_=>ω
 |m,n+1,i,q,hm,hn,hi,hq,hp,hs=>by
  unfold kk.AU kk.Db
  by_cases h:i<ks.length
  ·have hd:ks.drop i=ks.getD i 0::ks.drop (i+1):=by
    rw[jf h,aY,ba h];rfl
   have vX:=hk _ (s8 h)
   rw[au ω,aa,aB ω ω,aa,ar,aB ω ω,aa,aa,hd]
   have h1:=tX hp (ks.getD i 0).toNat
   have h2:=pN hp (ks.getD i 0).toNat
   rw[ax (x:=q.getD _ 0+1) ω ω,ax ω ω]
   refine(zU N hl L hk (m-1) n (i+1) _ ω ω ω (by rw[aT];exact hq) (FI hp ω _) ?_).trans rfl
   rw[wg q _ _ ω];omega
  ·rw[aq ω,ah,rL ω];rfl
theorem yg(N:Nat){ks:List Int}(hl:ks.length≤1000000)(L:Nat)(hk: ∀k∈ks,0≤k∧k<L): ∀(m n i left:Nat) (q:List Int),ks.length-i≤m→m<n→i≤ks.length→q.length=L→Pos q→left≤9223372036854775807→q.sum+left≤9223372036854775807→
  ke.u6 N n q (left:Int) ks (i:Int)=some (bump q ((ks.drop i).take left),0)
 |m,0,i,left,q,_,hn,_,_,_,_,_=>ω
 |m,n+1,i,left,q,hm,hn,hi,hq,hp,hle,hs=>by
  unfold ke.u6 ke.tT
  by_cases h:i<ks.length
  ·have hd:ks.drop i=ks.getD i 0::ks.drop (i+1):=by
    rw[jf h,aY,ba h];rfl
   have vX:=hk _ (s8 h)
   rw[au ω,aa]
   match left,hle,hs with
   |0,hle,hs=>rw[aq ω,ah,kS];rfl
   |left+1,hle,hs=>
    rw[au ω,aa,aB ω ω,aa,ar,aB ω ω,aa,aa,hd]
    have h1:=tX hp (ks.getD i 0).toNat
    have h2:=pN hp (ks.getD i 0).toNat
    rw[ax (x:=q.getD _ 0+1) ω ω,ax (x:=(i:Int)+1) ω ω,ax ω ω,show((left+1:Nat):Int)-1=(left:Int)by omega]
    refine(yg N hl L hk (m-1) n (i+1) left _ ω ω ω (by rw[aT];exact hq) (FI hp ω _) ω ?_).trans rfl
    rw[wg q _ _ ω];omega
  ·rw[aq ω,ah,rL ω,List.take_nil];rfl
theorem s9(l:List Int): ∀k∈kb l,0≤k∧k<l.length:=λk hk=>(mD l).1 hk
theorem take_set(l:List Int){i:Nat}(x:Int)(h:i<l.length):(l.set i x).take (i+1)=l.take i++[x]:=by
 rw[dq (l.set i x) (by rw[aT];exact h),jJ l x h,List.take_set_of_le ω]
theorem yh{v:Int}(h0: -9223372036854775808≤v)(h1:v<9223372036854775808):q7 v=(v,true):=by unfold q7;rw[ae ⟨h0,h1⟩]
theorem yi(N:Nat)(hN:1000000≤N){t:Int}{w:List Int}(ht:0≤t)(oP:t<9223372036854775808)(hw:w.length≤64)(hp:Pos w)(hS:0<w.sum)(WR:w.sum<9223372036854775808):
  ∀(m n i:Nat) (q r:List Int),w.length-i≤m→m<n→i≤w.length→q.length=w.length→r.length=w.length→q.take i=gG t w.sum (w.take i)→r.take i=kd t w.sum (w.take i)→
  kk.wi N n t w.sum q r (t-(gG t w.sum (w.take i)).sum) w (w.length:Int) (i:Int)=some (fb t w,0)
 |m,0,i,q,r,_,hn,_,_,_,_,_=>ω
 |m,n+1,i,q,r,hm,hn,hi,hq,hr,eq,er=>by
  unfold kk.wi kk.tY
  by_cases h:i<w.length
  ·have Yx:=pN hp i
   have P2:=tX hp i
   have hb:=mul_lt ht Yx (show t≤9223372036854775807 by omega) (show w.getD i 0≤9223372036854775807 by omega)
   have hqi:t*w.getD i 0/w.sum≤t:=BC hS (ko P2 ht)
   have Yy:0≤t*w.getD i 0/w.sum:=gM hb.1 ω
   have hs0:=AT ht hS (ve hp i)
   have DT:=jq (nu ht (by omega:0≤w.sum) (C9 hp i))
   rw[au ω,aa,aB ω ω,aa,ar,AI N ω ω ω ω,al,
    LV N ω ω ω hS WR,al]
   dsimp only
   rw[AJ N ω ω,al,yh ω ω]
   dsimp only
   rw[aB ω ω,aa,aB ω ω,aa,aT,aB ω ω,aa,jJ q _ ω,ax (x:=(i:Int)+1) ω ω,ax ω ω]
   have vy:=yi N hN ht oP hw hp hS WR (m-1) n (i+1) (q.set i (t*w.getD i 0/w.sum)) (r.set i (t*w.getD i 0%w.sum)) ω ω ω (by rw[aT];exact hq) (by rw[aT];exact hr)
    (by rw[take_set q _ ω,eq,dq w h];unfold gG;simp)
    (by rw[take_set r _ ω,er,dq w h];unfold kd;simp)
   rw[←qg,gB _ (by rw[lH];exact h),AS,qg]at vy
   rw[Int.sub_sub]
   exact vy
  ·have mj:i=w.length:=ω
   subst mj
   rw[dI ω,dI ω]at eq er
   subst eq er
   rw[dI ω]
   have hs0:=AT ht hS (fj _)
   have DT:=jq (nu ht (by omega:0≤w.sum) hp)
   have aaS:(t-(gG t w.sum w).sum).toNat≤(kb (kd t w.sum w)).length:=by
    rw[oi,eL]
    have e:=wh t w.sum w
    have:(kd t w.sum w).sum≤w.length*w.sum:=by
     have: ∀u:List Int,(kd t w.sum u).sum≤u.length*w.sum:=by
      intro u
      induction u with
      |nil=>simp[kd]
      |cons x u ih=>
       have:=me (t*x) hS
       unfold kd at*
       rw[bQ,eV,aG,oY,gu];simp;omega
     exact this w
    have h4:w.sum*(t-(gG t w.sum w).sum)≤w.sum*w.length:=by
     rw[se,cO w.sum t,cO w.sum (w.length:Int)];omega
    have:=wx h4 hS
    omega
   rw[aq ω,ah,JS N (by rw[eL];omega) (by rw[eL];omega),al]
   rw[bS ω ω ω ω,aa]
   dsimp only
   rw[bP,bX]
   have hlen:=oi (kd t w.sum w)
   rw[eL]at hlen
   have po:=zU N (ks:=(kb (kd t w.sum w)).take (t-(gG t w.sum w).sum).toNat) (by rw[a7];omega) w.length (λk hk=>by have:=s9 _ k (il hk);rwa [eL]at this) 1000 N 0 (gG t w.sum w) (by rw[a7];omega) ω ω (lH ..) (nu ht ω hp) (by rw[a7];omega)
   rw[bX]at po
   exact po
theorem JV(hN:2000000≤N){t:Int}{w:List Int}(oP:t<9223372036854775808)(hw:SH w)(hl:w.length≤1000000):kk N t w=some (pM t w):=by
 unfold kk kk.b pM
 by_cases h1:t<0
 ·rw[au h1,aa,ae (.inl h1)]
 rw[aq ω,ah,P0 N ω,al]
 cases h2:may w
 ·rw[bx,aa,ae (.inr rfl)]
 rw[aS,ah,af (by simp[h1]),LX N hw hl ω,al]
 obtain⟨P3,hp⟩:=kF.1 h2
 have hS0:=jq hp
 by_cases h3:9223372036854775808≤w.sum
 ·rw[ae h3];unfold q7;rw[af ω];rfl
 rw[af h3,yh ω ω]
 dsimp only
 rw[aS,ah]
 have hm:gh (w.length:Int) (w.length:Int)=true:=bw ω ω ω
 have hz: ∀i:Nat,(List.replicate w.length (0:Int)).take i=(List.replicate w.length (0:Int)).take i:=λ_=>rfl
 by_cases h4:w.sum=0
 ·rw[ae h4,bD h4,aa]
  by_cases h5:t=0
  ·rw[ae h5,aq ω,ah]
   unfold kk.j8 kk.HH
   rw[hm,aa,aa,bD h5,aa,ar]
  ·rw[af h5,au ω,aa]
 ·rw[af h4,bI h4,ah]
  unfold kk.j8 kk.HH
  rw[hm,aa,aa]
  rw[ar]
  by_cases h5:t=0
  ·rw[bD h5,aa]
   subst h5
   have:gG 0 w.sum w=List.replicate w.length 0:=by
    unfold gG;simp only[Int.zero_mul,Int.zero_ediv];exact List.map_const'
   unfold fb
   rw[this];simp[bump]
  ·rw[bI h5,ah]
   have:=yi N ω ω oP P3 hp ω ω w.length N 0 (List.replicate w.length 0) (List.replicate w.length 0) ω ω ω (a5 ..) (a5 ..) rfl rfl
   rw[kS]at this
   simp only[gG,fh,jy,wS]at this
   exact this
theorem FJ: ∀(ks q:List Int) (i:Nat),ks.Nodup→(∀k∈ks,0≤k∧k<q.length)→(bump q ks).getD i 0=q.getD i 0+(if(i:Int)∈ks then 1 else 0)
 |[],q,i,_,_=>by simp[bump]
 |k::t,q,i,hn,h=>by
  have hk:=h k (bl ..)
  rw[rV]at hn
  unfold bump
  rw[FJ t _ i hn.2 (λx hx=>by rw[aT];exact h x (aR _ hx))]
  by_cases TX:(i:Int)=k
  ·rw[af (by rw[TX];exact hn.1),ae (by rw[TX];exact bl ..),←TX,ar,jJ q _ ω];omega
  ·rw[getD_set_ne q _ ω]
   by_cases ht:(i:Int)∈t
   ·rw[ae ht,ae (aR _ ht)]
   ·rw[af ht,af (λhc=>by rcases bu.1 hc with hc|hc;exact TX hc;exact ht hc)]
theorem Dc(l:List Int):(kb l).Nodup:=(jd l l.length).imp (λ{a b} h he=>by unfold qM at h;rw[he]at h;omega)
theorem FK(t S:Int)(hS:0<S): ∀u:List Int,(kd t S u).sum≤u.length*S
 |[]=>by simp[kd]
 |x::u=>by
  have ih:=FK t S hS u
  have:=me (t*x) hS
  unfold kd at*
  rw[bQ,eV,aG,oY,gu];simp;omega
def vf(t:Int)(w:List Int):Int:=t-(gG t w.sum w).sum
theorem left_eq(t:Int)(w:List Int):w.sum*vf t w=(kd t w.sum w).sum:=by
 have:=wh t w.sum w
 unfold vf;rw[se,cO w.sum t];omega
theorem Dd{t:Int}{w:List Int}(ht:0≤t)(hS:0<w.sum):0≤vf t w:=by
 have:=AT ht hS (fj _);unfold vf;omega
theorem Mr{t:Int}{w:List Int}(hS:0<w.sum):vf t w≤w.length:=by
 have h1:=left_eq t w
 have h2:=FK t w.sum hS w
 rw[←h1,cO (w.length:Int)]at h2
 exact wx h2 hS
theorem EE(t:Int)(w:List Int):(fb t w).length=w.length:=by unfold fb;rw[C8,lH]
theorem EF{t:Int}{w:List Int}(ht:0≤t)(hS:0<w.sum):(fb t w).sum=t:=by
 unfold fb
 have h1:=Dd ht hS
 have h2:=Mr (t:=t) hS
 unfold vf at*
 rw[Da _ _ (λk hk=>by have:=s9 _ k (il hk);rw[eL]at this;rwa [lH]),a7,oi,eL]
 omega
def extra(t:Int)(w:List Int)(i:Nat):Int:=if(i:Int)∈(kb (kd t w.sum w)).take (vf t w).toNat then 1 else 0
theorem Hd(t:Int)(w:List Int)(i:Nat):(fb t w).getD i 0=t*w.getD i 0/w.sum+extra t w i:=by
 unfold fb
 rw[FJ _ _ i ((Dc _).sublist (List.take_sublist ..)) (λk hk=>by have:=s9 _ k (il hk);rw[eL]at this;rwa [lH]),AS]
 rfl
theorem He(t:Int)(w:List Int)(i:Nat):extra t w i=0∨extra t w i=1:=by unfold extra;split<;>omega
theorem yj{t:Int}{w:List Int}(ht:0≤t)(hS:0<w.sum)(hw:Pos w):Pos (fb t w):=λx hx=>by
 obtain⟨i,hi,rfl⟩:=oS.1 hx
 have:=Hd t w i
 rw[aY,ba hi]at this
 have h1:=He t w i
 have h2:0≤t*w.getD i 0/w.sum:=gM (jt ht (pN hw i)) ω
 simp only[oV]at this
 omega
theorem vg(N:Nat)(hN:5000000≤N){t:Int}{w:List Int}(ht:0≤t)(oP:t<9223372036854775808)(hw:w.length≤64)(hp:Pos w)(hS:0<w.sum)(WR:w.sum<9223372036854775808):
  ∀(m n i:Nat) (q r:List Int),w.length-i≤m→m<n→i≤w.length→q.length=w.length→r.length=w.length→q.take i=gG t w.sum (w.take i)→r.take i=kd t w.sum (w.take i)→
  ke.SI N n t w (bz w.sum) q r (t-(gG t w.sum (w.take i)).sum) (i:Int)=some (fb t w,0)
 |m,0,i,q,r,_,hn,_,_,_,_,_=>ω
 |m,n+1,i,q,r,hm,hn,hi,hq,hr,eq,er=>by
  unfold ke.SI ke.P4
  by_cases h:i<w.length
  ·have Yx:=pN hp i
   have P2:=tX hp i
   have hb:=mul_lt ht Yx (show t≤9223372036854775807 by omega) (show w.getD i 0≤9223372036854775807 by omega)
   have hqi:t*w.getD i 0/w.sum≤t:=BC hS (ko P2 ht)
   have Yy:0≤t*w.getD i 0/w.sum:=gM hb.1 ω
   have Wj:=me (t*w.getD i 0) hS
   have adE:=kP (t*w.getD i 0) (show w.sum≠0 by omega)
   have hs0:=AT ht hS (ve hp i)
   have DT:=jq (nu ht (by omega:0≤w.sum) (C9 hp i))
   have ft:Fit t 2:=Fit.i64 ω ω
   have fw:Fit (w.getD i 0) 2:=Fit.i64 ω ω
   have fS:Fit w.sum 2:=Fit.i64 ω ω
   rw[au ω,aa,eJ N ω ω oP,al,aB ω ω,aa,ar,eJ N ω ω ω,al,
    xL N ω (ft.mono ω) (fw.mono ω),al,LP N ω hS ((ft.mul fw).mono ω) (fS.mono ω),al]
   dsimp only
   rw[xK,al,yh ω ω,xK,yh ω ω]
   dsimp only
   rw[al,aB ω ω,aa,aB ω ω,aa,aT,aB ω ω,aa,jJ q _ ω,ax (x:=(i:Int)+1) ω ω,ax ω ω]
   have vy:=vg N hN ht oP hw hp hS WR (m-1) n (i+1) (q.set i (t*w.getD i 0/w.sum)) (r.set i (t*w.getD i 0%w.sum)) ω ω ω (by rw[aT];exact hq) (by rw[aT];exact hr)
    (by rw[take_set q _ ω,eq,dq w h];unfold gG;simp)
    (by rw[take_set r _ ω,er,dq w h];unfold kd;simp)
   rw[←qg,gB _ (by rw[lH];exact h),AS,qg]at vy
   rw[Int.sub_sub]
   exact vy
  ·have mj:i=w.length:=ω
   subst mj
   rw[dI ω,dI ω]at eq er
   subst eq er
   rw[dI ω]
   have DT:=jq (nu ht (by omega:0≤w.sum) hp)
   have h1:=Dd ht hS
   unfold vf at h1
   rw[aq ω,ah,Hc N (by rw[eL];omega) (by rw[eL];omega),al]
   have hlen:=oi (kd t w.sum w)
   rw[eL]at hlen
   have po:=yg N (ks:=kb (kd t w.sum w)) ω w.length (λk hk=>by have:=s9 _ k hk;rwa [eL]at this) 1000 N 0 (t-(gG t w.sum w).sum).toNat (gG t w.sum w) ω ω ω (lH ..) (nu ht ω hp) ω ω
   rw[bX,jg h1]at po
   exact po
theorem Hf(hN:5000000≤N){t:Int}{w:List Int}(oP:t<9223372036854775808)(hw:SH w)(hl:w.length≤1000000):ke N t w=some (pM t w):=by
 unfold ke ke.b pM
 rw[JT N ω,al]
 by_cases h1:t<0
 ·rw[bn h1,Bool.true_or,aa,ae (.inl h1)]
 rw[bm h1,sa]
 cases h2:may w
 ·rw[bx,aa,ae (.inr rfl)]
 rw[aS,ah,af (by simp[h1]),Ep N ω hw hl,al,nX,al]
 obtain⟨P3,hp⟩:=kF.1 h2
 have hS0:=jq hp
 have hj: ∀h: ¬9223372036854775808≤w.sum,ke.j6 N t w (bz w.sum)=if w.sum=0 then some (List.replicate w.length 0,0)else some (fb t w,0):=λh=>by
  unfold ke.j6 ke.NU
  rw[xK,al,yh ω ω,aS,ah,bw ω ω ω,aa,aa,nX,al,ar]
  by_cases h4:w.sum=0
  ·rw[ae h4,h4,show nW 0=0 from rfl,bD rfl,aa]
  ·rw[af h4,bI (by unfold nW;repeat' split<;>omega),ah]
   have:=vg N hN ω oP P3 hp ω ω w.length N 0 (List.replicate w.length 0) (List.replicate w.length 0) ω ω ω (a5 ..) (a5 ..) rfl rfl
   rw[kS]at this
   simp only[gG,fh,jy,wS]at this
   exact this
 by_cases h3:9223372036854775808≤w.sum
 ·rw[ae h3,bI (by unfold nW;repeat' split<;>omega),ah]
  unfold ke.j6 ke.NU
  rw[xK,al];unfold q7;rw[af ω];rfl
 rw[af h3,hj h3]
 by_cases h4:w.sum=0
 ·rw[ae h4,ae h4,h4,show nW 0=0 from rfl,bD rfl,aa]
  by_cases h5:t=0
  ·rw[ae h5,bD h5,aS,ah]
  ·rw[af h5,bI h5,bx,aa]
 ·rw[af h4,af h4,bI (by unfold nW;repeat' split<;>omega),ah]
def dX(t n:Int):List Int×Int:=if t<0∨n<1∨64<n then([],1)else pM t (List.replicate n.toNat 1)
theorem De(n:Nat):SH (List.replicate n 1):=λx hx=>by rw[rE hx];omega
theorem Ms(hN:5000000≤N){t n:Int}(oP:t<9223372036854775808):WS N t n=some (dX t n):=by
 unfold WS dX
 by_cases h1:t<0
 ·rw[au h1,aa,ae (.inl h1)]
 by_cases h2:n<1
 ·rw[aq ω,ah,au h2,aa,ae (.inr (.inl h2))]
 by_cases h3:64<n
 ·rw[aq ω,ah,aq ω,ah,au h3,aa,ae (.inr (.inr h3))]
 rw[aq ω,ah,aq ω,ah,aq ω,ah,af ω]
 unfold sl
 dsimp only
 rw[ae ω,al,JV N ω oP (De _) (by rw[a5];omega)]
 rfl
theorem zV(N:Nat)(hN:5000000≤N){t:Int}{k:Nat}(hk:k≤64)(oP:t<9223372036854775808): ∀(m n i:Nat),k-i≤m→m<n→i≤k→
  yk.l5 N n t (k:Int) (List.replicate i 1++List.replicate (k-i) 0) (i:Int)=some (pM t (List.replicate k 1))
 |m,0,i,_,hn,_=>ω
 |m,n+1,i,hm,hn,hi=>by
  unfold yk.l5 yk.mP
  by_cases h:i<k
  ·rw[au ω,aa,aB ω (by simp;omega),aa,ax ω ω]
   refine Eq.trans ?_ (zV N hN hk oP (m-1) n (i+1) ω ω ω)
   congr 1
   rw[ar,List.set_append_right _ _ (by simp),a5,wP,show k-i=(k-(i+1))+1 by omega,rO,List.set_cons_zero,List.replicate_succ',bs]
   rfl
  ·rw[aq ω,ah,show k-i=0 by omega,rP,cy,show i=k by omega,Hf N hN oP (De _) (by rw[a5];omega)]
   rfl
theorem JW(hN:5000000≤N){t n:Int}(oP:t<9223372036854775808):yk N t n=some (dX t n):=by
 unfold yk yk.b dX
 by_cases h1:t<0
 ·rw[au h1,aa,ae (.inl h1)]
 by_cases h2:n<1
 ·rw[aq ω,ah,au h2,aa,ae (.inr (.inl h2))]
 by_cases h3:64<n
 ·rw[aq ω,ah,aq ω,ah,au h3,aa,ae (.inr (.inr h3))]
 rw[aq ω,ah,aq ω,ah,aq ω,ah,af ω,bw ω ω ω,aa]
 have:=zV N hN (t:=t) (k:=n.toNat) ω oP n.toNat N 0 ω ω ω
 rw[rP,fT,Nat.sub_zero,jg ω]at this
 exact this
end VM
end
section
namespace VM
open Go VM.F
variable(N:Nat)
end VM
end
section
namespace VM
open Go VM.F
variable(N:Nat)
end VM
end
section
namespace VM
open Go VM.F
variable(N:Nat)
end VM
end
section
namespace VM
open Go VM.F
variable(N:Nat)
theorem Mt{x:Int}(h:cB x)(hx:x≠ -170141183460469231731687303715884105728):WT N (bA x)=some (bA (-x),true):=by
 unfold WT Yz bA
 unfold cB at h
 dsimp only
 have hp:0≤x%18446744073709551616∧x%18446744073709551616<18446744073709551616:=ω
 have hh: -9223372036854775808≤x/18446744073709551616∧x/18446744073709551616<9223372036854775808:=ω
 rw[iD,iD,jH N ω ω ω ω ω ω,al]
 dsimp only
 have hb:(0:Int)≤(if(0:Int)<x%18446744073709551616+0 then 1 else 0)∧(if(0:Int)<x%18446744073709551616+0 then(1:Int)else 0)≤1:=by split<;>omega
 rw[jH N ω ω ω ω hb.1 hb.2,al]
 dsimp only
 have key: ∀{z:aM},z=bA (-x)→((some (z,true):Option (aM×Bool)).bind λr1=>some (r1.1,r1.2))=some (bA (-x),true):=λe=>by rw[e];rfl
 have e3:W .i64 ((0%18446744073709551616-x/18446744073709551616%18446744073709551616-(if(0:Int)<x%18446744073709551616+0 then 1 else 0))%18446744073709551616)=(-x)/18446744073709551616:=by
  by_cases h0:x%18446744073709551616=0
  ·rw[af (show ¬(0:Int)<x%18446744073709551616+0 by omega),ej];split<;>omega
  ·rw[ae (show(0:Int)<x%18446744073709551616+0 by omega),ej];split<;>omega
 have e1:(0-x%18446744073709551616-0)%18446744073709551616=(-x)%18446744073709551616:=ω
 rw[e3,e1]
 simp only[pI,nA]
 by_cases a:x/18446744073709551616<0
 ·have c: ¬(-x)/18446744073709551616<0:=ω
  rw[bm (show ¬(0:Int)<0 by omega),bn a,bm c]
  exact key rfl
 ·rw[bm (show ¬(0:Int)<0 by omega),bm a]
  exact key rfl
end VM
end
section
namespace VM
open Go VM.F
variable(N:Nat)
end VM
end
section
namespace VM
open Go VM.F
variable(N:Nat)
end VM
end
section
namespace VM
open Go VM.F
variable(N:Nat)
def WU(z:Int×Int)(n:Nat):Prop:=0≤z.1∧z.1≤1000000000*(n:Int)∧0≤z.2∧z.2≤1000000000*(n:Int)
theorem WU.mono{z:Int×Int}{n m:Nat}(h:WU z n)(hm:n≤m):WU z m:=by unfold WU at*;omega
end VM
end
section
namespace VM
open Go VM.F
variable(N:Nat)
end VM
end
section
namespace VM
open Go VM.F
variable(N:Nat)
end VM
end
section
namespace VM
open Go VM.F
variable(N:Nat)
end VM
end
section
namespace VM
open Go VM.F
variable(N:Nat)
end VM
end
section
namespace VM
open Go VM.F
variable(N:Nat)
def YA(q:Int):Prop:=1≤q∧q≤1000000000
instance(q:Int):Decidable (YA q):=by unfold YA;infer_instance
end VM
end
section
namespace VM
open Go VM.F Go.RowKit
variable(N:Nat)
def hR:bo:=[((1:Int),((0:Int),((-90:Int),()))),((5:Int),((1:Int),((90:Int),())))]
def hS:bo:=[((0:Int),((0:Int),((5:Int),()))),((0:Int),((1:Int),((20:Int),()))),((1:Int),((0:Int),((-5:Int),()))),((1:Int),((1:Int),((-20:Int),())))]
def hB:bf:=([((1:Int),((1:Int),()))],([((1:Int),((1:Int),((1:Int),((50:Int),()))))],(hR,(hS,([(100:Int),(7:Int)],(W7,()))))))
namespace Pure
end Pure
end VM
end
section
namespace VM
open Go VM.F
variable(N:Nat)
def G(m:Nat):(τ:Ty)→τ.den→Prop
 | .int .i64,x=>cA x
 | .int .u64,x=>0≤x∧x<18446744073709551616
 | .slice e,l=>ℓ l≤m∧ ∀x∈(l:List e.den),G m e x
 | .pair a b,x=>G m a x.1∧G m b x.2
 |_,_=>True
theorem G.mono{m n:Nat}(h:m≤n): ∀{τ:Ty} {x:τ.den},G m τ x→G n τ x
 | .int k,x,hx=>by cases k<;>exact hx
 | .slice e,l,hl=>⟨ea hl.1 h,λx hx=>G.mono h (hl.2 x hx)⟩
 | .pair a b,x,hx=>⟨G.mono h hx.1,G.mono h hx.2⟩
 | .bool,_,_=>trivial
 | .str,_,_=>trivial
 | .unit,_,_=>trivial
 | .arr _ _,_,_=>trivial
theorem G.nil{m:Nat}{e:Ty}:G m (.slice e) ([]:List e.den):=⟨fk _,λx hx=>nomatch hx⟩
theorem G.get{m:Nat}{e:Ty}{l:List e.den}{d:e.den}(h:G m (.slice e) l)(hd:G m e d)(k:Nat):G m e (l.getD k d):=by
 by_cases hk:k<l.length
 ·rw[aY,ba hk];exact h.2 _ (dB hk)
 ·rw[aY,eU ω];exact hd
theorem G.zero(m:Nat): ∀τ:Ty,G m τ τ.zero
 | .int k=>by cases k<;>first|trivial|exact⟨δ,δ⟩
 | .slice _=>G.nil
 | .pair a b=>⟨G.zero m a,G.zero m b⟩
 | .bool=>trivial
 | .str=>trivial
 | .unit=>trivial
 | .arr _ _=>trivial
theorem G.at{m:Nat}{e:Ty}{l:List e.den}(h:G m (.slice e) l)(k:Nat):G m e (l.getD k e.zero):=h.get (G.zero m e) k
theorem G.set{m:Nat}{e:Ty}{l:List e.den}{x:e.den}(h:G m (.slice e) l)(hx:G m e x)(k:Nat):G m (.slice e) (l.set k x):=
 ⟨by rw[aT];exact h.1,λy hy=>by
  rcases rC hy with hy|rfl
  ·exact h.2 y hy
  ·exact hx⟩
def Bg(k:Nat)(z:ay):Prop:= ∃v,z=bz v∧Fit v k
theorem Bg.mono{j k:Nat}{z:ay}(h:Bg j z)(hk:j≤k):Bg k z:=by
 obtain⟨v,e,f⟩:=h
 exact⟨v,e,Fit.mono f hk⟩
theorem Bg.zero:Bg 1 (false,(([]:List Int),())):=⟨0,eP.symm,by unfold Fit;decide⟩
def P5(m:Nat)(p:EG):Prop:=p.length≤m∧ ∀y∈p,Bg 8 y.2.2.1
theorem P5.at{m:Nat}{p:EG}(h:P5 m p)(i:Nat):Bg 8 (p.getD i ((0:Int),((0:Int),((false,z6),())))).2.2.1:=by
 by_cases hk:i<p.length
 ·rw[aY,ba hk];exact h.2 _ (dB hk)
 ·rw[aY,eU ω];exact Bg.mono Bg.zero δ
theorem P5.nil{m:Nat}:P5 m []:=⟨fk _,λx hx=>nomatch hx⟩
theorem P5.mono{m n:Nat}{p:EG}(h:P5 m p)(hm:m≤n):P5 n p:=⟨ea h.1 hm,h.2⟩
end VM
end
section
namespace VM
open Go VM.F
variable(N:Nat)
def N0(k:Nat)(l:FL):Prop:= ∀x∈l,Bg k x
theorem N0.mono{j k:Nat}{l:FL}(h:N0 j l)(hk:j≤k):N0 k l:=λx hx=>Bg.mono (h x hx) hk
theorem N0.at{k:Nat}{l:FL}(h:N0 k l)(h1:1≤k)(i:Nat):Bg k (l.getD i (false,z6)):=by
 by_cases hk:i<l.length
 ·rw[aY,ba hk];exact h _ (dB hk)
 ·rw[aY,eU ω];exact Bg.mono Bg.zero h1
theorem N0.set{k:Nat}{l:FL}{x:ay}(h:N0 k l)(hx:Bg k x)(i:Nat):N0 k (l.set i x):=λy hy=>by
 rcases rC hy with hy|rfl
 ·exact h y hy
 ·exact hx
def adF(c:ak)(x:lD):Prop:=((λi n:Int=>0≤i∧i<n) x.2.1 c.1.length)∧YA x.2.2.2.1
end VM
end
section
namespace VM
open Go VM.F
variable(N:Nat)
end VM
end
section
namespace VM
open Go VM.F
variable(N:Nat)
end VM
end
section
namespace VM
open Go VM.F
variable(N:Nat)
def Dk(k:Nat)(d:JX):Prop:=(∀x∈(d.1:List Int),0≤x∧x<18446744073709551616)∧0≤(d.2.1:Int)∧(d.2.1:Int)≤k
theorem Dk.mono{j k:Nat}{d:JX}(h:Dk j d)(hk:j≤k):Dk k d:=⟨h.1,h.2.1,o6 h.2.2 ω⟩
structure Cf(c:ak):Prop where
 g:G 5 aU c
 n:1≤c.1.length
end VM
end
section
namespace VM
open Go VM.F
variable(N:Nat)
end VM
end
section
namespace VM
open Go VM.F
variable(N:Nat)
end VM
end
section
namespace VM
open Go VM.F
variable(N:Nat)
end VM
end
section
namespace VM
open Go VM.F
variable(N:Nat)
end VM
end
section
namespace VM
open Go VM.F
variable(N:Nat)
end VM
end
section
namespace VM
open Go VM.F
variable(N:Nat)
theorem Um{l:List Int}(h:Pos l)(hs:l.sum<9223372036854775808):SH l:=λx hx=>by
 have h3:=h x hx
 obtain⟨i,hi,rfl⟩:=oS.1 hx
 have h4:=tX h i
 rw[aY,ba hi]at h4
 simp only[oV]at h4
 omega
theorem AV(k:Nat):(List.replicate k (1:Int)).sum=k:=by
 induction k with
 |zero=>rfl
 |succ k ih=>rw[rO,eV,ih];omega
theorem AW(k:Nat):Pos (List.replicate k 1):=λx hx=>by rw[rE hx];omega
theorem JY{t:Int}{k:Nat}(h0:0≤t)(h1:t<9223372036854775808)(hk:1≤k)(tf:k≤3):(dX t k).1.length=k∧SH (dX t k).1:=by
 have hS:0<(List.replicate k (1:Int)).sum:=by rw[AV];omega
 have ee:dX t k=(fb t (List.replicate k 1),0):=by
  unfold dX
  rw[af ω,ar]
  unfold pM
  have hm:may (List.replicate k 1)=true:=kF.2 ⟨by rw[a5];omega,AW k⟩
  rw[af (by rw[hm];simp;omega),AV,af ω,af ω]
 rw[ee]
 exact⟨by dsimp only;rw[EE,List.length_replicate],Um (yj h0 hS (AW k)) (by rw[EF h0 hS];omega)⟩
def LQ(y:mO):Prop:=cA y.1∧cA y.2.1∧q9 y.2.1
def iL(g s:Int):Int:=if g<1∨s<1 then 0 else if g≤s then 1 else if g≤2*s then 2 else 3
theorem mE(g s:Int):0≤iL g s∧iL g s≤3:=by unfold iL;repeat' split<;>omega
def ze(q:Int)(n k:Nat):Int:=if q<0 then-((dX (q.natAbs:Int) n).1.getD k 0)else(dX (q.natAbs:Int) n).1.getD k 0
def gZ(n k:Nat)(x:mO):Option mO:=if ze x.2.1 n k=0 then none else some (x.1,(ze x.2.1 n k,()))
def cC(l:aw)(n k:Nat):aw:=l.filterMap (gZ n k)
def nv(c:ak)(x:mO):Int:=(c.1.getD x.1.toNat aZ).1
def aL(c:ak)(l:aw)(k:Nat):aw:=l.filter λx=>decide (nv c x=(k:Int))
def c9(l:aw):Int:=(l.map λx=>(x.2.1.natAbs:Int)).sum
def gl(c:ak)(l:aw):Nat:=(iL (c9 l) c.2.2.2.2.2.1).toNat
def ew(c:ak)(l:aw):List aw:=(List.range (gl c l)).map (cC l (gl c l))
def lI(c:ak)(next:Int):List aw→aA→Option aA
 |[],out=>some out
 |p::t,out=>if p=[]then lI c next t out else if(q7 (-(dA c p))).2=true then lI c next t (out++[(next+(out.length:Int),(p,((q7 (-(dA c p))).1,(1,(0,(0,()))))))])else none
def qN(c:ak)(next:Int)(all:aw):List Nat→aA→Option aA
 |[],out=>some out
 |k::t,out=>(lI c next (ew c (aL c all k)) out).bind (qN c next all t)
def zW(c:ak)(all:aw)(next:Int):aA×Int:=match qN c next all (List.range 4) []with
 |some l=>(l,0)
 |none=>([],2)
theorem wj(x:Int):nW x<0↔x<0:=by unfold nW;split<;>(try split)<;>omega
theorem yl(K:rr.bK){g s x:Int}(hs:cA s)(hx:1≤x∧x≤3):rr.dF N K s (bA g) x=if x<3∧x*s<g then K s (bA g) (x+1)else some x:=by
 unfold rr.dF
 unfold cA at hs
 by_cases h3:x<3
 ·rw[au h3,aa,AI N ω ω hs.1 hs.2,al,FA,al,ax ω ω]
  by_cases h:x*s<g
  ·rw[au ((wj _).2 ω),aa,ae ⟨h3,h⟩]
  ·rw[aq (by have:=wj (x*s-g);omega),ah,af (λh'=>h h'.2)]
 ·rw[aq ω,ah,af (λh'=>h3 h'.1)]
theorem tZ(hN:10≤N){g s:Int}(hs:cA s):rr N (bA g) s=some (iL g s):=by
 obtain⟨n,rfl⟩: ∃n,N=n+4:=⟨N-4,ω⟩
 unfold rr rr.b iL
 rw[xS,al]
 by_cases h1:g<1
 ·rw[au (by unfold nW;split<;>(try split)<;>omega),aa,ae (.inl h1)]
 rw[aq (by unfold nW;split<;>(try split)<;>omega),ah]
 by_cases h2:s<1
 ·rw[au h2,aa,ae (.inr h2)]
 rw[aq ω,ah,af ω]
 unfold rr.l4
 rw[yl _ _ hs ω,jz]
 by_cases h3:g≤s
 ·rw[af ω,ae h3]
 rw[ae ω,af h3]
 unfold rr.l4
 rw[yl _ _ hs ω]
 by_cases h4:g≤2*s
 ·rw[af ω,ae h4];rfl
 rw[ae ω,af h4]
 unfold rr.l4
 rw[yl _ _ hs ω,af ω]
 rfl
theorem ua(hN:4000000≤N)(K:th.bK){g s x:Int}(hg:Fit g 900000)(hs:cA s)(hx:1≤x∧x≤3):th.dF N K s (bz g) x=if x<3∧x*s<g then K s (bz g) (x+1)else some x:=by
 unfold th.dF
 unfold cA at hs
 by_cases h3:x<3
 ·have fx:Fit x 2:=Fit.i64 ω ω
  have fs:Fit s 2:=Fit.i64 hs.1 hs.2
  rw[au h3,aa,eJ N ω ω ω,al,eJ N ω hs.1 hs.2,al,xL N hN (fx.mono ω) (fs.mono ω),al,Eo N hN ((fx.mul fs).mono ω) hg,al,ax ω ω]
  by_cases h:x*s<g
  ·rw[au ((wj _).2 ω),aa,ae ⟨h3,h⟩]
  ·rw[aq (by have:=wj (x*s-g);omega),ah,af (λh'=>h h'.2)]
 ·rw[aq ω,ah,af (λh'=>h3 h'.1)]
theorem EH(hN:4000000≤N){g s:Int}(hg:Fit g 900000)(hs:cA s):th N (bz g) s=some (iL g s):=by
 obtain⟨n,hn⟩: ∃n,N=n+4:=⟨N-4,ω⟩
 unfold th th.b iL
 rw[nX,al]
 by_cases h1:g<1
 ·rw[cq (by unfold nW;split<;>(try split)<;>omega),aa,ae (.inl h1)]
 rw[cf (by unfold nW;split<;>(try split)<;>omega),ah]
 by_cases h2:s<1
 ·rw[au h2,aa,ae (.inr h2)]
 rw[aq ω,ah,af ω]
 have e1: ∀m x,th.l4 N (m+1) s (bz g) x=th.dF N (th.l4 N m) s (bz g) x:=λ_ _=>rfl
 rw[show th.l4 N N=th.l4 N (n+4)by rw[←hn],e1,ua N hN _ hg hs ω,jz]
 by_cases h3:g≤s
 ·rw[af ω,ae h3]
 rw[ae ω,af h3,e1,ua N hN _ hg hs ω]
 by_cases h4:g≤2*s
 ·rw[af ω,ae h4];rfl
 rw[ae ω,af h4,e1,ua N hN _ hg hs ω,af ω]
 rfl
theorem Hg{α:Type}{n i:Nat}(g:Nat→α)(v:α)(hi:i<n):((List.range n).map g).set i v=(List.range n).map λk=>if k=i then v else g k:=by
 apply wL
 ·simp
 ·intro j h1 h2
  simp only[List.getElem_set,wH,rQ]
  by_cases h:i=j
  ·rw[ae h,ae h.symm]
  ·rw[af h,af (cP h)]
theorem ym{α:Type}{n i:Nat}(g:Nat→α)(d:α)(hi:i<n):((List.range n).map g).getD i d=g i:=by
 rw[aY,ba (by simpa using hi)];simp
theorem EI{q:Int}{n:Nat}(h:cA q)(hq:q9 q)(hn:n≤3):(dX (q.natAbs:Int) n).1.length=n∧SH (dX (q.natAbs:Int) n).1∧ ∀x∈(dX (q.natAbs:Int) n).1,0≤x:=by
 unfold cA at h
 have h2:(q.natAbs:Int)<9223372036854775808:=by
  have g: ∀x:Int,-9223372036854775808≤x→x<9223372036854775808→q9 x→(x.natAbs:Int)<9223372036854775808:=λx h1 h2 h3=>by unfold q9 at h3;omega
  exact g q h.1 h.2 hq
 by_cases h0:n=0
 ·subst h0
  have e:dX (q.natAbs:Int) ((0:Nat):Int)=([],1):=by unfold dX;rw[ae (.inr (.inl ω))]
  rw[e]
  exact⟨rfl,(λx (hx:x∈([]:List Int))=>nomatch hx),λx (hx:x∈([]:List Int))=>nomatch hx⟩
 ·obtain⟨e1,e2⟩:=JY (t:=(q.natAbs:Int)) (k:=n) ω h2 ω hn
  refine⟨e1,e2,?_⟩
  have hS:0<(List.replicate n (1:Int)).sum:=by rw[AV];omega
  have ee:dX (q.natAbs:Int) n=(fb (q.natAbs:Int) (List.replicate n 1),0):=by
   unfold dX
   rw[af ω,ar]
   unfold pM
   have hm:may (List.replicate n 1)=true:=kF.2 ⟨by rw[a5];omega,AW n⟩
   rw[af (by rw[hm];simp<;>omega),AV,af ω,af ω]
  rw[ee]
  exact yj ω hS (AW n)
theorem AX{q:Int}{n:Nat}(h:cA q)(hq:q9 q)(hn:n≤3)(k:Nat):0≤(dX (q.natAbs:Int) n).1.getD k 0∧(dX (q.natAbs:Int) n).1.getD k 0<9223372036854775808:=by
 obtain⟨e1,e2,e3⟩:=EI h hq hn
 by_cases hk:k<(dX (q.natAbs:Int) n).1.length
 ·rw[aY,ba hk]
  exact⟨e3 _ (dB hk),(e2 _ (dB hk)).2⟩
 ·rw[aY,eU ω];exact⟨δ,δ⟩
theorem Mu{q:Int}{n:Nat}(h:cA q)(hq:q9 q)(hn:n≤3)(k:Nat):cA (ze q n k):=by
 have:=AX h hq hn k
 unfold ze cA
 split<;>omega
theorem nw(l:aw)(n k:Nat):(cC l n k).length≤l.length:=List.length_filterMap_le _ _
theorem FM{l:aw}(h: ∀y∈l,LQ y){n:Nat}(hn:n≤3)(k:Nat): ∀y∈cC l n k,cA y.2.1:=λy hy=>by
 obtain⟨x,hx,e⟩:=List.mem_filterMap.1 hy
 unfold gZ at e
 split at e
 ·cases e
 ·cases e;exact Mu (h x hx).2.1 (h x hx).2.2 hn k
theorem yp{l:aw}{i:Nat}(hi:i<l.length)(n k:Nat):cC (l.take (i+1)) n k=cC (l.take i) n k++(gZ n k (l.getD i bE)).toList:=by
 unfold cC
 rw[wF,List.filterMap_append,ba hi,aY,ba hi]
 congr 1
theorem JZ(hN:100≤N)(K8:ck.eM)(P6:ck.oH)(next:Int)(c:ak)(all:aw)(out:aA){n:Nat}(hn:n≤3)(f:Nat→aw)(hf: ∀k,(f k).length≤100000){x:mO}(hx:LQ x)(b:Int)(own:aw)(ol ix:Int):
  ck.KM N K8 P6 N next c all out ((List.range n).map f) x b own ol ix (dX (x.2.1.natAbs:Int) n).1 ((dX (x.2.1.natAbs:Int) n).1.length:Int) 0=P6 next c all out ((List.range n).map λk=>f k++(gZ n k x).toList) b own ol (W .i64 (ix+1)):=by
 obtain⟨e1,e2,e3⟩:=EI hx.2.1 hx.2.2 hn
 have ha:=AX hx.2.1 hx.2.2 hn
 have Hh: ∀k,ze x.2.1 n k=if x.2.1<0 then-((dX (x.2.1.natAbs:Int) n).1.getD k 0)else(dX (x.2.1.natAbs:Int) n).1.getD k 0:=λk=>rfl
 generalize (dX (x.2.1.natAbs:Int) n).1=cut at*
 have:=n0 cut (0:Int) (λm j s=>ck.KM N K8 P6 m next c all out s x b own ol ix cut (cut.length:Int) j) (λ_ _=>P6 next c all out ((List.range n).map λk=>f k++(gZ n k x).toList) b own ol (W .i64 (ix+1)))
  (λj s=>s=(List.range n).map λk=>if k<j then f k++(gZ n k x).toList else f k)
  (λm j s hj hI hr=> ?_) (λm s hI=> ?_) cut.length N 0 ((List.range n).map f) ω ω ω (by simp)
 ·exact this
 ·have key: ∀q,q=ze x.2.1 n j→ck.J0 N K8 P6 (ck.KM N K8 P6 m) next c all out s x (j:Int) q b own ol ix cut (cut.length:Int) (j:Int)=P6 next c all out ((List.range n).map λk=>f k++(gZ n k x).toList) b own ol (W .i64 (ix+1)):=λq hq=>by
   unfold ck.J0 ck.EJ
   have hl:s.length=n:=by rw[hI];simp
   have hg:s.getD j c5=f j:=by rw[hI,ym _ _ ω,af ω]
   rw[cond_not,ax (x:=(j:Int)+1) ω ω,an j]
   by_cases h0:q=0
   ·rw[bD h0,aa]
    refine hr s ?_
    rw[hI]
    refine gJ λk hk=> ?_
    by_cases h1:k=j
    ·subst h1
     have e:gZ n k x=none:=by unfold gZ;rw[ae (by rw[←hq];exact h0)]
     rw[af ω,ae ω,e];simp
    ·by_cases h2:k<j
     ·rw[ae h2,ae ω]
     ·rw[af h2,af ω]
   ·have hfj:=hf j
    rw[bI h0,ah,ar,hg,aB ω ω,aa,bp (by rw[a6];omega),aa,aa,bD rfl,aa]
    refine hr _ ?_
    rw[hI,Hg _ _ ω]
    refine gJ λk hk=> ?_
    by_cases h1:k=j
    ·subst h1
     have e:gZ n k x=some (x.1,(q,())):=by unfold gZ;rw[af (by rw[←hq];exact h0),←hq]
     rw[ae rfl,ae ω,e];rfl
    ·rw[af h1]
     by_cases h2:k<j
     ·rw[ae h2,ae ω]
     ·rw[af h2,af ω]
  have IB:=ha j
  have hc:=Hh j
  unfold ck.KM ck.Mv
  rw[au ω,aa,aB ω ω,aa,ar]
  by_cases h:x.2.1<0
  ·rw[ae h]at hc
   rw[au h,aa,ax (x:=0-cut.getD j 0) ω ω]
   exact key _ ((Int.zero_sub _).trans hc.symm)
  ·rw[af h]at hc
   rw[aq (Int.not_lt.1 h),ah]
   exact key _ hc.symm
 ·unfold ck.KM ck.Mv
  rw[aq ω,ah,hI]
  congr 1
  refine gJ λk hk=> ?_
  rw[ae (by have:=o3.1 hk;omega)]
theorem Hi(hN:5000000≤N)(K8:ck.eM)(next:Int)(c:ak)(all:aw)(out:aA){n:Nat}(hn:n≤3)(b:Int){own:aw}(hl:own.length≤100000)(hq: ∀y∈own,LQ y):
  ck.AU N K8 N next c all out (List.replicate n c5) b own (own.length:Int) 0=ck.KN N K8 N next c all out b ((List.range n).map (cC own n)) ((((List.range n).map (cC own n)).length:Nat):Int) 0:=by
 have:=n0 own bE (λm i s=>ck.AU N K8 m next c all out s b own (own.length:Int) i) (λ_ _=>ck.KN N K8 N next c all out b ((List.range n).map (cC own n)) ((((List.range n).map (cC own n)).length:Nat):Int) 0)
  (λi s=>s=(List.range n).map (cC (own.take i) n)) (λm i s hi hI hr=> ?_) (λm s hI=> ?_) own.length N 0 (List.replicate n c5) ω ω ω ?_
 ·exact this
 ·have hx:own.getD i bE∈own:=by rw[aY,ba hi];exact dB hi
  have hy:=hq _ hx
  have uP:=hy.2.1
  unfold cA at uP
  have hb:((own.getD i bE).2.1.natAbs:Int)<9223372036854775808:=by
   have g: ∀x:Int,-9223372036854775808≤x→x<9223372036854775808→q9 x→(x.natAbs:Int)<9223372036854775808:=λx h1 h2 h3=>by unfold q9 at h3;omega
   exact g _ uP.1 uP.2 hy.2.2
  unfold ck.AU ck.Db
  rw[au ω,aa,aB ω ω,aa,ar,sS N uP.1 uP.2,al,ax ω hb,Ms N hN hb,al]
  rw[hI]
  have hlen:((((List.range n).map (cC (own.take i) n)).length:Nat):Int)=n:=by simp
  rw[hlen]
  refine(JZ N ω K8 (ck.AU N K8 m) next c all out hn (cC (own.take i) n) (λk=> ?_) hy b own (own.length:Int) (i:Int)).trans ?_
  ·have h1:=nw (own.take i) n k
   rw[a7]at h1
   omega
  ·rw[ax (x:=(i:Int)+1) ω ω,an i]
   refine hr _ (gJ λk _=> ?_)
   exact(yp hi n k).symm
 ·unfold ck.AU ck.Db
  rw[aq ω,ah,hI,fR]
 ·have e:cC (own.take 0) n=λ_=>c5:=by funext k;rfl
  rw[e]
  apply wL
  ·simp
  ·intros;simp
end VM
end
section
namespace VM
open Go VM.F
variable(N:Nat)
end VM
end
section
namespace VM
open Go VM.F
variable(N:Nat)
end VM
end
section
namespace VM
open Go VM.F
variable(N:Nat)
end VM
end
section
namespace VM
open Go VM.F
variable(N:Nat)
abbrev GS(m:Nat)(s:Mw):Prop:=G m AY s
end VM
end
section
namespace VM
open Go VM.F
variable(N:Nat)
end VM
end
section
namespace VM
open Go VM.F Go.RowKit
variable(N:Nat)
namespace Pure
end Pure
theorem Un{α:Type}{l:List α}{d:α}{i:Nat}(h:i<l.length):l.getD i d∈l:=by
 rw[aY,ba h];exact dB h
theorem yq{l:aw}(hl:l.length≤100000)(hN:200000≤N):ru N l l=some true:=by
 unfold ru ru.b
 rw[eK,aS,ah]
 refine qf (F:=λn i=>ru.l4 N n l l i) (len:=l.length) (λn i hi hr=> ?_) (λn=> ?_) l.length N 0 ω ω ω
 ·unfold ru.l4 ru.dF
  rw[au ω,aa,aB ω ω,aa,aa,JM,aS,ah,ax (x:=(i:Int)+1) ω ω,an i]
  exact hr
 ·unfold ru.l4 ru.dF
  rw[aq ω,ah]
namespace Pure
end Pure
end VM
end
section
namespace VM
open Go VM.F Go.RowKit
variable(N:Nat)
namespace Pure
end Pure
end VM
end
section
namespace VM
open Go VM.F Go.RowKit
variable(N:Nat)
namespace Pure
end Pure
def J1(m:aw)(a:bN)(k n:Int):Prop:=(eR k 5→(gk a n).2=true)∧(eR k 6∨eR k 7→ ¬eR (gE m n) 0)
def J2(c:ak)(a:bN)(k n:Int):Prop:=(eR k 0∨(gk a k).2=true)∧Bi n c.1.length
end VM
end
section
namespace VM
open Go VM.F
variable(N:Nat)
theorem My{α:Type}{l:List α}{d:α}{i:Nat}(h:i<l.length):l.getD i d=l[i]:=by
 rw[aY,ba h];rfl
theorem jr{α:Type}{d:α}{l:List α}{Q:α→Prop}:(∀j,j<l.length→Q (l.getD j d))↔ ∀x∈l,Q x:=
 ⟨λh x hx=>by
  obtain⟨i,hi,e⟩:=mc hx
  rw[←e,←My (d:=d) hi];exact h i hi,λh j hj=>h _ (Un hj)⟩
theorem qi{α:Type}{d:α}{R:α→α→Prop}(tr: ∀a b c,R a b→R b c→R a c): ∀l:List α,(∀j,j<l.length→0<j→R (l.getD (j-1) d) (l.getD j d))↔l.Pairwise R
 |[]=>⟨λ_=>List.Pairwise.nil,λ_ j hj=>nomatch hj⟩
 |[x]=>⟨λ_=>Bv R x,λ_ j hj h0=>by have:j<1:=hj;omega⟩
 |x::y::t=>by
  rw[mf,←qi tr (y::t)]
  constructor
  ·intro h
   have ND:R x y:=h 1 (by simp) ω
   have ht: ∀j,j<(y::t).length→0<j→R ((y::t).getD (j-1) d) ((y::t).getD j d):=λj hj h0=>by
    have:=h (j+1) (by simpa using hj) ω
    obtain⟨k,rfl⟩: ∃k,j=k+1:=⟨j-1,ω⟩
    exact this
   have hp:=(qi tr (y::t)).1 ht
   refine⟨λz hz=> ?_,ht⟩
   rcases bu.1 hz with rfl|hz
   ·exact ND
   ·exact tr _ _ _ ND ((mf.1 hp).1 z hz)
  ·rintro⟨h1,h2⟩ j hj h0
   obtain⟨k,rfl⟩: ∃k,j=k+1:=⟨j-1,ω⟩
   cases k with
   |zero=>exact h1 y (bl ..)
   |succ k=>exact h2 (k+1) (by simpa using hj) ω
def N1(x y:mO):Prop:=Bi x.1 y.1
theorem J3{a b c:Int}(h1:Bi a b)(h2:Bi b c):Bi a c:=Int.lt_trans h1 h2
def N2(a b:Int):Prop:=1≤a∧a≤12∧1≤b∧b≤4
theorem pO{m:aw}:dx m=true↔(∀x∈m,N2 x.1 x.2.1)∧m.Pairwise N1:=by
 unfold dx
 rw[jv,im,←qi (R:=N1) (d:=bE) (λ_ _ _=>J3),←jr (d:=bE)]
 exact⟨λh=>⟨λj hj=>⟨(h j hj).1,(h j hj).2.1,(h j hj).2.2.1,(h j hj).2.2.2.1⟩,λj hj h0=>(h j hj).2.2.2.2 h0⟩,λh j hj=>⟨(h.1 j hj).1,(h.1 j hj).2.1,(h.1 j hj).2.2.1,(h.1 j hj).2.2.2,λh0=>h.2 j hj h0⟩⟩
def Hj(m:aw)(n:Int):Prop:= ∃x∈m,eR x.1 n
def J4(a:bN)(n:Int):Prop:= ∃x∈a,eR x.1 n
theorem mF{n:Int}: ∀{m:aw},(∀x∈m,N2 x.1 x.2.1)→(¬eR (fa n m) 0↔Hj m n)
 |[],_=>⟨λh=>absurd rfl h,λ⟨_,h,_⟩=>nomatch h⟩
 |x::t,h=>by
  have ih:=mF (n:=n) λy hy=>h y (aR _ hy)
  have hx:=h x (bl ..)
  rw[oa]
  by_cases e:x.1=n
  ·rw[ae e]
   have g: ∀v:Int,1≤v→ ¬eR v 0:=λv h1 h2=>by unfold eR at h2;omega
   exact⟨λ_=>⟨x,bl ..,e⟩,λ_=>g _ hx.2.2.1⟩
  ·rw[af e,ih]
   exact⟨λ⟨y,hy,h⟩=>⟨y,aR _ hy,h⟩,λ⟨y,hy,h'⟩=>(bu.1 hy).elim (λk=>absurd (k▸h') e) λhy=>⟨y,hy,h'⟩⟩
theorem zX{n:Int}: ∀{a:bN},(sX n a).2=true↔J4 a n
 |[]=>⟨λh=>(nomatch h),λ⟨_,h,_⟩=>nomatch h⟩
 |x::t=>by
  rw[ra]
  by_cases e:x.1=n
  ·rw[ae e]
   exact⟨λ_=>⟨x,bl ..,e⟩,λ_=>rfl⟩
  ·rw[af e,zX]
   exact⟨λ⟨y,hy,h⟩=>⟨y,aR _ hy,h⟩,λ⟨y,hy,h'⟩=>(bu.1 hy).elim (λk=>absurd (k▸h') e) λhy=>⟨y,hy,h'⟩⟩
theorem EK{m:aw}(h:dx m=true)(n:Int): ¬eR (gE m n) 0↔Hj m n:=by
 unfold gE;rw[ae h];exact mF (pO.1 h).1
theorem ta{a:bN}(h:ka a=true)(n:Int):(gk a n).2=true↔J4 a n:=by
 unfold gk;rw[ae h];exact zX
def Df(m:aw)(a:bN)(k n:Int):Prop:=(eR k 5→J4 a n)∧(eR k 6∨eR k 7→Hj m n)
def Dg(c:ak)(a:bN)(k n:Int):Prop:=(eR k 0∨J4 a k)∧Bi n c.1.length
def J5(c:ak)(a:bN)(x:Et):Prop:=J4 a x.2.1∧Bi x.2.2.1 c.1.length
theorem FN{m:aw}{a:bN}(hm:dx m=true)(ha:ka a=true){k n:Int}:J1 m a k n↔Df m a k n:=by
 unfold J1 Df;rw[ta ha,EK hm]
theorem FO{c:ak}{a:bN}(ha:ka a=true){k n:Int}:J2 c a k n↔Dg c a k n:=by
 unfold J2 Dg;rw[ta ha]
structure RB(C:ak)(b:bf):Prop where
 c:iF C=true
 m:dx b.1=true
 a:ka b.2.1=true
 ma: ∀x∈b.2.1,Hj b.1 x.2.1
 r:j1 b.2.2.1=true
 t:eR (gO b.2.2.1) 0
 s:ri b.2.2.2.1=true
 o:gD b.2.2.2.2.2.1=true
 n:eR b.2.2.2.2.1.length C.1.length
 rk: ∀x∈b.2.2.1,Df b.1 b.2.1 x.1 x.2.1
 sk: ∀x∈b.2.2.2.1,Dg C b.2.1 x.1 x.2.1
 ok: ∀x∈b.2.2.2.2.2.1,J5 C b.2.1 x
 p:gF b.2.2.2.2.1=true
theorem J6{c:ak}{b:bf}:iZ c b=true↔RB c b:=by
 unfold iZ pL
 simp only[bg,jv,im]
 constructor
 ·rintro⟨b1,⟨b2,Mz,P7⟩,b3,b4,b5,b6,b7,b8,b9,WV,YB⟩
  refine⟨b1,b2,Mz,?_,b3,b4,b5,b6,b7,?_,?_,?_,YB⟩
  ·exact(jr (d:=aZ) (Q:=λx=>Hj b.1 x.2.1)).1 λj hj=>(mF (pO.1 b2).1).1 (P7 j hj)
  ·exact(jr (d:=cH) (Q:=λx=>Df b.1 b.2.1 x.1 x.2.1)).1 λj hj=>(FN b2 Mz).1 (b8 j hj)
  ·exact(jr (d:=cH) (Q:=λx=>Dg c b.2.1 x.1 x.2.1)).1 λj hj=>(FO Mz).1 (b9 j hj)
  ·exact(jr (d:=vP) (Q:=λx=>J5 c b.2.1 x)).1 λj hj=>⟨(ta Mz _).1 (WV j hj).1,(WV j hj).2⟩
 ·rintro⟨b1,b2,Mz,P7,b3,b4,b5,b6,b7,b8,b9,WV,YB⟩
  refine⟨b1,⟨b2,Mz,?_⟩,b3,b4,b5,b6,b7,?_,?_,?_,YB⟩
  ·exact λj hj=>(mF (pO.1 b2).1).2 ((jr (d:=aZ) (Q:=λx=>Hj b.1 x.2.1)).2 P7 j hj)
  ·exact λj hj=>(FN b2 Mz).2 ((jr (d:=cH) (Q:=λx=>Df b.1 b.2.1 x.1 x.2.1)).2 b8 j hj)
  ·exact λj hj=>(FO Mz).2 ((jr (d:=cH) (Q:=λx=>Dg c b.2.1 x.1 x.2.1)).2 b9 j hj)
  ·exact λj hj=>let h:=(jr (d:=vP) (Q:=λx=>J5 c b.2.1 x)).2 WV j hj;⟨(ta Mz _).2 h.1,h.2⟩
theorem Hk{l:bo}(h:e8 l=true): ∀x∈l,vE x≠0:=by
 unfold e8 at h
 rw[jv]at h
 exact(jr (d:=cH) (Q:=λx=>vE x≠0)).1 λj hj=>((bO h) j hj).2.1
end VM
end
section
namespace VM
open Go VM.F Go.RowKit
variable(N:Nat)
theorem J7{c:ak}{b:bf}(hR:RB c b)(a:Int):gY c (posOf b.2.2.2.1 a)=true:=by
 have hk:=(AP (J6.2 hR)).2
 obtain⟨h1,h2⟩:=C4 hk
 have e:posOf b.2.2.2.1 a=iK a b.2.2.2.1:=by unfold posOf;rw[ae hk]
 rw[e]
 have hs:(iK a b.2.2.2.1).Pairwise (λx y:mO=>Bi x.1 y.1):=List.pairwise_map.1 (vd (a:=a) h1)
 have hc:=(qi (R:=λx y:mO=>Bi x.1 y.1) (d:=bE) (λ_ _ _=>J3) _).2 hs
 unfold gY
 refine gI.2 ⟨bn λj hj=> ?_,hR.c⟩
 obtain⟨x,hx,_,e⟩:=lF (Un (d:=bE) hj)
 have hp:=hc j hj
 unfold iJ
 rw[e]at hp ⊢
 exact⟨(h2 x hx).1.2.2.1,(hR.sk x hx).2,Hk hk x hx,(h2 x hx).2,λh0=>hp h0⟩
theorem oj(c:ak)(next:Int)(p:aw)(t:List aw)(out:aA):lI c next (p::t) out=
 if p=[]then lI c next t out else if(q7 (-(dA c p))).2=true then lI c next t (out++[(next+(out.length:Int),(p,((q7 (-(dA c p))).1,(1,(0,(0,()))))))])else none:=rfl
theorem nx{c:ak}{next:Int}: ∀{t:List aw} {out o:aA},lI c next t out=some o→o.length≤out.length+t.length
 |[],out,o,h=>by cases h;exact aH _
 |p::t,out,o,h=>by
  rw[oj]at h
  rw[aG]
  split at h
  ·have:=nx h;omega
  ·split at h
   ·have:=nx h;rw[aO,a6]at this;omega
   ·cases h
theorem rl(c:ak)(next:Int)(all:aw)(k:Nat)(t:List Nat)(out:aA):qN c next all (k::t) out=(lI c next (ew c (aL c all k)) out).bind (qN c next all t):=rfl
theorem Dh{x:Int}(h:0≤x∧x≤92233720368547758070000000000):cB x∧x≠ -170141183460469231731687303715884105728∧cB (-x):=by unfold cB;omega
theorem Hl(hN:5000000≤N)(K8:ck.eM){next:Int}(hn:1≤next∧next≤1099511627764)(c:ak)(all:aw)(b:Int){parts:List aw}(hp:parts.length≤3)(hq: ∀p∈parts,p.length≤100000∧ ∀y∈p,cA y.2.1){out:aA}(ho:out.length≤1000):
  ck.KN N K8 N next c all out b parts (parts.length:Int) 0=match lI c next parts out with
   |some o=>K8 next c all o (W .i64 (b+1))
   |none=>some ([],2):=by
 have:=n0 parts c5 (λm j s=>ck.KN N K8 m next c all s b parts (parts.length:Int) j) (λt s=>match lI c next t s with
   |some o=>K8 next c all o (W .i64 (b+1))
   |none=>some ([],2)) (λj s=>s.length≤1000+j) (λm j s hj hI hr=> ?_) (λm s hI=> ?_) parts.length N 0 out ω ω ω ω
 ·exact this
 ·have hx:parts.getD j c5∈parts:=by rw[aY,ba hj];exact dB hj
  obtain⟨h1,h2⟩:=hq _ hx
  unfold ck.KN ck.MA
  rw[au ω,aa,aB ω ω,aa,ar,ax (x:=(j:Int)+1) ω ω,an j,oj]
  by_cases qx:parts.getD j c5=[]
  ·rw[ae qx,bD (by rw[qx];rfl),aa]
   exact hr s ω
  ·have Gh:((parts.getD j c5).length:Int)≠0:=λh=>qx (ij ω)
   obtain⟨g1,g2,g3⟩:=Dh (rj (c:=c) h2)
   rw[af qx,bI Gh,ah,Mm N ω c h1 h2,al,Mt N g1 g2,al,JI N g3,al,cond_not]
   by_cases hi:(q7 (-(dA c (parts.getD j c5)))).2=true
   ·rw[ae hi,hi,aa,ax (x:=next+(s.length:Int)) ω ω]
    dsimp only
    rw[bp (by rw[a6];omega),aa]
    exact hr _ (by rw[aO,a6];omega)
   ·rw[af hi,fQ _ |>.mp hi,ah]
 ·unfold ck.KN ck.MA
  rw[aq ω,ah]
  rfl
theorem qj: ∀{l:aw},(∀y∈l,LQ y)→0≤c9 l∧c9 l≤9223372036854775808*(l.length:Int)
 |[],_=>δ
 |x::t,h=>by
  have ih:=qj (λy hy=>h y (aR _ hy))
  have hx:=(h x bl).2.1
  have hb:(x.2.1.natAbs:Int)≤9223372036854775808:=by
   have g: ∀x:Int,cA x→(x.natAbs:Int)≤9223372036854775808:=λx h=>by unfold cA at h;omega
   exact g _ hx
  have e:c9 (x::t)=(x.2.1.natAbs:Int)+c9 t:=by unfold c9;rw[bQ,eV]
  have e2:(((x::t).length:Nat):Int)=(t.length:Int)+1:=by rw[aG];rfl
  rw[e,e2,eG]
  omega
theorem yr(l:aw)(x:mO):c9 (l++[x])=c9 l+(x.2.1.natAbs:Int):=by
 unfold c9
 rw[dv,oZ]
 simp
theorem qO{c:ak}{l:aw}{i:Nat}(hi:i<l.length)(k:Nat):aL c (l.take (i+1)) k=aL c (l.take i) k++if nv c (l.getD i bE)=(k:Int)then [l.getD i bE]else []:=by
 unfold aL
 rw[wF,List.filter_append,ba hi,aY,ba hi]
 congr 1
 simp only[Option.toList_some,oV,List.filter_cons,List.filter_nil,rT]
theorem ga(c:ak)(l:aw)(k:Nat):(aL c l k).length≤l.length:=BA _ _
theorem iM{c:ak}{l:aw}{k:Nat}{y:mO}(h:y∈aL c l k):y∈l:=(oX.1 h).1
theorem Di(hN:5000000≤N)(K8:ck.eM)(next:Int){c:ak}(hc:cA c.2.2.2.2.2.1){all:aw}(hl:all.length≤1000)(hq: ∀y∈all,LQ y∧0≤(y.1:Int)∧(y.1:Int)<(c.1.length:Int))(out:aA)(k:Nat):
  ck.wi N K8 N next c all out (k:Int) c5 (bA 0) (k:Int) (all.length:Int) 0=ck.AU N K8 N next c all out (List.replicate (gl c (aL c all k)) c5) (k:Int) (aL c all k) ((aL c all k).length:Int) 0:=by
 have:=n0 all bE (λm i (s:aw×aM)=>ck.wi N K8 m next c all out (k:Int) s.1 s.2 (k:Int) (all.length:Int) i) (λ_ _=>ck.AU N K8 N next c all out (List.replicate (gl c (aL c all k)) c5) (k:Int) (aL c all k) ((aL c all k).length:Int) 0)
  (λi s=>s=(aL c (all.take i) k,bA (c9 (aL c (all.take i) k)))) (λm i s hi hI hr=> ?_) (λm s hI=> ?_) all.length N 0 (c5,bA 0) ω ω ω rfl
 ·exact this
 ·have hx:all.getD i bE∈all:=by rw[aY,ba hi];exact dB hi
  obtain⟨hy,qx,WW⟩:=hq _ hx
  have uP:=hy.2.1
  unfold cA at uP
  have hb:((all.getD i bE).2.1.natAbs:Int)<9223372036854775808:=by
   have g: ∀x:Int,-9223372036854775808≤x→x<9223372036854775808→q9 x→(x.natAbs:Int)<9223372036854775808:=λx h1 h2 h3=>by unfold q9 at h3;omega
   exact g _ uP.1 uP.2 hy.2.2
  have hlen:=ga c (all.take i) k
  rw[a7]at hlen
  have hg:=qj (l:=aL c (all.take i) k) λy hy=>(hq y (il (iM hy))).1
  have FP:=qO (c:=c) hi k
  subst hI
  generalize aL c (all.take i) k=own at*
  unfold ck.wi ck.tY
  dsimp only
  rw[au ω,aa,aB ω ω,aa,ar,aB qx WW,aa,ax (x:=(i:Int)+1) ω ω,an i]
  change cond (bq (nv c (all.getD i bE)) (k:Int)) _ _=_
  by_cases h:nv c (all.getD i bE)=(k:Int)
  ·rw[ae h]at FP
   rw[bD h,aa,bp (by rw[a6];omega),aa,sS N uP.1 uP.2,al,ax ω hb,xN N ω hb,al,Mp N (by unfold cB;omega) (by unfold cB;omega) (by unfold cB;omega),al]
   refine hr (own++[all.getD i bE],bA (c9 own+((all.getD i bE).2.1.natAbs:Int))) ?_
   rw[FP,yr]
  ·rw[af h,cy]at FP
   rw[bI h,ah]
   refine hr (own,bA (c9 own)) ?_
   rw[FP]
 ·have hS:=mE (c9 (aL c all k)) c.2.2.2.2.2.1
  rw[fR]at hI
  subst hI
  unfold ck.wi ck.tY
  dsimp only
  rw[aq ω,ah,tZ N ω hc,al,bw hS.1 ω ω,aa]
  rfl
theorem J8(hN:5000000≤N){next:Int}(hn:1≤next∧next≤1099511627764){c:ak}(hc:cA c.2.2.2.2.2.1){all:aw}(hl:all.length≤1000)(hq: ∀y∈all,LQ y∧0≤(y.1:Int)∧(y.1:Int)<(c.1.length:Int)):
  ck.l8 N N next c all [] 0=some (zW c all next):=by
 have:=n0 (List.range 4) 0 (λm i s=>ck.l8 N m next c all s i) (λt s=>match qN c next all t s with
   |some o=>some (o,(0:Int))
   |none=>some ([],2)) (λi s=>s.length≤3*i) (λm i s hi hI hr=> ?_) (λm s hI=> ?_) 4 N 0 [] (by rw[ji];omega) ω ω (by rw[bM];omega)
 ·rw[show((0:Nat):Int)=0 from rfl,bX]at this
  rw[this]
  unfold zW
  cases qN c next all (List.range 4) []<;>rfl
 ·have Xs:i<4:=by rw[ji]at hi;exact hi
  have e:(List.range 4).getD i 0=i:=by rw[aY,ba hi];simp
  have MB: ∀y∈aL c all i,LQ y:=λy hy=>(hq y (iM hy)).1
  have oB:=ga c all i
  have hS:=mE (c9 (aL c all i)) c.2.2.2.2.2.1
  have hp:gl c (aL c all i)≤3:=by unfold gl;omega
  rw[e,rl]
  unfold ck.l8 ck.G2
  rw[au ω,aa]
  refine(Di N hN (ck.l8 N m) next hc hl hq s i).trans ?_
  rw[Hi N hN _ _ _ _ _ hp _ ω MB]
  have e2:(List.range (gl c (aL c all i))).map (cC (aL c all i) (gl c (aL c all i)))=ew c (aL c all i):=rfl
  have e3:(ew c (aL c all i)).length≤3:=by unfold ew;simp;exact hp
  rw[e2,Hl N hN _ hn c all _ e3 (λp hpm=> ?_) ω,ax (x:=(i:Int)+1) ω ω,an i]
  ·cases hL:lI c next (ew c (aL c all i)) s with
   |none=>rfl
   |some o=>
    have:=nx hL
    exact hr o ω
  ·obtain⟨j,_,rfl⟩:=cN.1 hpm
   exact⟨by have:=nw (aL c all i) (gl c (aL c all i)) j;omega,FM MB hp j⟩
 ·unfold ck.l8 ck.G2
  rw[aq (by rw[ji];omega),ah]
  rfl
end VM
end
