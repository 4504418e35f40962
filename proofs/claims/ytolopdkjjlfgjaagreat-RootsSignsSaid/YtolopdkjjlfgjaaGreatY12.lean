/- Changes of sign of two lists of numbers that are near each other. -/
import Derived.Test.YtolopdkjjlfgjaaGreatY11
import Derived.Test.YtolopdkjjlfgjaaGreatZ2
set_option linter.unusedVariables false
noncomputable section
namespace Go.Am
def fH (a b:Rat):Prop:=(0<a/\0<b)\/(a<0/\b<0)
theorem gH {q:Rat} (h:0<q):bK q=1:=by unfold bK;rw[if_neg (by grind),if_pos h]
theorem gJ {q:Rat} (h:q<0):bK q=-1:=by unfold bK;rw[if_pos h]
theorem nL {q:Rat} (h:q=0):bK q=0:=by subst h;rfl
def DF (k:Nat) (a b:Nat->Rat):Prop:=∀j,j<=k->fH (a j) (b j)\/(∃i,j=i+1/\i+2<=k/\fH (a i) (b i)/\fH (a (i+2)) (b (i+2))/\¬fH (a i) (a (i+2)))\/(j=0/\1<=k/\fH (a 1) (b 1)/\((0<a 1/\a 0<b 0)\/(a 1<0/\b 0<a 0)))
def vr (a:Nat->Rat) (n:Nat):Nat:=(cq (fun i=>bK (a i)) n).2
theorem mu (s:Nat->Int) (i:Nat):cq s (i+1)=(if s i=0 then(cq s i).1 else s i,if s i*(cq s i).1<0 then(cq s i).2+1 else(cq s i).2):=rfl
theorem fH.gC {a b:Rat} (h:fH a b):(bK a=1/\bK b=1)\/(bK a=-1/\bK b=-1):=by
 rcases h with⟨h1,h2⟩|⟨h1,h2⟩
 ·exact .inl ⟨gH h1,gH h2⟩
 ·exact .inr ⟨gJ h1,gJ h2⟩
theorem wh (a:Rat):bK a=1\/bK a=-1\/bK a=0:=by
 rcases(show 0<a\/a<0\/a=0 by grind)with h|h|h
 ·exact .inl (gH h)
 ·exact .inr (.inl (gJ h))
 ·exact .inr (.inr (nL h))
theorem OU {s:Nat->Int} {i:Nat} (h:s i≠0):(cq s (i+1)).1=s i:=by rw[mu];exact if_neg h
theorem MX {s:Nat->Int} {j:Nat} {e:Int} (he:e=1\/e=-1) (h1:(cq s (j+1)).1=e) (h2:s (j+2)=-e) (h3:s (j+1)=1\/s (j+1)=-1\/s (j+1)=0):(cq s (j+3)).2=(cq s (j+1)).2+1:=by
 rw[mu s (j+2),mu s (j+1),h1,h2]
 generalize (cq s (j+1)).2=c
 rcases he with rfl|rfl<;>rcases h3 with h|h|h<;>rw[h]<;>simp
theorem KA {k:Nat} {a b:Nat->Rat} (h:DF k a b):∀m j,j+m=k->fH (a j) (b j)->((cq (fun i=>bK (a i)) (k+1)).2:Int)-(cq (fun i=>bK (b i)) (k+1)).2=((cq (fun i=>bK (a i)) (j+1)).2:Int)-(cq (fun i=>bK (b i)) (j+1)).2:=by
 intro m
 induction m using Nat.strongRecOn with
 |_ m ih=>
  intro j hj hs
  cases m with
  |zero=>rw[show k=j by omega]
  |succ m=>
   have ea:(cq (fun i=>bK (a i)) (j+1)).1=bK (a j):=OU (s:=fun i=>bK (a i)) (by rcases hs.gC with⟨h1,_⟩|⟨h1,_⟩<;>simp[h1])
   have eb:(cq (fun i=>bK (b i)) (j+1)).1=bK (b j):=OU (s:=fun i=>bK (b i)) (by rcases hs.gC with⟨_,h1⟩|⟨_,h1⟩<;>simp[h1])
   rcases h (j+1) aa with h1|⟨i,e,h2,_,h3,h4⟩|⟨h1,_⟩
   ·rw[ih m aa (j+1) aa h1,mu (fun i=>bK (a i)) (j+1),mu (fun i=>bK (b i)) (j+1),ea,eb]
    rcases hs.gC with⟨k1,k2⟩|⟨k1,k2⟩<;>rcases h1.gC with⟨k3,k4⟩|⟨k3,k4⟩<;>simp[k1,k2,k3,k4]<;>omega
   ·obtain rfl:i=j:=aa
    rw[ih (m-1) aa (i+2) aa h3]
    have key:bK (a (i+2))=-bK (a i)/\bK (b (i+2))=-bK (b i)/\(bK (a i)=1\/bK (a i)=-1)/\(bK (b i)=1\/bK (b i)=-1):=by
     rcases hs with⟨k1,k2⟩|⟨k1,k2⟩<;>rcases h3 with⟨k3,k4⟩|⟨k3,k4⟩
     ·exact absurd (.inl ⟨k1,k3⟩) h4
     ·rw[gH k1,gH k2,gJ k3,gJ k4];simp
     ·rw[gJ k1,gJ k2,gH k3,gH k4];simp
     ·exact absurd (.inr ⟨k1,k3⟩) h4
    rw[MX key.2.2.1 ea key.1 (wh _),MX key.2.2.2 eb key.2.1 (wh _)]
    omega
   ·omega
def rS (a:Nat->Rat):Int:=if bK (a 0)=0 then bK (a 1)else bK (a 0)
theorem Xh {k:Nat} {a b:Nat->Rat} (h:DF k a b):
  (vr a (k+1)=vr b (k+1)/\b 0≠0/\(a 0=0\/fH (a 0) (b 0))/\rS b=rS a/\rS a≠0)\/(vr a (k+1)=vr b (k+1)+1/\a 0≠0/\¬fH (a 0) (b 0)/\rS b=-rS a/\rS a≠0):=by
 rcases h 0 (Nat.zero_le _)with h0|⟨i,e,_⟩|⟨_,hk,h1,hm⟩
 ·left
  have ht:=KA h k 0 aa h0
  have e1:(cq (fun i=>bK (a i)) (0+1)).2=0:=by rw[mu];simp[cq]
  have e2:(cq (fun i=>bK (b i)) (0+1)).2=0:=by rw[mu];simp[cq]
  rw[e1,e2]at ht
  refine⟨by unfold vr;omega,by rcases h0 with⟨h1,h2⟩|⟨h1,h2⟩<;>grind,.inr h0,?_⟩
  unfold rS
  rcases h0.gC with⟨h1,h2⟩|⟨h1,h2⟩<;>simp[h1,h2]
 ·omega
 ·have ht:=KA h (k-1) 1 aa h1
  have ea:(cq (fun i=>bK (a i)) (1+1)).2=if bK (a 1)*bK (a 0)<0 then 1 else 0:=by
   rw[mu,mu]
   rcases wh (a 0)with h|h|h<;>simp[h,cq]
  have eb:(cq (fun i=>bK (b i)) (1+1)).2=if bK (b 1)*bK (b 0)<0 then 1 else 0:=by
   rw[mu,mu]
   rcases wh (b 0)with h|h|h<;>simp[h,cq]
  rw[ea,eb]at ht
  have ev:∀x y:Nat,(x:Int)-y=0->x=y:=fun x y h=>aa
  have ev1:∀x y:Nat,(x:Int)-y=1->x=y+1:=fun x y h=>aa
  unfold vr
  rcases hm with⟨p1,p2⟩|⟨p1,p2⟩
  ·have q1:0<b 1:=by rcases h1 with⟨_,h⟩|⟨h,_⟩<;>grind
   rw[gH p1,gH q1]at ht
   rcases(show 0<a 0\/a 0<0\/a 0=0 by grind)with ha|ha|ha
   ·have hb:0<b 0:=by grind
    rw[gH ha,gH hb]at ht
    exact .inl ⟨ev _ _ (by rw[ht];decide),by grind,.inr (.inl ⟨ha,hb⟩),by unfold rS;simp[gH ha,gH hb],by unfold rS;simp[gH ha]⟩
   ·rw[gJ ha]at ht
    rcases(show 0<b 0\/b 0<0\/b 0=0 by grind)with hb|hb|hb
    ·rw[gH hb]at ht
     exact .inr ⟨ev1 _ _ (by rw[ht];decide),by grind,by unfold fH;grind,by unfold rS;simp[gJ ha,gH hb],by unfold rS;simp[gJ ha]⟩
    ·rw[gJ hb]at ht
     exact .inl ⟨ev _ _ (by rw[ht];decide),by grind,.inr (.inr ⟨ha,hb⟩),by unfold rS;simp[gJ ha,gJ hb],by unfold rS;simp[gJ ha]⟩
    ·rw[nL hb]at ht
     exact .inr ⟨ev1 _ _ (by rw[ht];decide),by grind,by unfold fH;grind,by unfold rS;simp[gJ ha,nL hb,gH q1],by unfold rS;simp[gJ ha]⟩
   ·have hb:0<b 0:=by grind
    rw[nL ha,gH hb]at ht
    exact .inl ⟨ev _ _ (by rw[ht];decide),by grind,.inl ha,by unfold rS;simp[nL ha,gH hb,gH p1],by unfold rS;simp[nL ha,gH p1]⟩
  ·have q1:b 1<0:=by rcases h1 with⟨h,_⟩|⟨_,h⟩<;>grind
   rw[gJ p1,gJ q1]at ht
   rcases(show 0<a 0\/a 0<0\/a 0=0 by grind)with ha|ha|ha
   ·rw[gH ha]at ht
    rcases(show 0<b 0\/b 0<0\/b 0=0 by grind)with hb|hb|hb
    ·rw[gH hb]at ht
     exact .inl ⟨ev _ _ (by rw[ht];decide),by grind,.inr (.inl ⟨ha,hb⟩),by unfold rS;simp[gH ha,gH hb],by unfold rS;simp[gH ha]⟩
    ·rw[gJ hb]at ht
     exact .inr ⟨ev1 _ _ (by rw[ht];decide),by grind,by unfold fH;grind,by unfold rS;simp[gH ha,gJ hb],by unfold rS;simp[gH ha]⟩
    ·rw[nL hb]at ht
     exact .inr ⟨ev1 _ _ (by rw[ht];decide),by grind,by unfold fH;grind,by unfold rS;simp[gH ha,nL hb,gJ q1],by unfold rS;simp[gH ha]⟩
   ·have hb:b 0<0:=by grind
    rw[gJ ha,gJ hb]at ht
    exact .inl ⟨ev _ _ (by rw[ht];decide),by grind,.inr (.inr ⟨ha,hb⟩),by unfold rS;simp[gJ ha,gJ hb],by unfold rS;simp[gJ ha]⟩
   ·have hb:b 0<0:=by grind
    rw[nL ha,gJ hb]at ht
    exact .inl ⟨ev _ _ (by rw[ht];decide),by grind,.inl ha,by unfold rS;simp[nL ha,gJ hb,gJ p1],by unfold rS;simp[nL ha,gJ p1]⟩
theorem Vt {a q:Nat->Rat} {k:Nat} {η Q P:Rat} (hr:∀j,j+2<=k->a j=q j*a (j+1)-a (j+2)) (hq:∀j,j+2<=k->Ab (q j) Q) (hQ:0<=Q) (hP:Q+1<=P) (hη:0<η) (hl:P^k*η<=a k\/a k<=-(P^k*η)) {j:Nat} (hj:j+1<=k) (h1:-η<a j) (h2:a j<η):P*η<=a (j+1)\/a (j+1)<=-(P*η):=by
 refine Decidable.byContradiction fun hn=>?_
 have hpw:∀i:Nat,1<=P^i:=fun i=>by
  induction i with
  |zero=>rw[Rat.pow_zero];decide
  |succ i ih=>rw[Rat.pow_succ];have:=Rat.mul_nonneg (a:=P^i) (b:=P-1) (by grind) (by grind);grind
 have step:∀i,j+1+i<=k->(-(P^i*η)<a (j+i)/\a (j+i)<P^i*η)/\-(P^(i+1)*η)<a (j+1+i)/\a (j+1+i)<P^(i+1)*η:=by
  intro i
  induction i with
  |zero=>
   intro _
   rw[Rat.pow_zero,Rat.pow_succ,Rat.pow_zero]
   exact⟨⟨by rw[Nat.add_zero];grind,by rw[Nat.add_zero];grind⟩,by rw[Nat.add_zero];grind,by rw[Nat.add_zero];grind⟩
  |succ i ih=>
   intro hi
   obtain⟨⟨i1,i2⟩,i3,i4⟩:=ih aa
   have e:=hr (j+i) aa
   have hqq:=hq (j+i) aa
   rw[show j+i+1=j+1+i by omega,show j+i+2=j+1+(i+1) by omega]at e
   have hX:=Rat.mul_pos (a:=P^i) (b:=η) (by have:=hpw i;grind) hη
   have hm:Ab (q (j+i)*a (j+1+i)) (Q*(P^(i+1)*η)):=hqq.mul ⟨by grind,by grind⟩
   obtain⟨m1,m2⟩:=hm
   rw[show j+(i+1)=j+1+i by omega]
   refine⟨⟨i3,i4⟩,?_⟩
   rw[Rat.pow_succ P (i+1)]
   rw[Rat.pow_succ P i]at*
   generalize P^i=X at*
   have g1:=Rat.mul_nonneg (a:=X*η) (b:=P*(P-Q-1)) (by grind) (Rat.mul_nonneg (by grind) (by grind))
   have g2:=Rat.mul_nonneg (a:=X*η) (b:=P-1) (by grind) (by grind)
   constructor<;>grind
 obtain⟨_,s1,s2⟩:=step (k-j-1) aa
 rw[show j+1+(k-j-1)=k by omega,show k-j-1+1=k-j by omega]at s1 s2
 have hle:P^(k-j)*η<=P^k*η:=by
  have e:P^k=P^(k-j)*P^j:=by rw[<-pow_add'];congr 1;omega
  rw[e]
  have g1:=Rat.mul_nonneg (a:=P^(k-j)*η) (b:=P^j-1) (Rat.mul_nonneg (by have:=hpw (k-j);grind) (by grind)) (by have:=hpw j;grind)
  grind
 rcases hl with hl|hl<;>grind
theorem aj1 {a b q:Nat->Rat} {k:Nat} {η ε Q P:Rat} (hr:∀j,j+2<=k->a j=q j*a (j+1)-a (j+2)) (hq:∀j,j+2<=k->Ab (q j) Q) (hQ:0<=Q) (hP:Q+1<=P) (hη:0<η) (hl:P^k*η<=a k\/a k<=-(P^k*η)) (hε:ε<η)
  (hL:∀j,j<=k->Ab (b j-a j) ε) (hd:1<=k->∃d w:Rat,0<d/\b 0-a 0=d*(a 1+w)/\Ab w ε):DF k a b:=by
 have big:∀j,j<=k->η<=a j\/a j<=-η->fH (a j) (b j):=fun j hj h=>by
  obtain⟨h1,h2⟩:=hL j hj
  rcases h with h|h
  ·exact .inl ⟨by grind,by grind⟩
  ·exact .inr ⟨by grind,by grind⟩
 have hPη:=Rat.mul_nonneg (a:=P-1) (b:=η) (by grind) (by grind)
 intro j hj
 rcases(show(η<=a j\/a j<=-η)\/(-η<a j/\a j<η) by grind)with h|⟨h1,h2⟩
 ·exact .inl (big j hj h)
 ·have hjk:j+1<=k:=by
   refine Decidable.byContradiction fun hn=>?_
   obtain rfl:j=k:=aa
   have hpw:1<=P^j:=by
    clear hl hj hn h1 h2 hL hr hq hd big
    induction j with
    |zero=>rw[Rat.pow_zero];decide
    |succ i ih=>rw[Rat.pow_succ];have:=Rat.mul_nonneg (a:=P^i) (b:=P-1) (by grind) (by grind);grind
   have:=Rat.mul_nonneg (a:=P^j-1) (b:=η) (by grind) (by grind)
   rcases hl with hl|hl<;>grind
  have hn:=Vt hr hq hQ hP hη hl hjk h1 h2
  have hb1:fH (a (j+1)) (b (j+1)):=big _ hjk (by rcases hn with h|h<;>grind)
  cases j with
  |zero=>
   refine .inr (.inr ⟨rfl,hjk,hb1,?_⟩)
   obtain⟨d,w,d0,e,w1,w2⟩:=hd hjk
   rcases hn with h|h
   ·have:=Rat.mul_pos (a:=d) (b:=a (0+1)+w) d0 (by grind)
    exact .inl ⟨by grind,by grind⟩
   ·have:=Rat.mul_pos (a:=d) (b:=-(a (0+1)+w)) d0 (by grind)
    exact .inr ⟨by grind,by grind⟩
  |succ i=>
   have e:=hr i aa
   obtain⟨m1,m2⟩:=(hq i aa).mul (show Ab (a (i+1)) η from⟨by grind,by grind⟩)
   have hQη:=Rat.mul_nonneg (a:=P-Q-1) (b:=η) (by grind) (by grind)
   refine .inr (.inl ⟨i,rfl,aa,big i aa ?_,hb1,?_⟩)
   ·rcases hn with h|h
    ·right;grind
    ·left;grind
   ·unfold fH
    rcases hn with h|h<;>grind
abbrev dJ (c:PP) (j:Nat):PP:=(bH (eG c) j).1
abbrev dw (c:PP):Nat:=eo (eG c)
theorem nH {c:PP}:Trim (eG c).1/\Trim (eG c).2:=⟨iI,eC⟩
theorem Is {c:PP} (tc:Trim c) (c0:0<c.1) {j:Nat} (hj:j<=dw c):0<(dJ c j).1:=by
 cases j with
 |zero=>exact ux tc c0
 |succ j=>
  have:=(lS (s:=eG c) nH.1 nH.2).2.2 j (by have:dw c=eo (eG c):=rfl;omega)
  exact Nat.pos_of_ne_zero this
theorem Q5 {c:PP} (j:Nat):Trim (dJ c j):=(mU nH.1 nH.2 j).1
theorem ajj {c:PP}:(dJ c (dw c+1)).1=0:=(lS (s:=eG c) nH.1 nH.2).2.1
theorem Ry {c:PP} (tc:Trim c) (c0:0<c.1) {j:Nat} (hj:j+1<=dw c) (t:Rat):aE (dJ c j) t=aE (fE (dJ c j) (dJ c (j+1))) t*aE (dJ c (j+1)) t-aE (dJ c (j+2)) t:=by
 have h:=qo (a:=dJ c j) (Is tc c0 hj) t
 have e:aE (dJ c (j+2)) t=((-1:Int):Rat)*aE (dj (dJ c j) (dJ c (j+1))) t:=qH
 rw[show((-1:Int):Rat)=-1 from rfl]at e
 rw[e]
 grind
theorem Mc {c:PP} (tc:Trim c) (c0:0<c.1):∀i,i<=dw c->Dv (dJ c (dw c)) (dJ c (dw c-i))/\Dv (dJ c (dw c)) (dJ c (dw c-i+1))
 |0,_=>⟨.refl _,uO,fun t=>by rw[Nat.sub_zero,jl ajj,BQ,Rat.mul_zero]⟩
 |i+1,hi=>by
  obtain⟨h1,h2⟩:=Mc tc c0 i aa
  have e:=fun t=>Ry tc c0 (c:=c) (j:=dw c-(i+1)) aa t
  rw[show dw c-(i+1)+1=dw c-i by omega,show dw c-(i+1)+2=dw c-i+1 by omega]at e
  refine⟨Dv.comb (u:=fE (dJ c (dw c-(i+1))) (dJ c (dw c-i))) (v:=gv (-1) gY) h1 h2 fun t=>?_,by rw[show dw c-(i+1)+1=dw c-i by omega];exact h1⟩
  rw[e,gb,jo];grind
theorem akq {c:PP} (tc:Trim c) (c0:0<c.1):(dJ c (dw c)).1=1:=by
 obtain⟨h1,h2⟩:=Mc tc c0 (dw c) aX
 rw[Nat.sub_self]at h1 h2
 obtain⟨u,v,h3⟩:=AO tc c0
 have h4:Dv (dJ c (dw c)) gY:=Dv.comb (u:=u) (v:=v) h1 h2 fun t=>by rw[jo];exact(h3 t).symm
 have h5:=h4.len (show 0<1 by decide) Cc (Q5 _)
 have h6:=Is tc c0 (Nat.le_refl (dw c))
 have h5:(dJ c (dw c)).1<=1:=h5
 omega
structure mA (c:PP) (s q:Nat):Prop where
 tr:Trim c
 p0:0<c.1
 k7:dw c<=7
 bd:∀j,j<=dw c->Bd (dJ c j) s/\(dJ c j).1<=7
 qu:∀j,j+1<=dw c->Bd (fE (dJ c j) (dJ c (j+1))) q/\(fE (dJ c j) (dJ c (j+1))).1<=7
theorem cW.sm {c:PP} (h:cW c):∀j,j<=dw c->∃B,B+1<=1176606/\Bd (bH (eG c) j).1 B/\Bd (bH (eG c) j).2 B/\(bH (eG c) j).1.1<=7/\(bH (eG c) j).2.1<(bH (eG c) j).1.1:=fun j hj=>by
 obtain⟨f1,f2⟩:=h.free
 have hfd:Bd (bz (bg c)) 806:=f1.bd.cV aa
 have hdl:(bz (bg c)).1<=(bg c).1-1:=fK
 have hp:=f1.p0
 obtain⟨B,b1,b2,b3,b4,b5⟩:=Ap (a:=bg c) (b:=bz (bg c)) iI eC f2 aa (f1.bd.more (show 800<=806 by omega)) hfd j hj
 have h3:3^(7-(bH (bg c,bz (bg c)) j).1.1)<=3^6:=s7 aa
 have h4:=Nat.mul_le_mul_left (2*(806+1)) h3
 exact⟨B,aa,b2,b3,b4,b5⟩
theorem cW.jm {c:PP} (h:cW c):mA c 1176605 9412848 where
 tr:=h.tr
 p0:=h.p0
 k7:=by
  obtain⟨f1,f2⟩:=h.free
  have:=(lS (s:=eG c) nH.1 nH.2).1
  have h2:(eG c).2.1<=(bg c).1-1:=fK
  have h3:dw c=eo (eG c):=rfl
  omega
 bd:=fun j hj=>by
  obtain⟨B,b1,b2,b3,b4,b5⟩:=h.sm j hj
  exact⟨b2.more aa,b4⟩
 qu:=fun j hj=>by
  obtain⟨B,b1,b2,b3,b4,b5⟩:=h.sm j aa
  have h0:0<(bH (eG c) j).2.1:=Is h.tr h.p0 hj
  have hr:=(b2.rem b3 h0 (mU nH.1 nH.2 j).2).2.1
  have hM:(bH (eG c) j).1.1-((bH (eG c) j).2.1-1)<=7:=aa
  have:=Nat.mul_le_mul_right (B+1) hM
  exact⟨hr.more aa,Nat.le_trans (show bO _ _<=_ from fK) hM⟩
def nJ (s q r:Nat):Nat:=2*s+21*(r+1)+7*(q+7*(r+1)+1)
theorem FI {a:PP} {s r:Nat} {t:Rat} (h:qD a.1 a.2 s) (hl:a.1<=7) (ht:Ab t (T2 r)):Ab (aE a t) (T2 (s+7*(r+1))):=
 (zD ht _ h).more (jS (by have:=Nat.mul_le_mul_right (r+1) hl;omega))
theorem Ql (a:Nat):∀k:Nat,T2 a^k=T2 (a*k)
 |0=>by rw[Rat.pow_zero];unfold T2;rw[Nat.mul_zero,Rat.pow_zero]
 |k+1=>by rw[Rat.pow_succ,Ql a k,Nat.mul_succ,nN]
theorem mA.gp {c:PP} {s q r:Nat} (h:mA c s q) {x y:Rat} (hx:Ab x (T2 r)) (hy:Ab y (T2 r)) (hxy:x<y) (hf:(y-x)*T2 (nJ s q r)<1):
  DF (dw c) (fun j=>aE (dJ c j) x) (fun j=>aE (dJ c j) y):=by
 obtain⟨Q,hQ⟩:∃Q,Q=T2 (q+7*(r+1)):=⟨_,rfl⟩
 obtain⟨P,hP⟩:∃P,P=T2 (q+7*(r+1)+1):=⟨_,rfl⟩
 have hQ1:1<=Q:=hQ▸sW _
 have hPQ:P=2*Q:=by rw[hP,hQ,nK]
 have hPk:P^dw c=T2 ((q+7*(r+1)+1)*dw c):=by
  rw[hP];exact Ql _ _
 obtain⟨η,h1⟩:∃η:Rat,η=(P^dw c*T2 s)⁻¹:=⟨_,rfl⟩
 have hpos:0<P^dw c*T2 s:=by rw[hPk];exact Rat.mul_pos (j8 _) (j8 _)
 have hη:0<η:=by rw[h1];exact Rat.inv_pos.2 hpos
 have hη1:η*(P^dw c*T2 s)=1:=by rw[h1];exact Rat.inv_mul_cancel _ (by grind)
 have hd:0<y-x:=by grind
 refine aj1 (q:=fun j=>aE (fE (dJ c j) (dJ c (j+1))) x) (k:=dw c) (η:=η) (ε:=(y-x)*T2 (s+21*(r+1))) (Q:=Q) (P:=P) (fun j hj=>Ry h.tr h.p0 aa x) (fun j hj=>?_) (by grind) (by grind) hη ?_ ?_ (fun j hj=>?_) (fun hk=>?_)
 ·obtain⟨b1,b2⟩:=h.qu j aa
  rw[hQ];exact FI (dF.cf b1) b2 hx
 ·have hl:=akq h.tr h.p0
  obtain⟨⟨D,d1,d2,d3⟩,_⟩:=h.bd (dw c) aX
  have e:aE (dJ c (dw c)) x=(dJ c (dw c)).2 0:=by
   show ev (dJ c (dw c)).1 (dJ c (dw c)).2 x=_
   rw[hl]
   show 0+(dJ c (dw c)).2 0*x^0=_
   rw[Rat.pow_zero];grind
  have hne:(dJ c (dw c)).2 0≠0:=by
   rcases Q5 (c:=c) (dw c)with h0|h0
   ·omega
   ·rw[hl]at h0;exact h0
  have hlow:=(d3 0 aa).low d1 d2 hne
  have hTs:=j8 s
  have e2:P^dw c*η*T2 s=1:=by grind
  show P^dw c*η<=aE (dJ c (dw c)) x\/aE (dJ c (dw c)) x<=-(P^dw c*η)
  rw[e]
  generalize (dJ c (dw c)).2 0=a at*
  generalize P^dw c*η=w at*
  rcases hlow with hlow|hlow
  ·left
   refine Decidable.byContradiction fun hn=>?_
   have:=Rat.mul_pos (a:=w-a) (b:=T2 s) (by grind) hTs
   grind
  ·right
   refine Decidable.byContradiction fun hn=>?_
   have:=Rat.mul_pos (a:=w+a) (b:=T2 s) (by grind) hTs
   grind
 ·refine Decidable.byContradiction fun hn=>?_
  have g1:=Rat.mul_nonneg (a:=(y-x)*T2 (s+21*(r+1))-η) (b:=P^dw c*T2 s) (by grind) (by grind)
  have g2:(y-x)*T2 (s+21*(r+1))*(P^dw c*T2 s)<=(y-x)*T2 (nJ s q r):=by
   rw[hPk,<-nN,Rat.mul_assoc,<-nN]
   have hle:T2 (s+21*(r+1)+((q+7*(r+1)+1)*dw c+s))<=T2 (nJ s q r):=jS (by
    have:=Nat.mul_le_mul_left (q+7*(r+1)+1) h.k7
    unfold nJ;omega)
   exact Rat.mul_le_mul_of_nonneg_left hle (by grind)
  grind
 ·obtain⟨b1,b2⟩:=h.bd j hj
  obtain⟨w,e,hw⟩:=BF hx hy (dJ c j).1 (dF.cf b1)
  show Ab (ev (dJ c j).1 (dJ c j).2 y-ev (dJ c j).1 (dJ c j).2 x) _
  rw[e]
  refine Ab.mul ⟨by grind,by grind⟩ (hw.more (jS ?_))
  have:=Nat.mul_le_mul_right (r+1) b2
  omega
 ·obtain⟨b1,b2⟩:=h.bd 0 (Nat.zero_le _)
  obtain⟨w,e,hw⟩:=Vz (a:=dJ c 0) hx hy (dF.cf b1)
  refine⟨y-x,(y-x)*w,hd,?_,Ab.mul ⟨by grind,by grind⟩ (hw.more (jS ?_))⟩
  ·show aE (dJ c 0) y-aE (dJ c 0) x=(y-x)*(aE (dJ c 1) x+(y-x)*w)
   rw[e]
   have:aE (dJ c 1) x=dP (dJ c 0) x:=gN (a:=bg c)
   rw[this]
  ·have:=Nat.mul_le_mul_right (r+1) b2
   omega
theorem Bv (x:Rat):∃r:Nat,Ab x (T2 r):=by
 refine⟨x.num.natAbs,ct.ab (D:=(x.den:Int)) ⟨x.num,?_,Nat.le_of_lt Nat.lt_two_pow_self⟩ (by have:=x.den_pos;omega)⟩
 have hd:((x.den:Int):Rat)≠0:=qe (D:=(x.den:Int)) (by have:=x.den_pos;omega)
 have:=Rat.num_divInt_den x
 rw[Rat.divInt_eq_div]at this
 have h2:=Rat.div_mul_cancel (a:=(x.num:Rat)) hd
 rw[this]at h2
 exact h2.symm
theorem Oe (k:Nat->Rat):∀n,∃s,qD n k s
 |0=>⟨0,fun i hi=>absurd hi (Nat.not_lt_zero i)⟩
 |n+1=>by
  obtain⟨s,h⟩:=Oe k n
  obtain⟨r,h'⟩:=Bv (k n)
  refine⟨s+r,fun i hi=>?_⟩
  by_cases hn:i=n
  ·subst hn;exact h'.more (jS aa)
  ·exact(h i aa).more (jS aa)
theorem wW (a:PP) (r:Nat):∃e:Nat,(∀t,Ab t (T2 r)->Ab (aE a t) (T2 e))/\∀x y,Ab x (T2 r)->Ab y (T2 r)->∃q,aE a y-aE a x=(y-x)*q/\Ab q (T2 e):=by
 obtain⟨s,h⟩:=Oe a.2 a.1
 refine⟨s+2*(a.1*(r+1)),fun t ht=>(zD ht a.1 h).more (jS aa),fun x y hx hy=>BF hx hy a.1 h⟩
theorem YO (q:Rat):∃n:Nat,q<((n:Int):Rat):=by
 obtain⟨r,_,h⟩:=Bv q
 refine⟨2^r+1,?_⟩
 rw[wK]at h
 have:(((2^r:Nat):Int):Rat)+1=(((2^r+1:Nat):Int):Rat):=by rw[Int.natCast_add,Rat.intCast_add];rfl
 rw[<-this];grind
theorem To {d N T:Rat} (hd:0<d) (hN:1<=N) (hT:0<T) (h:d*T<N+1):∃t,0<t/\t<d/\t*T<1/\(d-t)*T<N:=by
 have ht:(N+1)*(N+1)⁻¹=1:=Rat.mul_inv_cancel _ (by grind)
 have hip:0<(N+1)⁻¹:=Rat.inv_pos.2 (by grind)
 generalize (N+1)⁻¹=w at*
 have e1:d*((N+1)*w)=d:=by rw[ht,Rat.mul_one]
 have e2:N*((N+1)*w)=N:=by rw[ht,Rat.mul_one]
 have e3:d*T*((N+1)*w)=d*T:=by rw[ht,Rat.mul_one]
 have hNw:0<N*w:=Rat.mul_pos (by grind) hip
 have g1:=Rat.mul_pos hd hip
 have g2:=Rat.mul_pos hd hNw
 have g3:=Rat.mul_pos (a:=N+1-d*T) (b:=w) (by grind) hip
 have g4:=Rat.mul_pos (a:=N+1-d*T) (b:=N*w) (by grind) hNw
 exact⟨d*w,g1,by grind,by grind,by grind⟩
theorem PD {P:Rat->Rat->Prop} {E:Nat} {X Y:Rat} (base:∀x y,X<=x->y<=Y->x<y->(y-x)*T2 E<1->P x y) (step:∀x m y,X<=x->y<=Y->x<m->m<y->P x m->P m y->P x y) {x y:Rat} (hX:X<=x) (hY:y<=Y) (hxy:x<y):P x y:=by
 have key:∀(n:Nat) (x:Rat),X<=x->x<y->(y-x)*T2 E<(((n+1:Nat):Int):Rat)->P x y:=by
  intro n
  induction n with
  |zero=>intro x h1 h2 h3;exact base x y h1 hY h2 h3
  |succ n ih=>
   intro x h1 h2 h3
   have eN:(((n+1+1:Nat):Int):Rat)=(((n+1:Nat):Int):Rat)+1:=by rw[Int.natCast_add (n+1) 1,Rat.intCast_add];rfl
   rw[eN]at h3
   have hd:0<y-x:=by clear base step ih;grind
   obtain⟨t,t1,t2,t3,t4⟩:=To hd (qf (a:=1) aa) (j8 E) h3
   have a1:x<x+t/\x+t<y/\x+t-x=t/\y-(x+t)=y-x-t/\x+t<=Y/\X<=x+t:=by
    clear base step ih t3 t4 h3 eN
    exact⟨by grind,by grind,by grind,by grind,by grind,by grind⟩
   exact step x (x+t) y h1 hY a1.1 a1.2.1 (base _ _ h1 a1.2.2.2.2.1 a1.1 (by rw[a1.2.2.1];exact t3)) (ih _ a1.2.2.2.2.2 a1.2.1 (by rw[a1.2.2.2.1];exact t4))
 obtain⟨n,hn⟩:=YO ((y-x)*T2 E)
 refine key n x hX hxy ?_
 have:(((n+1:Nat):Int):Rat)=((n:Int):Rat)+1:=by rw[Int.natCast_add,Rat.intCast_add];rfl
 rw[this]
 clear base step key
 grind
def oz (c:PP) (x:Rat):Nat:=vr (fun j=>aE (dJ c j) x) (dw c+1)
def bt (c:PP) (x y:Rat):Int:=if x>=y then 0 else(oz c x:Int)-oz c y-(if aE (bg c) y=0 then 1 else 0)
def rC (c:PP) (x:Rat):Int:=rS fun j=>aE (dJ c j) x
theorem pO {c:PP} {x y:Rat} (h:x<y):bt c x y=(oz c x:Int)-oz c y-(if aE (bg c) y=0 then 1 else 0):=if_neg (by grind)
def Rg (r:Nat) (x y:Rat):Prop:=-(T2 r)<=x/\y<=T2 r/\x<y
theorem Rg.ab {r:Nat} {x y:Rat} (h:Rg r x y):Ab x (T2 r)/\Ab y (T2 r):=by
 obtain⟨h1,h2,h3⟩:=h
 exact⟨⟨h1,by grind⟩,by grind,h2⟩
theorem Qc {x y:Rat} (h:x<y):∃r,Rg r x y:=by
 obtain⟨r,h1,_⟩:=Bv x
 obtain⟨r',_,h2⟩:=Bv y
 have a:=jS (show r<=r+r' by omega)
 have b:=jS (show r'<=r+r' by omega)
 exact⟨r+r',by grind,by grind,h⟩
theorem mA.near {c:PP} {s q r:Nat} (h:mA c s q) {x y:Rat} (hr:Rg r x y) (hf:(y-x)*T2 (nJ s q r)<1):
  (oz c x=oz c y/\aE (bg c) y≠0/\(aE (bg c) x=0\/fH (aE (bg c) x) (aE (bg c) y))/\rC c y=rC c x/\rC c x≠0)\/(oz c x=oz c y+1/\aE (bg c) x≠0/\¬fH (aE (bg c) x) (aE (bg c) y)/\rC c y=-rC c x/\rC c x≠0):=
 Xh (h.gp hr.ab.1 hr.ab.2 hr.2.2 hf)
theorem mA.short {c:PP} {s q r:Nat} (h:mA c s q) {x y:Rat} (hr:Rg r x y) (hf:(y-x)*T2 (nJ s q r)<1):bt c x y=0\/bt c x y=1:=by
 rw[pO hr.2.2]
 rcases h.near hr hf with⟨h1,h2,_⟩|⟨h1,_⟩
 ·rw[if_neg h2,h1];omega
 ·rw[h1];split<;>omega
theorem rJ {c:PP} {x m y:Rat} (h1:x<m) (h2:m<y):bt c x y=bt c x m+(if aE (bg c) m=0 then 1 else 0)+bt c m y:=by
 rw[pO h1,pO h2,pO (show x<y by grind)];omega
theorem mA.qg {c:PP} {s q:Nat} (h:mA c s q) (x y:Rat):0<=bt c x y:=by
 by_cases hxy:x<y
 ·obtain⟨r,hr⟩:=Qc hxy
  refine PD (P:=fun x y=>0<=bt c x y) (E:=nJ s q r) (X:=-(T2 r)) (Y:=T2 r) (fun x y h1 h2 h3 h4=>?_) (fun x m y _ _ h1 h2 p1 p2=>?_) hr.1 hr.2.1 hxy
  ·rcases h.short ⟨h1,h2,h3⟩ h4 with h|h<;>rw[h]<;>decide
  ·rw[rJ h1 h2];split<;>omega
 ·rw[show bt c x y=0 from if_pos (by grind)];decide
theorem mA.root {c:PP} {s q:Nat} (h:mA c s q) {x m y:Rat} (h1:x<m) (h2:m<y) (hm:aE (bg c) m=0):1<=bt c x y:=by
 have a:=h.qg x m
 have b:=h.qg m y
 rw[rJ h1 h2,if_pos hm];omega
theorem Gd {a b w h:Rat} (hw:Ab w h) (e:b-a=w) (hs:¬fH a b) (ha:a≠0) (hb:b≠0):Ab a h/\Ab b h:=by
 obtain⟨w1,w2⟩:=hw
 unfold fH at hs
 rcases(show a<0\/0<a by grind)with h1|h1<;>rcases(show b<0\/0<b by grind)with h2|h2
 ·exact absurd (.inr ⟨h1,h2⟩) hs
 ·exact⟨⟨by grind,by grind⟩,by grind,by grind⟩
 ·exact⟨⟨by grind,by grind⟩,by grind,by grind⟩
 ·exact absurd (.inl ⟨h1,h2⟩) hs
theorem D6 {c d:PP} {s q s' q':Nat} (hc:mA c s q) (hd:mA d s' q') (hdv:Dv (bg d) (bg c)) (x y:Rat):bt d x y<=bt c x y:=by
 by_cases hxy:x<y
 ·obtain⟨r,hr⟩:=Qc hxy
  obtain⟨H,hH⟩:=hdv
  obtain⟨u,v,huv⟩:=AO hc.tr hc.p0
  obtain⟨e1,u1,_⟩:=wW u r
  obtain⟨e2,v1,_⟩:=wW v r
  obtain⟨e3,_,g1⟩:=wW (bg d) r
  obtain⟨e4,_,k1⟩:=wW H r
  obtain⟨e5,g2,_⟩:=wW (bz (bg d)) r
  obtain⟨e6,k2,_⟩:=wW (bz H) r
  obtain⟨e,he⟩:∃e,e=e1+e2+e3+e4+e5+e6:=⟨_,rfl⟩
  have up:∀{z:Rat} {m:Nat},Ab z (T2 m)->m<=e->Ab z (T2 e):=fun h hm=>h.more (jS hm)
  -- both factors are small nowhere
  have no:∀z w:Rat,Ab z (T2 r)->0<=w->w*T2 (3*e+2)<1->Ab (aE (bg d) z) (w*T2 e)->Ab (aE H z) (w*T2 e)->False:=fun z w hz hw hw1 a1 a2=>by
   have b1:=(up (u1 z hz) aa).mul (a1.mul (a2.more (N:=T2 e) ?_))
   have b2:=(up (v1 z hz) aa).mul (((up (g2 z hz) aa).mul a2).add (a1.mul (up (k2 z hz) aa)))
   ·have h1:=huv z
    rw[hH,gN,kV hH,<-gN,<-gN]at h1
    obtain⟨l1,l2⟩:=b1
    obtain⟨l3,l4⟩:=b2
    have t3:T2 (3*e+2)=4*(T2 e*T2 e*T2 e):=by
     rw[nK,nK,<-nN,<-nN,show e+e+e=3*e by omega];grind
    rw[t3]at hw1
    have p:=Rat.mul_nonneg hw (Rat.mul_nonneg (Rat.mul_nonneg (Rat.le_of_lt (j8 e)) (Rat.le_of_lt (j8 e))) (Rat.le_of_lt (j8 e)))
    generalize T2 e=T at*
    have m1:T*(w*T*T)=w*(T*T*T):=by grind
    have m2:T*(T*(w*T)+w*T*T)=2*(w*(T*T*T)):=by grind
    rw[m1]at l1 l2
    rw[m2]at l3 l4
    grind
   ·have t1:=sW (3*e+2)
    have t2:=j8 e
    have:=Rat.mul_nonneg (a:=w) (b:=T2 (3*e+2)-1) hw (by grind)
    have:=Rat.mul_nonneg (a:=1-w) (b:=T2 e) (by grind) (by grind)
    grind
  obtain⟨E,hE⟩:∃E,E=nJ s q r+nJ s' q' r+(3*e+2):=⟨_,rfl⟩
  have le:∀{w:Rat} {m:Nat},0<=w->w*T2 E<1->m<=E->w*T2 m<1:=fun {w m} hw h hm=>by
   have:=Rat.mul_le_mul_of_nonneg_left (c:=w) (jS hm) hw
   grind
  refine PD (P:=fun x y=>bt d x y<=bt c x y) (E:=E) (X:=-(T2 r)) (Y:=T2 r) (fun x y h1 h2 h3 h4=>?_) (fun x m y _ _ h1 h2 p1 p2=>?_) hr.1 hr.2.1 hxy
  ·have hw:0<=y-x:=by grind
   have R:Rg r x y:=⟨h1,h2,h3⟩
   have c1:=hc.near R (le hw h4 aa)
   have d1:=hd.near R (le hw h4 aa)
   have c2:=hc.qg x y
   have hno:=fun z hz=>no z (y-x) hz hw (le hw h4 aa)
   refine Decidable.byContradiction fun hn=>?_
   rw[pO h3,pO h3]at hn
   rw[pO h3]at c2
   rcases d1 with⟨e1,n1,_⟩|⟨e1,n1,n2,_⟩
   ·rw[if_neg n1]at hn;omega
   ·have gy:aE (bg d) y≠0:=fun h0=>by rw[if_pos h0]at hn;omega
    rw[if_neg gy]at hn
    obtain⟨w1,q1,q2⟩:=g1 x y R.ab.1 R.ab.2
    obtain⟨w2,q3,q4⟩:=k1 x y R.ab.1 R.ab.2
    have self:Ab (y-x) (y-x):=⟨by grind,by grind⟩
    have zz:0<=(y-x)*T2 e:=Rat.mul_nonneg hw (Rat.le_of_lt (j8 e))
    obtain⟨o1,o2⟩:=Gd (self.mul (up q2 aa)) q1 n2 n1 gy
    rcases c1 with⟨e2,m1,m2,_⟩|⟨e2,m1,m2,_⟩
    ·rw[if_neg m1]at hn c2
     rcases m2 with m2|m2
     ·have hx0:aE H x=0:=by rw[hH]at m2;exact(Rat.mul_eq_zero.1 m2).resolve_left n1
      exact hno x R.ab.1 o1 (by rw[hx0];exact Ab.zero zz)
     ·have fx:aE (bg c) x≠0:=by rcases m2 with⟨k,_⟩|⟨k,_⟩<;>grind
      have hx0:aE H x≠0:=fun h0=>fx (by rw[hH,h0,Rat.mul_zero])
      have hy0:aE H y≠0:=fun h0=>m1 (by rw[hH,h0,Rat.mul_zero])
      have hs:¬fH (aE H x) (aE H y):=fun hs=>by
       rw[hH,hH]at m2
       have:∀a b:Rat,0<a->0<b->0<a*b:=fun a b h1 h2=>Rat.mul_pos h1 h2
       unfold fH at n2 m2 hs
       rcases(show aE (bg d) x<0\/0<aE (bg d) x by grind)with s1|s1<;>rcases(show aE (bg d) y<0\/0<aE (bg d) y by grind)with s2|s2
       ·exact n2 (.inr ⟨s1,s2⟩)
       ·rcases hs with⟨s3,s4⟩|⟨s3,s4⟩
        ·have p1 := this _ _ (show 0 < -aE (bg d) x by grind) s3
         have p2:=this _ _ s2 s4
         grind
        ·have p1 := this _ _ (show 0 < -aE (bg d) x by grind) (show 0 < -aE H x by grind)
         have p2 := this _ _ s2 (show 0 < -aE H y by grind)
         grind
       ·rcases hs with⟨s3,s4⟩|⟨s3,s4⟩
        ·have p1:=this _ _ s1 s3
         have p2 := this _ _ (show 0 < -aE (bg d) y by grind) s4
         grind
        ·have p1 := this _ _ s1 (show 0 < -aE H x by grind)
         have p2 := this _ _ (show 0 < -aE (bg d) y by grind) (show 0 < -aE H y by grind)
         grind
       ·exact n2 (.inl ⟨s1,s2⟩)
      obtain⟨o3,o4⟩:=Gd (self.mul (up q4 aa)) q3 hs hx0 hy0
      exact hno x R.ab.1 o1 o3
    ·have fy:aE (bg c) y=0:=Decidable.byContradiction fun h0=>by rw[if_neg h0]at hn;omega
     have hy0:aE H y=0:=by rw[hH]at fy;exact(Rat.mul_eq_zero.1 fy).resolve_left gy
     exact hno y R.ab.2 o2 (by rw[hy0];exact Ab.zero zz)
  ·rw[rJ h1 h2,rJ h1 h2]
   have:aE (bg d) m=0->aE (bg c) m=0:=fun h=>by rw[hH,h,Rat.zero_mul]
   by_cases h0:aE (bg d) m=0
   ·rw[if_pos h0,if_pos (this h0)];omega
   ·rw[if_neg h0];split<;>omega
 ·rw[show bt d x y=0 from if_pos (by grind),show bt c x y=0 from if_pos (by grind)];exact Int.le_refl _
theorem gA.mul {a b c d:PP} (h:gA a b) (h':gA a c) (e:∀t,aE d t=aE b t*aE c t):gA a d:=by
 obtain⟨u,v,h⟩:=h
 obtain⟨w,z,h'⟩:=h'
 refine⟨iB u (bZ v (bZ b w)),bZ v z,fun t=>?_⟩
 have h1:=h t
 have h2:=h' t
 rw[ju,cA,cA,cA,e]
 have:aE u t*aE a t+aE v t*aE b t*(aE w t*aE a t+aE z t*aE c t)=1:=by rw[h2];grind
 grind
theorem E7 {c p:PP} (tc:Trim c) (c0:0<c.1) (tp:Trim p) (p0:0<p.1) (sp:gA p (bz p)) (hd:Dv p c):Dv p (bg c):=by
 obtain⟨G,e,hG,tG,h1,h2,h3,_⟩:=oH tc c0
 have tF:Trim (bg c):=iI
 generalize bg c=F at*
 obtain⟨x,F1,e1,e2,k1⟩:=Em tp tF p0
 have dp:Dv (bN p F) F:=(nj tp tF).2
 have d0:=mh (b:=F) p0
 generalize bN p F=d at*
 obtain⟨u,v,huv⟩:=sp
 have hp':∀t,aE (bz p) t=dP d t*aE x t+aE d t*dP x t:=fun t=>by rw[gN];exact kV e1 t
 -- x has nothing in common with d, with F, with its own derivative
 have k2:gA x d:=⟨iB (bZ u d) (bZ v (bz d)),bZ v (bz x),fun t=>by
  have:=huv t
  rw[hp',e1]at this
  rw[ju,cA,cA,cA,gN,gN];grind⟩
 have k3:gA x (bz x):=⟨iB (bZ u d) (bZ v (bz d)),bZ v d,fun t=>by
  have:=huv t
  rw[hp',e1]at this
  rw[ju,cA,cA,cA,gN,gN];grind⟩
 have k4:gA x F:=k2.mul k1 e2
 have xc:Dv x c:=by
  obtain⟨w,hw⟩:=hd
  exact⟨bZ d w,fun t=>by rw[hw,e1,cA];grind⟩
 have x0:0<(cz x).1:=by
  rcases Nat.eq_zero_or_pos (cz x).1 with h|h
  ·have:=qv tp fun t=>by rw[e1,<-eI (a:=x),jl h,Rat.mul_zero]
   omega
  ·exact h
 rcases Nat.lt_or_ge 1 (cz x).1 with hx1|hx1
 ·refine(EL hG tG (fJ (a:=x)) hx1 fun k=>?_).elim
  induction k with
  |zero=>exact⟨G,fun t=>by rw[Rat.pow_zero,Rat.one_mul]⟩
  |succ k ih=>
   obtain⟨m,hm⟩:=ih
   have hm:∀t,aE G t=aE x t^k*aE m t:=fun t=>by rw[hm,eI]
   have key:Dv x m:=by
    rcases Nat.eq_zero_or_pos k with hk|hk
    ·subst hk
     obtain⟨w,hw⟩:=xc
     refine k4.dv (w:=w) fun t=>?_
     have:=hm t
     rw[Rat.pow_zero,Rat.one_mul]at this
     rw[<-hw,h1,this,Rat.mul_comm]
    ·have a1:∀t,dP c t=dP G t*aE F t+aE G t*dP F t:=fun t=>kV h1 t
     have a2:∀t,dP G t=dP (iD x k) t*aE m t+aE (iD x k) t*dP m t:=fun t=>kV (fun t=>by rw[hm,oV]) t
     have kk:=Ez x0 (fJ (a:=x)) k (a:=gv ((k:Int):Rat) (bZ (bz x) (bZ m F))) (b:=bZ x (iB (bZ e m) (gv (-1) (iB (bZ (bz m) F) (bZ m (bz F)))))) fun t=>by
      rw[eI,gb,cA,cA,cA,ju,cA,gb,ju,cA,cA,gN,gN,gN]
      have a1:=a1 t
      have a2:=a2 t
      have a4:=Da (d:=x) (t:=t) k
      have a5:=h2 t
      have a6:=hm t
      rw[oV]at a2
      generalize dP (iD x k) t=P at*
      generalize aE x t^k=D at*
      generalize ((k:Int):Rat)=K at*
      generalize aE x t=dd at*
      generalize dP x t=d' at*
      generalize aE F t=ff at*
      generalize dP F t=f' at*
      generalize aE m t=mm at*
      generalize dP m t=m' at*
      generalize aE e t=ee at*
      rw[a5,a6,a2]at a1
      calc D*(K*(d'*(mm*ff)))=mm*ff*(K*(d'*D)):=by grind
       _=mm*ff*(dd*P):=by rw[a4]
       _=dd*(P*mm*ff):=by grind
       _=dd*(D*mm*ee-D*m'*ff-D*mm*f'):=by rw[a1];grind
       _=_:=by grind
     have hk0:((k:Int):Rat)≠0:=qe aa
     have hi:((k:Int):Rat)⁻¹*((k:Int):Rat)=1:=Rat.inv_mul_cancel _ hk0
     obtain⟨w1,hw1⟩:=k3.dv (c:=bZ m F) (w:=gv ((k:Int):Rat)⁻¹ (iB (bZ e m) (gv (-1) (iB (bZ (bz m) F) (bZ m (bz F)))))) fun t=>by
      have:=kk t
      rw[gb,cA,cA,cA]at this
      rw[gb,cA]
      generalize ((k:Int):Rat)=K at*
      generalize K⁻¹=L at*
      generalize aE (iB (bZ e m) (gv (-1) (iB (bZ (bz m) F) (bZ m (bz F))))) t=y at*
      have h5:aE (bz x) t*(aE m t*aE F t)=L*(K*(aE (bz x) t*(aE m t*aE F t))):=by rw[<-Rat.mul_assoc L K,hi,Rat.one_mul]
      rw[h5,this];grind
     exact k4.dv (w:=w1) fun t=>by rw[<-hw1,cA,Rat.mul_comm]
   obtain⟨w,hw⟩:=key
   exact⟨w,fun t=>by rw[hm,hw,eI,Rat.pow_succ];grind⟩
 ·-- x is a number
  obtain⟨w,hw⟩:=dp
  have ex:∀t,aE x t=x.2 0:=fun t=>by
   rw[<-eI]
   show ev (cz x).1 x.2 t=_
   rw[show(cz x).1=1 by omega]
   show 0+x.2 0*t^0=_
   rw[Rat.pow_zero];grind
  have hx:x.2 0≠0:=fun h0=>by
   have:=qv tp fun t=>by rw[e1,ex,h0,Rat.mul_zero]
   omega
  have hi:(x.2 0)⁻¹*x.2 0=1:=Rat.inv_mul_cancel _ hx
  refine⟨gv (x.2 0)⁻¹ w,fun t=>?_⟩
  rw[hw,e1,ex,gb]
  generalize (x.2 0)⁻¹=L at*
  grind
theorem D5 {c g:PP} (tc:Trim c) (c0:0<c.1) (tg:Trim g) (g0:0<g.1) (h:Dv g c):Dv (bg g) (bg c):=by
 obtain⟨G,e,hG,tG,h1,_⟩:=oH tg g0
 exact E7 tc c0 iI (ux tg g0) (AO tg g0) (Dv.trans ⟨G,fun t=>by rw[h1,Rat.mul_comm]⟩ h)
theorem Pg (a:Nat->Rat):∀n,vr a n<=n
 |0=>aX
 |n+1=>by
  have:=Pg a n
  unfold vr at*
  rw[mu]
  dsimp only
  split<;>omega
theorem OJ {c:PP} {s q:Nat} (h:mA c s q) (x y:Rat):bt c x y<=8:=by
 by_cases hxy:x<y
 ·rw[pO hxy]
  have h1:oz c x<=dw c+1:=Pg _ _
  have h2:=h.k7
  split<;>omega
 ·rw[show bt c x y=0 from if_pos (by grind)];decide
end Go.Am
namespace Go.Am.B
open Go Go.Am.N AV ag au IntKind Proofs.Tryz
theorem Dc {c:PP} (h:cW c):CA c/\vJ c:=by
 have hW:=cP
 have hl:=h.len
 have h0:=h.p0
 obtain⟨f1,f2⟩:=h.free
 have g1:=h.gcd
 have b1:Bd c 806:=h.bd.more aa
 have b2:Bd (bz c) 806:=h.bd.cV aa
 have hd:nk c (bN c (bz c)):=AU (M:=13) h.bd g1.bd g1.p0 g1.tr aa aa
 have hf:cU (bg c).1 (bg c).2:=kQ f1.bd aa
 have hder:cU (c.1-1) (cV c.2):=kQ (Ak h.bd aa) aa
 have h13:2*((13+1)*(2*(806+1)*3^(13-1)))+2<=af:=by rw[hW];decide
 have hdl:(bz c).1<=13:=Nat.le_trans CG aa
 refine⟨⟨aa,h.tr,hder,fun _=>⟨xW h.tr eC hl hdl aa b1 b2 h13,hd,hf⟩⟩,⟨aa,aa,h.tr,hder,fun _=>⟨⟨kQ (b1.cN h.tr) aa,kQ (b2.cN eC) aa,xW (mO h.tr) (mO eC) hl hdl aa (b1.cN h.tr) (b2.cN eC) h13⟩,hd,hf⟩⟩⟩
theorem L5 {c:PP} (h:cW c):A6 (eG c):=fun j hj=>by
 have hW:=cP
 obtain⟨B,b1,b2,b3,b4,b5⟩:=h.sm j (by have:dw c=eo (eG c):=rfl;omega)
 have ht:=mU (s:=eG c) iI eC j
 have hn:=(lS (s:=eG c) iI eC).2.2 j hj
 refine⟨AU (M:=7) b2 b3 aa ht.2 aa aa,?_⟩
 exact kQ ((B7 (M:=7) b2 b3 aa ht.2 aa).1.neg) aa
theorem vE {c:PP} (h:cW c):kX c/\jJ c:=by
 have hW:=cP
 obtain⟨f1,f2⟩:=h.free
 have hder:cU ((bg c).1-1) (cV (bg c).2):=kQ (Ak f1.bd aa) aa
 exact⟨⟨(Dc h).1,hder,L5 h⟩,⟨(Dc h).2,hder,L5 h⟩⟩
theorem yq {c:PP} (h:cW c):aS c<=8:=by
 have:dw c<=7:=h.jm.k7
 show dw c+1<=8
 omega
theorem aa3 {c:PP} (h:cW c) {i:Nat} (hi:i<aS c):Bd (aQ c i) 1176605/\(aQ c i).1<=7:=h.jm.bd i (by have:aS c=dw c+1:=rfl;omega)
theorem F6 {c:PP} (h:cW c) {τ:Nat} {T:Int} {t:Rat} (ht:ct T τ t) (hT:T.natAbs<=2^τ) (hT0:T≠0) (hs:τ<=2^31):cj (aS c) (aQ c) t:=fun i hi=>by
 have hW:=cP
 obtain⟨b1,b2⟩:=aa3 h hi
 exact⟨aa,Ml b1 ht hT hT0 b2 aa⟩
theorem QV {n:Nat} {f:Nat->AV} {a:Int}:∀i,i<=3->tv i (fI n f a i).1
 |0,_=>tv.one
 |i+1,hi=>by
  have h1:=Ah (n:=n) (f:=f) (a:=a) i aa
  have h2:=Ah (n:=n) (f:=f) (a:=a) (i+1) hi
  have h3:=h2.hi
  exact(QV i aa).step h1.lo Ay Jc (by show(fI n f a (i+1)).1.1<=30;omega)
theorem LV {n:Nat} {f:Nat->AV} {a:Int} (h0:(ak (jd n f a)).1≠0):cW (ak (jd n f a)):=by
 have hN:=E0 (n:=n) (f:=f) (a:=a)
 have hp:=IU (n:=n) (f:=f) (a:=a)
 have e:∀t,aE (ig (jd n f a)) t=aE (ak (jd n f a)) t:=fun t=>xe.symm
 have hex:∃t,jI (jd n f a) t≠0:=Classical.byContradiction fun hn=>h0 (qv (show Trim (ak (jd n f a))from mI) fun t=>by
  rw[<-e,mH hp.lo]
  exact Classical.byContradiction fun h=>hn ⟨t,h⟩)
 exact((QV (n:=n) (f:=f) (a:=a) (qG n f a) hN hex).of_eq e).gd aa (.inl hN) mI (Nat.pos_of_ne_zero h0) hp.gd.len (hp.gd.bd.more aa)
theorem nE {c:PP} {x y:Rat}:dn (aS c) (aQ c) x y=bt c x y:=by
 have e:∀t i,de (aQ c) t i=bK (aE (dJ c i) t):=fun t i=>by
  show bK (b9 (dJ c i) t)=_
  rw[nv];rfl
 have e2:b9 (aQ c 0) y=aE (bg c) y:=nv
 unfold dn bt oz vr
 rw[e2,show de (aQ c) x=fun i=>bK (aE (dJ c i) x)from funext (e x),show de (aQ c) y=fun i=>bK (aE (dJ c i) y)from funext (e y)]
 rfl
def dY:Nat:=68243226
theorem nC:dY=68243226:=rfl
theorem TF:nJ 1176605 9412848 0=68243223:=by decide
def Dy (z:Rat):Prop:=∃j,j<=dY/\ct ((2^j:Nat):Int) j z
theorem Dy.ch {c:PP} (h:cW c) {z:Rat} (hz:Dy z):cj (aS c) (aQ c) z:=by
 obtain⟨j,h1,h2⟩:=hz
 have hI:=nC
 exact F6 h h2 (by rw[Int.natAbs_natCast];exact Nat.le_refl _) (by have:=Nat.pow_pos (n:=j) (show 0<2 by decide);omega) aa
theorem LW {j:Nat} {x y:Rat} (hx:ct ((2^j:Nat):Int) j x) (hy:ct ((2^j:Nat):Int) j y):ct ((2^(j+1):Nat):Int) (j+1) (aU x y):=by
 obtain⟨z,h1,h2⟩:=hx.add hy
 refine⟨z,?_,h2⟩
 rw[h1,Nat.pow_succ,Int.natCast_mul,Rat.intCast_mul]
 unfold aU
 generalize (((2^j:Nat):Int):Rat)=D
 have:(((2:Nat):Int):Rat)=2:=rfl
 rw[this];grind
theorem Jt {j:Nat} {x:Rat} (hx:ct ((2^j:Nat):Int) j x):ct ((2^(j+1):Nat):Int) (j+1) x:=by
 have:=hx.up (E:=2) (e:=1) (by decide)
 rw[Nat.pow_succ,Int.natCast_mul]
 exact this
theorem uP {x y:Rat} (h:x<y):x<aU x y/\aU x y<y/\aU x y-x=(y-x)*(1/2)/\y-aU x y=(y-x)*(1/2):=by
 unfold aU
 exact⟨by grind,by grind,by grind,by grind⟩
theorem xp {j:Nat} {x:Rat} (hj:j<=dY) (hx:ct ((2^j:Nat):Int) j x):Dy x:=⟨j,hj,hx⟩
structure j7 (j:Nat) (x y:Rat):Prop where
 nx:ct ((2^j:Nat):Int) j x
 ny:ct ((2^j:Nat):Int) j y
 w:(y-x)*T2 j=1
 lo:0<=x
 hi:y<=1
theorem j7.lt {j:Nat} {x y:Rat} (h:j7 j x y):x<y:=by
 have h1:=j8 j
 have h2:=h.w
 refine Decidable.byContradiction fun hn=>?_
 have:=Rat.mul_nonneg (a:=x-y) (b:=T2 j) (by grind) (by grind)
 grind
theorem j7.IE {j:Nat} {x y:Rat} (h:j7 j x y):j7 (j+1) x (aU x y)/\j7 (j+1) (aU x y) y:=by
 obtain⟨m1,m2,m3,m4⟩:=uP h.lt
 have hw:=h.w
 have h1:=h.lo
 have h2:=h.hi
 exact⟨⟨Jt h.nx,LW h.nx h.ny,by rw[m3,nK];grind,h1,by grind⟩,⟨LW h.nx h.ny,Jt h.ny,by rw[m4,nK];grind,by grind,h2⟩⟩
theorem j7.zero:j7 0 0 1 where
 nx:=.zero
 ny:=⟨1,by decide+kernel,aX⟩
 w:=by unfold T2;rw[Rat.pow_zero];decide+kernel
 lo:=by decide
 hi:=by decide
theorem j7.J0 {c:PP} (hc:cW c) {j:Nat} {x y:Rat} (h:j7 j x y) (hj:dY-1<=j):bt c x y=0\/bt c x y=1:=by
 have hD:=nC
 have hE:=TF
 have hw:=h.w
 have hlt:=h.lt
 have t0:T2 0=1:=by unfold T2;rw[Rat.pow_zero]
 refine hc.jm.short (r:=0) ⟨by rw[t0];have:=h.lo;grind,by rw[t0];exact h.hi,hlt⟩ ?_
 have hle:T2 (nJ 1176605 9412848 0+1)<=T2 j:=jS (by rw[hE];omega)
 rw[nK]at hle
 have:=Rat.mul_le_mul_of_nonneg_left (c:=y-x) hle (by grind)
 grind
theorem Cr {c:PP} (hc:cW c):∀e j x y,j+e=dY->1<=e->j7 j x y->kr (aS c) (aQ c) e x y
 |0,_,_,_,_,h,_=>absurd h (by decide)
 |e+1,j,x,y,hj,_,h=>by
  refine⟨(xp aa h.nx).ch hc,(xp aa h.ny).ch hc,fun h0 h1=>?_⟩
  rw[nE]at h0 h1
  rcases Nat.eq_zero_or_pos e with he|he
  ·rcases h.J0 hc aa with h2|h2
   ·exact absurd h2 h0
   ·exact absurd h2 h1
  ·obtain⟨a,b⟩:=h.IE
   have hD:=nC
   have hW:=cP
   exact⟨(a.ny.sz (by have:=Nat.pow_pos (n:=j+1) (show 0<2 by decide);omega) (e:=j+1) (by rw[Int.natAbs_natCast];exact Nat.le_refl _)).more aa,Cr hc e (j+1) _ _ aa he a,Cr hc e (j+1) _ _ aa he b⟩
theorem kr.len {c:PP} (hc:cW c):∀e {x y:Rat},x<y->kr (aS c) (aQ c) e x y->((bM (aS c) (aQ c) e x y).length:Int)=bt c x y
 |0,_,_,_,h=>h.elim
 |e+1,x,y,hxy,h=>by
  obtain⟨_,_,h3⟩:=h
  unfold bM
  rw[nE]at h3 ⊢
  by_cases h0:bt c x y=0
  ·rw[if_pos h0,h0];rfl
  ·rw[if_neg h0]
   by_cases h1:bt c x y=1
   ·rw[if_pos h1,h1];rfl
   ·obtain⟨_,a,b⟩:=h3 h0 h1
    obtain⟨m1,m2,_⟩:=uP hxy
    have i1:=kr.len hc e m1 a
    have i2:=kr.len hc e m2 b
    have e2:b9 (aQ c 0) (aU x y)=aE (bg c) (aU x y):=nv
    rw[if_neg h1,e2,rJ m1 m2,List.length_append]
    by_cases h2:aE (bg c) (aU x y)=0
    ·rw[if_pos h2,if_pos h2,List.length_cons];omega
    ·rw[if_neg h2,if_neg h2];omega
theorem Db {c:PP}:∀e j x y,j+e=dY->j7 j x y->∀s,s∈bM (aS c) (aQ c) e x y->Dy s.1/\Dy s.2
 |0,_,_,_,_,_=>fun s hs=>by cases hs
 |e+1,j,x,y,hj,h=>fun s hs=>by
  unfold bM at hs
  have hlt:=h.lt
  have kx:=xp (show j<=dY by omega) h.nx
  have ky:=xp (show j<=dY by omega) h.ny
  obtain⟨a,b⟩:=h.IE
  split at hs
  ·cases hs
  ·split at hs
   ·rw[List.mem_singleton]at hs
    subst hs
    exact⟨by show Dy (fk x y);unfold fk;split<;>assumption,by show Dy (fl x y);unfold fl;split<;>assumption⟩
   ·rcases List.mem_append.1 hs with hs|hs
    ·exact Db e (j+1) _ _ aa a s hs
    ·split at hs
     ·rcases List.mem_cons.1 hs with hs|hs
      ·subst hs
       exact⟨xp (show j+1<=dY by omega) a.ny,xp (show j+1<=dY by omega) a.ny⟩
      ·exact Db e (j+1) _ _ aa b s hs
     ·exact Db e (j+1) _ _ aa b s hs
theorem FU:Dy 0:=⟨0,Nat.zero_le _,j7.zero.nx⟩
theorem Jh:Dy 1:=⟨0,Nat.zero_le _,j7.zero.ny⟩
theorem Ky {c:PP} {s:Rat×Rat} (hs:s∈mq dY (aS c) (aQ c)):Dy s.1/\Dy s.2:=by
 unfold mq at hs
 rcases List.mem_append.1 hs with hs|hs
 ·rcases List.mem_append.1 hs with hs|hs
  ·split at hs
   ·rw[List.mem_singleton]at hs;subst hs;exact⟨FU,FU⟩
   ·cases hs
  ·exact Db dY 0 _ _ (Nat.zero_add _) j7.zero s hs
 ·split at hs
  ·rw[List.mem_singleton]at hs;subst hs;exact⟨Jh,Jh⟩
  ·cases hs
theorem Fu {l:List (Rat×Rat)} {i:Nat} (h:i<l.length):cw l i∈l:=by
 unfold cw
 rw[List.getD_eq_getElem?_getD,List.getElem?_eq_getElem h]
 exact List.getElem_mem h
theorem QS {c:PP} (hc:cW c):(mq dY (aS c) (aQ c)).length<=10:=by
 have h1:=kr.len hc dY (show(0:Rat)<1 by decide) (Cr hc dY 0 0 1 (Nat.zero_add _) (by have:=nC;omega) j7.zero)
 have h2:=OJ hc.jm 0 1
 unfold mq
 rw[List.length_append,List.length_append]
 have a:(if b9 (aQ c 0) 0=0 then [((0:Rat),(0:Rat))]else []).length<=1:=by split<;>simp
 have b:(if b9 (aQ c 0) 1=0 then [((1:Rat),(1:Rat))]else []).length<=1:=by split<;>simp
 omega
def Kq:Spec:=ef (kC (fu af) (kC (fu af) kN)) (fun a=>.rat (aU a.1 a.2.1) eV) fun a=>[Sz (aU a.1 a.2.1) af]
def Pf:Spec:=ef (kC (kL af) (kC (fu eV) kN)) (fun a=>.rat (b9 a.1 a.2.1) af) fun a=>[a.1.1<2^40,fF a.1 a.2.1,Sz a.2.1 af]
def Iw:Spec:=ef (kC (fu eV) kN) (fun a=>dH a.1 a.1 af) fun a=>[Sz a.1 af]
def Y8:AV->Bool
 |.rat _ n=>Nat.ble (af+1) n
 |_=>false
def kD (n:Nat) (c:Nat->PP):Nat->Rat->Rat->Prop
 |0,_,_=>False
 |d+1,x,y=>x<y/\cj n c x/\cj n c y/\Sz x af/\Sz y af/\((bM n c (d+1) x y).length:Int)=dn n c x y/\(bM n c (d+1) x y).length<2^30/\(dn n c x y≠0->dn n c x y≠1->kD n c d x (aU x y)/\kD n c d (aU x y) y)
def Hw (b1 b2:Bool) (d:Nat):Spec:=sN fun K l=>match l with
 |[v,a,b]=>match mW.read v,(fu eV).read a,(fu eV).read b with
  |some ((n,c),q1),some (x,q2),some (y,q3)=>match bif Y8 b then b1 else b2 with
   |true=>some ⟨.own K 6 0 (bM n c d x y).length,[(K,oL (bM n c d x y))],[aC q1,aC q2,aC q3,0<n,n<2^30,kD n c d x y,bM n c d x y≠[]]⟩
   |false=>some (aO .nil [aC q1,aC q2,aC q3,0<n,n<2^30,kD n c d x y,bM n c d x y=[]])
  |_,_,_=>none
 |_=>none
def wz (b1 b2:Bool) (d:Nat):bE:=nG::(75,Hw b1 b2 d)::(62,xD)::(136,Kq)::(76,Pf)::(77,Iw)::iH
abbrev Bl:Code:=aK f75
abbrev z7 (n:Nat) (c:Nat->PP) (x y:Rat):aP:=⟨aZ 0 [eH n c,.rat x af,.rat y af],[],0⟩
theorem Qp:bu 75 f75:=bC func75
theorem abR {n d:Nat} {c:Nat->PP} {x y:Rat}:cy T (wz true true d) [100015] 60 f75 Bl (z7 n c x y)=
  some (aj [(0:Nat)<1,(0:Nat)<1,∀(i:Nat),i<n->bf (aD (c i)) (aD (br (aD (c i)))),af<=af,af<=af,(0:Nat)<n,n<2^30,x<y,cj n (fun i=>br (aD (c i))) x,cj n (fun i=>br (aD (c i))) y] (aj [(dn n (fun i=>br (aD (c i))) x y==0)=true] (leaf ret [nil]))):=ah
theorem ajo {n d:Nat} {c:Nat->PP} {x y:Rat}:aL T (wz true true d) [200015,100017] 60 [6] [Bl] (z7 n c x y)=
  let e:=rat 0 1;let b:=dn n (fun i=>br (aD (c i))) x y;let a:=0<1;some (aj [a,a,∀(i:Nat),i<n->bf (aD (c i)) (aD (br (aD (c i)))),af<=af,af<=af,(0:Nat)<n,n<2^30,x<y,cj n (fun i=>br (aD (c i))) x,cj n (fun i=>br (aD (c i))) y] (aj [(b==0)=false] (aj [(b==1)=true] (aj [a,a,(1:Nat)*6<=2^24] (leaf ret ([own 61440 6 0 1],[(61440,aA.mk true true 6 1 fun i=>nth [agg [rat x af,rat y af]] (agg [e,e]) i)])))))):=ah
theorem Tx {n d:Nat} {c:Nat->PP} {x y:Rat}:aL T (wz true true d) [200015,200017,35] 60 [6] [Bl] (z7 n c x y)=
  let r:=rat 0 1;let l:=aC [eV<=eV];let k:=aC [af<=eV];let f:=0<n;let p:=dn n (fun i=>br (aD (c i))) x y;let j:=2^47;let h:=112+1;let e:=aU x y;let v:=n<2^30;let t:PP:=c (Int.toNat (0:Int));let w:=aC [∀(i:Nat),i<n->bf (aD (c i)) (aD (br (aD (c i))))];let b:=0<1;let q:Nat×(Nat->Rat):=(t.fst,fun i=>aN (rat (t.snd i) af));let o:=kD n (fun i=>br (aD (c i))) d e y;let u:List (Rat×Rat):=bM n (fun i=>br (aD (c i))) d x e;let s:List (Rat×Rat):=bM n (fun i=>br (aD (c i))) d e y;let a:=s.length;let g:=u.length;let m:=g+1;some (aj [b,b,∀(i:Nat),i<n->bf (aD (c i)) (aD (br (aD (c i)))),af<=af,af<=af,f,v,x<y,cj n (fun i=>br (aD (c i))) x,cj n (fun i=>br (aD (c i))) y] (aj [(p==0)=false] (aj [(p==1)=false] (aj [b,b,af<=af,af<=af,Sz e af,b] (aj [b,b,w,k,l,f,v,kD n (fun i=>br (aD (c i))) d x e,u≠[]] (aj [(0:Int)<=0/\Int.toNat (0:Int)<n,b,cL (fun i=>rat (t.snd i) af) t.fst af,eV<=eV,t.fst<2^40,fF q e,Sz e af,af<2^41] (fork (bK (b9 q e)==0) (aj [b,eV<=eV,Sz e af,(1:Nat)*6<=2^24,m*h*2<=j] (aj [b,b,w,l,k,f,v,o,s≠[],(m+a)*h*2<=j] (leaf ret ([own 163840 6 0 (m+a)],[(163840,aA.mk true true 6 (m+a) fun i=>if i<m then if i<g then cG u i else nth [agg [rat e af,rat e af]] (agg [r,r]) (i-g+0)else cG s (i-m+0))])))) (aj [b,b,w,l,k,f,v,o,s≠[],(g+a)*h*2<=j] (leaf ret ([own 139264 6 0 (g+a)],[(139264,aA.mk true true 6 (g+a) fun i=>if i<g then cG u i else cG s (i-g+0))])))))))))):=ah
theorem aad {n d:Nat} {c:Nat->PP} {x y:Rat}:aL T (wz true false d) [200015,200017,35] 60 [6] [Bl] (z7 n c x y)=
  let q:=rat 0 1;let h:=aC [eV<=eV];let g:=aC [af<=eV];let e:=0<n;let o:=dn n (fun i=>br (aD (c i))) x y;let f:=2^47;let z:=112+1;let b:=aU x y;let u:=n<2^30;let r:PP:=c (Int.toNat (0:Int));let v:=aC [∀(i:Nat),i<n->bf (aD (c i)) (aD (br (aD (c i))))];let a:=0<1;let p:Nat×(Nat->Rat):=(r.fst,fun i=>aN (rat (r.snd i) af));let m:=kD n (fun i=>br (aD (c i))) d b y;let l:=bM n (fun i=>br (aD (c i))) d b y=[];let t:List (Rat×Rat):=bM n (fun i=>br (aD (c i))) d x b;let s:=t.length;let k:=s+0;let w:=s+1;let j:=w+0;some (aj [a,a,∀(i:Nat),i<n->bf (aD (c i)) (aD (br (aD (c i)))),af<=af,af<=af,e,u,x<y,cj n (fun i=>br (aD (c i))) x,cj n (fun i=>br (aD (c i))) y] (aj [(o==0)=false] (aj [(o==1)=false] (aj [a,a,af<=af,af<=af,Sz b af,a] (aj [a,a,v,g,h,e,u,kD n (fun i=>br (aD (c i))) d x b,t≠[]] (aj [(0:Int)<=0/\Int.toNat (0:Int)<n,a,cL (fun i=>rat (r.snd i) af) r.fst af,eV<=eV,r.fst<2^40,fF p b,Sz b af,af<2^41] (fork (bK (b9 p b)==0) (aj [a,eV<=eV,Sz b af,(1:Nat)*6<=2^24,w*z*2<=f] (aj [a,a,v,h,g,e,u,m,l,j*z*2<=f] (leaf ret ([own 163840 6 0 j],[(163840,aA.mk true true 6 j fun i=>if i<w then if i<s then cG t i else nth [agg [rat b af,rat b af]] (agg [q,q]) (i-s+0)else nil)])))) (aj [a,a,v,h,g,e,u,m,l,k*z*2<=f] (leaf ret ([own 139264 6 0 k],[(139264,aA.mk true true 6 k fun i=>if i<s then cG t i else nil)])))))))))):=ah
theorem aeV {n d:Nat} {c:Nat->PP} {x y:Rat}:aL T (wz false true d) [200015,200017,35] 60 [6] [Bl] (z7 n c x y)=
  let o:=rat 0 1;let g:=aC [eV<=eV];let f:=aC [af<=eV];let e:=0<n;let l:=dn n (fun i=>br (aD (c i))) x y;let u:=2^47;let t:=112+1;let b:=aU x y;let r:=n<2^30;let p:PP:=c (Int.toNat (0:Int));let s:=aC [∀(i:Nat),i<n->bf (aD (c i)) (aD (br (aD (c i))))];let a:=0<1;let m:Nat×(Nat->Rat):=(p.fst,fun i=>aN (rat (p.snd i) af));let k:=kD n (fun i=>br (aD (c i))) d b y;let j:List (Rat×Rat):=bM n (fun i=>br (aD (c i))) d b y;let q:=j.length;let h:=1+q;some (aj [a,a,∀(i:Nat),i<n->bf (aD (c i)) (aD (br (aD (c i)))),af<=af,af<=af,e,r,x<y,cj n (fun i=>br (aD (c i))) x,cj n (fun i=>br (aD (c i))) y] (aj [(l==0)=false] (aj [(l==1)=false] (aj [a,a,af<=af,af<=af,Sz b af,a] (aj [a,a,s,f,g,e,r,kD n (fun i=>br (aD (c i))) d x b,bM n (fun i=>br (aD (c i))) d x b=[]] (aj [(0:Int)<=0/\Int.toNat (0:Int)<n,a,cL (fun i=>rat (p.snd i) af) p.fst af,eV<=eV,p.fst<2^40,fF m b,Sz b af,af<2^41] (fork (bK (b9 m b)==0) (aj [a,eV<=eV,Sz b af,(1:Nat)*6<=2^24,a/\1*t*2<=u] (aj [a,a,s,g,f,e,r,k,j≠[],h*t*2<=u] (leaf ret ([own 163840 6 0 h],[(163840,aA.mk true true 6 h fun i=>if i<1 then nth [agg [rat b af,rat b af]] (agg [o,o]) (i+0)else cG j (i-1+0))])))) (aj [a,a,s,g,f,e,r,k,j≠[],(0:Nat)<q/\q*t*2<=u] (leaf ret ([own 139264 6 0 q],[(139264,aA.mk true true 6 q fun i=>agg [rat (cw j (i+0)).fst af,rat (cw j (i+0)).snd af])])))))))))):=ah
theorem JE:bu 136 f136:=bC func136
theorem Kb {x y:Rat}:cy T z6 [] 60 f136 (aK f136) ⟨aZ 0 [.rat x af,.rat y af],[],0⟩=
  some (aj [0<1,0<1,af<2^41,af<2^41,-(2:Int)^63<=(1:Int),(1:Int)<2^63,-(2:Int)^63<=(2:Int),(2:Int)<2^63,af+af+1<2^41,(64:Nat)<2^41,0<1] (aj [0<1] (leaf ret [rat ((x+y)*((↑(1:Int):Rat)/(↑(2:Int):Rat))) (af+af+1+64)]))):=ah
theorem PN:bu 77 f77:=bC func77
theorem Ly {x:Rat}:cy T iH [] 60 f77 (aK f77) ⟨aZ 0 [.rat x af],[],0⟩=
  let b:=rat x af;let a:=0<1;some (aj [a,a,a] (aj [a] (leaf ret [agg [b,b]]))):=ah
theorem LO (x y:Rat):(x+y)*(((1:Int):Rat)/((2:Int):Rat))=aU x y:=rfl
theorem Uh:bp P Kq 136:=dy fun⟨x,y,_⟩ K hn=>by
 have hW:=cP
 have hX:=vT
 refine cB hT H9 hm JE rfl bh rfl 60 Kb (fun _=>?_) K []
 simp only[ag.all,aC]
 exact⟨⟨aa,aa,aa,aa,aa,aa,aa,aa,aa,aa,aa⟩,aa,eM (LO x y) (Sz.more (show Sz (aU x y) af from hn) aa)⟩
theorem xM {x:Rat} (h:Sz x af):bf (.rat x eV) (.rat x af):=eM rfl h
theorem Ta:bp P Pf 76:=dy fun⟨a,t,_⟩ K hn=>iz (args:=[aD a,.rat t eV]) (OK hn.1 hn.2.1 K) rfl ⟨.refl _,xM hn.2.2,trivial⟩ []
theorem Nr:bp P Iw 77:=dy fun⟨x,_⟩ K hn=>by
 have h1:aW P 77 K [.rat x af] [] (aO (dH x x af) []):=by
  refine cB hT iE hm PN rfl bh rfl 60 Ly (fun _=>?_) K []
  simp only[ag.all,aC]
  exact⟨⟨aa,aa,aa⟩,aa,.refl _⟩
 exact iz (args:=[.rat x eV]) h1 rfl ⟨xM hn,trivial⟩ []
def wB (d:Nat):Prop:=∀(n:Nat) (c:Nat->PP) (x y:Rat) (K:Nat),0<n->n<2^30->kD n c d x y->
 (bM n c d x y≠[]->aW P 75 K [eH n c,.rat x af,.rat y af] [] ⟨.own K 6 0 (bM n c d x y).length,[(K,oL (bM n c d x y))],[]⟩)/\
 (bM n c d x y=[]->aW P 75 K [eH n c,.rat x af,.rat y af] [] (aO .nil []))
theorem kD.sz {n:Nat} {c:Nat->PP}:∀{d:Nat} {x y:Rat},kD n c d x y->Sz x af/\Sz y af
 |0,_,_,h=>h.elim
 |_+1,_,_,h=>⟨h.2.2.2.1,h.2.2.2.2.1⟩
theorem Q0 {d:Nat} (ih:wB d) (b1 b2:Bool):bp P (Hw b1 b2 d) 75:=by
 refine xC fun K args r hk hs=>?_
 split at hs
 ·rename_i v a b
  split at hs
  ·rename_i n c q1 x q2 y q3 e1 e2 e3
   split at hs
   ·simp only[aB]at hs
    subst hs
    intro need
    obtain⟨n1,n2,n3,n4,n5,n6,n7⟩:=need
    obtain⟨z1,z2⟩:=n6.sz
    exact iz ((ih n c x y K n4 n5 n6).1 n7) hk ⟨mW.ok e1 n1,((fu eV).ok e2 n2).trans (xM z1),((fu eV).ok e3 n3).trans (xM z2),trivial⟩ [] trivial
   ·simp only[aB]at hs
    subst hs
    intro need
    obtain⟨n1,n2,n3,n4,n5,n6,n7⟩:=need
    obtain⟨z1,z2⟩:=n6.sz
    exact iz ((ih n c x y K n4 n5 n6).2 n7) hk ⟨mW.ok e1 n1,((fu eV).ok e2 n2).trans (xM z1),((fu eV).ok e3 n3).trans (xM z2),trivial⟩ [] trivial
  ·simp at hs
 ·simp at hs
theorem zK {d:Nat} (ih:wB d) (b1 b2:Bool):bY P (wz b1 b2 d):=gM (aM (Q0 ih b1 b2) (aM zB (aM Uh (aM Ta (aM Nr iE)))))
theorem YJ:wB 0:=fun _ _ _ _ _ _ _ h=>h.elim
theorem uD {K k m:Nat} {l:List (Rat×Rat)} {f:Nat->AV} (hl:m=l.length) (h:∀i,i<l.length->iO (bD [(K,k)]) (f i) (cG l i)):iF (bD [(K,k)]) [.own k 6 0 m] [.own K 6 0 l.length]/\eA (bD [(K,k)]) ⟨true,true,6,m,f⟩ (oL l):=
 ⟨⟨⟨rfl,eR (by simp[bD,look]) rfl hl⟩,trivial⟩,iQ hl.symm fun i hi=>h i aa⟩
theorem Ss {d:Nat} (ih:wB d):wB (d+1):=fun n c x y K h1 h2 h=>by
 have hW:=cP
 have hX:=vT
 obtain⟨o1,o2,o3,o4,o5,o6,o7,o8⟩:=h
 have hrd:∀i,i<n->bf (aD (c i)) (aD (br (aD (c i)))):=fun i _=>.refl _
 have mn:fk x y=x:=if_neg (by grind)
 have mx:fl x y=y:=if_pos o1
 refine⟨fun hne=>?_,fun he=>?_⟩
 ·refine(DP hT Qp (ws:=[.own K 6 0 (bM n c (d+1) x y).length]) (fun _=>Ef (us:=[eH n c,.rat x af,.rat y af]) (vs:=[eH n c,.rat x af,.rat y af]) rfl rfl ⟨.refl _,.refl _,.refl _,trivial⟩) bh fun _ cx hk=>?_:aW P 75 K _ [] ⟨_,_,[]⟩)
  have e0:dn n c x y≠0:=fun h0=>hne (by unfold bM;rw[if_pos h0])
  by_cases e1:dn n c x y=1
  ·have el:bM n c (d+1) x y=[(x,y)]:=by unfold bM;rw[if_neg e0,if_pos e1,mn,mx]
   rw[el]
   refine az.bU hT (zK ih true true) hm 60 [6] ajo ah ?_
   simp only[ag.all,aC,beq_iff_eq,beq_eq_false_iff_ne]
   refine⟨⟨aa,aa,hrd,aa,aa,h1,h2,o1,o2,o3⟩,e0,e1,⟨aa,aa,aa⟩,fun s' hs'=>?_⟩
   have L:=uD (K:=K) (k:=61440) (l:=[(x,y)]) (f:=fun i=>nth [agg [rat x af,rat y af]] (agg [rat 0 1,rat 0 1]) i) rfl fun i hi=>by
    have hi:i<1:=hi
    obtain rfl:i=0:=aa
    exact fR rfl
   exact⟨.inr trivial,[6],_,[.own 61440 6 0 1],_,61440,_,hs',ah,L.1,rfl,L.2⟩
  ·obtain⟨k1,k2⟩:=o8 e0 e1
   have zm:=k1.sz.2
   have cm:cj n c (aU x y):=by
    cases d with
    |zero=>exact k1.elim
    |succ d=>exact k1.2.2.1
   obtain⟨v1,v2⟩:=cm 0 h1
   have el:bM n c (d+1) x y=bM n c d x (aU x y)++(if b9 (c 0) (aU x y)=0 then(aU x y,aU x y)::bM n c d (aU x y) y else bM n c d (aU x y) y):=by
    show(if dn n c x y=0 then _ else _)=_
    rw[if_neg e0,if_neg e1]
   have lb:∀{d:Nat} {x y:Rat},kD n c d x y->(bM n c d x y).length<2^30:=fun {d x y} h=>by
    cases d with
    |zero=>exact h.elim
    |succ d=>exact h.2.2.2.2.2.2.1
   have lb1:=lb k1
   have lb2:=lb k2
   have lb1':(bM n (fun i=>br (aD (c i))) d x (aU x y)).length<2^30:=lb1
   have lb2':(bM n (fun i=>br (aD (c i))) d (aU x y) y).length<2^30:=lb2
   have hlen:=o6
   rw[el]
   rw[el,List.length_append]at hlen
   have cc:bK (b9 (c 0) (aU x y))=0↔b9 (c 0) (aU x y)=0:=by
    rcases wh (b9 (c 0) (aU x y))with h|h|h<;>unfold bK at h ⊢<;>grind
   by_cases l1:bM n c d x (aU x y)=[]
   ·have l2:bM n c d (aU x y) y≠[]:=fun l2=>by
     rw[l1,l2]at hlen
     split at hlen
     ·exact e1 (by simpa using hlen.symm)
     ·exact e0 (by simpa using hlen.symm)
    have l2p:0<(bM n (fun i=>br (aD (c i))) d (aU x y) y).length:=List.length_pos_iff.2 l2
    refine az.bU hT (zK ih false true) hm 60 [6] aeV ah ?_
    simp only[ag.all,aC,beq_iff_eq,beq_eq_false_iff_ne]
    refine⟨⟨aa,aa,hrd,aa,aa,h1,h2,o1,o2,o3⟩,e0,e1,⟨aa,aa,aa,aa,zm,aa⟩,⟨aa,aa,hrd,aa,aa,h1,h2,k1,l1⟩,⟨⟨aa,h1⟩,aa,cK (a:=c 0),aa,v1,v2,zm,aa⟩,fun hb=>?_,fun hb=>?_⟩
    ·refine⟨⟨aa,aa,zm,aa,aa,aa⟩,⟨aa,aa,hrd,aa,aa,h1,h2,k2,l2,aa⟩,fun s' hs'=>?_⟩
     rw[l1,if_pos (cc.1 hb)]
     have L:=uD (K:=K) (k:=163840) (l:=[]++(aU x y,aU x y)::bM n c d (aU x y) y) (f:=fun i=>if i<1 then nth [agg [rat (aU x y) af,rat (aU x y) af]] (agg [rat 0 1,rat 0 1]) (i+0)else cG (bM n c d (aU x y) y) (i-1+0)) (m:=1+(bM n c d (aU x y) y).length) (by simp;omega) fun i hi=>by
      cases i with
      |zero=>exact fR rfl
      |succ i=>rw[if_neg aa];exact fR rfl
     exact⟨.inr trivial,[6],_,[.own 163840 6 0 _],_,163840,_,hs',ah,L.1,rfl,L.2⟩
    ·refine⟨⟨aa,aa,hrd,aa,aa,h1,h2,k2,l2,aa,aa⟩,fun s' hs'=>?_⟩
     rw[l1,if_neg fun h0=>hb (cc.2 h0)]
     have L:=uD (K:=K) (k:=139264) (l:=[]++bM n c d (aU x y) y) (f:=fun i=>agg [rat (cw (bM n c d (aU x y) y) (i+0)).fst af,rat (cw (bM n c d (aU x y) y) (i+0)).snd af]) (m:=(bM n c d (aU x y) y).length) rfl fun i hi=>fR rfl
     exact⟨.inr trivial,[6],_,[.own 139264 6 0 _],_,139264,_,hs',ah,L.1,rfl,L.2⟩
   ·by_cases l2:bM n c d (aU x y) y=[]
    ·refine az.bU hT (zK ih true false) hm 60 [6] aad ah ?_
     simp only[ag.all,aC,beq_iff_eq,beq_eq_false_iff_ne]
     refine⟨⟨aa,aa,hrd,aa,aa,h1,h2,o1,o2,o3⟩,e0,e1,⟨aa,aa,aa,aa,zm,aa⟩,⟨aa,aa,hrd,aa,aa,h1,h2,k1,l1⟩,⟨⟨aa,h1⟩,aa,cK (a:=c 0),aa,v1,v2,zm,aa⟩,fun hb=>?_,fun hb=>?_⟩
     ·refine⟨⟨aa,aa,zm,aa,aa⟩,⟨aa,aa,hrd,aa,aa,h1,h2,k2,l2,aa⟩,fun s' hs'=>?_⟩
      rw[l2,if_pos (cc.1 hb)]
      have L:=uD (K:=K) (k:=163840) (l:=bM n c d x (aU x y)++[(aU x y,aU x y)]) (f:=fun i=>if i<(bM n c d x (aU x y)).length+1 then if i<(bM n c d x (aU x y)).length then cG (bM n c d x (aU x y)) i else nth [agg [rat (aU x y) af,rat (aU x y) af]] (agg [rat 0 1,rat 0 1]) (i-(bM n c d x (aU x y)).length+0)else nil) (m:=(bM n c d x (aU x y)).length+1+0) (by simp) fun i hi=>by
       have hi:i<(bM n c d x (aU x y)).length+1:=by simpa using hi
       rw[if_pos hi]
       unfold cG
       rw[u7]
       by_cases h:i<(bM n c d x (aU x y)).length
       ·rw[if_pos h,if_pos h];exact fR rfl
       ·rw[if_neg h,if_neg h,show i-(bM n c d x (aU x y)).length=0 by omega];exact fR rfl
      exact⟨.inr trivial,[6],_,[.own 163840 6 0 _],_,163840,_,hs',ah,L.1,rfl,L.2⟩
     ·refine⟨⟨aa,aa,hrd,aa,aa,h1,h2,k2,l2,aa⟩,fun s' hs'=>?_⟩
      rw[l2,if_neg fun h0=>hb (cc.2 h0)]
      have L:=uD (K:=K) (k:=139264) (l:=bM n c d x (aU x y)++[]) (f:=fun i=>if i<(bM n c d x (aU x y)).length then cG (bM n c d x (aU x y)) i else nil) (m:=(bM n c d x (aU x y)).length+0) (by simp) fun i hi=>by
       have hi:i<(bM n c d x (aU x y)).length:=by simpa using hi
       rw[if_pos hi,List.append_nil];exact fR rfl
      exact⟨.inr trivial,[6],_,[.own 139264 6 0 _],_,139264,_,hs',ah,L.1,rfl,L.2⟩
    ·refine az.bU hT (zK ih true true) hm 60 [6] Tx ah ?_
     simp only[ag.all,aC,beq_iff_eq,beq_eq_false_iff_ne]
     refine⟨⟨aa,aa,hrd,aa,aa,h1,h2,o1,o2,o3⟩,e0,e1,⟨aa,aa,aa,aa,zm,aa⟩,⟨aa,aa,hrd,aa,aa,h1,h2,k1,l1⟩,⟨⟨aa,h1⟩,aa,cK (a:=c 0),aa,v1,v2,zm,aa⟩,fun hb=>?_,fun hb=>?_⟩
     ·refine⟨⟨aa,aa,zm,aa,aa⟩,⟨aa,aa,hrd,aa,aa,h1,h2,k2,l2,aa⟩,fun s' hs'=>?_⟩
      rw[if_pos (cc.1 hb)]
      have L:=uD (K:=K) (k:=163840) (l:=bM n c d x (aU x y)++(aU x y,aU x y)::bM n c d (aU x y) y) (f:=fun i=>if i<(bM n c d x (aU x y)).length+1 then if i<(bM n c d x (aU x y)).length then cG (bM n c d x (aU x y)) i else nth [agg [rat (aU x y) af,rat (aU x y) af]] (agg [rat 0 1,rat 0 1]) (i-(bM n c d x (aU x y)).length+0)else cG (bM n c d (aU x y) y) (i-((bM n c d x (aU x y)).length+1)+0)) (m:=(bM n c d x (aU x y)).length+1+(bM n c d (aU x y) y).length) (by simp;omega) fun i hi=>by
       unfold cG
       rw[u7]
       by_cases h:i<(bM n c d x (aU x y)).length
       ·rw[if_pos aa,if_pos h,if_pos h];exact fR rfl
       ·rw[if_neg h,if_neg h]
        by_cases h':i<(bM n c d x (aU x y)).length+1
        ·rw[if_pos h',show i-(bM n c d x (aU x y)).length=0 by omega];exact fR rfl
        ·rw[if_neg h',show i-(bM n c d x (aU x y)).length=i-((bM n c d x (aU x y)).length+1)+1 by omega];exact fR rfl
      exact⟨.inr trivial,[6],_,[.own 163840 6 0 _],_,163840,_,hs',ah,L.1,rfl,L.2⟩
     ·refine⟨⟨aa,aa,hrd,aa,aa,h1,h2,k2,l2,aa⟩,fun s' hs'=>?_⟩
      rw[if_neg fun h0=>hb (cc.2 h0)]
      have L:=uD (K:=K) (k:=139264) (l:=bM n c d x (aU x y)++bM n c d (aU x y) y) (f:=fun i=>if i<(bM n c d x (aU x y)).length then cG (bM n c d x (aU x y)) i else cG (bM n c d (aU x y) y) (i-(bM n c d x (aU x y)).length+0)) (m:=(bM n c d x (aU x y)).length+(bM n c d (aU x y) y).length) (by simp) fun i hi=>by
       unfold cG
       rw[u7]
       by_cases h:i<(bM n c d x (aU x y)).length
       ·rw[if_pos h,if_pos h];exact fR rfl
       ·rw[if_neg h,if_neg h];exact fR rfl
      exact⟨.inr trivial,[6],_,[.own 139264 6 0 _],_,139264,_,hs',ah,L.1,rfl,L.2⟩
 ·have e0:dn n c x y=0:=by rw[he]at o6;exact o6.symm
  refine cB hT (zK ih true true) hm Qp rfl bh rfl 60 abR (fun _=>?_) K []
  simp only[ag.all,aC,beq_iff_eq]
  exact⟨⟨aa,aa,hrd,aa,aa,h1,h2,o1,o2,o3⟩,e0,.refl _⟩
theorem KR:∀d,wB d
 |0=>YJ
 |d+1=>Ss (KR d)
def dQ (c:PP):Nat->PP
 |0=>c
 |j+1=>bN (dQ c j) (bz (dQ c j))
def iS (c:PP) (x y:Rat):Bool:=if x=y then decide (b9 c x=0)else decide (dn (aS c) (aQ c) x y≠0)
def k9 (c:PP) (x y:Rat):Nat->Nat->Nat
 |0,j=>j
 |f+1,j=>if 1<(dQ c j).1 then(if iS (dQ c j) x y=true then k9 c x y f (j+1)else j)else j
def xo (c:PP) (x y:Rat):Prop:=c.1<2^30/\x<=y/\∀j,1<(dQ c j).1->Trim (dQ c j)/\(dQ c j).1<2^30/\fF (dQ c j) x/\jJ (dQ c j)/\aS (dQ c j)<2^30/\cj (aS (dQ c j)) (aQ (dQ c j)) x/\cj (aS (dQ c j)) (aQ (dQ c j)) y/\cU ((dQ c j).1-1) (cV (dQ c j).2)/\qw (dQ c j) (bz (dQ c j))
def yO:Spec:=ef (kC (kL af) kN) (fun a=>eH (aS a.1) (aQ a.1)) fun a=>[jJ a.1]
def D9:bE:=nG::(76,lT)::(63,yO)::(62,xD)::(125,r9)::(100,Cj)::iH
abbrev yM:Code:=aK f78
abbrev Gp (c:PP) (j:Nat):List AV:=[aD (dQ c j),.ptr 0 0 6 0 [],.int .i64 j]
abbrev IK (x y:Rat):aI:=[(0,⟨false,true,6,1,fun _=>dH x y af⟩)]
def RV:Spec:=ef (kC (kL af) (kC (xh af) kN)) (fun a=>.int .i64 (k9 a.1 a.2.1.1 a.2.1.2 a.1.1 0:Nat)) fun a=>[xo a.1 a.2.1.1 a.2.1.2]
def tT (b:Bool) (d:Nat):bE:=nG::(61,vp)::(63,yO)::(75,Hw b b d)::(76,lT)::(78,RV)::(77,Iw)::iH
abbrev oY:Code:=aK f19
abbrev pY:List Nat:=[2,3,4,7,8,9]
abbrev uF (c:PP) (m i:Nat):List AV:=[.nil,.int .i64 0,aD c,.own 0 6 0 m,.own 1 7 0 i,.int .i64 i]
abbrev tO (l:List (Rat×Rat)) (g:Nat->Nat) (i:Nat):aI:=[(1,⟨true,true,7,i,oF l g⟩),(0,oL l)]
theorem aa8:bu 78 f78:=bC func78
theorem ah2 {c:PP} {x y:Rat}:aL T D9 [] 60 [0,3,5] (before yM [1,1,0]) ⟨aZ 0 [aD c,dH x y af],[],0⟩=
  let a:=(eE (dH x y af)).size;some (leaf normal ([aq 3 c.fst fun i=>rat (c.snd i) af,ptr 0 0 a 0 [],int i64 0],[(0,aA.mk false true a 1 fun x_1=>agg [rat x af,rat y af])])):=ah
theorem Xk {c:PP} {j:Nat} {x y:Rat}:aL T D9 [8,13,19,27] 60 [0,3,5] [part yM [1,1,0,0,0]] ⟨aH [0,3,5] (Gp c j),IK x y,1⟩=
  let a:PP:=dQ c j;let g:=2^30;let f:=(↑j:Int)+1;let k:=ptr 0 0 6 0 [];let e:=af<2^41;let m:=0<1;let s:Nat×aA:=(0,aA.mk false true 6 1 fun x_1=>agg [rat x af,rat y af]);let d:=a.fst;let l:=d<2^40;let o:=cL (fun i=>rat (a.snd i) af) d af;let p:ag (List AV×aI):=leaf (exit 0) ([aq 3 d fun i=>rat (a.snd i) af,k,int i64 (↑j:Int)],[s]);let n:=bO (cV fun i=>aN (rat (a.snd i) af)) (d-1);let b:Nat×(Nat->Rat):=(d,fun i=>aN (rat (a.snd i) af));let q:Nat×(Nat->Rat):=(n,fun i=>aN (rat (cV (fun i=>aN (rat (a.snd i) af)) i) af));let h:PP:=(bW (b,q) n).fst;let r:ag (List AV×aI):=aj [-(2:Int)^63<=f/\f<2^63] (aj [o,l,cU (d-1) (cV fun i=>aN (rat (a.snd i) af)),o,cL (fun i=>rat (cV (fun i=>aN (rat (a.snd i) af)) i) af) n af,d<g,n<g,Trim b,Trim q,qw b q] (leaf normal ([aq 3 h.fst fun i=>rat (cN h.fst h.snd i) af,k,int i64 f],[s])));some (fork (decide ((↑d:Int)>1)) (aj [m,m,e,e] (fork (decide (x=y)) (aj [m,o,af<=af,l,fF b x,e] (fork (bK (b9 b x)!=0) p r)) (aj [o,jJ b,m,m,∀(i:Nat),i<aS b->bf (aD (aQ b i)) (aD (br (aD (aQ b i)))),af<=af,af<=af,(0:Nat)<aS b,aS b<g,x<y,cj (aS b) (fun i=>br (aD (aQ b i))) x,cj (aS b) (fun i=>br (aD (aQ b i))) y] (fork (dn (aS b) (fun i=>br (aD (aQ b i))) x y==0) p r)))) p):=ah
theorem Uo {c:PP} {j:Nat} {x y:Rat}:dc T D9 [] 60 f78 [part yM [1,1,1]] ⟨aH [0,3,5] (Gp c j),IK x y,1⟩=
  some (leaf ret [int i64 (↑j:Int)]):=ah
theorem QK:bu 19 f19:=bC func19
abbrev m9:AV:=agg [rat 0 1,rat 0 1]
abbrev C6:AV:=agg [rat ((1:Int):Rat) af,rat ((1:Int):Rat) af]
abbrev rU:Nat:=Max.max 1 (ck (Int.natAbs (1:Int)))
def qB (p:PP) (k m:Nat) (f:Nat->AV):ag (List AV×aI):=leaf normal ([nil,int i64 0,aD (ak p),own k 6 0 m,nil,int i64 0],[(k,aA.mk true true 6 m f)])
abbrev Dx (p:PP):List Prop:=[0<1,aR (ak p),rU<=af,(ak p).1<2^40,fF (ak p) ((1:Int):Rat),af<2^41]
abbrev SJ (p:PP) (d:Nat) (L:List (Rat×Rat)) (e:Prop):List Prop:=[0<1,aC [∀i,i<aS (ak p)->bf (aD (aQ (ak p) i)) (aD (br (aD (aQ (ak p) i))))],aC [1<=eV],aC [rU<=eV],0<aS (ak p),aS (ak p)<2^30,kD (aS (ak p)) (aQ (ak p)) d 0 ((1:Int):Rat),e]
def CM (p:PP) (d:Nat) (e:Prop) (L:List (Rat×Rat)) (t:ag (List AV×aI)):ag (List AV×aI):=aj [aR p,jx p] (fork (((ak p).1:Int)==0) (leaf ret ([nil,int i64 3,aD (ak p),tuple [],tuple [],tuple []],[]))
 (aj [aR (ak p),jJ (ak p)] (aj [-(2:Int)^63<=(1:Int),(1:Int)<2^63,0<1] (aj (SJ p d L e) (aj [aR (ak p),1<=af,(ak p).1<2^40,fF (ak p) 0,af<2^41] t)))))
theorem U2 {d:Nat} {p:PP} {L:List (Rat×Rat)} (hL:L=bM (aS (ak p)) (aQ (ak p)) d 0 ((1:Int):Rat)):aL T (tT true d) [14,26,35] 60 pY (before oY [1,1,1,1,1,1,1,1,1,0,1]) ⟨aZ 0 [aD p],[],0⟩=
  some (CM p d (L≠[]) L (fork (bK (b9 (ak p) 0)==0)
   (aj [1*6<=2^24,(1+L.length)*(112+1)*2<=2^47] (aj (Dx p) (fork (bK (b9 (ak p) ((1:Int):Rat))==0) (aj [0<1,rU<=eV,Sz ((1:Int):Rat) af,1*6<=2^24,(1+L.length+1)*(112+1)*2<=2^47] (qB p 155648 (1+L.length+1) fun i=>if i<1+L.length then if i<1 then nth [m9] m9 i else cG L (i-1+0)else nth [C6] m9 (i-(1+L.length)+0))) (qB p 110592 (1+L.length) fun i=>if i<1 then nth [m9] m9 i else cG L (i-1+0)))))
   (aj (Dx p) (fork (bK (b9 (ak p) ((1:Int):Rat))==0) (aj [0<1,rU<=eV,Sz ((1:Int):Rat) af,1*6<=2^24,(L.length+1)*(112+1)*2<=2^47] (qB p 135168 (L.length+1) fun i=>if i<L.length then cG L i else nth [C6] m9 (i-L.length+0))) (qB p 69632 L.length fun i=>cG L i))))):=by subst hL;kernel_rfl
theorem acn {d:Nat} {p:PP} {L:List (Rat×Rat)} (hL:L=bM (aS (ak p)) (aQ (ak p)) d 0 ((1:Int):Rat)):aL T (tT false d) [14,26,35] 60 pY (before oY [1,1,1,1,1,1,1,1,1,0,1]) ⟨aZ 0 [aD p],[],0⟩=
  some (CM p d (L=[]) L (fork (bK (b9 (ak p) 0)==0)
   (aj [1*6<=2^24,(1+0)*(112+1)*2<=2^47] (aj (Dx p) (fork (bK (b9 (ak p) ((1:Int):Rat))==0) (aj [0<1,rU<=eV,Sz ((1:Int):Rat) af,1*6<=2^24,(1+0+1)*(112+1)*2<=2^47] (qB p 155648 2 fun i=>if i<1+0 then if i<1 then nth [m9] m9 i else nil else nth [C6] m9 (i-(1+0)+0))) (qB p 110592 1 fun i=>if i<1 then nth [m9] m9 i else nil))))
   (aj (Dx p) (fork (bK (b9 (ak p) ((1:Int):Rat))==0) (aj [0<1,rU<=eV,Sz ((1:Int):Rat) af,1*6<=2^24,0<1/\1*(112+1)*2<=2^47] (qB p 135168 1 fun i=>nth [C6] m9 (i+0))) (leaf normal ([nil,int i64 0,aD (ak p),nil,nil,int i64 0],[])))))):=by subst hL;kernel_rfl
theorem Wf {d m i:Nat} {c:PP} {l:List (Rat×Rat)} {g:Nat->Nat}:aL T (tT true d) [44] 60 pY [part oY [1,1,1,1,1,1,1,1,1,0,1,0,0]] ⟨aH pY (uF c m i),tO l g i,2⟩=
  let h:=rat 0 1;let f:Nat×(Nat->Rat):=(c.fst,fun i=>aN (rat (c.snd i) af));let p:=int i64 0;let t:=own 0 6 0 m;let s:=aq 3 c.fst fun i=>rat (c.snd i) af;let b:=(↑i:Int);let r:Nat×aA:=(0,aA.mk true true 6 l.length fun i=>agg [rat (cw l i).fst af,rat (cw l i).snd af]);let a:=b+1;let e:=(0:Int)<=b/\b.toNat<m;let o:=b.toNat+0;let q:Rat×Rat:=cw l o;let n:=rat q.snd af;let k:=rat q.fst af;some (fork (decide (b<(↑m:Int))) (aj [e,o<l.length,e,o<l.length,cL (fun i=>rat (c.snd i) af) c.fst af,bf k (rat (aN k) af),bf n (rat (aN n) af),xo f (aN k) (aN n),(1:Nat)*7<=2^24,(i+1)*((120:Nat)+1)*2<=2^47] (aj [-(2:Int)^63<=a/\a<2^63] (leaf normal ([nil,p,s,t,own 69634 7 0 (i+1),int i64 a],[(69634,aA.mk true true 7 (i+1) fun i_1=>if i_1<i then oF l g i_1 else nth [agg [agg [k,n],int i64 (↑(k9 f (aN k) (aN n) c.fst 0):Int)]] (agg [agg [h,h],p]) (i_1-i+0)),r])))) (leaf (exit 0) ([nil,p,s,t,own 1 7 0 i,int i64 b],[(1,aA.mk true true 7 i fun j=>agg [agg [rat (cw l j).fst af,rat (cw l j).snd af],int i64 (↑(g j):Int)]),r]))):=ah
theorem Sv {d m i:Nat} {c:PP} {l:List (Rat×Rat)} {g:Nat->Nat}:aL T (tT false d) [44] 60 pY [part oY [1,1,1,1,1,1,1,1,1,0,1,0,0]] ⟨aH pY (uF c m i),tO l g i,2⟩=
  let h:=rat 0 1;let f:Nat×(Nat->Rat):=(c.fst,fun i=>aN (rat (c.snd i) af));let p:=int i64 0;let t:=own 0 6 0 m;let s:=aq 3 c.fst fun i=>rat (c.snd i) af;let b:=(↑i:Int);let r:Nat×aA:=(0,aA.mk true true 6 l.length fun i=>agg [rat (cw l i).fst af,rat (cw l i).snd af]);let a:=b+1;let e:=(0:Int)<=b/\b.toNat<m;let o:=b.toNat+0;let q:Rat×Rat:=cw l o;let n:=rat q.fst af;let k:=rat q.snd af;some (fork (decide (b<(↑m:Int))) (aj [e,o<l.length,e,o<l.length,cL (fun i=>rat (c.snd i) af) c.fst af,bf n (rat (aN n) af),bf k (rat (aN k) af),xo f (aN n) (aN k),(1:Nat)*7<=2^24,(i+1)*((120:Nat)+1)*2<=2^47] (aj [-(2:Int)^63<=a/\a<2^63] (leaf normal ([nil,p,s,t,own 69634 7 0 (i+1),int i64 a],[(69634,aA.mk true true 7 (i+1) fun i_1=>if i_1<i then oF l g i_1 else nth [agg [agg [n,k],int i64 (↑(k9 f (aN n) (aN k) c.fst 0):Int)]] (agg [agg [h,h],p]) (i_1-i+0)),r])))) (leaf (exit 0) ([nil,p,s,t,own 1 7 0 i,int i64 b],[(1,aA.mk true true 7 i fun j=>agg [agg [rat (cw l j).fst af,rat (cw l j).snd af],int i64 (↑(g j):Int)]),r]))):=ah
theorem ZN {d m i:Nat} {c:PP} {l:List (Rat×Rat)} {g:Nat->Nat}:dc T (tT false d) [] 60 f19 [part oY [1,1,1,1,1,1,1,1,1,1]] ⟨aH pY (uF c m i),tO l g i,2⟩=
  some (leaf ret [aq 7 i fun i=>agg [agg [rat (cw l (i+0)).fst af,rat (cw l (i+0)).snd af],int i64 (↑(g (i+0)):Int)],int i64 0]):=ah
theorem Vx {d m i:Nat} {c:PP} {l:List (Rat×Rat)} {g:Nat->Nat}:dc T (tT true d) [] 60 f19 [part oY [1,1,1,1,1,1,1,1,1,1]] ⟨aH pY (uF c m i),tO l g i,2⟩=
  some (leaf ret [aq 7 i fun i=>agg [agg [rat (cw l (i+0)).fst af,rat (cw l (i+0)).snd af],int i64 (↑(g (i+0)):Int)],int i64 0]):=ah
theorem ET {c:PP} (hc:cW c):∀e j x y,j+e=dY->1<=e->j7 j x y->kD (aS c) (aQ c) e x y
 |0,_,_,_,_,h,_=>absurd h (by decide)
 |e+1,j,x,y,hj,he1,h=>by
  have hD:=nC
  have hW:=cP
  have hlk:=Cr hc (e+1) j x y hj he1 h
  have hlen:=kr.len hc (e+1) h.lt hlk
  have hle:=OJ hc.jm x y
  have sz:∀{z},ct ((2^j:Nat):Int) j z->Sz z af:=fun hz=>(hz.sz (by have:=Nat.pow_pos (n:=j) (show 0<2 by decide);omega) (e:=j) (by rw[Int.natAbs_natCast];exact Nat.le_refl _)).more aa
  obtain⟨k1,k2,k3⟩:=hlk
  refine⟨h.lt,k1,k2,sz h.nx,sz h.ny,by rw[nE];exact hlen,aa,fun h0 h1=>?_⟩
  obtain⟨a,b⟩:=h.IE
  rcases Nat.eq_zero_or_pos e with he|he
  ·rw[nE]at h0 h1
   rcases h.J0 hc aa with h2|h2
   ·exact absurd h2 h0
   ·exact absurd h2 h1
  ·exact⟨ET hc e (j+1) _ _ aa he a,ET hc e (j+1) _ _ aa he b⟩
theorem Eo:bp P yO 63:=aih
theorem VV:bY P D9:=gM (aM sY (aM Eo (aM zB (aM IS (aM IN iE)))))
theorem pD {q:Rat}:bK q=0↔q=0:=by
 rcases wh q with h|h|h<;>unfold bK at h ⊢<;>grind
theorem YM {c:PP} {x y:Rat} {j:Nat} (h:¬(1<(dQ c j).1/\iS (dQ c j) x y=true)) (f:Nat):k9 c x y f j=j:=by
 cases f with
 |zero=>rfl
 |succ f=>
  unfold k9
  by_cases h1:1<(dQ c j).1
  ·rw[if_pos h1,if_neg fun h2=>h ⟨h1,h2⟩]
  ·rw[if_neg h1]
theorem afC {c:PP} {x y:Rat} (h:xo c x y) (K:Nat):aW P 78 K [aD c,dH x y af] [] (aO (.int .i64 (k9 c x y c.1 0:Nat)) []):=by
 have hW:=cP
 obtain⟨h30,hxy,hall⟩:=h
 refine jA (r:=aO (.int .i64 (k9 c x y c.1 0:Nat)) []) hT VV hm aa8 rfl bh rfl [1,1,0] (i:=0) (y:=part yM [1,1,0,0,0]) (z:=part yM [1,1,1]) ah ah ah (f1:=[]) (f2:=[8,13,19,27]) (f3:=[]) 60 [0,3,5] 1
  (fun j:Nat=>Gp c j) (fun _=>IK x y) (fun j=>(dQ c j).1+j<=c.1/\k9 c x y (c.1-j) j=k9 c x y c.1 0) (fun j=>j=k9 c x y c.1 0) (fun j=>c.1-j) (fun _=>⟨⟨_,ah2,?_⟩,fun j ⟨j1,j2⟩=>⟨_,Xk,?_⟩,fun j hj=>⟨_,Uo,?_⟩⟩) K []
 ·simp only[ag.all,aC]
  exact⟨0,⟨aX,rfl⟩,[(0,0)],rfl,rfl,rfl,dD trivial⟩
 ·have hrd:∀i,i<aS (dQ c j)->bf (aD (aQ (dQ c j) i)) (aD (br (aD (aQ (dQ c j) i)))):=fun i _=>.refl _
  have ex:∀{e:Prop},¬(1<(dQ c j).1/\iS (dQ c j) x y=true)->j=k9 c x y c.1 0:=fun hn=>by rw[<-j2,YM hn]
  simp only[ag.all,aC,bI,bR,bne_iff_ne,ne_eq,bne_eq_false_iff_eq,beq_iff_eq,beq_eq_false_iff_ne]
  refine⟨fun hl=>?_,fun hl=>⟨rfl,j,ex (e:=True) (fun hh=>hl (by have:=hh.1;omega)),[(0,0)],rfl,rfl,rfl,dD trivial⟩⟩
  have hl1:1<(dQ c j).1:=aa
  obtain⟨t1,t2,t3,t4,t5,t6,t7,t8,t9⟩:=hall j hl1
  have hgl:=Kv t1 hl1
  have nx:iS (dQ c j) x y=true->(dQ c (j+1)).1+(j+1)<=c.1/\k9 c x y (c.1-(j+1)) (j+1)=k9 c x y c.1 0:=fun hh=>by
   refine⟨by have:(dQ c (j+1)).1<(dQ c j).1:=hgl;omega,?_⟩
   rw[<-j2,show c.1-j=(c.1-(j+1))+1 by omega]
   conv=>rhs;unfold k9
   rw[if_pos hl1,if_pos hh]
  have dl:(bz (dQ c j)).1<=(dQ c j).1-1:=CG
  have tl:∀{P1:Prop},iS (dQ c j) x y=true->-(2:Int)^63<=(j:Int)+1/\(j:Int)+1<(2:Int)^63:=fun _=>aa
  refine⟨⟨aa,aa,aa,aa⟩,fun he=>?_,fun he=>?_⟩
  ·have hh:iS (dQ c j) x y=decide (b9 (dQ c j) x=0):=if_pos he
   refine⟨⟨aa,cK (a:=dQ c j),aa,aa,t3,aa⟩,fun hv=>⟨rfl,j,ex (e:=True) (fun h2=>hv (pD.2 (of_decide_eq_true (hh▸h2.2)))),[(0,0)],rfl,rfl,rfl,dD trivial⟩,fun hv=>?_⟩
   have hh2:iS (dQ c j) x y=true:=by rw[hh];exact decide_eq_true (pD.1 hv)
   exact⟨aa,⟨cK (a:=dQ c j),aa,t8,cK (a:=dQ c j),cK (a:=bz (dQ c j)),t2,by show(bz (dQ c j)).1<_;omega,t1,eC,t9⟩,j+1,nx hh2,by dsimp only;omega,[(0,0)],rfl,by rw[show(j:Int)+1=((j+1:Nat):Int) by omega];rfl,rfl,dD trivial⟩
  ·have hh:iS (dQ c j) x y=decide (dn (aS (dQ c j)) (aQ (dQ c j)) x y≠0):=if_neg he
   have hlt:x<y:=by grind
   refine⟨⟨cK (a:=dQ c j),t4,aa,aa,hrd,aa,aa,Nat.succ_pos _,t5,hlt,t6,t7⟩,fun hv=>⟨rfl,j,ex (e:=True) (fun h2=>(of_decide_eq_true (hh▸h2.2):dn _ _ x y≠0) hv),[(0,0)],rfl,rfl,rfl,dD trivial⟩,fun hv=>?_⟩
   have hh2:iS (dQ c j) x y=true:=by rw[hh];exact decide_eq_true hv
   exact⟨aa,⟨cK (a:=dQ c j),aa,t8,cK (a:=dQ c j),cK (a:=bz (dQ c j)),t2,by show(bz (dQ c j)).1<_;omega,t1,eC,t9⟩,j+1,nx hh2,by dsimp only;omega,[(0,0)],rfl,by rw[show(j:Int)+1=((j+1:Nat):Int) by omega];rfl,rfl,dD trivial⟩
 ·subst hj
  simp only[ag.all,aC]
  exact .refl _
theorem ajt:bp P RV 78:=dy fun⟨_,⟨_,_⟩,_⟩ K hn=>afC hn K
theorem OH (b:Bool) (d:Nat):bY P (tT b d):=gM (aM Oz (aM Eo (aM (Q0 (KR d) b b) (aM sY (aM ajt (aM Nr iE))))))
def fX (d:Nat) (p:PP):List (Rat×Rat):=if(ak p).1=0 then []else(if b9 (ak p) 0=0 then [(0,0)]else [])++bM (aS (ak p)) (aQ (ak p)) d 0 ((1:Int):Rat)++(if b9 (ak p) ((1:Int):Rat)=0 then [(((1:Int):Rat),((1:Int):Rat))]else [])
def yo (d:Nat) (p:PP) (i:Nat):Nat:=k9 (ak p) (cw (fX d p) i).1 (cw (fX d p) i).2 (ak p).1 0
abbrev wZ (d:Nat) (p:PP):AV:=.tuple [.aq 7 (fX d p).length (oF (fX d p) (yo d p)),.int .i64 (if(ak p).1=0 then 3 else 0)]
def AZ (d:Nat) (p:PP):Prop:=jx p/\((ak p).1≠0->jJ (ak p)/\aS (ak p)<2^30/\kD (aS (ak p)) (aQ (ak p)) d 0 ((1:Int):Rat)/\fF (ak p) 0/\fF (ak p) ((1:Int):Rat)/\(ak p).1<2^30/\(fX d p).length<2^30/\∀i,i<(fX d p).length->xo (ak p) (cw (fX d p) i).1 (cw (fX d p) i).2)
theorem vu {rl:List (Nat×Nat)} {v:AV} {l:List (Rat×Rat)} {i:Nat} (h:v=cG l i):oy rl v (cG l i):=by subst h;exact bT rfl rfl
theorem uZ {c:PP} {l:List (Rat×Rat)} {g:Nat->Nat} {k m:Nat} {f:Nat->AV} (hk:jy 2 [(0,k)]=true) (hm:m=l.length) (hf:∀i,i<l.length->oy [(0,k)] (f i) (cG l i)):
  en [] ([nil,int i64 0,aD c,own k 6 0 m,nil,int i64 0],[(k,aA.mk true true 6 m f)]) (uF c l.length 0) (tO l g 0) 2:=by
 subst hm
 exact⟨[(0,k)],by rw[hk];rfl,rfl,rfl,l6 rfl aa aa (bF rfl (by simp[look]) rfl hf trivial)⟩
theorem CD {rl:List (Nat×Nat)}:oy rl m9 (dH 0 0 af):=.inr ⟨rfl,oe ⟨dG rfl (by decide),dG rfl (by decide),trivial⟩⟩
theorem RG {z:Rat×Rat} {L:List (Rat×Rat)} {i:Nat}:cw ([z]++L) i=if i<1 then z else cw L (i-1):=by
 rw[u7]
 cases i with
 |zero=>rfl
 |succ i=>rfl
theorem So {d:Nat} {p:PP} (h:AZ d p) (K:Nat):aW P 19 K [aD p] [] (aO (wZ d p) []):=by
 have hW:=cP
 have hX:=vT
 obtain⟨hof,hall⟩:=h
 have hz1:Sz ((1:Int):Rat) af:=(AG (y:=0) (by decide) (by decide)).more aa
 have hN:rU<=af:=by rw[hW];decide
 have hN2:rU<=eV:=aa
 obtain⟨L,hL⟩:∃L,L=bM (aS (ak p)) (aQ (ak p)) d 0 ((1:Int):Rat):=⟨_,rfl⟩
 have hrd:∀i,i<aS (ak p)->bf (aD (aQ (ak p) i)) (aD (br (aD (aQ (ak p) i)))):=fun i _=>.refl _
 have eL:(ak p).1≠0->fX d p=(if b9 (ak p) 0=0 then [(0,0)]else [])++L++(if b9 (ak p) ((1:Int):Rat)=0 then [(((1:Int):Rat),((1:Int):Rat))]else []):=fun h0=>by rw[hL];exact if_neg h0
 by_cases hE:L=[]
 ·refine jA (r:=aO (wZ d p) []) hT (OH false d) hm QK rfl bh rfl [1,1,1,1,1,1,1,1,1,0,1] (i:=0) (y:=part oY [1,1,1,1,1,1,1,1,1,0,1,0,0]) (z:=part oY [1,1,1,1,1,1,1,1,1,1]) ah ah ah (f1:=[14,26,35]) (f2:=[44]) (f3:=[]) 60 pY 2
   (fun i:Nat=>uF (ak p) (fX d p).length i) (fun i=>tO (fX d p) (yo d p) i) (fun i=>(ak p).1≠0/\i<=(fX d p).length) (fun i=>(ak p).1≠0/\i=(fX d p).length) (fun i=>(fX d p).length-i) (fun _=>⟨⟨_,acn hL,?_⟩,fun i ⟨i1,i2⟩=>⟨_,Sv,?_⟩,fun i ⟨i1,i2⟩=>⟨_,ZN,?_⟩⟩) K []
  ·unfold CM qB
   simp only[ag.all,aC,beq_iff_eq,beq_eq_false_iff_ne,ne_eq,pD]
   refine⟨⟨cK,hof⟩,fun h0=>?_,fun h0=>?_⟩
   ·have h0:(ak p).1=0:=aa
    refine⟨[nil,int i64 3],ah,?_⟩
    have e:fX d p=[]:=if_pos h0
    have er:wZ d p=.tuple [.aq 7 0 (oF [] (yo d p)),.int .i64 3]:=by
     show AV.tuple _=_
     rw[e,if_pos h0];rfl
    rw[er]
    exact⟨mT (by decide),.refl _,trivial⟩
   ·have h0:(ak p).1≠0:=aa
    obtain⟨k1,k2,k3,k4,k5,k6,k7,k8⟩:=hall h0
    have e:=eL h0
    rw[hE]at e
    refine⟨⟨cK,k1⟩,⟨aa,aa,aa⟩,⟨aa,hrd,aa,hN2,Nat.succ_pos _,k2,k3,hE⟩,⟨cK,aa,aa,k4,aa⟩,fun z0=>?_,fun z0=>?_⟩
    ·refine⟨⟨aa,aa⟩,⟨aa,cK,hN,aa,k5,aa⟩,fun z1=>?_,fun z1=>?_⟩
     ·rw[if_pos z0,if_pos z1]at e
      refine⟨⟨aa,hN2,hz1,aa,aa⟩,0,⟨h0,Nat.zero_le _⟩,uZ rfl (by rw[e];rfl) fun i hi=>?_⟩
      rw[e]at hi ⊢
      have hi:i<2:=hi
      rcases(show i=0\/i=1 by omega)with rfl|rfl
      ·exact CD
      ·exact vu rfl
     ·rw[if_pos z0,if_neg z1]at e
      refine⟨0,⟨h0,Nat.zero_le _⟩,uZ rfl (by rw[e];rfl) fun i hi=>?_⟩
      rw[e]at hi ⊢
      have hi:i<1:=hi
      obtain rfl:i=0:=aa
      exact CD
    ·refine⟨⟨aa,cK,hN,aa,k5,aa⟩,fun z1=>?_,fun z1=>?_⟩
     ·rw[if_neg z0,if_pos z1]at e
      refine⟨⟨aa,hN2,hz1,aa,aa,aa⟩,0,⟨h0,Nat.zero_le _⟩,uZ rfl (by rw[e];rfl) fun i hi=>?_⟩
      rw[e]at hi ⊢
      have hi:i<1:=hi
      obtain rfl:i=0:=aa
      exact vu rfl
     ·rw[if_neg z0,if_neg z1]at e
      refine⟨0,⟨h0,Nat.zero_le _⟩,?_⟩
      rw[e]
      exact⟨[],rfl,rfl,rfl,l6 rfl aa aa (l6 rfl aa aa trivial)⟩
  ·obtain⟨k1,k2,k3,k4,k5,k6,k7,k8⟩:=hall i1
   simp only[ag.all,aC,bI,bR,bS,Nat.add_zero]
   refine⟨fun hl=>⟨⟨⟨aa,aa⟩,aa,⟨aa,aa⟩,aa,cK,.refl _,.refl _,k8 i aa,aa,aa⟩,aa,i+1,⟨i1,aa⟩,by dsimp only;omega,[(0,0),(1,69634)],rfl,by rw[show(i:Int)+1=((i+1:Nat):Int) by omega];rfl,rfl,bF rfl rfl rfl (fun k hk=>?_) (bF rfl rfl rfl (fun k hk=>bT rfl rfl) trivial)⟩,fun hl=>⟨rfl,i,⟨i1,aa⟩,[(0,0),(1,1)],rfl,rfl,rfl,bF rfl rfl rfl (fun k hk=>bT rfl rfl) (bF rfl rfl rfl (fun k hk=>bT rfl rfl) trivial)⟩⟩
   by_cases hki:k<i
   ·rw[if_pos hki];exact bT rfl rfl
   ·obtain rfl:k=i:=aa
    rw[if_neg hki,Nat.sub_self];exact bT rfl rfl
  ·subst i2
   simp only[ag.all,aC]
   exact⟨.refl _,by show bf _ (.int .i64 (if _ then _ else _));rw[if_neg i1];exact .refl _,trivial⟩
 ·refine jA (r:=aO (wZ d p) []) hT (OH true d) hm QK rfl bh rfl [1,1,1,1,1,1,1,1,1,0,1] (i:=0) (y:=part oY [1,1,1,1,1,1,1,1,1,0,1,0,0]) (z:=part oY [1,1,1,1,1,1,1,1,1,1]) ah ah ah (f1:=[14,26,35]) (f2:=[44]) (f3:=[]) 60 pY 2
   (fun i:Nat=>uF (ak p) (fX d p).length i) (fun i=>tO (fX d p) (yo d p) i) (fun i=>(ak p).1≠0/\i<=(fX d p).length) (fun i=>(ak p).1≠0/\i=(fX d p).length) (fun i=>(fX d p).length-i) (fun _=>⟨⟨_,U2 hL,?_⟩,fun i ⟨i1,i2⟩=>⟨_,Wf,?_⟩,fun i ⟨i1,i2⟩=>⟨_,Vx,?_⟩⟩) K []
  ·unfold CM qB
   simp only[ag.all,aC,beq_iff_eq,beq_eq_false_iff_ne,ne_eq,pD]
   refine⟨⟨cK,hof⟩,fun h0=>?_,fun h0=>?_⟩
   ·have h0:(ak p).1=0:=aa
    refine⟨[nil,int i64 3],ah,?_⟩
    have e:fX d p=[]:=if_pos h0
    have er:wZ d p=.tuple [.aq 7 0 (oF [] (yo d p)),.int .i64 3]:=by
     show AV.tuple _=_
     rw[e,if_pos h0];rfl
    rw[er]
    exact⟨mT (by decide),.refl _,trivial⟩
   ·have h0:(ak p).1≠0:=aa
    obtain⟨k1,k2,k3,k4,k5,k6,k7,k8⟩:=hall h0
    have e:=eL h0
    have e7:=k7
    rw[e,List.length_append,List.length_append]at e7
    have lL:L.length<2^30:=aa
    refine⟨⟨cK,k1⟩,⟨aa,aa,aa⟩,⟨aa,hrd,aa,hN2,Nat.succ_pos _,k2,k3,hE⟩,⟨cK,aa,aa,k4,aa⟩,fun z0=>?_,fun z0=>?_⟩
    ·refine⟨⟨aa,aa⟩,⟨aa,cK,hN,aa,k5,aa⟩,fun z1=>?_,fun z1=>?_⟩
     ·rw[if_pos z0,if_pos z1]at e
      refine⟨⟨aa,hN2,hz1,aa,aa⟩,0,⟨h0,Nat.zero_le _⟩,uZ rfl (by rw[e];simp;omega) fun i hi=>?_⟩
      rw[e]at hi ⊢
      have hi:i<1+L.length+1:=by simp at hi;omega
      have hlen:([((0:Rat),(0:Rat))]++L).length=1+L.length:=by simp;omega
      unfold cG
      rw[u7,hlen]
      by_cases hi1:i<1+L.length
      ·rw[if_pos hi1,if_pos hi1,RG]
       by_cases hi2:i<1
       ·rw[if_pos hi2,if_pos hi2]
        obtain rfl:i=0:=aa
        exact CD
       ·rw[if_neg hi2,if_neg hi2];exact vu rfl
      ·rw[if_neg hi1,if_neg hi1,show i-(1+L.length)=0 by omega]
       exact bT rfl rfl
     ·rw[if_pos z0,if_neg z1,List.append_nil]at e
      refine⟨0,⟨h0,Nat.zero_le _⟩,uZ rfl (by rw[e];simp;omega) fun i hi=>?_⟩
      rw[e]at hi ⊢
      unfold cG
      rw[RG]
      by_cases hi2:i<1
      ·rw[if_pos hi2,if_pos hi2]
       obtain rfl:i=0:=aa
       exact CD
      ·rw[if_neg hi2,if_neg hi2];exact vu rfl
    ·refine⟨⟨aa,cK,hN,aa,k5,aa⟩,fun z1=>?_,fun z1=>?_⟩
     ·rw[if_neg z0,if_pos z1,List.nil_append]at e
      refine⟨⟨aa,hN2,hz1,aa,aa⟩,0,⟨h0,Nat.zero_le _⟩,uZ rfl (by rw[e];simp) fun i hi=>?_⟩
      rw[e]at hi ⊢
      have hi:i<L.length+1:=by simpa using hi
      unfold cG
      rw[u7]
      by_cases hi1:i<L.length
      ·rw[if_pos hi1,if_pos hi1];exact vu rfl
      ·rw[if_neg hi1,if_neg hi1,show i-L.length=0 by omega];exact bT rfl rfl
     ·rw[if_neg z0,if_neg z1,List.nil_append,List.append_nil]at e
      refine⟨0,⟨h0,Nat.zero_le _⟩,uZ rfl (by rw[e]) fun i hi=>?_⟩
      rw[e];exact vu rfl
  ·obtain⟨k1,k2,k3,k4,k5,k6,k7,k8⟩:=hall i1
   simp only[ag.all,aC,bI,bR,bS,Nat.add_zero]
   refine⟨fun hl=>⟨⟨⟨aa,aa⟩,aa,⟨aa,aa⟩,aa,cK,.refl _,.refl _,k8 i aa,aa,aa⟩,aa,i+1,⟨i1,aa⟩,by dsimp only;omega,[(0,0),(1,69634)],rfl,by rw[show(i:Int)+1=((i+1:Nat):Int) by omega];rfl,rfl,bF rfl rfl rfl (fun k hk=>?_) (bF rfl rfl rfl (fun k hk=>bT rfl rfl) trivial)⟩,fun hl=>⟨rfl,i,⟨i1,aa⟩,[(0,0),(1,1)],rfl,rfl,rfl,bF rfl rfl rfl (fun k hk=>bT rfl rfl) (bF rfl rfl rfl (fun k hk=>bT rfl rfl) trivial)⟩⟩
   by_cases hki:k<i
   ·rw[if_pos hki];exact bT rfl rfl
   ·obtain rfl:k=i:=aa
    rw[if_neg hki,Nat.sub_self];exact bT rfl rfl
  ·subst i2
   simp only[ag.all,aC]
   exact⟨.refl _,by show bf _ (.int .i64 (if _ then _ else _));rw[if_neg i1];exact .refl _,trivial⟩
def KX (d:Nat):Spec:=ef (kC (kL af) kN) (fun a=>wZ d a.1) fun a=>[AZ d a.1]
theorem aks (d:Nat):bp P (KX d) 19:=dy fun⟨_,_⟩ K hn=>So hn K
abbrev uT (a:(Rat×Rat)×Int):AV:=.agg [dH a.1.1 a.1.2 af,.int .i64 a.2]
theorem KZ {c:PP} (h:cW c):∀j,cW (dQ c j)
 |0=>h
 |j+1=>(KZ h j).gcd
theorem Dy.sz {z:Rat} (hz:Dy z):Sz z af:=by
 obtain⟨j,h1,h2⟩:=hz
 have hD:=nC
 have hW:=cP
 exact(h2.sz (by have:=Nat.pow_pos (n:=j) (show 0<2 by decide);omega) (e:=j) (by rw[Int.natAbs_natCast];exact Nat.le_refl _)).more aa
theorem Fq {a:PP} {s τ:Nat} {T:Int} {t:Rat} (h:Bd a s) (ht:ct T τ t) (hT:T.natAbs<=2^τ) (hT0:T≠0) (hl:a.1<=13) (hs:2*(s+13*(τ+1))+2<=af):fF a t:=by
 obtain⟨D,d1,d2,d3⟩:=h
 intro m hm
 have h1:=EZ d3 ht hT m hm
 have h2:=nU d2 (A2 hT m)
 have h3:m*(τ+1)<=13*(τ+1):=Nat.mul_le_mul_right _ aa
 have h4:m*τ<=13*(τ+1):=Nat.mul_le_mul aa aa
 exact((h1.more (show s+m*(τ+1)<=s+13*(τ+1) by omega)).sz (Int.mul_ne_zero d1 (Int.pow_ne_zero hT0)) (Nat.le_trans h2 (Nat.pow_le_pow_right (by decide) (show s+m*τ<=s+13*(τ+1) by omega)))).more aa
theorem Dy.va {c:PP} (h:cW c) {z:Rat} (hz:Dy z):fF c z:=by
 obtain⟨j,h1,h2⟩:=hz
 have hD:=nC
 have hW:=cP
 exact Fq h.bd h2 (by rw[Int.natAbs_natCast];exact Nat.le_refl _) (by have:=Nat.pow_pos (n:=j) (show 0<2 by decide);omega) h.len aa
theorem aiC {c:PP} (h:cW c):cU (c.1-1) (cV c.2)/\qw c (bz c):=⟨(Dc h).2.2.2.2.1,((Dc h).2.2.2.2.2 (by have:=h.p0;omega)).1⟩
theorem afc {c:PP} (h:cW c) {x y:Rat} (hx:Dy x) (hy:Dy y) (hxy:x<=y):xo c x y:=by
 refine⟨by have:=h.len;omega,hxy,fun j _=>?_⟩
 have hj:=KZ h j
 have hs:=yq hj
 exact⟨hj.tr,by have:=hj.len;omega,hx.va hj,(vE hj).2,aa,hx.ch hj,hy.ch hj,aiC hj⟩
theorem wD {c:PP} (h:cW c) {x:Rat}:b9 (aQ c 0) x=0↔b9 c x=0:=by
 rw[show b9 (aQ c 0) x=aE (bg c) x from nv,show b9 c x=aE c x from nv]
 constructor
 ·intro h0
  obtain⟨G,e,_,_,h1,_⟩:=oH h.tr h.p0
  rw[h1,h0,Rat.mul_zero]
 ·exact OD h.tr h.p0
theorem ZE {c:PP} (h:cW c) {x y:Rat}:lI (aS c) (aQ c) x y=iS c x y:=by
 unfold lI iS
 split
 ·exact decide_eq_decide.2 (wD h)
 ·rw[nE]
  have:=h.jm.qg x y
  exact decide_eq_decide.2 ⟨fun h=>aa,fun h=>aa⟩
theorem RA {c:PP} (hc:cW c) {x y:Rat} (h:iS c x y=true):1<c.1:=by
 refine Decidable.byContradiction fun hn=>?_
 have h1:c.1=1:=by have:=hc.p0;omega
 have hev:∀t,aE c t=c.2 0:=fun t=>by
  show ev c.1 c.2 t=_
  rw[h1]
  show 0+c.2 0*t^0=_
  rw[Rat.pow_zero];grind
 have hne:c.2 0≠0:=by
  rcases hc.tr with h2|h2
  ·omega
  ·rw[h1]at h2;exact h2
 have hf:∀t,aE (bg c) t≠0:=fun t h0=>by
  obtain⟨G,e,_,_,h2,_⟩:=oH hc.tr hc.p0
  have:=h2 t
  rw[hev,h0,Rat.mul_zero]at this
  exact hne this
 unfold iS at h
 split at h
 ·have h:=of_decide_eq_true h
  rw[nv,show ev c.1 c.2 x=aE c x from rfl,hev]at h
  exact hne h
 ·have h:=of_decide_eq_true h
  rw[nE]at h
  apply h
  have hk:dw c=0:=by
   have hl:=(bg c).1
   have:=(lS (s:=eG c) nH.1 nH.2).1
   have h2:(eG c).2.1<=(bg c).1-1:=fK
   obtain⟨G,e,_,_,h3,_⟩:=oH hc.tr hc.p0
   have h4:=Dv.len (h:=bg c) (g:=c) ⟨G,fun t=>by rw[h3,Rat.mul_comm]⟩ hc.p0 hc.tr iI
   have h5:dw c=eo (eG c):=rfl
   omega
  unfold bt
  split
  ·rfl
  ·rw[if_neg (hf y)]
   unfold oz
   rw[hk]
   unfold vr
   rw[mu,mu]
   simp[cq]
theorem Ai {c:PP} (hc:cW c):∀e {x y:Rat},x<y->∀s,s∈bM (aS c) (aQ c) e x y->s.1<=s.2/\iS c s.1 s.2=true/\x<=s.1/\s.2<=y
 |0,_,_,_=>fun s hs=>by cases hs
 |e+1,x,y,hxy=>fun s hs=>by
  unfold bM at hs
  obtain⟨m1,m2,_⟩:=uP hxy
  have pt:b9 (aQ c 0) (aU x y)=0->iS c (aU x y) (aU x y)=true:=fun h=>by
   unfold iS;rw[if_pos rfl];exact decide_eq_true ((wD hc).1 h)
  split at hs
  ·cases hs
  ·split at hs
   ·rename_i h1
    rw[List.mem_singleton,show fk x y=x from if_neg (by grind),show fl x y=y from if_pos hxy]at hs
    subst hs
    refine⟨Rat.le_of_lt hxy,?_,Rat.le_refl,Rat.le_refl⟩
    unfold iS
    rw[if_neg (by grind),h1];rfl
   ·rcases List.mem_append.1 hs with hs|hs
    ·obtain⟨a,b,c1,d⟩:=Ai hc e m1 s hs
     exact⟨a,b,c1,by grind⟩
    ·split at hs
     ·rename_i h2
      rcases List.mem_cons.1 hs with hs|hs
      ·subst hs
       exact⟨Rat.le_refl,pt h2,by grind,by grind⟩
      ·obtain⟨a,b,c1,d⟩:=Ai hc e m2 s hs
       exact⟨a,b,by grind,d⟩
     ·obtain⟨a,b,c1,d⟩:=Ai hc e m2 s hs
      exact⟨a,b,by grind,d⟩
theorem abd {c:PP} (hc:cW c) {s:Rat×Rat} (hs:s∈mq dY (aS c) (aQ c)):s.1<=s.2/\iS c s.1 s.2=true:=by
 have pt:∀z,b9 (aQ c 0) z=0->iS c z z=true:=fun z h=>by unfold iS;rw[if_pos rfl];exact decide_eq_true ((wD hc).1 h)
 unfold mq at hs
 rcases List.mem_append.1 hs with hs|hs
 ·rcases List.mem_append.1 hs with hs|hs
  ·split at hs
   ·rename_i h;rw[List.mem_singleton]at hs;subst hs;exact⟨Rat.le_refl,pt _ h⟩
   ·cases hs
  ·have:=Ai hc dY (show(0:Rat)<1 by decide) s hs
   exact⟨this.1,this.2.1⟩
 ·split at hs
  ·rename_i h;rw[List.mem_singleton]at hs;subst hs;exact⟨Rat.le_refl,pt _ h⟩
  ·cases hs
theorem Jn {p:PP} (hg:(ak p).1≠0->cW (ak p)):fX dY p=ji dY p:=by
 have o1:((1:Int):Rat)=1:=rfl
 unfold fX ji mq
 by_cases h0:(ak p).1=0
 ·rw[if_pos h0,if_pos h0]
 ·have hc:=hg h0
  rw[if_neg h0,if_neg h0,o1]
  have e:∀z:Rat,(if b9 (ak p) z=0 then [(z,z)]else [])=if b9 (aQ (ak p) 0) z=0 then [(z,z)]else []:=fun z=>by
   by_cases h:b9 (ak p) z=0
   ·rw[if_pos h,if_pos ((wD hc).2 h)]
   ·rw[if_neg h,if_neg fun h2=>h ((wD hc).1 h2)]
  rw[e,e]
theorem aki {p:PP} (hof:jx p) (hg:(ak p).1≠0->cW (ak p)):AZ dY p:=by
 refine⟨hof,fun h0=>?_⟩
 have hc:=hg h0
 have hs:=yq hc
 have o1:((1:Int):Rat)=1:=rfl
 have e:fX dY p=mq dY (aS (ak p)) (aQ (ak p)):=by rw[Jn hg];exact if_neg h0
 rw[e,o1]
 have hl:=QS hc
 refine⟨(vE hc).2,aa,ET hc dY 0 0 1 (Nat.zero_add _) (by have:=nC;omega) j7.zero,FU.va hc,Jh.va hc,by have:=hc.len;omega,aa,fun i hi=>?_⟩
 obtain⟨a,b⟩:=Ky (Fu hi)
 exact afc hc a b (abd hc (Fu hi)).1
end Go.Am.B
