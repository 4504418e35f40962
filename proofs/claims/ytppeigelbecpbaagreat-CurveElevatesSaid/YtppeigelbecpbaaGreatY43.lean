/- A piece of a drawn curve. -/
import Derived.Test.YtppeigelbecpbaaGreatY42
import Derived.Test.YtppeigelbecpbaaGreatY38
import Derived.Test.YtppeigelbecpbaaGreatZ2
import Derived.Test.YtppeigelbecpbaaGreatY39
import Derived.Test.YtppeigelbecpbaaGreatY37
set_option linter.unusedVariables false
noncomputable section
namespace Go.Am.B
open Go Go.Am.N AV ah au IntKind
def dN (h:Cu) (a b:Rat) (j e:Nat):Rat:=jX h.k h.p.toNat (fun i=>ff (h.f i) e) (bT h.n h.k a) (b9 (fun q=>if q<h.p.toNat-j then a else b) 0 h.p.toNat)
def o8 (h:Cu) (a b:Rat):Cu:=⟨h.p,h.p.toNat+1+(h.p.toNat+1),fun q=>if q<h.p.toNat+1 then a else b,h.p.toNat+1,fun j=>⟨⟨dN h a b j 0,dN h a b j 1,dN h a b j 2⟩,dN h a b j 3⟩⟩
theorem TA {c d:Cu} {P Q j:Nat} (h:eE c d) (hP:At c.n c.k P) (hQ:AM d.n c.p.toNat d.k (c.k P) (c.k (P+1)) Q) (hj:j<=c.p.toNat):cE (d.f (Q-c.p.toNat+j))=(o8 (b7 c) (c.k P) (c.k (P+1))).f j:=by
 obtain⟨k1,k2,k3,k4,k5⟩:=id h.kn
 have hp:=h.p
 rw[hp]at k1
 obtain⟨w1,w2⟩:=k1.mT hQ.at_
 obtain⟨P',p1,p2,p3⟩:=h.sub.HZ (j:=Q-c.p.toNat+j) k1 hQ.at_ aa aa
 have e:P'=P:=by rw[<-p2,hQ.lo];exact AZ hP
 have el:b9 d.k (Q-c.p.toNat+j+1) c.p.toNat=b9 (fun q=>if q<c.p.toNat-j then c.k P else c.k (P+1)) 0 c.p.toNat:=by
  have:=G3 (k:=d.k) (c:=Q-c.p.toNat+j+1) (l:=c.p.toNat) (a:=0)
  rw[Nat.add_zero]at this
  rw[<-this]
  exact yA fun q _ hq=>by
   by_cases c1:q<c.p.toNat-j
   ·rw[if_pos c1];exact hQ.left _ aa aa
   ·rw[if_neg c1];exact hQ.right _ aa aa
 have key:∀e,ff (cE (d.f (Q-c.p.toNat+j))) e=dN (b7 c) (c.k P) (c.k (P+1)) j e:=fun e'=>by
  have:=p3 e'
  rw[el,e]at this
  rw[<-this]
  show _=jX c.k c.p.toNat (fun i=>ff (cE (c.f i)) e') (bT c.n c.k (c.k P)) _
  rw[AZ hP]
 show cE (d.f (Q-c.p.toNat+j))=(⟨⟨dN (b7 c) (c.k P) (c.k (P+1)) j 0,dN (b7 c) (c.k P) (c.k (P+1)) j 1,dN (b7 c) (c.k P) (c.k (P+1)) j 2⟩,dN (b7 c) (c.k P) (c.k (P+1)) j 3⟩:Pl)
 rw[<-key 0,<-key 1,<-key 2,<-key 3];rfl
theorem eE.two {c d:Cu} {P:Nat} (h:eE c d) (hP:At c.n c.k P) (ha:∃q,q<d.n/\d.k q=c.k P) (hb:∃q,q<d.n/\d.k q=c.k (P+1)):∃Q,At d.n d.k Q/\d.k Q=c.k P/\d.k (Q+1)=c.k (P+1):=by
 obtain⟨k1,k2,k3,k4,k5⟩:=id h.kn
 obtain⟨qa,a1,a2⟩:=ha
 obtain⟨qb,b1,b2⟩:=hb
 have hw:=hP.wide
 have m1:=k1.mono (Nat.zero_le qa) a1
 have m2:=k1.mono (show qb<=d.n-1 by omega) aa
 obtain⟨g1,g2,g3⟩:=k1.En (t:=c.k P) (by grind) (by grind)
 generalize bT d.n d.k (c.k P)=Q at*
 have hlt:=g1.at_.lt
 have glo:=g1.lo
 have gw:=g1.at_.wide
 have hgt:c.k P<d.k (Q+1):=by
  rcases g1.Ld with e|e
  ·exact e
  ·rw[e];grind
 have e1:d.k Q=c.k P:=by
  by_cases c1:qa<=Q
  ·have:=k1.mono c1 aa
   grind
  ·have:=k1.mono (show Q+1<=qa by omega) a1
   grind
 refine⟨Q,g1.at_,e1,?_⟩
 obtain⟨r,r1,r2⟩:=h.kc (Q+1) hlt
 have c1:P+1<=r:=by
  by_cases c2:P+1<=r
  ·exact c2
  ·have:=gk hP.sorted (show r<=P by omega) (by have:=hP.lt;omega)
   grind
 have c2:=gk hP.sorted c1 r1
 have c3:Q+1<=qb:=by
  by_cases c4:Q+1<=qb
  ·exact c4
  ·have:=k1.mono (show qb<=Q by omega) aa
   grind
 have c4:=k1.mono c3 b1
 grind
theorem L6 {c d:Cu} {t:Rat} (hq:eE c d) (ht:∃r,r<c.n/\t=c.k r) (h0:d.k 0<t) (h1:t<d.k (d.n-1)) (h40:d.m+d.p.toNat<=40):∀{r:Nat},((bw d.k t d.n+r:Nat):Int)<=d.p->(ck d t r).k=fu d.k d.n t r/\∀y,t≠y->bw (ck d t r).k y (ck d t r).n=bw d.k y d.n
 |0,_=>⟨rfl,fun _ _=>rfl⟩
 |r+1,h=>by
  obtain⟨ih,ih2⟩:=L6 hq ht h0 h1 h40 (r:=r) aa
  obtain⟨⟨a1,a2,a3,a4,a5,a6,a7⟩,hr⟩:=uk hq ht h0 h1 h40 (r:=r) aa
  have hE:fR (ck d t r) t=0:=Cd (by rw[a6];exact h0) (by rw[a7];exact h1) (by rw[a5,a2];omega) (by rw[a4];omega)
  obtain⟨b1,b2,b3,b4⟩:=FL hE
  obtain⟨i1,i2,i3⟩:=nW hr.kn.1 b1 b2
  have e:ck d t (r+1)=nO (ck d t r) t (bT (ck d t r).n (ck d t r).k t):=if_pos hE
  refine⟨?_,fun y hy=>?_⟩
  ·rw[e]
   show dD (ck d t r).k t (bT (ck d t r).n (ck d t r).k t+1)=dD (fu d.k d.n t r) t (bT (d.n+r) (fu d.k d.n t r) t+1)
   rw[ih,a3]
  ·rw[e,<-ih2 y hy]
   show bw (dD (ck d t r).k t (bT (ck d t r).n (ck d t r).k t+1)) y ((ck d t r).n+1)=_
   generalize bT (ck d t r).n (ck d t r).k t=a at*
   have:=Qn (k:=(ck d t r).k) (q:=a+1) hy (m:=(ck d t r).n-(a+1))
   rw[show a+1+1+((ck d t r).n-(a+1))=(ck d t r).n+1 by omega,show a+1+((ck d t r).n-(a+1))=(ck d t r).n by omega]at this
   exact this
structure HX (c d e:Cu) (x:Rat) (R:Nat):Prop where
 q:eE c e
 n:e.n=d.n+R
 m:e.m=d.m+R
 r:R<=c.p.toNat
 k:e.k=fu d.k d.n x R
 j:wR c.p.toNat d.n d.k x R
 k0:e.k 0=d.k 0
 k1:e.k (e.n-1)=d.k (d.n-1)
 t:e.k 0=x\/e.k (e.n-1)=x\/bw e.k x e.n=c.p.toNat
 o:∀y,x≠y->bw e.k y e.n=bw d.k y d.n
 sd:∀i,gl (e.k i)
theorem eE.step {c d:Cu} {x:Rat} (hb:fX c) (h:eE c d) (hx:∃r,r<c.n/\x=c.k r) (h40:d.m+d.p.toNat<=40) (h0:d.k 0<=x) (h1:x<=d.k (d.n-1)) (sd:∀i,gl (d.k i)):∃R e,HX c d e x R:=by
 have hp:=h.p
 have hkn:=h.kn.1
 rw[hp]at hkn
 by_cases hi:d.k 0<x/\x<d.k (d.n-1)
 ·have hle:=hkn.Hv hi.1 hi.2
  obtain⟨R,hR⟩:∃R,R=c.p.toNat-bw d.k x d.n:=⟨_,rfl⟩
  have k2:=h.kn.2.1
  have hRp:((bw d.k x d.n+R:Nat):Int)<=d.p:=aa
  obtain⟨⟨a1,a2,a3,a4,a5,a6,a7⟩,hr⟩:=uk h hx hi.1 hi.2 h40 hRp
  obtain⟨b1,b2⟩:=L6 h hx hi.1 hi.2 h40 hRp
  have hxD:gl x:=by
   obtain⟨r,_,e⟩:=hx
   rw[e];exact hb.d.kd r
  have hK:∀r,r<=R->yN d.n c.p.toNat d.k x r:=fun r hr=>Rg hkn hi.1 hi.2 sd hxD aa
  exact⟨R,ck d x R,hr,a3,a4,aa,b1,.inl ⟨hi.1,hi.2,aa,hK⟩,a6,a7,.inr (.inr (by rw[a5];omega)),b2,fun i=>by rw[b1];exact(hK R aU).sd i⟩
 ·have hx2:x=d.k 0\/x=d.k (d.n-1):=by
   by_cases g:d.k 0<x
   ·right
    have:¬x<d.k (d.n-1):=fun g2=>hi ⟨g,g2⟩
    grind
   ·left;grind
  exact⟨0,d,h,rfl,rfl,Nat.zero_le _,rfl,.inr ⟨hx2,rfl⟩,rfl,rfl,hx2.elim (fun g=>.inl g.symm) fun g=>.inr (.inl g.symm),fun _ _=>rfl,sd⟩
theorem af5 {c:Cu} {P:Nat} (hb:fX c) (hP:At c.n c.k P) (h40:c.m+(c.p.toNat+c.p.toNat)<=40):∃R0 R1 E1 E,HX c c E1 (c.k P) R0/\HX c E1 E (c.k (P+1)) R1/\∃Q,AM E.n c.p.toNat E.k (c.k P) (c.k (P+1)) Q:=by
 have hkn:=hb.d.kn.1
 have hlt:=hP.lt
 have hw:=hP.wide
 have m0:=hkn.mono (Nat.zero_le P) aa
 have m1:=hkn.mono (show P+1<=c.n-1 by omega) aa
 obtain⟨R0,E1,s1⟩:=hb.self.step hb (x:=c.k P) ⟨P,aa,rfl⟩ aa m0 (by grind) hb.d.kd
 have q1:=s1.q.p
 obtain⟨R1,E,s2⟩:=s1.q.step hb (x:=c.k (P+1)) ⟨P+1,hlt,rfl⟩ (by rw[s1.m,q1];have:=s1.r;omega) (by rw[s1.k0];grind) (by rw[s1.k1];exact m1) s1.sd
 refine⟨R0,R1,E1,E,s1,s2,?_⟩
 have f0:E.k 0=c.k 0:=s2.k0.trans s1.k0
 have f1:E.k (E.n-1)=c.k (c.n-1):=s2.k1.trans s1.k1
 have hE:=s2.q.kn.1
 have q2:=s2.q.p
 rw[q2]at hE
 have hlE:=hE.len
 have hp:=hE.p1
 have ha:E.k 0=c.k P\/bw E.k (c.k P) E.n=c.p.toNat:=by
  rcases s1.t with g|g|g
  ·left;rw[s2.k0,g]
  ·rw[s1.k1]at g;exfalso;grind
  ·right;rw[s2.o _ (by grind),g]
 have hbb:E.k (E.n-1)=c.k (P+1)\/bw E.k (c.k (P+1)) E.n=c.p.toNat:=by
  rcases s2.t with g|g|g
  ·exfalso;grind
  ·exact .inl g
  ·exact .inr g
 obtain⟨Q,g1,g2,g3⟩:=s2.q.two hP (ha.elim (fun g=>⟨0,aa,g⟩) fun g=>FD aa) (hbb.elim (fun g=>⟨E.n-1,aa,g⟩) fun g=>FD aa)
 exact⟨Q,hE.Hs g1 g2 g3 ha hbb⟩
theorem ahb {c d:Cu} {j:Nat} (h:eE c d) (hb:fX c) (hj:j<d.m):qC (b7 c) d.n d.k j=cE (d.f j):=by
 obtain⟨k1,k2,k3,k4,k5⟩:=id hb.d.kn
 obtain⟨d1,d2,d3,d4,d5⟩:=id h.kn
 have hp:=h.p
 rw[hp]at d1
 have hl:=d1.len
 obtain⟨Q,hQ⟩:∃Q,Q=e9 d.k d.n j:=⟨_,rfl⟩
 obtain⟨g1,g2,g3⟩:j<=Q/\Q<j+(c.p.toNat+1)/\d.k Q<d.k (Q+1):=by
  rw[hQ]
  exact Lr (n:=d.n) (k:=d.k) (pc:=mP d.k d.n) (fun _=>rfl) (fun _ _=>rfl) (d1.KZ aa) aa aa
 have hA:At d.n d.k Q:=⟨aa,d1.sorted,g3⟩
 obtain⟨P,hP,hI,hE⟩:=h.sub.HZ d1 hA g1 aa
 have hI2:fj c.n c.k (d.k Q)=P:=by
  unfold fj
  rw[if_neg,hI]
  obtain⟨r,r1,r2⟩:=h.kc Q aa
  rw[r2]
  rintro(g|g)
  ·exact absurd (k1.mono (Nat.zero_le r) r1) (Rat.not_le.2 g)
  ·exact absurd (k1.mono (show r<=c.n-1 by omega) aa) (Rat.not_le.2 g)
 have key:∀e,gE (b7 c) (P:Nat) c.p.toNat (fun i=>d.k (i+(j+1))) e=ff (cE (d.f j)) e:=fun e=>(ajf (c:=b7 c) k1 k2 k5 hP).trans (hE e)
 show oc (b7 c) (fj c.n c.k (d.k (e9 d.k d.n j))) c.p.toNat (fun q=>d.k (q+(j+1)))=_
 rw[<-hQ,hI2]
 unfold oc
 rw[key 0,key 1,key 2,key 3]
 rfl
def ON:Spec:=cN (kC (rE 2000 4000) (kC (gx 2000) (kC (gx 2000) kN))) (fun a=>dj (o8 a.1 a.2.1 a.2.2.1) 2000 sB) fun a=>[∃c P,fX c/\a.1=b7 c/\At c.n c.k P/\a.2.1=c.k P/\a.2.2.1=c.k (P+1)/\c.m+(c.p.toNat+c.p.toNat)<=40]
theorem AJ {es n m:Nat} {f g:Nat->AV} (h:n=m) (hf:∀i,i<n->bG (f i) (g i)):bG (.aq es n f) (.aq es m g):=by
 subst h
 exact fq hf
theorem UA {c:Cu} {I:Nat} (hb:fX c) (hP:At c.n c.k I) (h40:c.m+(c.p.toNat+c.p.toNat)<=40) (K:Nat):aE P yL K [dj (b7 c) 2000 4000,.rat (c.k I) 2000,.rat (c.k (I+1)) 2000] [] (aK (dj (o8 (b7 c) (c.k I) (c.k (I+1))) 2000 sB) []):=by
 obtain⟨R0,R1,E1,E,s1,s2,Q,hQ⟩:=af5 hb hP h40
 obtain⟨k1,k2,k3,k4,k5⟩:=id hb.d.kn
 obtain⟨d1,d2,d3,d4,d5⟩:=id s2.q.kn
 have hp:=s2.q.p
 rw[hp]at d1
 obtain⟨w1,w2⟩:=d1.mT hQ.at_
 have hw:=hQ.at_.wide
 have n1:=s1.n
 have n2:=s2.n
 have r1:=s1.r
 have r2:=s2.r
 have hf:fQ (lK (c.k I) E.k) E.n=Q+1:=xF (by show decide _=true;exact decide_eq_true (by rw[<-hQ.lo];exact hw)) (fun j hj=>decide_eq_false (by
  have:=d1.mono (show j<=Q by omega) aa
  rw[hQ.lo]at this
  exact Rat.not_lt.2 this)) aa
 have hl:fQ (lD (c.k (I+1)) E.k) E.n=Q+1:=xF (by show decide _=true;exact decide_eq_true (by rw[hQ.hi];exact Rat.le_refl)) (fun j hj=>decide_eq_false (by
  have:=d1.mono (show j<=Q by omega) aa
  rw[<-hQ.hi]
  exact Rat.not_le.2 (by grind))) aa
 refine rQ (u:=dj (xe (kK (b7 c) E.n E.k) (c.k I) (c.k (I+1)) (Q+1) (Q+1)) sK sB) (l:=[]) (al6 (c:=b7 c) (a:=c.k I) (b:=c.k (I+1)) (f:=Q+1) (l:=Q+1) (ns:=fun j=>match j with
  |0=>c.n
  |1=>E1.n
  |_=>E.n) (rs:=fun j=>match j with
  |0=>R0
  |_=>R1) (ks:=fun j=>match j with
  |0=>c.k
  |1=>E1.k
  |_=>E.k) k1 k2 k3 (by show c.n<_;omega) (by show c.m<_;omega) rfl rfl (fun j hj=>?_) (fun j hj=>?_) (fun j hj=>?_) hf hl (by show c.p.toNat+1<=_;omega) aU (by show Q+1+c.p.toNat+1<=E.n;omega) K) (fun h=>trivial) rfl rfl ?_
 ·rcases(show j=0\/j=1\/j=2 by omega)with rfl|rfl|rfl
  ·exact⟨aU,show c.n<_ by omega⟩
  ·exact⟨show c.n<=E1.n by omega,show E1.n<_ by omega⟩
  ·exact⟨show c.n<=E.n by omega,show E.n<_ by omega⟩
 ·rcases(show j=0\/j=1 by omega)with rfl|rfl
  ·exact⟨n1,s1.k⟩
  ·exact⟨n2,s2.k⟩
 ·rcases(show j=0\/j=1 by omega)with rfl|rfl
  ·exact s1.j
  ·exact s2.j
 ·refine cC ⟨.refl _,AJ (by show c.p.toNat+1+(Q+1-(Q+1))+(c.p.toNat+1)=c.p.toNat+1+(c.p.toNat+1);omega) fun i hi=>?_,AJ (by show Q+1-(Q+1-1-c.p.toNat)=c.p.toNat+1;omega) fun i hi=>?_,trivial⟩
  ·have e:qJ c.p.toNat (c.k I) (c.k (I+1)) E.k (Q+1) (Q+1) i=if i<c.p.toNat+1 then c.k I else c.k (I+1):=by
    unfold qJ
    by_cases g:i<c.p.toNat+1
    ·rw[if_pos g,if_pos g]
    ·rw[if_neg g,if_neg aa,if_neg g]
   show bG (.rat (qJ c.p.toNat (c.k I) (c.k (I+1)) E.k (Q+1) (Q+1) i) sK) (.rat (if i<c.p.toNat+1 then c.k I else c.k (I+1)) 2000)
   rw[e]
   refine dA rfl (wD ?_)
   split
   ·exact oJ (hb.h _)
   ·exact oJ (hb.h _)
  ·have hi:i<Q+1-(Q+1-1-c.p.toNat):=hi
   show bG (bu (qC (b7 c) E.n E.k (Q+1-1-c.p.toNat+i)) sB) (bu ((o8 (b7 c) (c.k I) (c.k (I+1))).f i) sB)
   rw[Nat.add_sub_cancel,ahb s2.q hb aa,TA s2.q hP hQ aa]
   exact .refl _
theorem Zq:∀K args pre r,ON K args pre=some r->aE P yL K args pre r:=cy fun⟨c,a,b,_⟩ K hn=>by
 obtain⟨g,I,h1,h2,h3,h4,h5,h6⟩:=hn
 have h2:c=b7 g:=h2
 have h4:a=g.k I:=h4
 have h5:b=g.k (I+1):=h5
 rw[h2,h4,h5]
 exact UA h1 h3 h6 K
theorem X0:aT P B6 FC (aA FC):=aY Proofs.Tryz.func44 ag ag ag
def Di:Spec:=cN (kC (kL 2000) kN) (fun a=>bq (bH a.1.2 a.1.1) (bn a.1.2 a.1.1) 2000) fun a=>[a.1.1<2^40,∀i,i<bn a.1.2 a.1.1->Sz (bH a.1.2 a.1.1 i) 2000]
def Fo:bg:=nG::(wk,xK)::(pV,CK)::(vu,Di)::(yL,ON)::(qM,Ka)::[]
abbrev zH:Code:=aA FC
abbrev yH:List Nat:=[1,3,4,5,17,18,19]
abbrev JE (n:Nat) (F:Nat->Rat) (i:Nat):List AV:=[.ptr 0 0 3 0 [],.own 2 3 0 i,.ptr 1 0 3 0 [],bq F n 2000,bq (fun j=>F (j+1)) (n-1) 2000,.int .i64 ((n-1:Nat):Int),.int .i64 i]
def gJ (c:Cu) (F:Nat->Rat) (i:Nat):Cu:=nT (o8 (b7 c) (F i) (F (i+1)))
abbrev HV (c:Cu) (F:Nat->Rat) (i:Nat):aF:=[(2,⟨true,true,3,i,fun j=>aS (gJ c F j) 2000 sE⟩),(1,⟨false,true,3,1,fun _=>dj (b7 c) 2000 4000⟩),(0,⟨false,true,3,1,fun _=>aS c 2000 2000⟩)]
theorem aeE {c:Cu}:aH T Fo [200010] 60 yH (before zH [1,1,1,1,1,0,1]) ⟨aQ 0 [aS c 2000 2000],[],0⟩=
  let c7:Prop:=c.n<2^40;let c6:Nat:=Int.toNat (1:Int);let c5:Nat:=(aV (aS c 2000 2000)).size;let c4:Nat:=bn (fun i=>aR (rat (c.k i) 2000)) c.n;let c3:Prop:=0<1;let c2:Prop:=bP (fun i=>rat (c.k i) 2000) c.n 2000;let c1:Int:=(↑c4:Int);some (aj [c3,bP (fun i=>rat (c.k i) 2000) c.n sJ,fT (fun i=>bE (c.f i) 2000) c.m sJ,fe (Cu.mk c.p c.n (fun i=>aR (rat (c.k i) 2000)) c.m fun i=>gG (bE (c.f i) 2000))] (aj [(!true)=false] (aj [c3,c2,fT (fun i=>bE (c.f i) 2000) c.m 2000,c7,c.m<2^30,c3] (aj [c3,c2,c7,∀(i:Nat),i<c4->Sz (bH (fun i=>aR (rat (c.k i) 2000)) c.n i) 2000] (aj [(0:Int)<=(1:Int)/\(1:Int)<=c1/\c1<=c1/\c1<=c1] (leaf normal ([ptr 0 0 c5 0 [],nil,ptr 32768 0 3 0 [],aq 3 c4 fun i=>rat (bH (fun i=>aR (rat (c.k i) 2000)) c.n i) 2000,aq 3 (c1.toNat-c6) fun i=>rat (bH (fun i=>aR (rat (c.k i) 2000)) c.n (i+c6)) 2000,int i64 (↑(c1.toNat-c6):Int),int i64 0],[((32768:Nat),aJ fun j=>if(j==0)=true then aV (dj (Cu.mk c.p c.n (fun i=>aR (rat (c.k i) 2000)) c.m fun i=>cE (gG (bE (c.f i) 2000))) 2000 4000)else agg [int i64 0,nil,nil]),(0,ak.mk false true c5 1 fun x=>aS c 2000 2000)]))))))):=ag
theorem aax {c:Cu} {n i:Nat} {F:Nat->Rat}:aH T Fo [20] 60 yH [part zH [1,1,1,1,1,0,1,0,0]] ⟨aC yH (JE n F i),HV c F i,3⟩=
  let c16:Prop:=2000<=2000;let c15:AV:=int i64 c.p;let c14:Prop:=0<1;let c13:AV:=ptr 1 0 3 0 [];let c12:AV:=ptr 0 0 3 0 [];let c11:AV:=aq 3 n fun i=>rat (F i) 2000;let c10:AV:=aq 3 c.n fun i=>rat (c.k i) 2000;let c9:Int:=(↑i:Int);let c8:Int:=(↑(n-1):Int);let c7:AV:=aq 3 (n-1) fun i=>rat (F (i+1)) 2000;let c4:Nat:=c.p.toNat+1;let c1:Cu:=Cu.mk c.p c.n (fun i=>aR (rat (c.k i) 2000)) c.m fun i=>oC (bu (cE (c.f i)) 4000);let c17:Int:=c9+(1:Int);let c5:Nat:=c9.toNat;let c3:List (Nat×ak):=[((0:Nat),aJ fun x=>agg [c15,c10,aq 12 c.m fun i=>bE (c.f i) 2000])];let c2:Nat×ak:=((1:Nat),aJ fun x=>agg [c15,c10,aq 12 c.m fun i=>agg [rat ((c.f i).d*(c.f i).n.x) 4000,rat ((c.f i).d*(c.f i).n.y) 4000,rat ((c.f i).d*(c.f i).n.z) 4000,rat (c.f i).d 4000]]);let c6:Rat:=F (c5+1);some (fork (decide (c9<c8)) (aj [(0:Int)<=c9/\c5<n-1,c14] (aj [c14,(0:Int)<=c9/\c5<n,c14,bP (fun i=>rat (c.k i) 2000) c.n 2000,ki (fun i=>bu (cE (c.f i)) 4000) c.m 4000,c16,c16,∃c P,fX c/\c1=b7 c/\At c.n c.k P/\F c5=c.k P/\c6=c.k (P+1)/\c.m+(c.p.toNat+c.p.toNat)<=40,bP (fun i=>rat (if i<c4 then F c5 else c6) 2000) (c4+c4) sK,ki (fun i=>bu (Pl.mk (V3.mk (dN c1 (F c5) c6 i 0) (dN c1 (F c5) c6 i 1) (dN c1 (F c5) c6 i 2)) (dN c1 (F c5) c6 i 3)) sB) c4 sB,c4+c4<2^40,c4<2^29,(1:Nat)*3<=2^24,(i+1)*((56:Nat)+1)*2<=2^47] (aj [-(2:Int)^63<=c17/\c17<(2:Int)^63] (leaf normal ([c12,own 69635 3 0 (i+1),c13,c11,c7,int i64 c8,int i64 c17],c2::(69635,ak.mk true true 3 (i+1) fun i_1=>if i_1<i then aS (gJ c F i_1) 2000 sE else nth [agg [c15,aq 3 (c4+c4) fun i=>rat (aR (rat (if i<c4 then F c5 else c6) 2000)) (sK+10),aq 12 c4 fun i=>bE (eI (oC (bu (Pl.mk (V3.mk (dN c1 (F c5) c6 i 0) (dN c1 (F c5) c6 i 1) (dN c1 (F c5) c6 i 2)) (dN c1 (F c5) c6 i 3)) sB))) (sB+sB)]] (agg [int i64 0,nil,nil]) (i_1-i+0))::c3))))) (leaf (exit 0) ([c12,own 2 3 0 i,c13,c11,c7,int i64 c8,int i64 c9],c2::(2,ak.mk true true 3 i fun j=>agg [c15,aq 3 (c4+c4) fun i=>rat (if i<c4 then F j else F (j+1)) 2000,aq 12 c4 fun i=>agg [agg [rat (dN (b7 c) (F j) (F (j+1)) i 0/dN (b7 c) (F j) (F (j+1)) i 3) 4294967298,rat (dN (b7 c) (F j) (F (j+1)) i 1/dN (b7 c) (F j) (F (j+1)) i 3) 4294967298,rat (dN (b7 c) (F j) (F (j+1)) i 2/dN (b7 c) (F j) (F (j+1)) i 3) 4294967298],rat (dN (b7 c) (F j) (F (j+1)) i 3) 4294967298]])::c3))):=ag
theorem ahx {c:Cu} {n i:Nat} {F:Nat->Rat}:cw T Fo [] 60 FC [part zH [1,1,1,1,1,1]] ⟨aC yH (JE n F i),HV c F i,3⟩=
  let c1:Nat:=c.p.toNat+1;some (leaf ret [aq 3 i fun i=>agg [int i64 c.p,aq 3 (c1+c1) fun i_1=>rat (if i_1<c1 then F (i+0)else F (i+0+1)) 2000,aq 12 c1 fun i_1=>agg [agg [rat (dN (b7 c) (F (i+0)) (F (i+0+1)) i_1 0/dN (b7 c) (F (i+0)) (F (i+0+1)) i_1 3) 4294967298,rat (dN (b7 c) (F (i+0)) (F (i+0+1)) i_1 1/dN (b7 c) (F (i+0)) (F (i+0+1)) i_1 3) 4294967298,rat (dN (b7 c) (F (i+0)) (F (i+0+1)) i_1 2/dN (b7 c) (F (i+0)) (F (i+0+1)) i_1 3) 4294967298],rat (dN (b7 c) (F (i+0)) (F (i+0+1)) i_1 3) 4294967298]]]):=ag
theorem Bl {c:Cu} (hb:fX c) {i:Nat} (hi:i<bn c.k c.n):iU (bH c.k c.n i):=by
 have hkn:=hb.d.kn.1
 have hl:=hkn.len
 by_cases e:i+1<bn c.k c.n
 ·obtain⟨s,_,h2,_⟩:=tV hkn.sorted e
  rw[<-h2];exact oJ (hb.h s)
 ·obtain⟨m,hm2⟩:∃m,c.n=m+1:=⟨c.n-1,aa⟩
  rw[hm2]at hi e ⊢
  obtain⟨_,_,e3⟩:=tL (k:=c.k) (n:=m)
  rw[show i=bn c.k (m+1)-1 by omega,e3]
  exact oJ (hb.h m)
theorem Uw:∀K args pre r,Di K args pre=some r->aE P vu K args pre r:=cy fun⟨⟨n,k⟩,_⟩ K hn=>by
 have h1:n<2^40:=hn.1
 have h2:∀i,i<bn k n->Sz (bH k n i) 2000:=hn.2
 exact rQ (u:=ls (bH k n) (bn k n)) (l:=[bP (fun i=>.rat (k i) 2000) n sJ,n<2^40]) (Ip K [bq k n 2000] [] _ rfl) (fun _=>⟨bY (by decide),h1⟩) rfl rfl (fq fun i hi=>dA rfl (h2 i hi))
theorem Vs:bz P Fo:=cZ (aL EY (aL Jd (aL Uw (aL Zq (aL Ru bO)))))
theorem S1 (c:Cu) (s r:Nat):(aV (aS c s r)).size=3:=ag
def Gn:Spec:=cN (kC (jb 2000 2000) kN) (fun a=>.aq 3 (bn a.1.k a.1.n-1) fun i=>aS (gJ a.1 (bH a.1.k a.1.n) i) 2000 sE) fun a=>[fX a.1,a.1.m+(a.1.p.toNat+a.1.p.toNat)<=40]
theorem ag4 {c:Cu} (hb:fX c) (h40:c.m+(c.p.toNat+c.p.toNat)<=40) (K:Nat):aE P B6 K [aS c 2000 2000] [] (aK (.aq 3 (bn c.k c.n-1) fun i=>aS (gJ c (bH c.k c.n) i) 2000 sE) []):=by
 obtain⟨k1,k2,k3,k4,k5⟩:=id hb.d.kn
 have hl:=k1.len
 have hN:=mW (k:=c.k) (n:=c.n)
 have hN0:0<bn c.k c.n:=by
  obtain⟨m,hm2⟩:∃m,c.n=m+1:=⟨c.n-1,aa⟩
  rw[hm2];exact tL.1
 refine fI (r:=aK (.aq 3 (bn c.k c.n-1) fun i=>aS (gJ c (bH c.k c.n) i) 2000 sE) []) hT Vs hm X0 rfl aX rfl [1,1,1,1,1,0,1] (i:=0) (y:=part zH [1,1,1,1,1,0,1,0,0]) (z:=part zH [1,1,1,1,1,1]) ag ag ag (f1:=[200010]) (f2:=[20]) (f3:=[]) 60 yH 3
  (fun i:Nat=>JE (bn c.k c.n) (bH c.k c.n) i) (fun i=>HV c (bH c.k c.n) i) (fun i=>i<=bn c.k c.n-1) (fun i=>i=bn c.k c.n-1) (fun i=>bn c.k c.n-1-i) (fun _=>⟨⟨_,aeE,?_⟩,fun i hi=>⟨_,aax,?_⟩,fun i hi=>⟨_,ahx,?_⟩⟩) K []
 ·simp only[ah.all,az]
  rw[S1 c 2000 2000]
  refine⟨⟨aa,bY (by decide),iM (by decide),hb.d.kn⟩,by decide,⟨aa,bY (by decide),iM (by decide),aa,aa,aa⟩,⟨aa,bY (by decide),aa,fun i hi=>wD (Bl hb hi)⟩,?_,0,Nat.zero_le _,[(0,0),(1,32768)],rfl,rfl,rfl,gU rfl aa aa (aB (aB trivial))⟩
  have:(1:Int)<=(bn c.k c.n:Nat):=aa
  exact⟨aa,this,Int.le_refl _,Int.le_refl _⟩
 ·simp only[ah.all,az,aZ,bk,aW]
  refine⟨fun h=>?_,fun h=>⟨rfl,i,by dsimp only;omega,[(0,0),(1,1),(2,2)],rfl,rfl,rfl,bp (aB (aB trivial))⟩⟩
  obtain⟨I,h1,h2,h3⟩:=tV k1.sorted (i:=i) (show i+1<bn c.k c.n by omega)
  refine⟨⟨aa,aa⟩,⟨aa,aa,aa,bY (by decide),pL (by decide),by decide,by decide,⟨c,I,hb,rfl,h1,h2.symm,h3.symm,h40⟩,bY (by decide),pL aU,aa,aa,aa,aa⟩,aa,i+1,aa,by dsimp only;omega,[(0,0),(1,1),(2,69635)],rfl,rfl,rfl,bL rfl rfl rfl (fun u hu=>qL (g:=fun j=>aS (gJ c (bH c.k c.n) j) 2000 sE) (fun _ _=>⟨rfl,rfl⟩) rfl ?_ hu) (aB (aB trivial))⟩
  refine cC ⟨.refl _,fq fun q _=>dA rfl (wD ?_),fq fun q _=>cC ⟨cC ⟨bM rfl (by decide),bM rfl (by decide),bM rfl (by decide),trivial⟩,bM rfl (by decide),trivial⟩,trivial⟩
  show iU (if q<c.p.toNat+1 then bH c.k c.n i else bH c.k c.n (i+1))
  split
  ·exact Bl hb aa
  ·exact Bl hb aa
 ·have hi:i=bn c.k c.n-1:=hi
  subst hi
  exact .refl _
theorem WQ:∀K args pre r,Gn K args pre=some r->aE P B6 K args pre r:=cy fun⟨c,_⟩ K hn=>ag4 hn.1 hn.2 K
theorem abe:aT P Dd BI (aA BI):=aY Proofs.Tryz.func45 ag ag ag
def CI:bg:=nG::(BP,Di)::(CS,Nr)::[]
abbrev xm:Code:=aA BI
abbrev zm:List Nat:=[1,3,4,5]
abbrev K8 (n:Nat) (F:Nat->Rat) (x:Nat):List AV:=[.ptr 0 0 3 0 [],.own 1 3 0 x,bq F n 2000,.int .i64 ((x:Int)+1)]
abbrev Kp (c d:Cu) (F:Nat->Rat) (x:Nat):aF:=[(1,⟨true,true,3,x,fun j=>aS (gJ c F j) 2000 sE⟩),(0,⟨false,true,3,1,fun _=>aS d 2000 sE⟩)]
def zP (c:Cu) (F:Nat->Rat):Nat->Cu
 |0=>c
 |x+1=>og (zP c F x) (F (x+1))
theorem afT {c:Cu}:aH T CI [] 60 zm (before xm [1,1,1,0,1]) ⟨aQ 0 [aS c 2000 2000],[],0⟩=
  let c1:Nat:=(aV (aS c 2000 2000)).size;some (aj [(0:Nat)<1,bP (fun i=>rat (c.k i) 2000) c.n 2000,c.n<2^40,∀(i:Nat),i<bn (fun i=>aR (rat (c.k i) 2000)) c.n->Sz (bH (fun i=>aR (rat (c.k i) 2000)) c.n i) 2000] (leaf normal ([ptr 0 0 c1 0 [],nil,aq 3 (bn (fun i=>aR (rat (c.k i) 2000)) c.n) fun i=>rat (bH (fun i=>aR (rat (c.k i) 2000)) c.n i) 2000,int i64 1],[(0,ak.mk false true c1 1 fun x=>aS c 2000 2000)]))):=ag
theorem aef {c d:Cu} {n x:Nat} {F:Nat->Rat}:aH T CI [16] 60 zm [part xm [1,1,1,0,1,0,0]] ⟨aC zm (K8 n F x),Kp c d F x,2⟩=
  let c10:AV:=agg [int i64 0,nil,nil];let c9:AV:=aq 3 n fun i=>rat (F i) 2000;let c8:AV:=ptr 0 0 3 0 [];let c6:Nat:=c.p.toNat+1;let c4:Prop:=0<1;let c3:Cu:=Cu.mk d.p d.n (fun i=>aR (rat (d.k i) 2000)) d.m fun i=>gG (bE (d.f i) sE);let c2:Int:=(↑x:Int)+(1:Int);let c7:Int:=c2+(1:Int);let c1:Cu:=pB c3 (F c2.toNat);let c5:Prop:=-(2:Int)^63<=c7/\c7<(2:Int)^63;some (aj [c5] (fork (decide (c7<(↑n:Int))) (aj [c4,(0:Int)<=c2/\c2.toNat<n,bP (fun i=>rat (d.k i) 2000) d.n 2000,fT (fun i=>bE (d.f i) sE) d.m 2000,(2000:Nat)<=2000,∃g,fX g/\eE g c3/\∃r,r<g.n/\F c2.toNat=g.k r,d.m+d.p.toNat<=40,c4,c4] (aj [c4,(1:Nat)*3<=2^24,(x+1)*((56:Nat)+1)*2<=2^47,c4,c4] (aj [c5] (leaf normal ([c8,own 94210 3 0 (x+1),c9,int i64 c7],[(94210,ak.mk true true 3 (x+1) fun i=>if i<x then aS (gJ c F i) 2000 sE else nth [aS c1 2000 sE] c10 (i-x+0)),((0:Nat),aJ fun j=>if(j==0)=true then aV (if((0:Nat)==0)=true then aV (aS (og c3 (F c2.toNat)) 2000 sE)else c10)else aS d 2000 sE)]))))) (leaf (exit 0) ([c8,own 1 3 0 x,c9,int i64 c2],[(1,ak.mk true true 3 x fun j=>agg [int i64 c.p,aq 3 (c6+c6) fun i=>rat (if i<c6 then F j else F (j+1)) 2000,aq 12 c6 fun i=>agg [agg [rat (dN (b7 c) (F j) (F (j+1)) i 0/dN (b7 c) (F j) (F (j+1)) i 3) 4294967298,rat (dN (b7 c) (F j) (F (j+1)) i 1/dN (b7 c) (F j) (F (j+1)) i 3) 4294967298,rat (dN (b7 c) (F j) (F (j+1)) i 2/dN (b7 c) (F j) (F (j+1)) i 3) 4294967298],rat (dN (b7 c) (F j) (F (j+1)) i 3) 4294967298]]),((0:Nat),aJ fun x=>aS d 2000 4294967298)])))):=ag
theorem W0 {c d:Cu} {n x:Nat} {F:Nat->Rat}:cw T CI [] 60 BI [part xm [1,1,1,1]] ⟨aC zm (K8 n F x),Kp c d F x,2⟩=
  some (aj [(0:Nat)<1,(1:Nat)*3<=2^24,(x+1)*((56:Nat)+1)*2<=2^47] (leaf ret [aq 3 (x+1) fun i=>if i+0<x then aS (gJ c F (i+0)) 2000 sE else nth [aS d 2000 sE] (agg [int i64 0,nil,nil]) (i+0-x+0)])):=ag
theorem al0:∀K args pre r,Di K args pre=some r->aE P BP K args pre r:=cy fun⟨⟨n,k⟩,_⟩ K hn=>by
 have h1:n<2^40:=hn.1
 have h2:∀i,i<bn k n->Sz (bH k n i) 2000:=hn.2
 exact rQ (u:=ls (bH k n) (bn k n)) (l:=[bP (fun i=>.rat (k i) 2000) n sJ,n<2^40]) (ahr K [bq k n 2000] [] _ rfl) (fun _=>⟨bY (by decide),h1⟩) rfl rfl (fq fun i hi=>dA rfl (h2 i hi))
theorem VH:bz P CI:=cZ (aL al0 (aL ac9 bO))
structure rO (c d:Cu) (a:Rat):Prop where
 q:eE c d
 k0:d.k 0=a
 k1:d.k (d.n-1)=c.k (c.n-1)
 m:d.m<=c.m
theorem PN {n p Q:Nat} {k:Nat->Rat} {a b:Rat} (h:Kn n p k) (hQ:AM n p k a b Q) (h0:k 0=a):Q=p:=by
 obtain⟨w1,w2⟩:=h.mT hQ.at_
 have hp:=h.p1
 have hl:=h.len
 have e1:=h.first 1 aa
 have e2:=h.mult 1 aa aa
 by_cases c:p+1<=Q
 ·have:=h.mono (show 1+p<=Q by omega) (by have:=hQ.at_.lt;omega)
  have:=hQ.lo
  grind
 ·omega
theorem RW {c d:Cu} {I N M:Nat} {k:Nat->Rat} {p:Int} (h:eE c d) (hI:At c.n c.k I) (hQ:AM d.n c.p.toNat d.k (c.k I) (c.k (I+1)) c.p.toNat) (hp:p=c.p) (hN:N=c.p.toNat+1+(c.p.toNat+1)) (hM:M=c.p.toNat+1) (hk:∀i,i<N->k i=if i<c.p.toNat+1 then c.k I else c.k (I+1)):
  bG (aS ⟨p,N,k,M,d.f⟩ 2000 sE) (aS (nT (o8 (b7 c) (c.k I) (c.k (I+1)))) 2000 sE):=by
 refine cC ⟨bQ hp,AJ hN fun i hi=>?_,AJ hM fun j hj=>?_,trivial⟩
 ·show bG (.rat (k i) 2000) (.rat (if i<c.p.toNat+1 then c.k I else c.k (I+1)) 2000)
  rw[hk i hi];exact .refl _
 ·have hj:j<M:=hj
  show bG (bE (d.f j) sE) (bE (eI ((o8 (b7 c) (c.k I) (c.k (I+1))).f j)) sE)
  rw[<-TA (j:=j) h hI hQ aa,we (wN (h.pos _)),Nat.sub_self,Nat.zero_add]
  exact .refl _
theorem rO.next {c d:Cu} {I:Nat} (hb:fX c) (h:rO c d (c.k I)) (hI:At c.n c.k I) (hl:c.k (I+1)<c.k (c.n-1)) (h40:c.m+c.p.toNat<=40):
  bG (aS (pB d (c.k (I+1))) 2000 sE) (aS (nT (o8 (b7 c) (c.k I) (c.k (I+1)))) 2000 sE)/\rO c (og d (c.k (I+1))) (c.k (I+1))/\rm d (c.k (I+1))=0:=by
 obtain⟨hq,f0,f1,fm⟩:=h
 have hw:=hI.wide
 have hlt:=hI.lt
 have hp:=hq.p
 have hp2:=hq.kn.2.1
 have i0:d.k 0<c.k (I+1):=by rw[f0];exact hw
 have i1:c.k (I+1)<d.k (d.n-1):=by rw[f1];exact hl
 have hkn:=hq.kn.1
 have hle:=hkn.Hv i0 i1
 obtain⟨⟨a1,a2,a3,a4,a5,a6,a7⟩,hD⟩:=uk hq (t:=c.k (I+1)) ⟨I+1,hlt,rfl⟩ i0 i1 (by rw[hp];omega) (r:=d.p.toNat-bw d.k (c.k (I+1)) d.n) aa
 have e1:pB d (c.k (I+1))=BW (jP d (c.k (I+1))) (c.k (I+1)) (bT (jP d (c.k (I+1))).n (jP d (c.k (I+1))).k (c.k (I+1))):=if_pos ⟨i0,i1⟩
 have e2:og d (c.k (I+1))=lE (jP d (c.k (I+1))) (c.k (I+1)) (bT (jP d (c.k (I+1))).n (jP d (c.k (I+1))).k (c.k (I+1))):=if_pos ⟨i0,i1⟩
 have e3:rm d (c.k (I+1))=0:=if_pos ⟨i0,i1⟩
 have eD:jP d (c.k (I+1))=ck d (c.k (I+1)) (d.p.toNat-bw d.k (c.k (I+1)) d.n):=rfl
 rw[e1,e2,e3,eD]
 generalize ck d (c.k (I+1)) (d.p.toNat-bw d.k (c.k (I+1)) d.n)=D at*
 have pD:=hD.p
 have kD:=hD.kn.1
 have pe:D.p.toNat=c.p.toNat:=by rw[pD]
 have tD:bw D.k (c.k (I+1)) D.n=D.p.toNat:=by rw[a5,a2];omega
 obtain⟨v1,v2,v3⟩:=nW kD (by rw[a6];exact i0) (by rw[a7];exact i1)
 obtain⟨r1,r2,r3⟩:=kD.split (by rw[a6];exact i0) (by rw[a7];exact i1) v1 v2 v3 tD
 have hR:=hD.right (by rw[a6];exact i0) (by rw[a7];exact i1) v1 v2 v3 tD
 generalize hA:bT D.n D.k (c.k (I+1))=A at*
 rw[pe]at r1 r2 r3 tD
 rw[pe]at kD
 have hl4:=kD.len
 obtain⟨Q,g1,g2,g3⟩:=hD.two hI ⟨0,aa,by rw[a6,f0]⟩ (FD (by have:=kD.p1;omega))
 have hQ:=kD.Hs g1 g2 g3 (.inl (by rw[a6,f0])) (.inr tD)
 have eQ:=PN kD hQ (by rw[a6,f0])
 subst eQ
 have hlA:=g1.lt
 have eA:A=c.p.toNat+c.p.toNat:=by
  obtain⟨w1,w2⟩:=kD.mT g1
  have x1:=hQ.right (c.p.toNat+c.p.toNat) (by have:=kD.p1;omega) aU
  have x2:c.p.toNat+c.p.toNat<=A:=r3
  by_cases x3:A<=c.p.toNat+c.p.toNat
  ·omega
  ·have:=r2 (c.p.toNat+1) aa
   rw[g3]at this
   exact absurd this Rat.lt_irrefl
 refine⟨?_,⟨hR,?_,?_,?_⟩,rfl⟩
 ·refine RW (p:=D.p) (N:=A+1+1) (M:=A+1-D.p.toNat) hD hI hQ pD aa (by rw[pe];omega) fun i hi=>?_
  by_cases x1:i<A+1
  ·rw[if_pos x1]
   by_cases x2:i<c.p.toNat+1
   ·rw[if_pos x2,kD.first i aa,a6,f0]
   ·rw[if_neg x2];exact hQ.right i aa aa
  ·rw[if_neg x1,if_neg aa]
 ·exact(if_pos aa:(if 0<1 then c.k (I+1)else D.k (A+1-D.p.toNat+(0-1)))=_)
 ·show(if 1+(D.n-(A+1-D.p.toNat))-1<1 then c.k (I+1)else D.k (A+1-D.p.toNat+(1+(D.n-(A+1-D.p.toNat))-1-1)))=_
  rw[if_neg aa,<-f1,<-a7]
  congr 1
  omega
 ·show D.m-(A-D.p.toNat)<=c.m
  omega
theorem rO.last {c d:Cu} {I:Nat} (h:rO c d (c.k I)) (hI:At c.n c.k I) (hl:c.k (I+1)=c.k (c.n-1)):
  bG (aS d 2000 sE) (aS (nT (o8 (b7 c) (c.k I) (c.k (I+1)))) 2000 sE):=by
 obtain⟨hq,f0,f1,fm⟩:=h
 have hp:=hq.p
 have hkn:=hq.kn.1
 have hm2:=hq.kn.2.2.2.2
 have hp2:=hq.kn.2.1
 rw[hp]at hkn
 have hl4:=hkn.len
 have hp1:=hkn.p1
 obtain⟨Q,g1,g2,g3⟩:=hq.two hI ⟨0,aa,f0⟩ ⟨d.n-1,aa,by rw[f1,hl]⟩
 have hQ:=hkn.Hs g1 g2 g3 (.inl f0) (.inl (by rw[f1,hl]))
 have eQ:=PN hkn hQ f0
 subst eQ
 have hr:∀i,c.p.toNat+1<=i->i<d.n->d.k i=c.k (I+1):=fun i h1 h2=>by
  have m1:=hkn.mono h1 h2
  have m2:=hkn.mono (show i<=d.n-1 by omega) aa
  rw[f1,<-hl]at m2
  rw[g3]at m1
  grind
 have eN:d.n=c.p.toNat+1+(c.p.toNat+1):=by
  by_cases x1:d.n<=c.p.toNat+1+(c.p.toNat+1)
  ·omega
  ·have:=hkn.mult (c.p.toNat+1) aa aa
   rw[hr _ aU aa,hr _ aa aa]at this
   exact absurd this Rat.lt_irrefl
 refine RW (p:=d.p) (N:=d.n) (M:=d.m) (k:=d.k) hq hI hQ hp eN aa fun i hi=>?_
 by_cases x2:i<c.p.toNat+1
 ·rw[if_pos x2,hkn.first i aa,f0]
 ·rw[if_neg x2];exact hr i aa hi
theorem aln {c:Cu} (hb:fX c) (h40:c.m+(c.p.toNat+c.p.toNat)<=40) (K:Nat):aE P Dd K [aS c 2000 2000] [] (aK (.aq 3 (bn c.k c.n-1) fun i=>aS (gJ c (bH c.k c.n) i) 2000 sE) []):=by
 obtain⟨k1,k2,k3,k4,k5⟩:=id hb.d.kn
 have hl:=k1.len
 have hN:=mW (k:=c.k) (n:=c.n)
 obtain⟨m,hm2⟩:∃m,c.n=m+1:=⟨c.n-1,aa⟩
 obtain⟨N0,N1,N2⟩:=tL (k:=c.k) (n:=m)
 rw[<-hm2]at N0 N1 N2
 rw[show m=c.n-1 by omega]at N2
 have hN2:2<=bn c.k c.n:=by
  by_cases e:2<=bn c.k c.n
  ·exact e
  ·rw[show bn c.k c.n-1=0 by omega,N1]at N2
   obtain⟨P,_,p1,p2,p3,p4,p5⟩:=k1.piece (j:=0) aa
   have m1:=k1.mono (Nat.zero_le P) aa
   have m2:=k1.mono (show P+1<=c.n-1 by omega) aa
   exfalso;grind
 refine fI (r:=aK (.aq 3 (bn c.k c.n-1) fun i=>aS (gJ c (bH c.k c.n) i) 2000 sE) []) hT VH hm abe rfl aX rfl [1,1,1,0,1] (i:=0) (y:=part xm [1,1,1,0,1,0,0]) (z:=part xm [1,1,1,1]) ag ag ag (f1:=[]) (f2:=[16]) (f3:=[]) 60 zm 2
  (fun x:Nat=>K8 (bn c.k c.n) (bH c.k c.n) x) (fun x=>Kp c (zP c (bH c.k c.n) x) (bH c.k c.n) x) (fun x=>x+2<=bn c.k c.n/\rO c (zP c (bH c.k c.n) x) (bH c.k c.n x)) (fun x=>x+2=bn c.k c.n/\rO c (zP c (bH c.k c.n) x) (bH c.k c.n x)) (fun x=>bn c.k c.n-x) (fun _=>⟨⟨_,afT,?_⟩,fun x hx=>⟨_,aef,?_⟩,fun x hx=>⟨_,W0,?_⟩⟩) K []
 ·simp only[ah.all,az]
  rw[S1 c 2000 2000]
  exact⟨⟨aa,bY (by decide),aa,fun i hi=>wD (Bl hb hi)⟩,0,⟨aa,⟨hb.self,N1.symm,rfl,aU⟩⟩,[(0,0)],rfl,rfl,rfl,gU rfl aa aa (bD rfl rfl (.inr ⟨rfl,Qf aU (by decide)⟩) trivial)⟩
 ·obtain⟨x1,hR⟩:=hx
  have e1:((x:Int)+1).toNat=x+1:=aa
  simp only[ah.all,az,aZ,bk,e1]
  refine⟨aa,fun h=>?_,fun h=>⟨rfl,x,⟨aa,hR⟩,[(0,0),(1,1)],rfl,rfl,rfl,bp (aB trivial)⟩⟩
  obtain⟨I,h1,h2,h3⟩:=tV k1.sorted (i:=x) (show x+1<bn c.k c.n by omega)
  obtain⟨J,g1,g2,g3⟩:=tV k1.sorted (i:=x+1) (show x+1+1<bn c.k c.n by omega)
  have gw:=g1.wide
  have glt:=g1.lt
  have gm:=k1.mono (show J+1<=c.n-1 by omega) aa
  have hR2:=hR
  rw[<-h2]at hR2
  obtain⟨n1,n2,n3⟩:=hR2.next hb h1 (by rw[h3,<-g2];grind) aa
  rw[h3]at n2
  have hRm:=hR.m
  have hRp:=hR.q.p
  refine⟨⟨aa,⟨aa,aa⟩,bY aU,hR.q.It hb,aU,⟨c,hb,hR.q,I+1,h1.lt,h3.symm⟩,by rw[hRp];omega,aa,aa⟩,⟨aa,aa,aa,aa,aa⟩,aa,x+1,⟨aa,n2⟩,by dsimp only;omega,[(0,0),(1,94210)],rfl,rfl,rfl,bL rfl rfl rfl (fun u hu=>qL (g:=fun j=>aS (gJ c (bH c.k c.n) j) 2000 sE) (fun _ _=>⟨rfl,rfl⟩) rfl ?_ hu) (aB trivial)⟩
  rw[h2,h3]at n1
  exact n1
 ·obtain⟨x1,hR⟩:=hx
  simp only[ah.all,az]
  refine⟨⟨aa,aa,aa⟩,AJ aa fun i hi=>?_⟩
  by_cases e:i<x
  ·show bG (if i+0<x then aS (gJ c (bH c.k c.n) (i+0)) 2000 sE else _) _
   rw[if_pos aa];exact .refl _
  ·have e2:i=x:=aa
   subst e2
   show bG (if i+0<i then aS (gJ c (bH c.k c.n) (i+0)) 2000 sE else nth [aS (zP c (bH c.k c.n) i) 2000 sE] (.agg [.int .i64 0,.nil,.nil]) (i+0-i+0)) (aS (gJ c (bH c.k c.n) i) 2000 sE)
   rw[if_neg aa,show i+0-i+0=0 by omega]
   obtain⟨I,h1,h2,h3⟩:=tV k1.sorted (i:=i) (show i+1<bn c.k c.n by omega)
   have hR2:=hR
   rw[<-h2]at hR2
   have:=hR2.last h1 (by rw[h3,<-N2];congr 1;omega)
   rw[h2,h3]at this
   exact this
theorem akY:∀K args pre r,Gn K args pre=some r->aE P Dd K args pre r:=cy fun⟨c,_⟩ K hn=>aln hn.1 hn.2 K
structure zL (s:Sf):Prop where
 ku:Kn s.a s.u.toNat s.ku
 kv:Kn s.b s.v.toNat s.kv
 u0:0<=s.u
 u6:s.u<=6
 v0:0<=s.v
 v6:s.v<=6
 a:s.a<=s.u.toNat+41
 b:s.b<=s.v.toNat+41
 n:(s.n:Int)=(s.a:Int)-s.u-1
 m:(s.m:Int)=(s.b:Int)-s.v-1
 w:∀i j,i<s.n->j<s.m->0<(s.f i j).d
theorem zL.swap {s:Sf} (h:zL s):zL (QB s):=⟨h.kv,h.ku,h.v0,h.v6,h.u0,h.u6,h.b,h.a,h.m,h.n,fun i j hi hj=>h.w j i hj hi⟩
theorem zL.weak {s:Sf} (h:zL s):Cq s:=⟨h.ku,h.kv,h.u0,h.u6,h.v0,h.v6,by have:=h.a;have:=h.u6;omega,by have:=h.b;have:=h.v6;omega,h.n,h.m⟩
theorem Cq.swap {s:Sf} (h:Cq s):Cq (QB s):=⟨h.kv,h.ku,h.v0,h.v6,h.u0,h.u6,h.b,h.a,h.m,h.n⟩
theorem aac:aT P El Gq (aA Gq):=aY Proofs.Tryz.func81 ag ag ag
theorem Xu:aT P Dq CX (aA CX):=aY Proofs.Tryz.func24 ag ag ag
def Qh:bg:=[(Zu,ru T (sG::qk) [100010,100017] 60 agw)]
def C0:bg:=nG::(Qh++qk)
abbrev xV:Code:=aA Gq
abbrev JO (n m:Nat) (f g:Nat->Pl) (i:Nat):List AV:=[jS f n sE,jS g m sE,.bool false,.int .i64 i]
def OR:Spec:=cN (kC (uA sE) (kC (uA sE) kN)) (fun _=>.bool true) fun a=>[a.1.1<2^30,a.1.1=a.2.1.1,∀i,i<a.1.1->a.1.2 i=a.2.1.2 i]
def SF:bg:=nG::(FZ,SO)::(El,OR)::[]
def Lk:Spec:=cN (kC (jb sK sE) (kC (jb sK sE) kN)) (fun _=>.bool true) fun a=>[a.1=a.2.1,a.1.n<2^30,a.1.m<2^30]
theorem aey {n m:Nat} {f g:Nat->Pl}:aH T C0 [200010] 60 [0,1,4,5] (before xV [1,1,0,1]) ⟨aQ 0 [jS f n sE,jS g m sE],[],0⟩=
  some (aj [((↑n:Int)!=(↑m:Int))=false] (leaf normal ([aq 12 n fun i=>agg [agg [rat (f i).n.x 4294967298,rat (f i).n.y 4294967298,rat (f i).n.z 4294967298],rat (f i).d 4294967298],aq 12 m fun i=>agg [agg [rat (g i).n.x 4294967298,rat (g i).n.y 4294967298,rat (g i).n.z 4294967298],rat (g i).d 4294967298],AV.bool false,int i64 0],[]))):=ag
theorem YL {n m i:Nat} {f g:Nat->Pl}:aH T C0 [14,200029,200042] 60 [0,1,4,5] [part xV [1,1,0,1,0,0]] ⟨aC [0,1,4,5] (JO n m f g i),[],0⟩=
  let c4:Int:=(↑i:Int);let c3:AV:=aq 12 n fun i=>agg [agg [rat (f i).n.x 4294967298,rat (f i).n.y 4294967298,rat (f i).n.z 4294967298],rat (f i).d 4294967298];let c2:AV:=aq 12 m fun i=>agg [agg [rat (g i).n.x 4294967298,rat (g i).n.y 4294967298,rat (g i).n.z 4294967298],rat (g i).d 4294967298];let c8:Int:=c4+(1:Int);let c5:Prop:=(0:Int)<=c4;let c1:Nat:=c4.toNat;let c7:V3:=(g c1).n;let c6:V3:=(f c1).n;some (fork (decide (c4<(↑n:Int))) (aj [c5/\c1<n,c5/\c1<m,decide (c6.x=c7.x)=true,(bif true then decide (c6.y=c7.y)else false)=true,(!bif true then decide (c6.z=c7.z)else false)=false,c5/\c1<n,c5/\c1<m] (aj [(bif false then true else !decide ((f c1).d=(g c1).d))=false] (aj [-(2:Int)^63<=c8/\c8<(2:Int)^63] (leaf normal ([c3,c2,AV.bool false,int i64 c8],[]))))) (leaf (exit 0) ([c3,c2,AV.bool false,int i64 c4],[]))):=ag
theorem al3 {n m i:Nat} {f g:Nat->Pl}:cw T C0 [] 60 Gq [part xV [1,1,1]] ⟨aC [0,1,4,5] (JO n m f g i),[],0⟩=
  some (leaf ret [AV.bool true]):=ag
theorem XW {c d:Cu}:bW T SF [100010,100017] 60 CX (aA CX) ⟨aQ 0 [aS c sK sE,aS d sK sE],[],0⟩=
  let c1:Prop:=0<1;some (aj [c1,c1,(c.p==d.p)=true,c1,c1,bP (fun i=>rat (c.k i) sK) c.n sU,bP (fun i=>rat (d.k i) sK) d.n sU,c.n<2^40,d.n<2^40,(bif true then AK c.n (fun i=>aR (rat (c.k i) sK)) d.n fun i=>aR (rat (d.k i) sK)else false)=true,c1,c1,fT (fun i=>bE (c.f i) sE) c.m sE,fT (fun i=>bE (d.f i) sE) d.m sE,c.m<2^30,c.m=d.m,∀(i:Nat),i<c.m->gG (bE (c.f i) sE)=gG (bE (d.f i) sE)] (leaf ret [AV.bool true])):=ag
theorem UW:bz P Qh:=aL (sX hT (qm sA) hm (aY Proofs.Tryz.func23 ag ag ag) _ _) bO
theorem aiH:bz P C0:=cZ (DE UW sA)
theorem TW {n m:Nat} {f g:Nat->Pl} (hn:n<2^30) (hm2:n=m) (he:∀i,i<n->f i=g i) (K:Nat):aE P El K [jS f n sE,jS g m sE] [] (aK (.bool true) []):=by
 refine fI (r:=aK (.bool true) []) hT aiH hm aac rfl aX rfl [1,1,0,1] (i:=0) (y:=part xV [1,1,0,1,0,0]) (z:=part xV [1,1,1]) ag ag ag (f1:=[200010]) (f2:=[14,200029,200042]) (f3:=[]) 60 [0,1,4,5] 0
  (fun i:Nat=>JO n m f g i) (fun _=>[]) (fun i=>i<=n) (fun i=>i=n) (fun i=>n-i) (fun _=>⟨⟨_,aey,?_⟩,fun i h1=>⟨_,YL,?_⟩,fun i h1=>⟨_,al3,?_⟩⟩) K []
 all_goals try simp only[ah.all,az,aZ,bk,aW]
 ·exact⟨bne_eq_false_iff_eq.2 aa,0,Nat.zero_le _,.vals rfl⟩
 ·refine⟨fun h=>?_,fun h=>⟨rfl,i,aa,.vals rfl⟩⟩
  have e:=he i aa
  exact⟨⟨aa,aa,by rw[e],decide_eq_true (congrArg (fun p:Pl=>p.n.y) e),congrArg (!·) (decide_eq_true (congrArg (fun p:Pl=>p.n.z) e)),aa,aa⟩,congrArg (!·) (decide_eq_true (congrArg (fun p:Pl=>p.d) e)),aa,i+1,aa,by dsimp only;omega,.vals rfl⟩
 ·exact .refl _
theorem ace:∀K args pre r,OR K args pre=some r->aE P El K args pre r:=cy fun _ K hn=>TW hn.1 hn.2.1 hn.2.2 K
theorem X3:bz P SF:=cZ (aL T1 (aL ace bO))
theorem Qc:∀K args pre r,Lk K args pre=some r->aE P Dq K args pre r:=cy fun⟨c,d,_⟩ K hn=>by
 obtain⟨h1,h2,h3⟩:=hn
 have h1:c=d:=h1
 have h2:c.n<2^30:=h2
 have h3:c.m<2^30:=h3
 subst h1
 refine cj (r:=aK (.bool true) []) hT X3 hm Xu rfl aX rfl 60 XW (fun _=>?_) K []
 have hs:AK c.n (fun i=>aR (rat (c.k i) sK)) c.n (fun i=>aR (rat (c.k i) sK))=true:=decide_eq_true ⟨rfl,fun _ _=>rfl⟩
 simp only[ah.all,az,hs,cond_true]
 (repeat' with_reducible refine And.intro ?_ ?_)
 all_goals first|omega|exact beq_self_eq_true _|exact bY (by decide)|exact iM aU|exact h2|exact h3|exact fun _ _=>rfl|exact fun _ _=>trivial|trivial|exact .refl _|skip
theorem adM:aT P JN Dl (aA Dl):=aY Proofs.Tryz.func43 ag ag ag
def wq:AV->Cu
 |.agg [.int .i64 p,.aq _ n k,.aq _ m f]=>⟨p,n,fun i=>aR (k i),m,fun i=>gG (f i)⟩
 |_=>⟨0,0,fun _=>0,0,fun _=>⟨⟨0,0,0⟩,0⟩⟩
def RI:Kind (Nat×(Nat->Cu)) where
 read:=fun v=>match v with
  |.aq 3 n f=>some ((n,fun i=>wq (f i)),[∀i,i<n->bG (f i) (aS (wq (f i)) 2000 sE)])
  |_=>none
 make:=fun a=>.aq 3 a.1 fun i=>aS (a.2 i) 2000 sE
 ok:=by
  intro v a q h hq
  split at h
  ·simp only[ay,Prod.mk.injEq]at h
   obtain⟨rfl,rfl⟩:=h
   exact fq hq
  ·simp at h
def Dw:bg:=nG::(Dq,Lk)::[]
abbrev Ag:Code:=aA Dl
abbrev zZ:List Nat:=[0,1,4,5]
abbrev KX (n m:Nat) (C D:Nat->Cu) (i:Nat):List AV:=[.aq 3 n fun i=>aS (C i) 2000 sE,.aq 3 m fun i=>aS (D i) 2000 sE,.bool false,.int .i64 i]
def R5:Spec:=cN (kC RI (kC RI kN)) (fun _=>.bool true) fun a=>[a.1.1=a.2.1.1,a.1.1<2^30,∀i,i<a.1.1->a.1.2 i=a.2.1.2 i/\(a.1.2 i).n<2^30/\(a.1.2 i).m<2^30]
theorem akp {n m:Nat} {C D:Nat->Cu}:aH T Dw [200010] 60 zZ (before Ag [1,1,0,1]) ⟨aQ 0 [.aq 3 n fun i=>aS (C i) 2000 sE,.aq 3 m fun i=>aS (D i) 2000 sE],[],0⟩=
  some (aj [((↑n:Int)!=(↑m:Int))=false] (leaf normal ([aq 3 n fun i=>agg [int i64 (C i).p,aq 3 (C i).n fun i_1=>rat ((C i).k i_1) 2000,aq 12 (C i).m fun i_1=>bE ((C i).f i_1) 4294967298],aq 3 m fun i=>agg [int i64 (D i).p,aq 3 (D i).n fun i_1=>rat ((D i).k i_1) 2000,aq 12 (D i).m fun i_1=>bE ((D i).f i_1) 4294967298],AV.bool false,int i64 0],[]))):=ag
theorem afI {n m i:Nat} {C D:Nat->Cu}:aH T Dw [14,200026] 60 zZ [part Ag [1,1,0,1,0,0]] ⟨aC zZ (KX n m C D i),[],0⟩=
  let c4:Int:=(↑i:Int);let c2:AV:=aq 3 m fun i=>agg [int i64 (D i).p,aq 3 (D i).n fun i_1=>rat ((D i).k i_1) 2000,aq 12 (D i).m fun i_1=>bE ((D i).f i_1) 4294967298];let c1:AV:=aq 3 n fun i=>agg [int i64 (C i).p,aq 3 (C i).n fun i_1=>rat ((C i).k i_1) 2000,aq 12 (C i).m fun i_1=>bE ((C i).f i_1) 4294967298];let c5:Int:=c4+(1:Int);let c3:Nat:=c4.toNat;some (fork (decide (c4<(↑n:Int))) (aj [(0:Int)<=c4/\c3<n,(0:Int)<=c4/\c3<m,bP (fun i=>rat ((C c3).k i) 2000) (C c3).n sK,fT (fun i=>bE ((C c3).f i) sE) (C c3).m sE,bP (fun i=>rat ((D c3).k i) 2000) (D c3).n sK,fT (fun i=>bE ((D c3).f i) sE) (D c3).m sE,(Cu.mk (C c3).p (C c3).n (fun i=>aR (rat ((C c3).k i) 2000)) (C c3).m fun i=>gG (bE ((C c3).f i) sE))=Cu.mk (D c3).p (D c3).n (fun i=>aR (rat ((D c3).k i) 2000)) (D c3).m fun i=>gG (bE ((D c3).f i) sE),(C c3).n<2^30,(C c3).m<2^30] (aj [(!true)=false] (aj [-(2:Int)^63<=c5/\c5<(2:Int)^63] (leaf normal ([c1,c2,AV.bool false,int i64 c5],[]))))) (leaf (exit 0) ([c1,c2,AV.bool false,int i64 c4],[]))):=ag
theorem akF {n m i:Nat} {C D:Nat->Cu}:cw T Dw [] 60 Dl [part Ag [1,1,1]] ⟨aC zZ (KX n m C D i),[],0⟩=
  some (leaf ret [AV.bool true]):=ag
theorem aix:bz P Dw:=cZ (aL Qc bO)
theorem agb:∀K args pre r,R5 K args pre=some r->aE P JN K args pre r:=cy fun⟨⟨n,C⟩,⟨m,D⟩,_⟩ K hn=>by
 obtain⟨h1,h2,h3⟩:=hn
 have h1:n=m:=h1
 have h2:n<2^30:=h2
 have h3:∀i,i<n->C i=D i/\(C i).n<2^30/\(C i).m<2^30:=h3
 refine fI (r:=aK (.bool true) []) hT aix hm adM rfl aX rfl [1,1,0,1] (i:=0) (y:=part Ag [1,1,0,1,0,0]) (z:=part Ag [1,1,1]) ag ag ag (f1:=[200010]) (f2:=[14,200026]) (f3:=[]) 60 zZ 0
  (fun i:Nat=>KX n m C D i) (fun _=>[]) (fun i=>i<=n) (fun i=>i=n) (fun i=>n-i) (fun _=>⟨⟨_,akp,?_⟩,fun i hi=>⟨_,afI,?_⟩,fun i hi=>⟨_,akF,?_⟩⟩) K []
 all_goals try simp only[ah.all,az,aZ,bk,aW]
 ·exact⟨bne_eq_false_iff_eq.2 aa,0,Nat.zero_le _,.vals rfl⟩
 ·refine⟨fun h=>?_,fun h=>⟨rfl,i,aa,.vals rfl⟩⟩
  obtain⟨e1,e2,e3⟩:=h3 i aa
  (repeat' with_reducible refine And.intro ?_ ?_)
  all_goals first|omega|exact bY (by decide)|exact iM (by decide)|exact e1|exact e2|exact e3|decide|exact⟨i+1,aa,by dsimp only;omega,.vals rfl⟩|skip
 ·exact .refl _
end Go.Am.B
