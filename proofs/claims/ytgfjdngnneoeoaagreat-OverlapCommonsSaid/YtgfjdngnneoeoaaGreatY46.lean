/- A piece of a drawn curve; Spline.Cut at the ends of a piece. -/
import Derived.Test.YtgfjdngnneoeoaaGreatY45
import Derived.Test.YtgfjdngnneoeoaaGreatY41
import Derived.Test.YtgfjdngnneoeoaaGreatY42
import Derived.Test.YtgfjdngnneoeoaaGreatY44
import Derived.Test.YtgfjdngnneoeoaaGreatM41
set_option linter.unusedVariables false
noncomputable section
namespace Go.Am.B
open Go Go.Am.N AV ag ak IntKind Proofs.Tryz
def fy (h:Cu) (a b:Rat) (j e:Nat):Rat:=j4 h.k h.p.toNat (fun i=>gY (h.f i) e) (cS h.n h.k a) (b7 (fun q=>if q<h.p.toNat-j then a else b) 0 h.p.toNat)
def wu (h:Cu) (a b:Rat):Cu:=⟨h.p,h.p.toNat+1+(h.p.toNat+1),fun q=>if q<h.p.toNat+1 then a else b,h.p.toNat+1,fun j=>⟨⟨fy h a b j 0,fy h a b j 1,fy h a b j 2⟩,fy h a b j 3⟩⟩
theorem afg {c d:Cu} {P Q j:Nat} (h:gm c d) (hP:At c.n c.k P) (hQ:Cv d.n c.p.toNat d.k (c.k P) (c.k (P+1)) Q) (hj:j<=c.p.toNat):cY (d.f (Q-c.p.toNat+j))=(wu (eF c) (c.k P) (c.k (P+1))).f j:=by
 obtain⟨k1,k2,k3,k4,k5⟩:=id h.kn
 have hp:=h.p
 rw[hp]at k1
 obtain⟨w1,w2⟩:=k1.qJ hQ.at_
 obtain⟨P',p1,p2,p3⟩:=h.sub.Df (j:=Q-c.p.toNat+j) k1 hQ.at_ aa aa
 have e:P'=P:=by rw[<-p2,hQ.lo];exact zL hP
 have el:b7 d.k (Q-c.p.toNat+j+1) c.p.toNat=b7 (fun q=>if q<c.p.toNat-j then c.k P else c.k (P+1)) 0 c.p.toNat:=by
  have:=Cn (k:=d.k) (c:=Q-c.p.toNat+j+1) (l:=c.p.toNat) (a:=0)
  rw[Nat.add_zero]at this
  rw[<-this]
  exact wm fun q _ hq=>by
   by_cases c1:q<c.p.toNat-j
   ·rw[if_pos c1];exact hQ.left _ aa aa
   ·rw[if_neg c1];exact hQ.right _ aa aa
 have key:∀e,gY (cY (d.f (Q-c.p.toNat+j))) e=fy (eF c) (c.k P) (c.k (P+1)) j e:=fun e'=>by
  have:=p3 e'
  rw[el,e]at this
  rw[<-this]
  show _=j4 c.k c.p.toNat (fun i=>gY (cY (c.f i)) e') (cS c.n c.k (c.k P)) _
  rw[zL hP]
 show cY (d.f (Q-c.p.toNat+j))=(⟨⟨fy (eF c) (c.k P) (c.k (P+1)) j 0,fy (eF c) (c.k P) (c.k (P+1)) j 1,fy (eF c) (c.k P) (c.k (P+1)) j 2⟩,fy (eF c) (c.k P) (c.k (P+1)) j 3⟩:Pl)
 rw[<-key 0,<-key 1,<-key 2,<-key 3];rfl
theorem gm.two {c d:Cu} {P:Nat} (h:gm c d) (hP:At c.n c.k P) (ha:∃q,q<d.n/\d.k q=c.k P) (hb:∃q,q<d.n/\d.k q=c.k (P+1)):∃Q,At d.n d.k Q/\d.k Q=c.k P/\d.k (Q+1)=c.k (P+1):=by
 obtain⟨k1,k2,k3,k4,k5⟩:=id h.kn
 obtain⟨qa,a1,a2⟩:=ha
 obtain⟨qb,b1,b2⟩:=hb
 have hw:=hP.wide
 have m1:=k1.mono (Nat.zero_le qa) a1
 have m2:=k1.mono (show qb<=d.n-1 by omega) aa
 obtain⟨g1,g2,g3⟩:=k1.DI (t:=c.k P) (by grind) (by grind)
 generalize cS d.n d.k (c.k P)=Q at*
 have hlt:=g1.at_.lt
 have glo:=g1.lo
 have gw:=g1.at_.wide
 have hgt:c.k P<d.k (Q+1):=by
  rcases g1.Ea with e|e
  ·exact e
  ·rw[e];grind
 have e1:d.k Q=c.k P:=by
  by_cases c1:qa<=Q
  ·have:=k1.mono c1 aa
   grind
  ·have:=k1.mono (show Q+1<=qa by omega) a1
   grind
 refine⟨Q,g1.at_,e1,?_⟩
 obtain⟨r,r1,r2⟩:=h.kc (Q+1) hlt
 have c1:P+1<=r:=by
  by_cases c2:P+1<=r
  ·exact c2
  ·have:=gB hP.sorted (show r<=P by omega) (by have:=hP.lt;omega)
   grind
 have c2:=gB hP.sorted c1 r1
 have c3:Q+1<=qb:=by
  by_cases c4:Q+1<=qb
  ·exact c4
  ·have:=k1.mono (show qb<=Q by omega) aa
   grind
 have c4:=k1.mono c3 b1
 grind
theorem GB {c d:Cu} {t:Rat} (hq:gm c d) (ht:∃r,r<c.n/\t=c.k r) (h0:d.k 0<t) (h1:t<d.k (d.n-1)) (h40:d.m+d.p.toNat<=40):∀{r:Nat},((bS d.k t d.n+r:Nat):Int)<=d.p->(dz d t r).k=fH d.k d.n t r/\∀y,t≠y->bS (dz d t r).k y (dz d t r).n=bS d.k y d.n
 |0,_=>⟨rfl,fun _ _=>rfl⟩
 |r+1,h=>by
  obtain⟨ih,ih2⟩:=GB hq ht h0 h1 h40 (r:=r) aa
  obtain⟨⟨a1,a2,a3,a4,a5,a6,a7⟩,hr⟩:=Di hq ht h0 h1 h40 (r:=r) aa
  have hE:jI (dz d t r) t=0:=A6 (by rw[a6];exact h0) (by rw[a7];exact h1) (by rw[a5,a2];omega) (by rw[a4];omega)
  obtain⟨b1,b2,b3,b4⟩:=yh hE
  obtain⟨i1,i2,i3⟩:=qj hr.kn.1 b1 b2
  have e:dz d t (r+1)=sP (dz d t r) t (cS (dz d t r).n (dz d t r).k t):=if_pos hE
  refine⟨?_,fun y hy=>?_⟩
  ·rw[e]
   show dB (dz d t r).k t (cS (dz d t r).n (dz d t r).k t+1)=dB (fH d.k d.n t r) t (cS (d.n+r) (fH d.k d.n t r) t+1)
   rw[ih,a3]
  ·rw[e,<-ih2 y hy]
   show bS (dB (dz d t r).k t (cS (dz d t r).n (dz d t r).k t+1)) y ((dz d t r).n+1)=_
   generalize cS (dz d t r).n (dz d t r).k t=a at*
   have:=LD (k:=(dz d t r).k) (q:=a+1) hy (m:=(dz d t r).n-(a+1))
   rw[show a+1+1+((dz d t r).n-(a+1))=(dz d t r).n+1 by omega,show a+1+((dz d t r).n-(a+1))=(dz d t r).n by omega]at this
   exact this
structure C2 (c d e:Cu) (x:Rat) (R:Nat):Prop where
 q:gm c e
 n:e.n=d.n+R
 m:e.m=d.m+R
 r:R<=c.p.toNat
 k:e.k=fH d.k d.n x R
 j:s6 c.p.toNat d.n d.k x R
 k0:e.k 0=d.k 0
 k1:e.k (e.n-1)=d.k (d.n-1)
 t:e.k 0=x\/e.k (e.n-1)=x\/bS e.k x e.n=c.p.toNat
 o:∀y,x≠y->bS e.k y e.n=bS d.k y d.n
 sd:∀i,Sz (e.k i) 60
theorem gm.step {c d:Cu} {x:Rat} (hb:jy c) (h:gm c d) (hx:∃r,r<c.n/\x=c.k r) (h40:d.m+d.p.toNat<=40) (h0:d.k 0<=x) (h1:x<=d.k (d.n-1)) (sd:∀i,Sz (d.k i) 60):∃R e,C2 c d e x R:=by
 have hp:=h.p
 have hkn:=h.kn.1
 rw[hp]at hkn
 by_cases hi:d.k 0<x/\x<d.k (d.n-1)
 ·have hle:=hkn.abz hi.1 hi.2
  obtain⟨R,hR⟩:∃R,R=c.p.toNat-bS d.k x d.n:=⟨_,rfl⟩
  have k2:=h.kn.2.1
  have hRp:((bS d.k x d.n+R:Nat):Int)<=d.p:=aa
  obtain⟨⟨a1,a2,a3,a4,a5,a6,a7⟩,hr⟩:=Di h hx hi.1 hi.2 h40 hRp
  obtain⟨b1,b2⟩:=GB h hx hi.1 hi.2 h40 hRp
  have hxD:jf x:=by
   obtain⟨r,_,e⟩:=hx
   rw[e];exact hb.d.kd r
  have hK:∀r,r<=R->u6 d.n c.p.toNat d.k x r:=fun r hr=>F8 hkn hi.1 hi.2 sd (hxD.sz.more (by decide)) aa
  exact⟨R,dz d x R,hr,a3,a4,aa,b1,.inl ⟨hi.1,hi.2,aa,hK⟩,a6,a7,.inr (.inr (by rw[a5];omega)),b2,fun i=>by rw[b1];exact(hK R bq).sd i⟩
 ·have hx2:x=d.k 0\/x=d.k (d.n-1):=by
   by_cases g:d.k 0<x
   ·right
    have:¬x<d.k (d.n-1):=fun g2=>hi ⟨g,g2⟩
    grind
   ·left;grind
  exact⟨0,d,h,rfl,rfl,Nat.zero_le _,rfl,.inr ⟨hx2,rfl⟩,rfl,rfl,hx2.elim (fun g=>.inl g.symm) fun g=>.inr (.inl g.symm),fun _ _=>rfl,sd⟩
theorem Qz {c:Cu} {P:Nat} (hb:jy c) (hP:At c.n c.k P) (h40:c.m+(c.p.toNat+c.p.toNat)<=40):∃R0 R1 E1 E,C2 c c E1 (c.k P) R0/\C2 c E1 E (c.k (P+1)) R1/\∃Q,Cv E.n c.p.toNat E.k (c.k P) (c.k (P+1)) Q:=by
 have hkn:=hb.d.kn.1
 have hlt:=hP.lt
 have hw:=hP.wide
 have m0:=hkn.mono (Nat.zero_le P) aa
 have m1:=hkn.mono (show P+1<=c.n-1 by omega) aa
 obtain⟨R0,E1,s1⟩:=hb.self.step hb (x:=c.k P) ⟨P,aa,rfl⟩ aa m0 (by grind) (fun i=>(hb.d.kd i).sz.more (by decide))
 have q1:=s1.q.p
 obtain⟨R1,E,s2⟩:=s1.q.step hb (x:=c.k (P+1)) ⟨P+1,hlt,rfl⟩ (by rw[s1.m,q1];have:=s1.r;omega) (by rw[s1.k0];grind) (by rw[s1.k1];exact m1) s1.sd
 refine⟨R0,R1,E1,E,s1,s2,?_⟩
 have f0:E.k 0=c.k 0:=s2.k0.trans s1.k0
 have f1:E.k (E.n-1)=c.k (c.n-1):=s2.k1.trans s1.k1
 have hE:=s2.q.kn.1
 have q2:=s2.q.p
 rw[q2]at hE
 have hlE:=hE.len
 have hp:=hE.p1
 have ha:E.k 0=c.k P\/bS E.k (c.k P) E.n=c.p.toNat:=by
  rcases s1.t with g|g|g
  ·left;rw[s2.k0,g]
  ·rw[s1.k1]at g;exfalso;grind
  ·right;rw[s2.o _ (by grind),g]
 have hbb:E.k (E.n-1)=c.k (P+1)\/bS E.k (c.k (P+1)) E.n=c.p.toNat:=by
  rcases s2.t with g|g|g
  ·exfalso;grind
  ·exact .inl g
  ·exact .inr g
 obtain⟨Q,g1,g2,g3⟩:=s2.q.two hP (ha.elim (fun g=>⟨0,aa,g⟩) fun g=>CY aa) (hbb.elim (fun g=>⟨E.n-1,aa,g⟩) fun g=>CY aa)
 exact⟨Q,hE.Ov g1 g2 g3 ha hbb⟩
theorem ad8 {c d:Cu} {j:Nat} (h:gm c d) (hb:jy c) (hj:j<d.m):o7 (eF c) d.n d.k j=cY (d.f j):=by
 obtain⟨k1,k2,k3,k4,k5⟩:=id hb.d.kn
 obtain⟨d1,d2,d3,d4,d5⟩:=id h.kn
 have hp:=h.p
 rw[hp]at d1
 have hl:=d1.len
 obtain⟨Q,hQ⟩:∃Q,Q=iy d.k d.n j:=⟨_,rfl⟩
 obtain⟨g1,g2,g3⟩:j<=Q/\Q<j+(c.p.toNat+1)/\d.k Q<d.k (Q+1):=by
  rw[hQ]
  exact Jq (n:=d.n) (k:=d.k) (pc:=pX d.k d.n) (fun _=>rfl) (fun _ _=>rfl) (d1.afS aa) aa aa
 have hA:At d.n d.k Q:=⟨aa,d1.sorted,g3⟩
 obtain⟨P,hP,hI,hE⟩:=h.sub.Df d1 hA g1 aa
 have hI2:kq c.n c.k (d.k Q)=P:=by
  unfold kq
  rw[if_neg,hI]
  obtain⟨r,r1,r2⟩:=h.kc Q aa
  rw[r2]
  rintro(g|g)
  ·exact absurd (k1.mono (Nat.zero_le r) r1) (Rat.not_le.2 g)
  ·exact absurd (k1.mono (show r<=c.n-1 by omega) aa) (Rat.not_le.2 g)
 have key:∀e,iQ (eF c) (P:Nat) c.p.toNat (fun i=>d.k (i+(j+1))) e=gY (cY (d.f j)) e:=fun e=>(aaq (c:=eF c) k1 k2 k5 hP).trans (hE e)
 show pR (eF c) (kq c.n c.k (d.k (iy d.k d.n j))) c.p.toNat (fun q=>d.k (q+(j+1)))=_
 rw[<-hQ,hI2]
 unfold pR
 rw[key 0,key 1,key 2,key 3]
 rfl
def KJ:Spec:=cP (kC (zF 2000 4000) (kC (eI 2000) (kC (eI 2000) kN))) (fun a=>fB (wu a.1 a.2.1 a.2.2.1) 2000 sB) fun a=>[∃c P,jy c/\a.1=eF c/\At c.n c.k P/\a.2.1=c.k P/\a.2.2.1=c.k (P+1)/\c.m+(c.p.toNat+c.p.toNat)<=40]
theorem HR {es n m:Nat} {f g:Nat->AV} (h:n=m) (hf:∀i,i<n->bg (f i) (g i)):bg (.aq es n f) (.aq es m g):=by
 subst h
 exact dI hf
theorem abF {c:Cu} {I:Nat} (hb:jy c) (hP:At c.n c.k I) (h40:c.m+(c.p.toNat+c.p.toNat)<=40) (K:Nat):aO P 157 K [fB (eF c) 2000 4000,.rat (c.k I) 2000,.rat (c.k (I+1)) 2000] [] (aI (fB (wu (eF c) (c.k I) (c.k (I+1))) 2000 sB) []):=by
 obtain⟨R0,R1,E1,E,s1,s2,Q,hQ⟩:=Qz hb hP h40
 obtain⟨k1,k2,k3,k4,k5⟩:=id hb.d.kn
 obtain⟨d1,d2,d3,d4,d5⟩:=id s2.q.kn
 have hp:=s2.q.p
 rw[hp]at d1
 obtain⟨w1,w2⟩:=d1.qJ hQ.at_
 have hw:=hQ.at_.wide
 have n1:=s1.n
 have n2:=s2.n
 have r1:=s1.r
 have r2:=s2.r
 have hf:gq (k7 (c.k I) E.k) E.n=Q+1:=vI (by show decide _=true;exact decide_eq_true (by rw[<-hQ.lo];exact hw)) (fun j hj=>decide_eq_false (by
  have:=d1.mono (show j<=Q by omega) aa
  rw[hQ.lo]at this
  exact Rat.not_lt.2 this)) aa
 have hl:gq (lJ (c.k (I+1)) E.k) E.n=Q+1:=vI (by show decide _=true;exact decide_eq_true (by rw[hQ.hi];exact Rat.le_refl)) (fun j hj=>decide_eq_false (by
  have:=d1.mono (show j<=Q by omega) aa
  rw[<-hQ.hi]
  exact Rat.not_le.2 (by grind))) aa
 refine nH (u:=fB (vu (k8 (eF c) E.n E.k) (c.k I) (c.k (I+1)) (Q+1) (Q+1)) sK sB) (l:=[]) (afF (c:=eF c) (a:=c.k I) (b:=c.k (I+1)) (f:=Q+1) (l:=Q+1) (ns:=fun j=>match j with
  |0=>c.n
  |1=>E1.n
  |_=>E.n) (rs:=fun j=>match j with
  |0=>R0
  |_=>R1) (ks:=fun j=>match j with
  |0=>c.k
  |1=>E1.k
  |_=>E.k) k1 k2 k3 (by show c.n<_;omega) (by show c.m<_;omega) rfl rfl (fun j hj=>?_) (fun j hj=>?_) (fun j hj=>?_) hf hl (by show c.p.toNat+1<=_;omega) bq (by show Q+1+c.p.toNat+1<=E.n;omega) K) (fun h=>trivial) rfl rfl ?_
 ·rcases(show j=0\/j=1\/j=2 by omega)with rfl|rfl|rfl
  ·exact⟨bq,show c.n<_ by omega⟩
  ·exact⟨show c.n<=E1.n by omega,show E1.n<_ by omega⟩
  ·exact⟨show c.n<=E.n by omega,show E.n<_ by omega⟩
 ·rcases(show j=0\/j=1 by omega)with rfl|rfl
  ·exact⟨n1,s1.k⟩
  ·exact⟨n2,s2.k⟩
 ·rcases(show j=0\/j=1 by omega)with rfl|rfl
  ·exact s1.j
  ·exact s2.j
 ·refine cz ⟨.refl _,HR (by show c.p.toNat+1+(Q+1-(Q+1))+(c.p.toNat+1)=c.p.toNat+1+(c.p.toNat+1);omega) fun i hi=>?_,HR (by show Q+1-(Q+1-1-c.p.toNat)=c.p.toNat+1;omega) fun i hi=>?_,trivial⟩
  ·have e:oJ c.p.toNat (c.k I) (c.k (I+1)) E.k (Q+1) (Q+1) i=if i<c.p.toNat+1 then c.k I else c.k (I+1):=by
    unfold oJ
    by_cases g:i<c.p.toNat+1
    ·rw[if_pos g,if_pos g]
    ·rw[if_neg g,if_neg aa,if_neg g]
   show bg (.rat (oJ c.p.toNat (c.k I) (c.k (I+1)) E.k (Q+1) (Q+1) i) sK) (.rat (if i<c.p.toNat+1 then c.k I else c.k (I+1)) 2000)
   rw[e]
   refine er rfl (yd ?_)
   split
   ·exact tD (hb.h _)
   ·exact tD (hb.h _)
  ·have hi:i<Q+1-(Q+1-1-c.p.toNat):=hi
   show bg (cu (o7 (eF c) E.n E.k (Q+1-1-c.p.toNat+i)) sB) (cu ((wu (eF c) (c.k I) (c.k (I+1))).f i) sB)
   rw[Nat.add_sub_cancel,ad8 s2.q hb aa,afg s2.q hP hQ aa]
   exact .refl _
theorem acL:aY P KJ 157:=cC fun⟨c,a,b,_⟩ K hn=>by
 obtain⟨g,I,h1,h2,h3,h4,h5,h6⟩:=hn
 have h2:c=eF g:=h2
 have h4:a=g.k I:=h4
 have h5:b=g.k (I+1):=h5
 rw[h2,h4,h5]
 exact abF h1 h3 h6 K
theorem Ze:aW 115 f115:=aN func115
def Nc:Spec:=cP (kC (kL 2000) kN) (fun a=>bp (b9 a.1.2 a.1.1) (bL a.1.2 a.1.1) 2000) fun a=>[a.1.1<2^40,∀i,i<bL a.1.2 a.1.1->Sz (b9 a.1.2 a.1.1 i) 2000]
def xE:aU:=nG::(154,Lw)::(155,Jk)::(112,Nc)::(157,KJ)::(156,HH)::[]
abbrev vS:Code:=aF f115
abbrev uA:List Nat:=[1,3,4,5,17,18,19]
abbrev AM (n:Nat) (F:Nat->Rat) (i:Nat):List AV:=[.ptr 0 0 3 0 [],.own 2 3 0 i,.ptr 1 0 3 0 [],bp F n 2000,bp (fun j=>F (j+1)) (n-1) 2000,.int .i64 ((n-1:Nat):Int),.int .i64 i]
def wL (c:Cu) (F:Nat->Rat) (i:Nat):Cu:=WJ (wu (eF c) (F i) (F (i+1)))
abbrev Be (c:Cu) (F:Nat->Rat) (i:Nat):aD:=[(2,⟨true,true,3,i,fun j=>bh (wL c F j) 2000 sE⟩),(1,⟨false,true,3,1,fun _=>fB (eF c) 2000 4000⟩),(0,⟨false,true,3,1,fun _=>bh c 2000 2000⟩)]
theorem XG {c:Cu}:aM T xE [200010] 60 uA (before vS [1,1,1,1,1,0,1]) ⟨aT 0 [bh c 2000 2000],[],0⟩=
  let c7:Prop:=c.n<2^40;let c6:Nat:=Int.toNat (1:Int);let c5:Nat:=(bK (bh c 2000 2000)).size;let c4:Nat:=bL (fun i=>aC (rat (c.k i) 2000)) c.n;let c3:Prop:=0<1;let c2:Prop:=bT (fun i=>rat (c.k i) 2000) c.n 2000;let c1:Int:=(↑c4:Int);some (aj [c3,bT (fun i=>rat (c.k i) 2000) c.n sJ,dU (fun i=>aK (c.f i) 2000) c.m sJ,qd (Cu.mk c.p c.n (fun i=>aC (rat (c.k i) 2000)) c.m fun i=>aS (aK (c.f i) 2000))] (aj [(!true)=false] (aj [c3,c2,dU (fun i=>aK (c.f i) 2000) c.m 2000,c7,c.m<2^30,c3] (aj [c3,c2,c7,∀(i:Nat),i<c4->Sz (b9 (fun i=>aC (rat (c.k i) 2000)) c.n i) 2000] (aj [(0:Int)<=1/\(1:Int)<=c1/\c1<=c1/\c1<=c1] (leaf normal ([ptr 0 0 c5 0 [],nil,ptr 32768 0 3 0 [],aq 3 c4 fun i=>rat (b9 (fun i=>aC (rat (c.k i) 2000)) c.n i) 2000,aq 3 (c1.toNat-c6) fun i=>rat (b9 (fun i=>aC (rat (c.k i) 2000)) c.n (i+c6)) 2000,int i64 (↑(c1.toNat-c6):Int),int i64 0],[((32768:Nat),bN fun j=>if(j==0)=true then bK (fB (Cu.mk c.p c.n (fun i=>aC (rat (c.k i) 2000)) c.m fun i=>cY (aS (aK (c.f i) 2000))) 2000 4000)else agg [int i64 0,nil,nil]),(0,az.mk false true c5 1 fun x=>bh c 2000 2000)]))))))):=ah
theorem Yw {c:Cu} {n i:Nat} {F:Nat->Rat}:aM T xE [20] 60 uA [part vS [1,1,1,1,1,0,1,0,0]] ⟨aH uA (AM n F i),Be c F i,3⟩=
  let c16:Prop:=2000<=2000;let c15:AV:=int i64 c.p;let c14:Prop:=0<1;let c13:AV:=ptr 1 0 3 0 [];let c12:AV:=ptr 0 0 3 0 [];let c11:AV:=aq 3 n fun i=>rat (F i) 2000;let c10:AV:=aq 3 c.n fun i=>rat (c.k i) 2000;let c9:Int:=(↑i:Int);let c8:Int:=(↑(n-1):Int);let c7:AV:=aq 3 (n-1) fun i=>rat (F (i+1)) 2000;let c4:Nat:=c.p.toNat+1;let c1:Cu:=Cu.mk c.p c.n (fun i=>aC (rat (c.k i) 2000)) c.m fun i=>qD (cu (cY (c.f i)) 4000);let c17:Int:=c9+1;let c5:Nat:=c9.toNat;let c3:List (Nat×az):=[((0:Nat),bN fun x=>agg [c15,c10,aq 12 c.m fun i=>aK (c.f i) 2000])];let c2:Nat×az:=((1:Nat),bN fun x=>agg [c15,c10,aq 12 c.m fun i=>agg [rat ((c.f i).d*(c.f i).n.x) 4000,rat ((c.f i).d*(c.f i).n.y) 4000,rat ((c.f i).d*(c.f i).n.z) 4000,rat (c.f i).d 4000]]);let c6:Rat:=F (c5+1);some (fork (decide (c9<c8)) (aj [(0:Int)<=c9/\c5<n-1,c14] (aj [c14,(0:Int)<=c9/\c5<n,c14,bT (fun i=>rat (c.k i) 2000) c.n 2000,qw (fun i=>cu (cY (c.f i)) 4000) c.m 4000,c16,c16,∃c P,jy c/\c1=eF c/\At c.n c.k P/\F c5=c.k P/\c6=c.k (P+1)/\c.m+(c.p.toNat+c.p.toNat)<=40,bT (fun i=>rat (if i<c4 then F c5 else c6) 2000) (c4+c4) sK,qw (fun i=>cu (Pl.mk (V3.mk (fy c1 (F c5) c6 i 0) (fy c1 (F c5) c6 i 1) (fy c1 (F c5) c6 i 2)) (fy c1 (F c5) c6 i 3)) sB) c4 sB,c4+c4<2^40,c4<2^29,(1:Nat)*3<=2^24,(i+1)*((56:Nat)+1)*2<=2^47] (aj [-(2:Int)^63<=c17/\c17<2^63] (leaf normal ([c12,own 69635 3 0 (i+1),c13,c11,c7,int i64 c8,int i64 c17],c2::(69635,az.mk true true 3 (i+1) fun i_1=>if i_1<i then bh (wL c F i_1) 2000 sE else nth [agg [c15,aq 3 (c4+c4) fun i=>rat (aC (rat (if i<c4 then F c5 else c6) 2000)) (sK+10),aq 12 c4 fun i=>aK (hU (qD (cu (Pl.mk (V3.mk (fy c1 (F c5) c6 i 0) (fy c1 (F c5) c6 i 1) (fy c1 (F c5) c6 i 2)) (fy c1 (F c5) c6 i 3)) sB))) (sB+sB)]] (agg [int i64 0,nil,nil]) (i_1-i+0))::c3))))) (leaf (exit 0) ([c12,own 2 3 0 i,c13,c11,c7,int i64 c8,int i64 c9],c2::(2,az.mk true true 3 i fun j=>agg [c15,aq 3 (c4+c4) fun i=>rat (if i<c4 then F j else F (j+1)) 2000,aq 12 c4 fun i=>agg [agg [rat (fy (eF c) (F j) (F (j+1)) i 0/fy (eF c) (F j) (F (j+1)) i 3) 4294967298,rat (fy (eF c) (F j) (F (j+1)) i 1/fy (eF c) (F j) (F (j+1)) i 3) 4294967298,rat (fy (eF c) (F j) (F (j+1)) i 2/fy (eF c) (F j) (F (j+1)) i 3) 4294967298],rat (fy (eF c) (F j) (F (j+1)) i 3) 4294967298]])::c3))):=ah
theorem abj {c:Cu} {n i:Nat} {F:Nat->Rat}:cR T xE [] 60 f115 [part vS [1,1,1,1,1,1]] ⟨aH uA (AM n F i),Be c F i,3⟩=
  let c1:Nat:=c.p.toNat+1;some (leaf ret [aq 3 i fun i=>agg [int i64 c.p,aq 3 (c1+c1) fun i_1=>rat (if i_1<c1 then F (i+0)else F (i+0+1)) 2000,aq 12 c1 fun i_1=>agg [agg [rat (fy (eF c) (F (i+0)) (F (i+0+1)) i_1 0/fy (eF c) (F (i+0)) (F (i+0+1)) i_1 3) 4294967298,rat (fy (eF c) (F (i+0)) (F (i+0+1)) i_1 1/fy (eF c) (F (i+0)) (F (i+0+1)) i_1 3) 4294967298,rat (fy (eF c) (F (i+0)) (F (i+0+1)) i_1 2/fy (eF c) (F (i+0)) (F (i+0+1)) i_1 3) 4294967298],rat (fy (eF c) (F (i+0)) (F (i+0+1)) i_1 3) 4294967298]]]):=ah
theorem C5 {c:Cu} (hb:jy c) {i:Nat} (hi:i<bL c.k c.n):lR (b9 c.k c.n i):=by
 have hkn:=hb.d.kn.1
 have hl:=hkn.len
 by_cases e:i+1<bL c.k c.n
 ·obtain⟨s,_,h2,_⟩:=yY hkn.sorted e
  rw[<-h2];exact tD (hb.h s)
 ·obtain⟨m,hm2⟩:∃m,c.n=m+1:=⟨c.n-1,aa⟩
  rw[hm2]at hi e ⊢
  obtain⟨_,_,e3⟩:=zW (k:=c.k) (n:=m)
  rw[show i=bL c.k (m+1)-1 by omega,e3]
  exact tD (hb.h m)
theorem adW:aY P Nc 112:=cC fun⟨⟨n,k⟩,_⟩ K hn=>by
 have h1:n<2^40:=hn.1
 have h2:∀i,i<bL k n->Sz (b9 k n i) 2000:=hn.2
 exact nH (u:=ls (b9 k n) (bL k n)) (l:=[bT (fun i=>.rat (k i) 2000) n sJ,n<2^40]) (DW K [bp k n 2000] [] _ rfl) (fun _=>⟨dh (by decide),h1⟩) rfl rfl (dI fun i hi=>er rfl (h2 i hi))
theorem aeW:aZ P xE:=eV (aE OB (aE RF (aE adW (aE acL (aE YC bA)))))
theorem NW (c:Cu) (s r:Nat):(bK (bh c s r)).size=3:=ah
theorem V8 {c:Cu} (hb:jy c) (h40:c.m+(c.p.toNat+c.p.toNat)<=40) (K:Nat):aO P 115 K [bh c 2000 2000] [] (aI (.aq 3 (bL c.k c.n-1) fun i=>bh (wL c (b9 c.k c.n) i) 2000 sE) []):=by
 obtain⟨k1,k2,k3,k4,k5⟩:=id hb.d.kn
 have hl:=k1.len
 have hN:=pP (k:=c.k) (n:=c.n)
 have hN0:0<bL c.k c.n:=by
  obtain⟨m,hm2⟩:∃m,c.n=m+1:=⟨c.n-1,aa⟩
  rw[hm2];exact zW.1
 refine iJ (r:=aI (.aq 3 (bL c.k c.n-1) fun i=>bh (wL c (b9 c.k c.n) i) 2000 sE) []) hT aeW hm Ze rfl aV rfl [1,1,1,1,1,0,1] (i:=0) (y:=part vS [1,1,1,1,1,0,1,0,0]) (z:=part vS [1,1,1,1,1,1]) ah ah ah (f1:=[200010]) (f2:=[20]) (f3:=[]) 60 uA 3
  (fun i:Nat=>AM (bL c.k c.n) (b9 c.k c.n) i) (fun i=>Be c (b9 c.k c.n) i) (fun i=>i<=bL c.k c.n-1) (fun i=>i=bL c.k c.n-1) (fun i=>bL c.k c.n-1-i) (fun _=>⟨⟨_,XG,?_⟩,fun i hi=>⟨_,Yw,?_⟩,fun i hi=>⟨_,abj,?_⟩⟩) K []
 ·simp only[ag.all,au]
  rw[NW c 2000 2000]
  refine⟨⟨aa,dh (by decide),jb (by decide),hb.d.kn⟩,by decide,⟨aa,dh (by decide),jb (by decide),aa,aa,aa⟩,⟨aa,dh (by decide),aa,fun i hi=>yd (C5 hb hi)⟩,?_,0,Nat.zero_le _,[(0,0),(1,32768)],rfl,rfl,rfl,lD rfl aa aa (bf (bf trivial))⟩
  have:(1:Int)<=(bL c.k c.n:Nat):=aa
  exact⟨aa,this,Int.le_refl _,Int.le_refl _⟩
 ·simp only[ag.all,au,bz,bF,bw]
  refine⟨fun h=>?_,fun h=>⟨rfl,i,by dsimp only;omega,[(0,0),(1,1),(2,2)],rfl,rfl,rfl,mm (bf (bf trivial))⟩⟩
  obtain⟨I,h1,h2,h3⟩:=yY k1.sorted (i:=i) (show i+1<bL c.k c.n by omega)
  refine⟨⟨aa,aa⟩,⟨aa,aa,aa,dh (by decide),Dk (by decide),by decide,by decide,⟨c,I,hb,rfl,h1,h2.symm,h3.symm,h40⟩,dh (by decide),Dk bq,aa,aa,aa,aa⟩,aa,i+1,aa,by dsimp only;omega,[(0,0),(1,1),(2,69635)],rfl,rfl,rfl,cI rfl rfl rfl (fun u hu=>yM (g:=fun j=>bh (wL c (b9 c.k c.n) j) 2000 sE) (fun _ _=>⟨rfl,rfl⟩) rfl ?_ hu) (bf (bf trivial))⟩
  refine cz ⟨.refl _,dI fun q _=>er rfl (yd ?_),dI fun q _=>cz ⟨cz ⟨bI rfl (by decide),bI rfl (by decide),bI rfl (by decide),trivial⟩,bI rfl (by decide),trivial⟩,trivial⟩
  show lR (if q<c.p.toNat+1 then b9 c.k c.n i else b9 c.k c.n (i+1))
  split
  ·exact C5 hb aa
  ·exact C5 hb aa
 ·have hi:i=bL c.k c.n-1:=hi
  subst hi
  exact .refl _
theorem Kn.ends {n p:Nat} {k:Nat->Rat} (h:Kn n p k):k 0<k (n-1):=by
 have h1:=h.p1
 have hl:=h.len
 have:=h.mult 1 aa aa
 have e1:=h.mono (show 0<=1 by omega) (show 1<n by omega)
 have e2:=h.mono (show 1+p<=n-1 by omega) (show n-1<n by omega)
 grind
theorem xU {n:Nat} {k:Nat->Rat} {a b:Rat} {i:Nat}:g8 n k a b i=a+(k i-k 0)*((k (n-1)-k 0)⁻¹*(b-a)):=by
 unfold g8;rw[Rat.div_def];grind
theorem Kn.SC {n p:Nat} {k:Nat->Rat} {a b:Rat} (h:Kn n p k) (hab:a<b):Kn n p (g8 n k a b):=by
 have he:=h.ends
 have hp:0<(k (n-1)-k 0)⁻¹*(b-a):=Rat.mul_pos (Rat.inv_pos.2 (by grind)) (by grind)
 have key:∀i j,k i<=k j->g8 n k a b i<=g8 n k a b j:=fun i j hij=>by
  rw[xU,xU]
  have:=Rat.mul_le_mul_of_nonneg_right (show k i-k 0<=k j-k 0 by grind) (Rat.le_of_lt hp)
  grind
 have keyL:∀i j,k i<k j->g8 n k a b i<g8 n k a b j:=fun i j hij=>by
  rw[xU,xU]
  have:=Rat.mul_lt_mul_of_pos_right (show k i-k 0<k j-k 0 by grind) hp
  grind
 have keyE:∀i j,k i=k j->g8 n k a b i=g8 n k a b j:=fun i j hij=>by unfold g8;rw[hij]
 exact⟨h.p1,h.len,fun i hi=>key _ _ (h.sorted i hi),fun i hi=>keyE _ _ (h.first i hi),fun i h2 h3=>keyE _ _ (h.last i h2 h3),fun i h2 h3=>keyL _ _ (h.mult i h2 h3)⟩
theorem ael:aW 61 f61:=aN func61
def KN:aU:=[(111,cO T (sG::gk) [] 100 f111)]
def Iu (x r s y w:Nat):Spec:=cP (kC (gE x r) (kC (ZD s) kN)) (fun a=>bh (Dc a.2.1 a.1) y w) fun a=>[a.1.n<2^30,a.1.m<2^30]
def od (c:Cu) (a b:Rat):Cu:=⟨if b<=a then 0 else c.p,j7 c.n a b,g8 c.n c.k a b,j7 c.m a b,c.f⟩
def Gf:aU:=nG::(109,xZ 64 64 1000)::(110,Iu 64 64 64 100 1000)::KN
theorem VM {c:Cu} {a b:Rat}:bD T Gf [19] 60 f61 (aF f61) ⟨aT 0 [bh c 64 64,.rat a 64,.rat b 64],[],0⟩=
  let c6:Rat:=(↑(1:Int):Rat);let c4:Prop:=bT (fun i=>rat (c.k i) 64) c.n 64;let c3:Prop:=1<=1;let c2:Prop:=0<1;let c1:Nat:=Max.max 1 (bO (Int.natAbs (1:Int)));let c5:Prop:=1<=c1;some (aj [c2,c2,c2,c4,(64:Nat)<=64,(64:Nat)<=64,(1:Nat)<=c.n,c.n<2^40] (fork (jj a b !=(0:Int)) (aj [c2] (aj [c2] (leaf ret [agg [int i64 0,nil,nil],int i64 (jj a b)]))) (aj [c2,c2,c2,c4,dU (fun i=>aK (c.f i) 64) c.m 64,Max.max c1 1<=64,c5,c5,c5,c5,c1<=1,c3,c3,c1<=1,c3,c3,c.n<2^30,c.m<2^30,c2] (aj [c2] (leaf ret [agg [int i64 c.p,aq 3 (j7 c.n a b) fun i=>rat (g8 c.n (fun i=>aC (rat (c.k i) 64)) a b i) 1000,aq 12 c.m fun i=>agg [agg [rat (iR (V3.mk c6 0 0) (V3.mk (aC (rat (c.f i).n.x 64)) (aC (rat (c.f i).n.y 64)) (aC (rat (c.f i).n.z 64))) 0) 1000,rat (iR (V3.mk 0 c6 0) (V3.mk (aC (rat (c.f i).n.x 64)) (aC (rat (c.f i).n.y 64)) (aC (rat (c.f i).n.z 64))) 0) 1000,rat (iR (V3.mk 0 0 c6) (V3.mk (aC (rat (c.f i).n.x 64)) (aC (rat (c.f i).n.y 64)) (aC (rat (c.f i).n.z 64))) 0) 1000],rat (aC (rat (c.f i).d 64)) 1000]],int i64 0]))))):=ah
theorem Vg:aZ P KN:=aE (cQ hT (ct gz) hm (aN func111) _ _) bA
theorem Qc {x r s y w:Nat} (hx:x+10<=y) (hy:y<2^40) (hw:4*s+3*r+10<=w) (hw2:w<2^40):aY P (Iu x r s y w) 110:=cC fun⟨c,m,_⟩ K hn=>Yr hx hy hw hw2 hn.1 hn.2 K
theorem Wj:aZ P Gf:=eV (aE (WC (by decide) (by decide)) (aE (Qc (by decide) (by decide) (by decide) (by decide)) Vg))
theorem s9:((1:Int):Rat)=1:=rfl
theorem afY {v:V3}:iR ⟨((1:Int):Rat),0,0⟩ v 0=v.x:=by unfold iR;rw[s9];dsimp only;grind
theorem Xe {v:V3}:iR ⟨0,((1:Int):Rat),0⟩ v 0=v.y:=by unfold iR;rw[s9];dsimp only;grind
theorem O7 {v:V3}:iR ⟨0,0,((1:Int):Rat)⟩ v 0=v.z:=by unfold iR;rw[s9];dsimp only;grind
theorem El {c:Cu} {a b:Rat} (h:jj a b≠0):od c a b=⟨0,0,g8 c.n c.k a b,0,c.f⟩:=by
 have hab:b<=a:=by
  by_cases h2:b<=a
  ·exact h2
  ·exact absurd (if_neg h2) h
 unfold od j7;simp only[if_pos hab]
theorem abJ {c:Cu} {a b:Rat} (h:jj a b=0):od c a b=⟨c.p,c.n,g8 c.n c.k a b,c.m,c.f⟩/\j7 c.n a b=c.n:=by
 have hab:¬b<=a:=by
  intro h2
  unfold jj at h;rw[if_pos h2]at h;exact absurd h (by decide)
 unfold od j7;simp only[if_neg hab];exact⟨trivial,trivial⟩
theorem X3 {c:Cu} {s r:Nat} (hp:c.p=0) (hn:c.n=0) (hm2:c.m=0):bg (.agg [.int .i64 0,.nil,.nil]) (bh c s r):=by
 obtain⟨p,n,k,m,f⟩:=c
 dsimp only at hp hn hm2
 subst hp hn hm2
 exact cz ⟨.refl _,lO (by decide),lO (by decide),trivial⟩
theorem Ty {c:Cu} {a b:Rat} (hn1:1<=c.n) (hn:c.n<2^30) (hm2:c.m<2^30) (K:Nat):aO P 61 K [bh c 64 64,.rat a 64,.rat b 64] [] (aI (.tuple [bh (od c a b) 1000 1000,.int .i64 (jj a b)]) []):=by
 refine bJ (r:=aI (.tuple [bh (od c a b) 1000 1000,.int .i64 (jj a b)]) []) hT Wj hm ael rfl aV rfl 60 VM (fun _=>?_) K []
 simp only[ag.all,au,bne_iff_ne,ne_eq,bne_eq_false_iff_eq]
 refine⟨⟨aa,aa,aa,dh bq,aa,aa,hn1,aa⟩,fun hE=>⟨aa,aa,?_⟩,fun hE=>⟨?_,aa,?_⟩⟩
 ·exact⟨X3 (by rw[El hE]) (by rw[El hE]) (by rw[El hE]),.refl _,trivial⟩
 ·(repeat' with_reducible refine And.intro ?_ ?_)
  all_goals first|omega|decide|exact dh bq|exact jb bq
 ·obtain⟨e1,e2⟩:=abJ (c:=c) hE
  rw[e1,e2,hE]
  exact⟨cz ⟨.refl _,.refl _,dI fun i _=>cz ⟨cz ⟨bI afY bq,bI Xe bq,bI O7 bq,trivial⟩,.refl _,trivial⟩,trivial⟩,.refl _,trivial⟩
def CK (q:Pl):Prop:=q=⟨⟨0,0,0⟩,1⟩\/q=⟨⟨2,0,0⟩,1⟩
def gi (c:Cu):Prop:=dx c/\(∀i,i<4->c.k i=bk i)/\CK (c.f 0)/\CK (c.f 1)
abbrev pA (b:Bool):Pl:=if b=true then⟨⟨2,0,0⟩,1⟩else⟨⟨0,0,0⟩,1⟩
abbrev cW (a b:Bool) (i:Nat):Pl:=if i=0 then pA a else pA b
def Fc:Spec:=cP (kC (gE 64 64) (kC (eI 64) (kC (eI 64) kN))) (fun a=>.tuple [bh (aG bk a.1.f) 64 64,.int .i64 0]) fun a=>[gi a.1,a.2.1=0,a.2.2.1=1]
def IN:aU:=(158,Fc)::Ck
theorem aem {f:Nat->Pl}:bD T (sG::IN) [] 60 f116 (aF f116) ⟨aT 0 [.aq 3 1 (fun _=>bh (aG bk f) 64 64),.rat 0 64,.rat 1 64],[],0⟩=
  let c10:Nat:=64+1+1;let c9:Pl:=f (Int.toNat (0:Int));let c7:Prop:=0<1;let c6:Nat:=64+64;let c4:AV:=rat 0 1;let c3:Pl:=f (i64.wrap ((0:Int)+1)).toNat;let c2:Prop:=((1:Nat)+1)*((56:Nat)+1)*2<=2^47;let c8:Rat:=aC (rat c3.d 64);let c5:Rat:=aC (rat c9.d 64);let c1:Prop:=c7/\1*((56:Nat)+1)*2<=2^47;some (aj [bT (fun i=>rat (bk i) 64) 4 64,dU (fun i=>aK (f i) 64) 2 64,(64:Nat)<=64,(64:Nat)<=64,gi (Cu.mk (1:Int) 4 (fun i=>aC (rat (bk i) 64)) 2 fun i=>aS (aK (f i) 64)),(0:Rat)=0,(1:Rat)=1] (aj [c7,c1,c1,c1,c1,c7,c2,c2,c2,c2,c7] (aj [c7] (leaf ret [agg [aq 3 2 fun i=>if i+0<1 then nth [rat (c5*aC (rat c9.n.x 64)) c6] c4 (i+0+0)else nth [rat (c8*aC (rat c3.n.x 64)) c6] c4 (i+0-1+0),aq 3 2 fun i=>if i+0<1 then nth [rat (c5*aC (rat c9.n.y 64)) c6] c4 (i+0+0)else nth [rat (c8*aC (rat c3.n.y 64)) c6] c4 (i+0-1+0),aq 3 2 fun i=>if i+0<1 then nth [rat (c5*aC (rat c9.n.z 64)) c6] c4 (i+0+0)else nth [rat (c8*aC (rat c3.n.z 64)) c6] c4 (i+0-1+0),aq 3 2 fun i=>if i+0<1 then nth [rat (c5+0) c10] c4 (i+0+0)else nth [rat (c8+0) c10] c4 (i+0-1+0)]])))):=ah
theorem Ux:aW 158 f158:=aN func158
theorem ni {q:Pl} (h:CK q):∃b,q=pA b:=by
 rcases h with h|h
 ·exact⟨false,h⟩
 ·exact⟨true,h⟩
theorem adN:aZ P K9:=aE (cQ hT (Cz (aE EL gz)) hm (aN func205) _ _) (aE (cQ hT (ct gz) hm (aN func161) _ _) bA)
theorem SS:aZ P MA:=Cz (aE EL (gP adN gz))
theorem aeS:aZ P Lh:=aE (cQ hT (ct gz) hm (aN func204) _ _) bA
theorem Gp:aZ P Ck:=aE (cQ hT (ct (gP aeS (gP Ka gz))) hm (aN func193) _ _) (aE (cQ hT (ct (aE (cQ hT (ct gz) hm (aN func187) _ _) gz)) hm (aN func159) _ _) (aE (cQ hT SS hm (aN func194) _ _) (aE (cQ hT (ct gz) hm (aN func188) _ _) bA)))
theorem Zn:aZ P Lq:=ct (gP Gp gz)
theorem Mt {P:Program} {f:FuncId} {K:Nat} {args us vs:List AV} {l l':List Prop} (hf:aO P f K args [] ⟨.tuple us,[],l⟩) (hl:au l'->au l) (hk:bH us=[]) (hle:dH us vs):aO P f K args [] ⟨.tuple vs,[],l'⟩:=by
 intro need
 obtain⟨h1,h2⟩:=hf (hl need)
 refine⟨fun k o ho=>by simp[look]at ho,fun c D D' β w vs hw0 hMw hrel hD hK hv=>(h2 c D D' β w vs hw0 hMw hrel hD hK hv).mono ?_⟩
 rintro x w' ⟨β',g1,g2,xs,rfl,g3⟩
 exact⟨β',g1,g2,xs,rfl,(vQ hle (g3.bu hk)).mono (fun b o h1 h2=>⟨h2,h1⟩) (β':=β') fun k x hx=>by simp[bu]at hx⟩
theorem Aq {x y z d:Rat} {a b c e w:Nat} {q:Pl} (h1:x=q.n.x/\y=q.n.y/\z=q.n.z/\d=q.d) (s1:Sz q.n.x w/\Sz q.n.y w/\Sz q.n.z w/\Sz q.d w):bg (.agg [.agg [.rat x a,.rat y b,.rat z c],.rat d e]) (aK q w):=by
 obtain⟨rfl,rfl,rfl,rfl⟩:=h1
 exact cz ⟨cz ⟨er rfl s1.1,er rfl s1.2.1,er rfl s1.2.2.1,trivial⟩,er rfl s1.2.2.2,trivial⟩
set_option maxHeartbeats 4000000 in
theorem adV (a b:Bool) (K:Nat):aO P 158 K [bh (aG bk (cW a b)) 64 64,.rat 0 1,.rat 1 1] [] (aI (.tuple [bh (aG bk (cW a b)) 64 64,.int .i64 0]) []):=by
 refine bJ (r:=aI (.tuple [bh (aG bk (cW a b)) 64 64,.int .i64 0]) []) hT Zn hm Ux rfl aV rfl 400 agv (fun _=>?_) K []
 simp only[ag.all,au,ta]
 (repeat' with_reducible refine And.intro ?_ ?_)
 all_goals first|omega|(with_reducible exact trivial)|decide+kernel|skip
 refine⟨cz ⟨.refl _,dI fun i hi=>?_,dI fun i hi=>?_,trivial⟩,.refl _,trivial⟩
 ·match i,hi with
  |0,_|1,_=>exact bI (show(0:Rat)+0=0 by decide+kernel) (by decide+kernel)
  |2,_|3,_=>exact bI (show(1:Rat)+0=1 by decide+kernel) (by decide+kernel)
 ·cases a<;>cases b
  all_goals
   match i,hi with
   |0,_|1,_=>exact Aq (by decide+kernel) (by unfold Sz;decide+kernel)
theorem VR:aY P Fc 158:=cC fun⟨c,a,b,_⟩ K hn=>by
 obtain⟨⟨h1,h2,h3,h4⟩,e1,e2⟩:gi c/\a=0/\b=1:=hn
 subst e1 e2
 obtain⟨x,h3⟩:=ni h3
 obtain⟨y,h4⟩:=ni h4
 dsimp only
 rw[mC h1]
 have hf:∀i,i<2->c.f i=cW x y i:=fun i hi=>by
  match i,hi with
  |0,_=>exact h3
  |1,_=>exact h4
 have hz:∀b:Bool,Sz (pA b).n.x 64/\Sz (pA b).n.y 64/\Sz (pA b).n.z 64/\Sz (pA b).d 64:=by unfold Sz;decide+kernel
 have hp:∀i,i<2->bg (aK (cW x y i) 64) (aK (c.f i) 64)/\bg (aK (c.f i) 64) (aK (cW x y i) 64):=fun i hi=>by rw[hf i hi];exact⟨.refl _,.refl _⟩
 refine eW (args':=[bh (aG bk (cW x y)) 64 64,.rat 0 1,.rat 1 1]) (Mt (us:=[bh (aG bk (cW x y)) 64 64,.int .i64 0]) (adV x y K) (fun _=>trivial) rfl (show dH [bh (aG bk (cW x y)) 64 64,.int .i64 0] [bh (aG bk c.f) 64 64,.int .i64 0]from⟨cz ⟨.refl _,.refl _,dI fun i hi=>(hp i hi).1,trivial⟩,.refl _,trivial⟩)) rfl ?_ []
 refine(show dH [bh (aG c.k c.f) 64 64,.rat 0 64,.rat 1 64] [bh (aG bk (cW x y)) 64 64,.rat 0 1,.rat 1 1]from⟨cz ⟨.refl _,dI fun i hi=>bI (h2 i hi) bq,dI fun i hi=>(hp i hi).2,trivial⟩,er rfl (by unfold Sz;decide+kernel),er rfl (by unfold Sz;decide+kernel),trivial⟩)
theorem Um:aW 117 f117:=aN func117
theorem Za:aW 118 f118:=aN func118
theorem Pk:aW 208 f208:=aN func208
def FN:aU:=[(160,cO T (sG::gk) [] 200 f160),(161,cO T (sG::gk) [] 60 f161)]
def dX (p q:Nat->Rat) (i:Nat):Rat:=if i=0 then p 0*q 0 else if i=1 then(p 0*q 1+p 1*q 0)/2 else p 1*q 1
def Jv:Spec:=cP (kC (kL 200) (kC (kL 200) kN)) (fun a=>.tuple [bp (dX a.1.2 a.2.1.2) 3 2000,.int .i64 0]) fun a=>[a.1.1=2,a.2.1.1=2]
def Nz:aU:=[(206,cO T (sG::gk) [] 200 f206)]
def Ju:aU:=[(209,cO T (sG::(Nz++gk)) [] 200 f209)]
def Iz:aU:=[(197,cO T (sG::(Ju++gk)) [] 200 f197)]
def II:aU:=sG::(Iz++gk)
def E9:Spec:=cP (kC (kL 2000) (kC (kL 2000) kN)) (fun a=>bp (fun i=>a.1.2 i-a.2.1.2 i) 3 9000) fun a=>[a.1.1=3,a.2.1.1=3]
def sw (p:Nat->Rat):Int:=if p 0=0 then(if p 1=0 then(if p 2=0 then-1 else 2)else 1)else 0
def IG:Spec:=cP (kC (kL 9000) (kC ZC kN)) (fun a=>.int .i64 (sw a.1.2)) fun a=>[a.1.1=3,a.2.1=196]
def FW:aU:=sG::(196,cO T (sG::gk) [] 60 f196)::[]
def Ll:aU:=[(195,cO T (sG::(208,IG)::[]) [] 60 f195)]
def EP:aU:=[(162,cO T (sG::Ll) [] 60 f162)]
def Ih:aU:=sG::(163,E9)::EP
def HL:Spec:=cP (kC (kL 2000) (kC (kL 2000) kN)) (fun a=>.bool (decide (a.1.2 0=a.2.1.2 0/\a.1.2 1=a.2.1.2 1/\a.1.2 2=a.2.1.2 2))) fun a=>[a.1.1=3,a.2.1.1=3]
theorem abp {p q:Nat->Rat}:bD T (sG::(FN++gk)) [] 400 f117 (aF f117) ⟨aT 0 [bp p 2 200,bp q 2 200],[],0⟩=
  let c43:Int:=(↑(56:Nat):Int);let c40:Prop:=0<1;let c36:Int:=i64.wrap ((↑(2:Nat):Int)-1);let c35:Nat:=Int.toNat (0:Int);let c32:Int:=(2:Int)^47;let c30:Int:=i64.wrap ((1:Int)+1);let c23:Nat:=1+1;let c21:Rat:=(↑(1:Int):Rat);let c16:Nat:=(i64.wrap ((0:Int)+0)).toNat+0;let c15:Nat:=Max.max 1 (bO (Int.natAbs (1:Int)));let c8:Int:=i64.wrap ((0:Int)+1);let c37:Int:=(↑c23:Int);let c34:Nat:=Max.max 1 (bO c30.natAbs);let c33:Int:=(↑(c23+1):Int);let c31:Prop:=c23*((8:Nat)+1)*2<=2^47;let cH:Int:=i64.wrap (i64.wrap (c36+c36)+1);let c19:Nat:=(i64.wrap (c8+c8)).toNat+0;let c18:Nat:=(i64.wrap ((0:Int)+c8)).toNat+0;let c17:Nat:=(i64.wrap (c8+0)).toNat+0;let c14:Nat:=(i64.wrap (c8+1)).toNat+0;let c13:Nat:=c8.toNat+0;let c10:Nat:=c35+0;let c42:Rat:=bif c13==c10 then c21 else 0;let c41:Rat:=bif c10==c10 then c21 else 0;let c39:Nat:=bif c10==c10 then c15 else 1;let c38:Nat:=bif c13==c10 then c15 else 1;let c29:Prop:=(0:Int)<=c37/\c37<=c37/\c37<=c32/\c37*c43<=c32;let c28:Rat:=bif c13==c13 then c21 else c42;let c27:Rat:=bif c10==c13 then c21 else c41;let c26:Nat:=(bif c10==c13 then c15 else c39)+200;let c25:Nat:=(bif c13==c13 then c15 else c38)+200;let c9:Rat:=0+c27*p c35*(c27*q c35);let c7:Nat:=1+(c26+c26)+1;let c6:Rat:=(bif c18==c16 then c9 else 0)+c27*p c35*(c28*q c8.toNat);let c5:Nat:=(bif c18==c16 then c7 else 1)+(c26+c25)+1;let c4:Rat:=(bif c17==c18 then c6 else bif c17==c16 then c9 else 0)+c28*p c8.toNat*(c27*q c35);let c3:Nat:=(bif c17==c18 then c5 else bif c17==c16 then c7 else 1)+(c25+c26)+1;let c2:Rat:=(bif c19==c17 then c4 else bif c19==c18 then c6 else bif c19==c16 then c9 else 0)+c28*p c8.toNat*(c28*q c8.toNat);let c1:Nat:=(bif c19==c17 then c3 else bif c19==c18 then c5 else bif c19==c16 then c7 else 1)+(c25+c25)+1;let c12:Rat:=(bif c10==c19 then c2 else bif c10==c17 then c4 else bif c10==c18 then c6 else bif c10==c16 then c9 else 0)/bif c10==c14 then c21 else bif c10==c13 then(↑c30:Rat)else c41;let c11:Nat:=(bif c10==c19 then c1 else bif c10==c17 then c3 else bif c10==c18 then c5 else bif c10==c16 then c7 else 1)+bif c10==c14 then c15 else bif c10==c13 then c34 else c39;let c24:Rat:=(bif c13==c10 then c12 else bif c13==c19 then c2 else bif c13==c17 then c4 else bif c13==c18 then c6 else bif c13==c16 then c9 else 0)/bif c13==c14 then c21 else bif c13==c13 then(↑c30:Rat)else c42;let c22:Nat:=(bif c13==c10 then c11 else bif c13==c19 then c1 else bif c13==c17 then c3 else bif c13==c18 then c5 else bif c13==c16 then c7 else 1)+bif c13==c14 then c15 else bif c13==c13 then c34 else c38;some (aj [c31,c29,c31,c29,c31,(c23+1)*((8:Nat)+1)*2<=2^47,(0:Int)<=c33/\c33<=c33/\c33<=c32/\c33*c43<=c32] (aj [(0:Int)<=cH/\cH<=cH/\cH<=c32/\cH*c43<=c32] (aj [c40] (aj [c40] (aj [c40] (leaf ret [aq 3 3 fun i=>rat (bif i+0==c14 then(bif c14==c13 then c24 else bif c14==c10 then c12 else bif c14==c19 then c2 else bif c14==c17 then c4 else bif c14==c18 then c6 else bif c14==c16 then c9 else 0)/bif c14==c14 then c21 else bif c14==c13 then(↑c30:Rat)else bif c14==c10 then c21 else 0 else bif i+0==c13 then c24 else bif i+0==c10 then c12 else bif i+0==c19 then c2 else bif i+0==c17 then c4 else bif i+0==c18 then c6 else bif i+0==c16 then c9 else 0) (bif i+0==c14 then(bif c14==c13 then c22 else bif c14==c10 then c11 else bif c14==c19 then c1 else bif c14==c17 then c3 else bif c14==c18 then c5 else bif c14==c16 then c7 else 1)+bif c14==c14 then c15 else bif c14==c13 then c34 else bif c14==c10 then c15 else 1 else bif i+0==c13 then c22 else bif i+0==c10 then c11 else bif i+0==c19 then c1 else bif i+0==c17 then c3 else bif i+0==c18 then c5 else bif i+0==c16 then c7 else 1),int i64 0])))))):=ah
theorem aa0 {p:Nat->Rat}:bD T FW [16] 60 f208 (aF f208) ⟨aT 0 [bp p 3 9000,.func 196 []],[],0⟩=
  let c1:Int:=i64.wrap ((0:Int)+1);some (fork (eE (p (Int.toNat (0:Int)))!=0) (leaf ret [int i64 0]) (fork (eE (p c1.toNat)!=0) (leaf ret [int i64 1]) (fork (eE (p (i64.wrap (c1+1)).toNat)!=0) (leaf ret [int i64 2]) (leaf ret [int i64 (-1:Int)])))):=ah
theorem PE {p q:Nat->Rat}:bD T II [] 60 f163 (aF f163) ⟨aT 0 [bp p 3 2000,bp q 3 2000],[],0⟩=
  let c16:Int:=i64.wrap ((0:Int)+1);let c15:Int:=(2:Int)^47;let c14:Int:=(↑(3:Nat):Int);let c9:Nat:=Int.toNat (0:Int);let c5:Nat:=2000+1+1;let c22:Rat:=q c9+0;let c18:Rat:=p c9+0;let c8:Prop:=(0:Int)<=c14/\c14<=c14/\c14<=c15/\c14*(↑(56:Nat):Int)<=c15;let c7:Nat:=c16.toNat;let c4:Nat:=c9+0;let c3:Int:=(↑c14.toNat:Int);let c1:Nat:=(i64.wrap (c16+1)).toNat;let c21:Rat:=p c7+0;let cH:Rat:=q c7+0;let c19:Rat:=q c1+0;let c17:Rat:=p c1+0;let c10:Int:=if c3<c3 then c3 else c3;let c6:Nat:=c1+0;let c2:Nat:=c7+0;let c13:Nat:=bif c4==c6 then c5 else bif c4==c2 then c5 else bif c4==c4 then c5 else 1;let c12:Nat:=bif c6==c6 then c5 else bif c6==c2 then c5 else bif c6==c4 then c5 else 1;let c11:Nat:=bif c2==c6 then c5 else bif c2==c2 then c5 else bif c2==c4 then c5 else 1;some (aj [c8,c8,(0:Int)<=c10/\c10<=c10/\c10<=c15/\c10*(↑(56:Nat):Int)<=c15] (leaf ret [aq 3 3 fun i=>rat (bif i+0==c6 then(bif c6==c6 then c17 else bif c6==c2 then c21 else bif c6==c4 then c18 else 0)-bif c6==c6 then c19 else bif c6==c2 then cH else bif c6==c4 then c22 else 0 else bif i+0==c2 then(bif c2==c6 then c17 else bif c2==c2 then c21 else bif c2==c4 then c18 else 0)-bif c2==c6 then c19 else bif c2==c2 then cH else bif c2==c4 then c22 else 0 else bif i+0==c4 then(bif c4==c6 then c17 else bif c4==c2 then c21 else bif c4==c4 then c18 else 0)-bif c4==c6 then c19 else bif c4==c2 then cH else bif c4==c4 then c22 else 0 else 0) (bif i+0==c6 then c12+c12+1 else bif i+0==c2 then c11+c11+1 else bif i+0==c4 then c13+c13+1 else 1)])):=ah
theorem Vu {p q:Nat->Rat}:bD T Ih [] 60 f118 (aF f118) ⟨aT 0 [bp p 3 2000,bp q 3 2000],[],0⟩=
  let c2:Prop:=3=3;let c1:Int:=sw fun i=>aC (rat (aC (rat (p i) 2000)-aC (rat (q i) 2000)) 9000);some (aj [bT (fun i=>rat (p i) 2000) 3 2000,bT (fun i=>rat (q i) 2000) 3 2000,c2,c2,bT (fun i=>rat (aC (rat (p i) 2000)-aC (rat (q i) 2000)) 9000) 3 9000,c2,196=196] (leaf ret [AV.bool !decide (c1>=0)])):=ah
theorem adf:aZ P FN:=aE (cQ hT (ct gz) hm (aN func160) _ _) (aE (cQ hT (ct gz) hm (aN func161) _ _) bA)
theorem ahb:aZ P Nz:=aE (cQ hT (ct gz) hm (aN func206) _ _) bA
theorem SW:aZ P Ju:=aE (cQ hT (ct (gP ahb gz)) hm (aN func209) _ _) bA
theorem aci:aZ P Iz:=aE (cQ hT (ct (gP SW gz)) hm (aN func197) _ _) bA
theorem Tf:aW 163 f163:=aN func163
theorem acg:aZ P II:=ct (gP aci gz)
theorem agw:aY P E9 163:=cC fun⟨⟨n,p⟩,⟨m,q⟩,_⟩ K hn=>by
 obtain⟨h1,h2⟩:n=3/\m=3:=hn
 subst h1 h2
 refine bJ (r:=aI (bp (fun i=>p i-q i) 3 9000) []) hT acg hm Tf rfl aV rfl 60 PE (fun _=>?_) K []
 simp only[ag.all,au]
 (repeat' with_reducible refine And.intro ?_ ?_)
 all_goals first|omega|(with_reducible exact trivial)|decide+kernel|skip
 refine dI fun i hi=>?_
 have f:∀x y:Rat,x+0-(y+0)=x-y:=fun x y=>by grind
 match i,hi with
 |0,_=>exact bI (f (p 0) (q 0)) (by decide+kernel)
 |1,_=>exact bI (f (p 1) (q 1)) (by decide+kernel)
 |2,_=>exact bI (f (p 2) (q 2)) (by decide+kernel)
theorem ZQ:aZ P FW:=ct (aE (cQ hT (ct gz) hm (aN func196) _ _) bA)
theorem Wg:aY P IG 208:=cC fun⟨⟨n,p⟩,g,_⟩ K hn=>by
 obtain⟨h1,h2⟩:n=3/\g=196:=hn
 subst h1 h2
 refine bJ (r:=aI (.int .i64 (sw p)) []) hT ZQ hm Pk rfl aV rfl 60 aa0 (fun _=>?_) K []
 have hz:∀x:Rat,eE x=0↔x=0:=fun x=>by unfold eE;grind
 have e1:p (i64.wrap ((0:Int)+1)).toNat=p 1:=rfl
 have e2:p (i64.wrap (i64.wrap ((0:Int)+1)+1)).toNat=p 2:=rfl
 simp only[ag.all,au,e1,e2,Int.toNat_zero]
 unfold sw
 by_cases c0:p 0=0<;>by_cases c1:p 1=0<;>by_cases c2:p 2=0<;>simp[c0,c1,c2,hz,fz,bg.refl]
theorem agb:aZ P Ll:=aE (cQ hT (ct (aE Wg bA)) hm (aN func195) _ _) bA
theorem Yv:aZ P EP:=aE (cQ hT (ct agb) hm (aN func162) _ _) bA
theorem abS:aZ P Ih:=ct (aE agw Yv)
theorem afi:aY P Jv 117:=cC fun⟨⟨n,p⟩,⟨m,q⟩,_⟩ K hn=>by
 obtain⟨h1,h2⟩:n=2/\m=2:=hn
 subst h1 h2
 refine bJ (r:=aI (.tuple [bp (dX p q) 3 2000,.int .i64 0]) []) hT (ct (gP adf gz)) hm Um rfl aV rfl 400 abp (fun _=>?_) K []
 simp only[ag.all,au]
 (repeat' with_reducible refine And.intro ?_ ?_)
 all_goals first|omega|(with_reducible exact trivial)|decide+kernel|skip
 refine⟨dI fun i hi=>?_,.refl _,trivial⟩
 have d2:((2:Int):Rat)=2:=by decide+kernel
 have f0:(0+((1:Int):Rat)*p 0*(((1:Int):Rat)*q 0))/((1:Int):Rat)=dX p q 0:=by unfold dX;rw[s9];rw[if_pos rfl,Rat.div_def];grind
 have f1:(0+((1:Int):Rat)*p 0*(((1:Int):Rat)*q 1)+((1:Int):Rat)*p 1*(((1:Int):Rat)*q 0))/((2:Int):Rat)=dX p q 1:=by unfold dX;rw[s9,d2];rw[if_neg (by decide),if_pos rfl];grind
 have f2:(0+((1:Int):Rat)*p 1*(((1:Int):Rat)*q 1))/((1:Int):Rat)=dX p q 2:=by unfold dX;rw[s9];rw[if_neg (by decide),if_neg (by decide),Rat.div_def];grind
 match i,hi with
 |0,_=>exact bI f0 (by decide+kernel)
 |1,_=>exact bI f1 (by decide+kernel)
 |2,_=>exact bI f2 (by decide+kernel)
theorem TA:aY P HL 118:=cC fun⟨⟨n,p⟩,⟨m,q⟩,_⟩ K hn=>by
 obtain⟨h1,h2⟩:n=3/\m=3:=hn
 subst h1 h2
 refine bJ (r:=aI (.bool (decide (p 0=q 0/\p 1=q 1/\p 2=q 2))) []) hT abS hm Za rfl aV rfl 60 Vu (fun _=>?_) K []
 simp only[ag.all,au]
 (repeat' with_reducible refine And.intro ?_ ?_)
 all_goals first|omega|(with_reducible exact trivial)|exact dh bq|skip
 refine gQ ?_
 have e:∀F:Nat->Rat,(!decide (sw F>=0))=decide (F 0=0/\F 1=0/\F 2=0):=fun F=>by
  unfold sw
  by_cases c0:F 0=0<;>by_cases c1:F 1=0<;>by_cases c2:F 2=0<;>simp[c0,c1,c2]
 refine(e (fun i=>p i-q i)).trans (decide_eq_decide.2 ?_)
 grind
def LW (c:Cu) (t:Rat):V3:=kO (c.f 0).n (gW ((t-c.k 0)/(c.k 3-c.k 0)) (bV (c.f 1).n (c.f 0).n))
def qy (c:Cu):Prop:=dx c/\c.k 0=c.k 1/\c.k 2=c.k 3/\c.k 0<c.k 3/\(c.f 0).d=1/\(c.f 1).d=1
theorem qy.kn {c:Cu} (h:qy c):Kn c.n c.p.toNat c.k:=by
 obtain⟨⟨h1,h2,h3⟩,h4,h5,h6,_⟩:=h
 rw[h1,h2]
 refine⟨bq,bq,fun i hi=>?_,fun i hi=>?_,fun i hi hi2=>?_,fun i hi hi2=>?_⟩
 ·match i,hi with
  |0,_=>rw[h4];exact Rat.le_refl
  |1,_=>show c.k 1<=c.k 2;rw[h5,<-h4];exact Rat.le_of_lt h6
  |2,_=>rw[h5];exact Rat.le_refl
 ·match i,hi with
  |0,_=>rfl
  |1,_=>exact h4.symm
 ·have hi:4<=i+1+1:=hi
  match i,hi,hi2 with
  |2,_,_=>exact h5
  |3,_,_=>rfl
 ·have hi2:i+1+1<4:=hi2
  obtain rfl:i=1:=aa
  show c.k 1<c.k 2
  rw[h5,<-h4];exact h6
theorem qy.cS {c:Cu} (h:qy c) {t:Rat} (ht:c.k 0<=t):cS c.n c.k t=1:=by
 obtain⟨⟨h1,h2,h3⟩,h4,h5,h6,_⟩:=h
 rw[h2]
 have e1:c.k 1<c.k 2:=by rw[h5,<-h4];exact h6
 have e2:c.k 1<=t:=by rw[<-h4];exact ht
 have e3:¬c.k 2<c.k 3:=by rw[h5];grind
 unfold Go.Am.B.cS
 simp[kG,e1,e2,e3]
theorem qy.ev {c:Cu} (h:qy c) {t:Rat} (ht:c.k 0<=t) (ht2:t<=c.k 3):IL c t=LW c t/\yI c.n c.k t=0:=by
 have hi:=h.cS ht
 obtain⟨⟨h1,h2,h3⟩,h4,h5,h6,h7,h8⟩:=h
 have ho:¬kX c.n c.k t:=by
  unfold kX
  rw[h2,show 4-1=3 from rfl]
  rintro(g|g)<;>grind
 refine⟨?_,if_neg ho⟩
 unfold IL
 rw[if_neg ho]
 unfold MP
 rw[hi,h1]
 have v0:vB c.k 1 t 1 0=1-(t-c.k 0)/(c.k 3-c.k 0):=by
  simp[vB,fr,<-h4,h5,Rat.zero_add,Rat.add_zero,Rat.one_mul,Rat.mul_one]
 have v1:vB c.k 1 t 1 1=(t-c.k 0)/(c.k 3-c.k 0):=by
  simp[vB,fr,<-h4,h5,Rat.zero_add,Rat.add_zero,Rat.one_mul,Rat.mul_one]
 unfold LW
 generalize (t-c.k 0)/(c.k 3-c.k 0)=s at*
 show Bz (ze c (vB c.k 1 t 1) 0 2)=_
 have hs:ze c (vB c.k 1 t 1) 0 2=⟨kO (c.f 0).n (gW s (bV (c.f 1).n (c.f 0).n)),1⟩:=by
  unfold ze
  simp only[rB,Nat.zero_add,v0,v1,h7,h8,kO,gW,bV]
  refine congr (congrArg Pl.mk (mw ?_ ?_ ?_)) ?_<;>first|(dsimp only;grind)|grind
 rw[hs]
 unfold Bz
 rw[show(((1:Int):Rat)/1)=1 by decide+kernel]
 exact mw (Rat.one_mul _) (Rat.one_mul _) (Rat.one_mul _)
theorem L6:aW 62 f62:=aN func62
theorem YZ:aW 116 f116:=aN func116
abbrev jv (i:Nat):Rat:=if i=0 then 0 else 1
def Hg:Spec:=cP (kC (kL 64) kN) (fun _=>bp jv 2 64) fun a=>[a.1.1=4,∀i,i<4->a.1.2 i=bk i]
def JT:Spec:=cP (kC (gE 64 64) kN) (fun a=>.aq 3 1 fun _=>bh (aG bk a.1.f) 64 64) fun a=>[gi a.1]
def SZ:Kind Cu:=⟨fun v=>match v with
 |.aq 3 1 f=>(gE 64 64).read (f 0)
 |_=>none,fun a=>.aq 3 1 (fun _=>bh a 64 64),fun {v a q} h hq=>by
  split at h
  ·refine dI fun i hi=>?_
   match i,hi with
   |0,_=>exact(gE 64 64).ok h hq
  ·simp at h⟩
abbrev bQ (f:Nat->Pl) (e i:Nat):Rat:=if e=0 then(f i).d*(f i).n.x else if e=1 then(f i).d*(f i).n.y else if e=2 then(f i).d*(f i).n.z else(f i).d
def KL:Spec:=cP (kC SZ (kC (eI 64) (kC (eI 64) kN))) (fun a=>.agg [bp (bQ a.1.f 0) 2 200,bp (bQ a.1.f 1) 2 200,bp (bQ a.1.f 2) 2 200,bp (bQ a.1.f 3) 2 200]) fun a=>[gi a.1,a.2.1=0,a.2.2.1=1]
def A1:aU:=sG::(112,Hg)::(113,xz)::(115,JT)::(116,KL)::(117,Jv)::(118,HL)::[]
theorem OG {f g:Nat->Pl}:bD T A1 [200032,200093] 200 f62 (aF f62) ⟨aT 0 [bh (aG bk f) 64 64,bh (aG bk g) 64 64],[],0⟩=
  let c40:Prop:=jv (Int.toNat (1:Int))=1;let c39:Prop:=2=2;let c38:Prop:=jv (i64.wrap ((1:Int)-1)).toNat=0;let c37:Prop:=64<=64;let c36:Prop:=3=3;let c34:List Prop:=[bT (fun i=>rat (jv i) 64) 2 sK,(64:Nat)<=sK,(2:Nat)<2^40];let c33:Rat:=aC (rat (dX (fun i=>aC (rat (bQ (fun i=>aS (aK (aS (aK (g i) 64)) 64)) 2 i) 200)) (fun i=>aC (rat (bQ (fun i=>aS (aK (aS (aK (f i) 64)) 64)) 3 i) 200)) 1) 2000);let c32:Rat:=aC (rat (dX (fun i=>aC (rat (bQ (fun i=>aS (aK (aS (aK (f i) 64)) 64)) 0 i) 200)) (fun i=>aC (rat (bQ (fun i=>aS (aK (aS (aK (g i) 64)) 64)) 3 i) 200)) 0) 2000);let c31:Rat:=aC (rat (dX (fun i=>aC (rat (bQ (fun i=>aS (aK (aS (aK (g i) 64)) 64)) 2 i) 200)) (fun i=>aC (rat (bQ (fun i=>aS (aK (aS (aK (f i) 64)) 64)) 3 i) 200)) 0) 2000);let c30:Rat:=aC (rat (dX (fun i=>aC (rat (bQ (fun i=>aS (aK (aS (aK (f i) 64)) 64)) 1 i) 200)) (fun i=>aC (rat (bQ (fun i=>aS (aK (aS (aK (g i) 64)) 64)) 3 i) 200)) 1) 2000);let c29:Rat:=aC (rat (dX (fun i=>aC (rat (bQ (fun i=>aS (aK (aS (aK (f i) 64)) 64)) 1 i) 200)) (fun i=>aC (rat (bQ (fun i=>aS (aK (aS (aK (g i) 64)) 64)) 3 i) 200)) 2) 2000);let c28:Rat:=aC (rat (dX (fun i=>aC (rat (bQ (fun i=>aS (aK (aS (aK (f i) 64)) 64)) 2 i) 200)) (fun i=>aC (rat (bQ (fun i=>aS (aK (aS (aK (g i) 64)) 64)) 3 i) 200)) 0) 2000);let c27:Rat:=aC (rat (dX (fun i=>aC (rat (bQ (fun i=>aS (aK (aS (aK (g i) 64)) 64)) 1 i) 200)) (fun i=>aC (rat (bQ (fun i=>aS (aK (aS (aK (f i) 64)) 64)) 3 i) 200)) 1) 2000);let c26:Rat:=aC (rat (dX (fun i=>aC (rat (bQ (fun i=>aS (aK (aS (aK (g i) 64)) 64)) 1 i) 200)) (fun i=>aC (rat (bQ (fun i=>aS (aK (aS (aK (f i) 64)) 64)) 3 i) 200)) 2) 2000);let c25:Rat:=aC (rat (dX (fun i=>aC (rat (bQ (fun i=>aS (aK (aS (aK (f i) 64)) 64)) 0 i) 200)) (fun i=>aC (rat (bQ (fun i=>aS (aK (aS (aK (g i) 64)) 64)) 3 i) 200)) 1) 2000);let c24:Rat:=aC (rat (dX (fun i=>aC (rat (bQ (fun i=>aS (aK (aS (aK (g i) 64)) 64)) 2 i) 200)) (fun i=>aC (rat (bQ (fun i=>aS (aK (aS (aK (f i) 64)) 64)) 3 i) 200)) 2) 2000);let c23:Rat:=aC (rat (dX (fun i=>aC (rat (bQ (fun i=>aS (aK (aS (aK (g i) 64)) 64)) 0 i) 200)) (fun i=>aC (rat (bQ (fun i=>aS (aK (aS (aK (f i) 64)) 64)) 3 i) 200)) 0) 2000);let c22:Rat:=aC (rat (dX (fun i=>aC (rat (bQ (fun i=>aS (aK (aS (aK (f i) 64)) 64)) 0 i) 200)) (fun i=>aC (rat (bQ (fun i=>aS (aK (aS (aK (g i) 64)) 64)) 3 i) 200)) 2) 2000);let c21:Rat:=aC (rat (dX (fun i=>aC (rat (bQ (fun i=>aS (aK (aS (aK (f i) 64)) 64)) 2 i) 200)) (fun i=>aC (rat (bQ (fun i=>aS (aK (aS (aK (g i) 64)) 64)) 3 i) 200)) 1) 2000);let cH:Rat:=aC (rat (dX (fun i=>aC (rat (bQ (fun i=>aS (aK (aS (aK (g i) 64)) 64)) 0 i) 200)) (fun i=>aC (rat (bQ (fun i=>aS (aK (aS (aK (f i) 64)) 64)) 3 i) 200)) 1) 2000);let c19:Rat:=aC (rat (dX (fun i=>aC (rat (bQ (fun i=>aS (aK (aS (aK (f i) 64)) 64)) 1 i) 200)) (fun i=>aC (rat (bQ (fun i=>aS (aK (aS (aK (g i) 64)) 64)) 3 i) 200)) 0) 2000);let c18:Rat:=aC (rat (dX (fun i=>aC (rat (bQ (fun i=>aS (aK (aS (aK (g i) 64)) 64)) 1 i) 200)) (fun i=>aC (rat (bQ (fun i=>aS (aK (aS (aK (f i) 64)) 64)) 3 i) 200)) 0) 2000);let c17:Rat:=aC (rat (dX (fun i=>aC (rat (bQ (fun i=>aS (aK (aS (aK (f i) 64)) 64)) 2 i) 200)) (fun i=>aC (rat (bQ (fun i=>aS (aK (aS (aK (g i) 64)) 64)) 3 i) 200)) 2) 2000);let c16:Rat:=aC (rat (dX (fun i=>aC (rat (bQ (fun i=>aS (aK (aS (aK (g i) 64)) 64)) 0 i) 200)) (fun i=>aC (rat (bQ (fun i=>aS (aK (aS (aK (f i) 64)) 64)) 3 i) 200)) 2) 2000);let c15:Prop:=bT (fun i=>rat (bk i) 64) 4 64;let c35:List Prop:=[c15,(4:Nat)=4,∀(i:Nat),i<4->aC (rat (bk i) 64)=bk i];let c14:List Prop:=[bT (fun i=>rat (bQ (fun i=>aS (aK (aS (aK (f i) 64)) 64)) 3 i) 200) 2 200,c39,c39];let c13:List Prop:=[bT (fun i=>rat (bQ (fun i=>aS (aK (aS (aK (g i) 64)) 64)) 3 i) 200) 2 200,c39,c39];let c12:Prop:=c32=c23;let c11:Prop:=c17=c24;let c10:Prop:=c28=c31;let c9:Prop:=c30=c27;let c8:Prop:=c19=c18;let c7:Prop:=c29=c26;let c6:Prop:=c21=c33;let c5:Prop:=c22=c16;let c4:Prop:=c25=cH;let c3:Prop:=c6/\c11;let c2:Prop:=c4/\c5;let c1:Prop:=c9/\c7;some (aj c35 (aj c35 (aj c34 (aj [((↑(bS (fun i=>aC (rat (jv i) 64)) (jv (Int.toNat (0:Int))) 2):Int)==0)=false] (aj c34 (aj [((↑(bS (fun i=>aC (rat (jv i) 64)) (jv (i64.wrap ((0:Int)+1)).toNat) 2):Int)==0)=false] (aj [c15,dU (fun i=>aK (f i) 64) 2 64,gi (Cu.mk (1:Int) 4 (fun i=>aC (rat (bk i) 64)) 2 fun i=>aS (aK (f i) 64)),c15,dU (fun i=>aK (g i) 64) 2 64,gi (Cu.mk (1:Int) 4 (fun i=>aC (rat (bk i) 64)) 2 fun i=>aS (aK (g i) 64))] (aj [c15,dU (fun i=>aK (aS (aK (f i) 64)) 64) 2 64,c37,c37,gi (Cu.mk (1:Int) 4 (fun i=>aC (rat (bk i) 64)) 2 fun i=>aS (aK (aS (aK (f i) 64)) 64)),c38,c40,c15,dU (fun i=>aK (aS (aK (g i) 64)) 64) 2 64,c37,c37,gi (Cu.mk (1:Int) 4 (fun i=>aC (rat (bk i) 64)) 2 fun i=>aS (aK (aS (aK (g i) 64)) 64)),c38,c40] (aj (bT (fun i=>rat (bQ (fun i=>aS (aK (aS (aK (f i) 64)) 64)) 0 i) 200) 2 200::c13) (aj (bT (fun i=>rat (bQ (fun i=>aS (aK (aS (aK (g i) 64)) 64)) 0 i) 200) 2 200::c14) (aj [bT (fun i=>rat (dX (fun i=>aC (rat (bQ (fun i=>aS (aK (aS (aK (f i) 64)) 64)) 0 i) 200)) (fun i=>aC (rat (bQ (fun i=>aS (aK (aS (aK (g i) 64)) 64)) 3 i) 200)) i) 2000) 3 2000,bT (fun i=>rat (dX (fun i=>aC (rat (bQ (fun i=>aS (aK (aS (aK (g i) 64)) 64)) 0 i) 200)) (fun i=>aC (rat (bQ (fun i=>aS (aK (aS (aK (f i) 64)) 64)) 3 i) 200)) i) 2000) 3 2000,c36,c36] (aj [(!decide (c12/\c2))=false] (aj (bT (fun i=>rat (bQ (fun i=>aS (aK (aS (aK (f i) 64)) 64)) 1 i) 200) 2 200::c13) (aj (bT (fun i=>rat (bQ (fun i=>aS (aK (aS (aK (g i) 64)) 64)) 1 i) 200) 2 200::c14) (aj [bT (fun i=>rat (dX (fun i=>aC (rat (bQ (fun i=>aS (aK (aS (aK (f i) 64)) 64)) 1 i) 200)) (fun i=>aC (rat (bQ (fun i=>aS (aK (aS (aK (g i) 64)) 64)) 3 i) 200)) i) 2000) 3 2000,bT (fun i=>rat (dX (fun i=>aC (rat (bQ (fun i=>aS (aK (aS (aK (g i) 64)) 64)) 1 i) 200)) (fun i=>aC (rat (bQ (fun i=>aS (aK (aS (aK (f i) 64)) 64)) 3 i) 200)) i) 2000) 3 2000,c36,c36] (aj [(!decide (c8/\c1))=false] (aj (bT (fun i=>rat (bQ (fun i=>aS (aK (aS (aK (f i) 64)) 64)) 2 i) 200) 2 200::c13) (aj (bT (fun i=>rat (bQ (fun i=>aS (aK (aS (aK (g i) 64)) 64)) 2 i) 200) 2 200::c14) (aj [bT (fun i=>rat (dX (fun i=>aC (rat (bQ (fun i=>aS (aK (aS (aK (f i) 64)) 64)) 2 i) 200)) (fun i=>aC (rat (bQ (fun i=>aS (aK (aS (aK (g i) 64)) 64)) 3 i) 200)) i) 2000) 3 2000,bT (fun i=>rat (dX (fun i=>aC (rat (bQ (fun i=>aS (aK (aS (aK (g i) 64)) 64)) 2 i) 200)) (fun i=>aC (rat (bQ (fun i=>aS (aK (aS (aK (f i) 64)) 64)) 3 i) 200)) i) 2000) 3 2000,c36,c36] (aj [(!decide (c10/\c3))=false] (leaf ret [AV.bool true]))))))))))))))))))))):=ah
theorem Tm {f g:Nat->Pl}:bD T A1 [200032,100093] 200 f62 (aF f62) ⟨aT 0 [bh (aG bk f) 64 64,bh (aG bk g) 64 64],[],0⟩=
  let c17:Prop:=jv (Int.toNat (1:Int))=1;let c16:Prop:=2=2;let c15:Prop:=jv (i64.wrap ((1:Int)-1)).toNat=0;let c14:Prop:=64<=64;let c12:List Prop:=[bT (fun i=>rat (jv i) 64) 2 sK,(64:Nat)<=sK,(2:Nat)<2^40];let c11:Rat:=aC (rat (dX (fun i=>aC (rat (bQ (fun i=>aS (aK (aS (aK (f i) 64)) 64)) 0 i) 200)) (fun i=>aC (rat (bQ (fun i=>aS (aK (aS (aK (g i) 64)) 64)) 3 i) 200)) 1) 2000);let c10:Rat:=aC (rat (dX (fun i=>aC (rat (bQ (fun i=>aS (aK (aS (aK (g i) 64)) 64)) 0 i) 200)) (fun i=>aC (rat (bQ (fun i=>aS (aK (aS (aK (f i) 64)) 64)) 3 i) 200)) 1) 2000);let c9:Rat:=aC (rat (dX (fun i=>aC (rat (bQ (fun i=>aS (aK (aS (aK (f i) 64)) 64)) 0 i) 200)) (fun i=>aC (rat (bQ (fun i=>aS (aK (aS (aK (g i) 64)) 64)) 3 i) 200)) 2) 2000);let c8:Rat:=aC (rat (dX (fun i=>aC (rat (bQ (fun i=>aS (aK (aS (aK (g i) 64)) 64)) 0 i) 200)) (fun i=>aC (rat (bQ (fun i=>aS (aK (aS (aK (f i) 64)) 64)) 3 i) 200)) 2) 2000);let c7:Rat:=aC (rat (dX (fun i=>aC (rat (bQ (fun i=>aS (aK (aS (aK (f i) 64)) 64)) 0 i) 200)) (fun i=>aC (rat (bQ (fun i=>aS (aK (aS (aK (g i) 64)) 64)) 3 i) 200)) 0) 2000);let c6:Rat:=aC (rat (dX (fun i=>aC (rat (bQ (fun i=>aS (aK (aS (aK (g i) 64)) 64)) 0 i) 200)) (fun i=>aC (rat (bQ (fun i=>aS (aK (aS (aK (f i) 64)) 64)) 3 i) 200)) 0) 2000);let c5:Prop:=bT (fun i=>rat (bk i) 64) 4 64;let c13:List Prop:=[c5,(4:Nat)=4,∀(i:Nat),i<4->aC (rat (bk i) 64)=bk i];let c4:Prop:=c11=c10;let c3:Prop:=c7=c6;let c2:Prop:=c9=c8;let c1:Prop:=c4/\c2;some (aj c13 (aj c13 (aj c12 (aj [((↑(bS (fun i=>aC (rat (jv i) 64)) (jv (Int.toNat (0:Int))) 2):Int)==0)=false] (aj c12 (aj [((↑(bS (fun i=>aC (rat (jv i) 64)) (jv (i64.wrap ((0:Int)+1)).toNat) 2):Int)==0)=false] (aj [c5,dU (fun i=>aK (f i) 64) 2 64,gi (Cu.mk (1:Int) 4 (fun i=>aC (rat (bk i) 64)) 2 fun i=>aS (aK (f i) 64)),c5,dU (fun i=>aK (g i) 64) 2 64,gi (Cu.mk (1:Int) 4 (fun i=>aC (rat (bk i) 64)) 2 fun i=>aS (aK (g i) 64))] (aj [c5,dU (fun i=>aK (aS (aK (f i) 64)) 64) 2 64,c14,c14,gi (Cu.mk (1:Int) 4 (fun i=>aC (rat (bk i) 64)) 2 fun i=>aS (aK (aS (aK (f i) 64)) 64)),c15,c17,c5,dU (fun i=>aK (aS (aK (g i) 64)) 64) 2 64,c14,c14,gi (Cu.mk (1:Int) 4 (fun i=>aC (rat (bk i) 64)) 2 fun i=>aS (aK (aS (aK (g i) 64)) 64)),c15,c17] (aj [bT (fun i=>rat (bQ (fun i=>aS (aK (aS (aK (f i) 64)) 64)) 0 i) 200) 2 200,bT (fun i=>rat (bQ (fun i=>aS (aK (aS (aK (g i) 64)) 64)) 3 i) 200) 2 200,c16,c16] (aj [bT (fun i=>rat (bQ (fun i=>aS (aK (aS (aK (g i) 64)) 64)) 0 i) 200) 2 200,bT (fun i=>rat (bQ (fun i=>aS (aK (aS (aK (f i) 64)) 64)) 3 i) 200) 2 200,c16,c16] (aj [bT (fun i=>rat (dX (fun i=>aC (rat (bQ (fun i=>aS (aK (aS (aK (f i) 64)) 64)) 0 i) 200)) (fun i=>aC (rat (bQ (fun i=>aS (aK (aS (aK (g i) 64)) 64)) 3 i) 200)) i) 2000) 3 2000,bT (fun i=>rat (dX (fun i=>aC (rat (bQ (fun i=>aS (aK (aS (aK (g i) 64)) 64)) 0 i) 200)) (fun i=>aC (rat (bQ (fun i=>aS (aK (aS (aK (f i) 64)) 64)) 3 i) 200)) i) 2000) 3 2000,(3:Nat)=3,(3:Nat)=3] (aj [(!decide (c3/\c1))=true] (leaf ret [AV.bool false]))))))))))))):=ah
theorem Gr:bL bk 4=2:=by decide+kernel
theorem Sn:aY P Hg 112:=cC fun⟨⟨n,k⟩,_⟩ K hn=>by
 obtain⟨h1,h2⟩:n=4/\∀i,i<4->k i=bk i:=hn
 subst h1
 show aO P 112 K [bp k 4 64] [] (aI (bp jv 2 64) [])
 refine eW (args':=[bp bk 4 64]) (nH (u:=ls (b9 bk 4) (bL bk 4)) (l:=[bT (fun i=>.rat (bk i) 64) 4 sJ,4<2^40]) (DW K [bp bk 4 64] [] _ rfl) (fun _=>⟨dh (by decide),(by decide:4<2^40)⟩) rfl rfl ?_) rfl (show dH [bp k 4 64] [bp bk 4 64]from⟨dI fun i hi=>bI (h2 i hi) bq,trivial⟩) []
 rw[Gr]
 refine dI fun i hi=>?_
 match i,hi with
 |0,_=>exact er (by decide+kernel) (by unfold Sz;decide+kernel)
 |1,_=>exact er (by decide+kernel) (by unfold Sz;decide+kernel)
theorem tB (b:Bool) {w:Nat} (hw:5<=w):Sz (pA b).n.x w/\Sz (pA b).n.y w/\Sz (pA b).n.z w/\Sz (pA b).d w:=by
 have h:Sz (pA b).n.x 5/\Sz (pA b).n.y 5/\Sz (pA b).n.z 5/\Sz (pA b).d 5:=by cases b<;>(unfold Sz;decide+kernel)
 exact⟨h.1.more hw,h.2.1.more hw,h.2.2.1.more hw,h.2.2.2.more hw⟩
theorem Br (b:Bool):cY (pA b)=pA b:=by
 cases b<;>(unfold cY pA;simp[Rat.one_mul])
theorem PD {a b:Bool} (i:Nat):∃x,cW a b i=pA x:=by
 by_cases h:i=0
 ·exact⟨a,if_pos h⟩
 ·exact⟨b,if_neg h⟩
theorem Tu (a b:Bool):jy (aG bk (cW a b)):=by
 have hh:∀i,wZ (bk i):=fun i=>by
  by_cases h:i<2
  ·exact⟨0,by show bk i=_;rw[show bk i=0 from if_pos h];decide+kernel,aa,aa⟩
  ·exact⟨2,by show bk i=_;rw[show bk i=1 from if_neg h];decide+kernel,aa,aa⟩
 have hl:qy (aG bk (cW a b)):=⟨jm,by show bk 0=bk 1;decide+kernel,by show bk 2=bk 3;decide+kernel,by show bk 0<bk 3;decide+kernel,by cases a<;>rfl,by cases b<;>rfl⟩
 refine⟨⟨⟨hl.kn,(by decide:(1:Int)<=1),(by decide:(1:Int)<=6),(by decide:4<=1+41),(by decide:((2:Nat):Int)=((4:Nat):Int)-1-1)⟩,fun i=>?_,fun i=>(hh i).isD,fun i=>?_,fun i=>?_,fun i=>?_,fun i=>?_⟩,hh⟩
 all_goals obtain⟨x,hx⟩:=PD (a:=a) (b:=b) i
 ·show 0<(cW a b i).d;rw[hx];cases x<;>decide+kernel
 ·show Sz (cY (cW a b i)).n.x 5;rw[hx,Br];exact(tB x bq).1
 ·show Sz (cY (cW a b i)).n.y 5;rw[hx,Br];exact(tB x bq).2.1
 ·show Sz (cY (cW a b i)).n.z 5;rw[hx,Br];exact(tB x bq).2.2.1
 ·show Sz (cW a b i).d 5;rw[hx];exact(tB x bq).2.2.2
theorem l6 {c:Cu} {s r y w:Nat} {a b:Bool} (h0:dx c) (hk:∀i,i<4->c.k i=bk i) (h1:c.f 0=pA a) (h2:c.f 1=pA b) (hy:5<=y) (hw:5<=w):bg (bh c s r) (bh (aG bk (cW a b)) y w):=by
 rw[mC h0]
 have hz:∀i,i<4->Sz (bk i) y:=fun i hi=>by
  have:Sz (bk i) 5:=by
   match i,hi with
   |0,_|1,_|2,_|3,_=>unfold Sz;decide+kernel
  exact this.more hy
 refine cz ⟨.refl _,dI fun i hi=>er (hk i hi) (hz i hi),dI fun i hi=>?_,trivial⟩
 match i,hi with
 |0,_=>exact Aq (q:=pA a) (by dsimp only;rw[h1];exact⟨rfl,rfl,rfl,rfl⟩) (tB a hw)
 |1,_=>exact Aq (q:=pA b) (by dsimp only;rw[h2];exact⟨rfl,rfl,rfl,rfl⟩) (tB b hw)
theorem BG {c:Cu} {s r:Nat} {a b:Bool} (h1:c.f 0=pA a) (h2:c.f 1=pA b):bg (bh (aG bk (cW a b)) s r) (bh (aG bk c.f) s r):=by
 refine cz ⟨.refl _,.refl _,dI fun i hi=>?_,trivial⟩
 match i,hi with
 |0,_=>rw[h1];exact .refl _
 |1,_=>rw[h2];exact .refl _
theorem XY (a b:Bool) (K:Nat):aO P 115 K [bh (aG bk (cW a b)) 2000 2000] [] (aI (.aq 3 1 fun _=>bh (aG bk (cW a b)) 64 64) []):=by
 refine nH (V8 (Tu a b) (by decide:2+(1+1)<=40) K) (fun _=>trivial) rfl rfl ?_
 rw[show bL (aG bk (cW a b)).k (aG bk (cW a b)).n-1=1 from by show bL bk 4-1=1;rw[Gr]]
 refine dI fun i hi=>?_
 obtain rfl:i=0:=aa
 refine l6 (a:=a) (b:=b) ⟨rfl,rfl,rfl⟩ (fun i hi=>?_) ?_ ?_ (by decide) (by decide)
 ·show(if i<2 then b9 bk 4 0 else b9 bk 4 1)=_
  match i,hi with
  |0,_|1,_|2,_|3,_=>decide+kernel
 all_goals (cases a<;>cases b<;>exact uP (by decide+kernel) (by decide+kernel) (by decide+kernel) (by decide+kernel))
theorem X6:aY P JT 115:=cC fun⟨c,_⟩ K hn=>by
 obtain⟨h1,h2,h3,h4⟩:gi c:=hn
 obtain⟨x,h3⟩:=ni h3
 obtain⟨y,h4⟩:=ni h4
 show aO P 115 K [bh c 64 64] [] (aI (.aq 3 1 fun _=>bh (aG bk c.f) 64 64) [])
 exact eW (args':=[bh (aG bk (cW x y)) 2000 2000]) (nH (XY x y K) (fun _=>trivial) rfl rfl (dI fun i hi=>BG h3 h4)) rfl (show dH [bh c 64 64] [bh (aG bk (cW x y)) 2000 2000]from⟨l6 h1 h2 h3 h4 (by decide) (by decide),trivial⟩) []
theorem aec:aZ P (sG::IN):=ct (aE VR Gp)
theorem aeO:aY P KL 116:=cC fun⟨c,a,b,_⟩ K hn=>by
 obtain⟨⟨h1,h2,h3,h4⟩,e1,e2⟩:gi c/\a=0/\b=1:=hn
 subst e1 e2
 obtain⟨x,h3⟩:=ni h3
 obtain⟨y,h4⟩:=ni h4
 show aO P 116 K [.aq 3 1 (fun _=>bh c 64 64),.rat 0 64,.rat 1 64] [] (aI (.agg [bp (bQ c.f 0) 2 200,bp (bQ c.f 1) 2 200,bp (bQ c.f 2) 2 200,bp (bQ c.f 3) 2 200]) [])
 refine eW (args':=[.aq 3 1 (fun _=>bh (aG bk (cW x y)) 64 64),.rat 0 64,.rat 1 64]) (r:=aI (.agg [bp (bQ c.f 0) 2 200,bp (bQ c.f 1) 2 200,bp (bQ c.f 2) 2 200,bp (bQ c.f 3) 2 200]) []) ?_ rfl (show dH [.aq 3 1 (fun _=>bh c 64 64),.rat 0 64,.rat 1 64] [.aq 3 1 (fun _=>bh (aG bk (cW x y)) 64 64),.rat 0 64,.rat 1 64]from⟨dI fun i hi=>l6 h1 h2 h3 h4 (by decide) (by decide),.refl _,.refl _,trivial⟩) []
 refine bJ (r:=aI (.agg [bp (bQ c.f 0) 2 200,bp (bQ c.f 1) 2 200,bp (bQ c.f 2) 2 200,bp (bQ c.f 3) 2 200]) []) hT aec hm YZ rfl aV rfl 60 aem (fun _=>?_) K []
 have r1:bT (fun i=>.rat (bk i) 64) 4 64:=dh bq
 have r2:dU (fun i=>aK (cW x y i) 64) 2 64:=jb bq
 have r3:gi (aG bk (cW x y)):=⟨jm,fun _ _=>rfl,by cases x<;>first|exact .inl rfl|exact .inr rfl,by cases y<;>first|exact .inl rfl|exact .inr rfl⟩
 simp only[ag.all,au,ta]
 (repeat' with_reducible refine And.intro ?_ ?_)
 all_goals first|exact r1|exact r2|exact r3|omega|(with_reducible rfl)|exact trivial|skip
 refine cz ⟨dI fun i hi=>?_,dI fun i hi=>?_,dI fun i hi=>?_,dI fun i hi=>?_,trivial⟩
 all_goals
  match i,hi with
  |0,_=>unfold bQ;rw[h3];exact bI (by first|rfl|exact Rat.add_zero _) (by decide)
  |1,_=>unfold bQ;rw[h4];exact bI (by first|rfl|exact Rat.add_zero _) (by decide)
theorem Js:aZ P A1:=ct (aE Sn (aE C6 (aE X6 (aE aeO (aE afi (aE TA bA))))))
theorem Jr (a b:Bool):gi (aG bk (cW a b)):=⟨jm,fun _ _=>rfl,by cases a<;>first|exact .inl rfl|exact .inr rfl,by cases b<;>first|exact .inl rfl|exact .inr rfl⟩
theorem SG (K:Nat):aO P 62 K [bh (aG bk (cW false true)) 64 64,bh (aG bk (cW false true)) 64 64] [] (aI (.bool true) []):=by
 refine bJ (r:=aI (.bool true) []) hT Js hm L6 rfl aV rfl 200 OG (fun _=>?_) K []
 simp only[ag.all,au]
 (repeat' with_reducible refine And.intro ?_ ?_)
 all_goals first|exact dh (by decide)|exact jb bq|exact Jr _ _|omega|(with_reducible rfl)|exact trivial|(with_reducible exact bg.refl _)|decide+kernel|skip
 all_goals exact bg.refl _
theorem QD (K:Nat):aO P 62 K [bh (aG bk (cW false true)) 64 64,bh (aG bk (cW true false)) 64 64] [] (aI (.bool false) []):=by
 refine bJ (r:=aI (.bool false) []) hT Js hm L6 rfl aV rfl 200 Tm (fun _=>?_) K []
 simp only[ag.all,au]
 (repeat' with_reducible refine And.intro ?_ ?_)
 all_goals first|exact dh (by decide)|exact jb bq|exact Jr _ _|omega|(with_reducible rfl)|exact trivial|(with_reducible exact bg.refl _)|decide+kernel|skip
 all_goals exact bg.refl _
theorem abU:aW 21 f21:=aN func21
theorem NN:aW 60 f60:=aN func60
def fO (b:Bool) (c:Cu):Prop:=dx c/\(∀i,i<4->c.k i=bk i)/\c.f 0=pA b/\c.f 1=pA (!b)
def ME:Spec:=cP (kC (gE 1000 1000) (kC (eI 1000) (kC (eI 1000) kN))) (fun a=>.tuple [bh (aG bk a.1.f) 64 64,.int .i64 0]) fun a=>[gi a.1,a.2.1=0,a.2.2.1=1]
def G5:Spec:=cP (kC (gE 1000 1000) kN) (fun a=>bh (aG bk (fun i=>a.1.f (1-i))) 1000 1000) fun a=>[gi a.1]
def HF:Spec:=cP (kC (gE 1000 1000) (kC (gE 64 64) kN)) (fun a=>.bool (decide ((a.2.1.f 0).n.x=0))) fun a=>[fO false a.1,fO false a.2.1\/fO true a.2.1]
def Ky:Spec:=cP (kC (gE 1000 1000) (kC (x8 (z8 1000)) (kC (x8 (gE 1000 1000)) kN))) (fun a=>.bool (decide ((a.1.f 0).n.x=0))) fun a=>[fO false a.2.2.1,fO false a.1\/fO true a.1,a.2.1=(0,1)]
def LK:aU:=sG::(61,ME)::(62,HF)::[]
def Hx:aU:=sG::(59,Dr)::(63,G5)::(60,Ky)::[]
theorem aet {c d:Cu} {x:Rat×Rat}:bD T LK [18] 60 f60 (aF f60) ⟨aT 0 [bh d 1000 1000,.bn (eP x 1000),.bn (bh c 1000 1000)],[],0⟩=
  let c3:Prop:=1000<=1000;let c2:Rat:=aC (rat (aC (rat (d.f 0).n.x 1000)) 64);let c1:Cu:=Cu.mk (1:Int) 4 (fun i=>aC (rat (bk i) 64)) 2 fun i=>aS (aK (aS (aK (d.f i) 1000)) 64);some (aj [bT (fun i=>rat (d.k i) 1000) d.n 1000,dU (fun i=>aK (d.f i) 1000) d.m 1000,c3,c3,gi (Cu.mk d.p d.n (fun i=>aC (rat (d.k i) 1000)) d.m fun i=>aS (aK (d.f i) 1000)),x.fst=0,x.snd=1] (fork true (aj [((0:Int)==0)=true,bT (fun i=>rat (c.k i) 1000) c.n 1000,dU (fun i=>aK (c.f i) 1000) c.m 1000,bT (fun i=>rat (bk i) 64) 4 64,dU (fun i=>aK (aS (aK (d.f i) 1000)) 64) 2 64,fO false (Cu.mk c.p c.n (fun i=>aC (rat (c.k i) 1000)) c.m fun i=>aS (aK (c.f i) 1000)),fO false c1\/fO true c1] (leaf ret [AV.bool (bif true then decide (c2=0)else false)])) (aj [((0:Int)==0)=false] (leaf ret [AV.bool false])))):=ah
theorem Z3 {c d:Cu}:bD T Hx [] 60 f21 (aF f21) ⟨aT 0 [bh c 1000 1000,bh d 1000 1000],[],0⟩=
  let c14:Rat:=aC (rat (c.k 3) 1000);let c13:Rat:=aC (rat (c.k 0) 1000);let c11:Rat:=aC (rat (d.f 0).n.x 1000);let c10:Prop:=dU (fun i=>aK (d.f i) 1000) d.m 1000;let c9:Prop:=bT (fun i=>rat (d.k i) 1000) d.n 1000;let c8:Rat:=aC (rat (aC (rat (d.f ((1:Nat)-0)).n.x 1000)) 1000);let c7:Prop:=dU (fun i=>aK (c.f i) 1000) c.m 1000;let c6:Prop:=bT (fun i=>rat (c.k i) 1000) c.n 1000;let c5:Cu:=Cu.mk (1:Int) 4 (fun i=>aC (rat (bk i) 1000)) 2 fun i=>aS (aK (aS (aK (d.f ((1:Nat)-i)) 1000)) 1000);let c4:Cu:=Cu.mk c.p c.n (fun i=>aC (rat (c.k i) 1000)) c.m fun i=>aS (aK (c.f i) 1000);let c3:Cu:=Cu.mk d.p d.n (fun i=>aC (rat (d.k i) 1000)) d.m fun i=>aS (aK (d.f i) 1000);let c2:AV:=rat c14 1000;let c1:AV:=rat c13 1000;let c16:Prop:=bg c2 (rat (aC c2) 1000);let c15:Prop:=bg c1 (rat (aC c1) 1000);let c12:Prop:=(aC c1,aC c2)=((0:Rat),(1:Rat));some (aj [c6,c7,dx c4,c13<c14] (aj [c9,c10,c15,c16,c6,c7,fO false c4,fO false c3\/fO true c3,c12,c9,c10,gi c3,bT (fun i=>rat (bk i) 1000) 4 1000,dU (fun i=>aK (aS (aK (d.f ((1:Nat)-i)) 1000)) 1000) 2 1000,c15,c16,c6,c7,fO false c4,fO false c5\/fO true c5,c12] (leaf ret [AV.bool (decide (c11=0)),AV.bool (decide (c8=0))]))):=ah
theorem fO.a {b:Bool} {c:Cu} (h:fO b c):gi c:=⟨h.1,h.2.1,by rw[h.2.2.1];cases b<;>first|exact .inl rfl|exact .inr rfl,by rw[h.2.2.2];cases b<;>first|exact .inl rfl|exact .inr rfl⟩
theorem Qg:aY P ME 61:=cC fun⟨c,a,b,_⟩ K hn=>by
 obtain⟨⟨h1,h2,h3,h4⟩,e1,e2⟩:gi c/\a=0/\b=1:=hn
 subst e1 e2
 obtain⟨x,h3⟩:=ni h3
 obtain⟨y,h4⟩:=ni h4
 show aO P 61 K [bh c 1000 1000,.rat 0 1000,.rat 1 1000] [] (aI (.tuple [bh (aG bk c.f) 64 64,.int .i64 0]) [])
 refine eW (args':=[bh (aG bk (cW x y)) 64 64,.rat 0 64,.rat 1 64]) (Mt (us:=[bh (od (aG bk (cW x y)) 0 1) 1000 1000,.int .i64 (jj 0 1)]) (Ty (c:=aG bk (cW x y)) (a:=0) (b:=1) (by decide:1<=4) (by decide:4<2^30) (by decide:2<2^30) K) (fun _=>trivial) rfl (show dH [bh (od (aG bk (cW x y)) 0 1) 1000 1000,.int .i64 (jj 0 1)] [bh (aG bk c.f) 64 64,.int .i64 0]from⟨?_,?_,trivial⟩)) rfl (show dH [bh c 1000 1000,.rat 0 1000,.rat 1 1000] [bh (aG bk (cW x y)) 64 64,.rat 0 64,.rat 1 64]from⟨l6 h1 h2 h3 h4 (by decide) (by decide),er rfl (by unfold Sz;decide+kernel),er rfl (by unfold Sz;decide+kernel),trivial⟩) []
 ·refine(l6 (c:=od (aG bk (cW x y)) 0 1) (a:=x) (b:=y) ⟨?_,?_,?_⟩ (fun i hi=>?_) rfl rfl (by decide) (by decide)).trans (BG h3 h4)
  ·show(if(1:Rat)<=0 then(0:Int)else 1)=1;decide+kernel
  ·show j7 4 0 1=4;decide+kernel
  ·show j7 2 0 1=2;decide+kernel
  ·show g8 4 bk 0 1 i=bk i
   match i,hi with
   |0,_|1,_|2,_|3,_=>decide+kernel
 ·rw[show jj 0 1=0 by decide+kernel];exact .refl _
theorem Yz:aY P G5 63:=cC fun⟨c,_⟩ K hn=>by
 obtain⟨h1,h2,h3,h4⟩:gi c:=hn
 obtain⟨x,h3⟩:=ni h3
 obtain⟨y,h4⟩:=ni h4
 show aO P 63 K [bh c 1000 1000] [] (aI (bh (aG bk (fun i=>c.f (1-i))) 1000 1000) [])
 refine eW (args':=[bh (aG bk (cW x y)) 64 64]) (nH (u:=bh (qn (aG bk (cW x y))) 1000 1000) (adt (c:=aG bk (cW x y)) (s:=64) (r:=64) (y:=1000) (w:=1000) (by decide) (by decide) (by decide) (by decide) (by decide:4<2^30) (by decide:2<2^30) K) (fun _=>trivial) rfl rfl ?_) rfl (show dH [bh c 1000 1000] [bh (aG bk (cW x y)) 64 64]from⟨l6 h1 h2 h3 h4 (by decide) (by decide),trivial⟩) []
 refine(l6 (c:=qn (aG bk (cW x y))) (a:=y) (b:=x) ⟨rfl,rfl,rfl⟩ (fun i hi=>?_) rfl rfl (by decide) (by decide)).trans (BG (c:=aG c.k (fun i=>c.f (1-i))) h4 h3)
 show gJ 4 bk i=bk i
 match i,hi with
 |0,_|1,_|2,_|3,_=>decide+kernel
theorem WX:aY P HF 62:=cC fun⟨c,d,_⟩ K hn=>by
 obtain⟨⟨h1,h2,h3,h4⟩,hd⟩:fO false c/\(fO false d\/fO true d):=hn
 show aO P 62 K [bh c 1000 1000,bh d 64 64] [] (aI (.bool (decide ((d.f 0).n.x=0))) [])
 rcases hd with⟨g1,g2,g3,g4⟩|⟨g1,g2,g3,g4⟩
 ·rw[show decide ((d.f 0).n.x=0)=true by rw[g3];decide+kernel]
  exact eW (SG K) rfl (show dH [bh c 1000 1000,bh d 64 64] [bh (aG bk (cW false true)) 64 64,bh (aG bk (cW false true)) 64 64]from⟨l6 h1 h2 h3 h4 (by decide) (by decide),l6 g1 g2 g3 g4 (by decide) (by decide),trivial⟩) []
 ·rw[show decide ((d.f 0).n.x=0)=false by rw[g3];decide+kernel]
  exact eW (QD K) rfl (show dH [bh c 1000 1000,bh d 64 64] [bh (aG bk (cW false true)) 64 64,bh (aG bk (cW true false)) 64 64]from⟨l6 h1 h2 h3 h4 (by decide) (by decide),l6 g1 g2 g3 g4 (by decide) (by decide),trivial⟩) []
theorem OU:aZ P LK:=ct (aE Qg (aE WX bA))
theorem Qp:aY P Ky 60:=cC fun⟨d,x,c,_⟩ K hn=>by
 obtain⟨h1,h2,h3⟩:fO false c/\(fO false d\/fO true d)/\x=(0,1):=hn
 show aO P 60 K [bh d 1000 1000,.bn (eP x 1000),.bn (bh c 1000 1000)] [] (aI (.bool (decide ((d.f 0).n.x=0))) [])
 refine bJ (r:=aI (.bool (decide ((d.f 0).n.x=0))) []) hT OU hm NN rfl aV rfl 60 aet (fun _=>?_) K []
 have ha:gi d:=h2.elim (·.a) (·.a)
 subst h3
 have hd:fO false (aG bk d.f)\/fO true (aG bk d.f):=h2.imp (fun h=>⟨jm,fun _ _=>rfl,h.2.2⟩) (fun h=>⟨jm,fun _ _=>rfl,h.2.2⟩)
 simp only[ag.all,au]
 refine⟨⟨dh bq,jb bq,bq,bq,ha,trivial,trivial⟩,fun _=>⟨⟨rfl,dh bq,jb bq,dh bq,jb bq,h1,hd⟩,.refl _⟩,fun h=>absurd h (by decide)⟩
theorem ac3:aZ P Hx:=ct (aE FL (aE Yz (aE Qp bA)))
theorem agJ:aY P xG 21:=cC fun⟨c,d,_⟩ K hn=>by
 obtain⟨c1,d1,hk,f0,f1,g0,g1⟩:CU c d:=hn
 have hc:fO false c:=⟨c1,fun i hi=>(hk i hi).1,f0,f1⟩
 have hd:fO true d:=⟨d1,fun i hi=>(hk i hi).2,g0,g1⟩
 have hm2:fO false (aG bk (fun i=>d.f (1-i))):=⟨jm,fun _ _=>rfl,g1,g0⟩
 have k0:c.k 0=0:=(hk 0 (by decide)).1
 have k3:c.k 3=1:=(hk 3 (by decide)).1
 show aO P 21 K [bh c 1000 1000,bh d 1000 1000] [] (aI (.tuple [.bool false,.bool true]) [])
 refine bJ (r:=aI (.tuple [.bool false,.bool true]) []) hT ac3 hm abU rfl aV rfl 60 Z3 (fun _=>?_) K []
 simp only[ag.all,au,ta,k0,k3]
 (repeat' with_reducible refine And.intro ?_ ?_)
 all_goals first|exact dh bq|exact jb bq|exact c1|exact hc|exact .inr hd|exact .inl hm2|exact hd.a|(with_reducible exact bg.refl _)|exact trivial|rfl|decide+kernel|skip
 refine⟨gQ ?_,gQ ?_,trivial⟩
 ·show decide ((d.f 0).n.x=0)=false;rw[g0];decide+kernel
 ·show decide ((d.f 1).n.x=0)=true;rw[g1];decide+kernel
theorem agG:aY P z9 6:=by
 refine cJ fun K args r hk hs _=>?_
 split at hs
 ·simp only[ax]at hs
  subst hs
  exact Ok agJ K
 ·simp at hs
end Go.Am.B
