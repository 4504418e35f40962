/- Pieces of a list of fo; each knot once (plain). -/
import Derived.Test.YtnniljlepppdpaaGreatY37
import Derived.Test.YtnniljlepppdpaaGreatY39
import Derived.Test.YtnniljlepppdpaaGreatY40
import Derived.Test.YtnniljlepppdpaaGreatZ2
import Derived.Test.YtnniljlepppdpaaGreatY38
set_option linter.unusedVariables false
noncomputable section
namespace Go.Am.B
theorem r6 {k:Nat->Rat}:∀{n:Nat},(∀i,i+1<n->k i<=k (i+1))->∀{i:Nat},i+1<aP k n->∃s,At n k s/\k s=aR k n i/\k (s+1)=aR k n (i+1)
 |0,_,i,h=>by simp[aP]at h
 |n+1,hs,i,h=>by
  have hs':∀i,i+1<n->k i<=k (i+1):=fun i hi=>hs i (by omega)
  by_cases c:eo k n
  ·rw[aP,if_pos c]at h
   by_cases e:i+1<aP k n
   ·obtain⟨s,h1,h2,h3⟩:=r6 hs' e
    refine⟨s,⟨by have:=h1.lt;omega,hs,h1.wide⟩,?_,?_⟩
    ·rw[aR,if_pos c,gY (by omega)];exact h2
    ·rw[aR,if_pos c,gY (by omega)];exact h3
   ·have hn0:n≠0:=fun e0=>by
     rw[e0]at h
     simp[aP]at h
    obtain⟨m,rfl⟩:∃m,n=m+1:=⟨n-1,by omega⟩
    obtain⟨_,_,e3⟩:=oC (k:=k) (n:=m)
    have hne:k (m+1)≠k m:=by
     rcases c with c|c
     ·omega
     ·exact c
    have hle:=hs m (by omega)
    refine⟨m,⟨by omega,hs,by grind⟩,?_,?_⟩
    ·rw[aR,if_pos c,gY (by omega),show i=aP k (m+1)-1 by omega];exact e3.symm
    ·rw[aR,if_pos c,show i+1=aP k (m+1) by omega,mQ]
  ·rw[aP,if_neg c,Nat.add_zero]at h
   obtain⟨s,h1,h2,h3⟩:=r6 hs' h
   refine⟨s,⟨by have:=h1.lt;omega,hs,h1.wide⟩,?_,?_⟩
   ·rw[aR,if_neg c];exact h2
   ·rw[aR,if_neg c];exact h3
theorem Em {k:Nat->Rat} {t:Rat}:∀{n:Nat},bF k t n≠0->∃q,q<n/\k q=t
 |0,h=>absurd rfl h
 |n+1,h=>by
  by_cases c:k n=t
  ·exact⟨n,by omega,c⟩
  ·rw[jV,if_neg c,Nat.add_zero]at h
   obtain⟨q,h1,h2⟩:=Em h
   exact⟨q,by omega,h2⟩
theorem Lm {k:Nat->Rat} {t y:Rat} {q:Nat} (hy:t≠y):∀{m:Nat},bF (dx k t q) y (q+1+m)=bF k y (q+m)
 |0=>by
  have pre:∀i,i<=q->bF (dx k t q) y i=bF k y i:=fun i=>by
   induction i with
   |zero=>intro _;rfl
   |succ i ih=>intro h;rw[jV,jV,ih (by omega),iq (by omega)]
  show bF (dx k t q) y (q+1)=bF k y q
  rw[jV,pre q (Nat.le_refl _),nD,if_neg hy];rfl
 |m+1=>by
  rw[<-Nat.add_assoc,jV,Lm hy (m:=m),gX (by omega),<-Nat.add_assoc,jV,show q+1+m-1=q+m by omega]
structure vK (n p:Nat) (k:Nat->Rat) (a b:Rat) (Q:Nat):Prop where
 at_:At n k Q
 lo:k Q=a
 hi:k (Q+1)=b
 left:∀i,i<=Q->Q<i+p->k i=a
 right:∀i,Q+1<=i->i<=Q+p->k i=b
theorem Kn.Fl {n p Q:Nat} {k:Nat->Rat} {a b:Rat} (h:Kn n p k) (hQ:At n k Q) (ea:k Q=a) (eb:k (Q+1)=b) (ha:k 0=a\/bF k a n=p) (hb:k (n-1)=b\/bF k b n=p):vK n p k a b Q:=by
 obtain⟨w1,w2⟩:=h.ji hQ
 have hw:=hQ.wide
 refine⟨hQ,ea,eb,fun i h1 h2=>?_,fun i h1 h2=>?_⟩
 ·rcases ha with ha|ha
  ·have m1:=h.mono (Nat.zero_le i) (by omega)
   have m2:=h.mono h1 (by omega)
   grind
  ·exact JG h.sorted (show a<k (Q+1) by grind) hQ.lt (by rw[ea];exact Rat.le_refl) h1 (by rw[ha];exact h2)
 ·have m1:=h.mono h1 (by omega)
  rcases hb with hb|hb
  ·have m2:=h.mono (show i<=n-1 by omega) (by omega)
   grind
  ·by_cases e:k i=b
   ·exact e
   ·exfalso
    have hp:=h.p1
    have:=DP (k:=k) (t:=b) (lo:=Q+1) (hi:=i) h1 (n:=n) fun j hj hjb=>by
     constructor
     ·by_cases c:Q+1<=j
      ·exact c
      ·have:=h.mono (show j<=Q by omega) (by omega)
       grind
     ·by_cases c:j<i
      ·exact c
      ·have:=h.mono (show i<=j by omega) hj
       grind
    omega
open Go Go.Am.N AV ag ak IntKind
def cQ (h:Cu) (a b:Rat) (j e:Nat):Rat:=dy h.k h.p.toNat (fun i=>cR (h.f i) e) (bL h.n h.k a) (bB (fun q=>if q<h.p.toNat-j then a else b) 0 h.p.toNat)
def jN (h:Cu) (a b:Rat):Cu:=⟨h.p,h.p.toNat+1+(h.p.toNat+1),fun q=>if q<h.p.toNat+1 then a else b,h.p.toNat+1,fun j=>⟨⟨cQ h a b j 0,cQ h a b j 1,cQ h a b j 2⟩,cQ h a b j 3⟩⟩
theorem z8 {c d:Cu} {P Q j:Nat} (h:eR c d) (hP:At c.n c.k P) (hQ:vK d.n c.p.toNat d.k (c.k P) (c.k (P+1)) Q) (hj:j<=c.p.toNat):b9 (d.f (Q-c.p.toNat+j))=(jN (cr c) (c.k P) (c.k (P+1))).f j:=by
 obtain⟨k1,k2,k3,k4,k5⟩:=id h.kn
 have hp:=h.p
 rw[hp]at k1
 obtain⟨w1,w2⟩:=k1.ji hQ.at_
 obtain⟨P',p1,p2,p3⟩:=h.sub.Iz (j:=Q-c.p.toNat+j) k1 hQ.at_ aa aa
 have e:P'=P:=by rw[<-p2,hQ.lo];exact oV hP
 have el:bB d.k (Q-c.p.toNat+j+1) c.p.toNat=bB (fun q=>if q<c.p.toNat-j then c.k P else c.k (P+1)) 0 c.p.toNat:=by
  have:=G4 (k:=d.k) (c:=Q-c.p.toNat+j+1) (l:=c.p.toNat) (a:=0)
  rw[Nat.add_zero]at this
  rw[<-this]
  exact xJ fun q _ hq=>by
   by_cases c1:q<c.p.toNat-j
   ·rw[if_pos c1];exact hQ.left _ aa aa
   ·rw[if_neg c1];exact hQ.right _ aa aa
 have key:∀e,cR (b9 (d.f (Q-c.p.toNat+j))) e=cQ (cr c) (c.k P) (c.k (P+1)) j e:=fun e'=>by
  have:=p3 e'
  rw[el,e]at this
  rw[<-this]
  show _=dy c.k c.p.toNat (fun i=>cR (b9 (c.f i)) e') (bL c.n c.k (c.k P)) _
  rw[oV hP]
 show b9 (d.f (Q-c.p.toNat+j))=(⟨⟨cQ (cr c) (c.k P) (c.k (P+1)) j 0,cQ (cr c) (c.k P) (c.k (P+1)) j 1,cQ (cr c) (c.k P) (c.k (P+1)) j 2⟩,cQ (cr c) (c.k P) (c.k (P+1)) j 3⟩:Pl)
 rw[<-key 0,<-key 1,<-key 2,<-key 3];rfl
theorem eR.two {c d:Cu} {P:Nat} (h:eR c d) (hP:At c.n c.k P) (ha:∃q,q<d.n/\d.k q=c.k P) (hb:∃q,q<d.n/\d.k q=c.k (P+1)):∃Q,At d.n d.k Q/\d.k Q=c.k P/\d.k (Q+1)=c.k (P+1):=by
 obtain⟨k1,k2,k3,k4,k5⟩:=id h.kn
 obtain⟨qa,a1,a2⟩:=ha
 obtain⟨qb,b1,b2⟩:=hb
 have hw:=hP.wide
 have m1:=k1.mono (Nat.zero_le qa) a1
 have m2:=k1.mono (show qb<=d.n-1 by omega) aa
 obtain⟨g1,g2,g3⟩:=k1.xd (t:=c.k P) (by grind) (by grind)
 generalize bL d.n d.k (c.k P)=Q at*
 have hlt:=g1.at_.lt
 have glo:=g1.lo
 have gw:=g1.at_.wide
 have hgt:c.k P<d.k (Q+1):=by
  rcases g1.Di with e|e
  ·exact e
  ·rw[e];grind
 have e1:d.k Q=c.k P:=by
  by_cases c1:qa<=Q
  ·have:=k1.mono c1 aa
   grind
  ·have:=k1.mono (show Q+1<=qa by omega) a1
   grind
 refine⟨Q,g1.at_,e1,?_⟩
 obtain⟨r,r1,r2⟩:=h.kc (Q+1) hlt
 have c1:P+1<=r:=by
  by_cases c2:P+1<=r
  ·exact c2
  ·have:=fF hP.sorted (show r<=P by omega) (by have:=hP.lt;omega)
   grind
 have c2:=fF hP.sorted c1 r1
 have c3:Q+1<=qb:=by
  by_cases c4:Q+1<=qb
  ·exact c4
  ·have:=k1.mono (show qb<=Q by omega) aa
   grind
 have c4:=k1.mono c3 b1
 grind
theorem MX {c d:Cu} {t:Rat} (hq:eR c d) (ht:∃r,r<c.n/\t=c.k r) (h0:d.k 0<t) (h1:t<d.k (d.n-1)) (h40:d.m+d.p.toNat<=40):∀{r:Nat},((bF d.k t d.n+r:Nat):Int)<=d.p->(cX d t r).k=fj d.k d.n t r/\∀y,t≠y->bF (cX d t r).k y (cX d t r).n=bF d.k y d.n
 |0,_=>⟨rfl,fun _ _=>rfl⟩
 |r+1,h=>by
  obtain⟨ih,ih2⟩:=MX hq ht h0 h1 h40 (r:=r) aa
  obtain⟨⟨a1,a2,a3,a4,a5,a6,a7⟩,hr⟩:=CJ hq ht h0 h1 h40 (r:=r) aa
  have hE:fN (cX d t r) t=0:=I6 (by rw[a6];exact h0) (by rw[a7];exact h1) (by rw[a5,a2];omega) (by rw[a4];omega)
  obtain⟨b1,b2,b3,b4⟩:=A8 hE
  obtain⟨i1,i2,i3⟩:=oZ hr.kn.1 b1 b2
  have e:cX d t (r+1)=vl (cX d t r) t (bL (cX d t r).n (cX d t r).k t):=if_pos hE
  refine⟨?_,fun y hy=>?_⟩
  ·rw[e]
   show dx (cX d t r).k t (bL (cX d t r).n (cX d t r).k t+1)=dx (fj d.k d.n t r) t (bL (d.n+r) (fj d.k d.n t r) t+1)
   rw[ih,a3]
  ·rw[e,<-ih2 y hy]
   show bF (dx (cX d t r).k t (bL (cX d t r).n (cX d t r).k t+1)) y ((cX d t r).n+1)=_
   generalize bL (cX d t r).n (cX d t r).k t=a at*
   have:=Lm (k:=(cX d t r).k) (q:=a+1) hy (m:=(cX d t r).n-(a+1))
   rw[show a+1+1+((cX d t r).n-(a+1))=(cX d t r).n+1 by omega,show a+1+((cX d t r).n-(a+1))=(cX d t r).n by omega]at this
   exact this
structure Gb (c d e:Cu) (x:Rat) (R:Nat):Prop where
 q:eR c e
 n:e.n=d.n+R
 m:e.m=d.m+R
 r:R<=c.p.toNat
 k:e.k=fj d.k d.n x R
 j:s8 c.p.toNat d.n d.k x R
 k0:e.k 0=d.k 0
 k1:e.k (e.n-1)=d.k (d.n-1)
 t:e.k 0=x\/e.k (e.n-1)=x\/bF e.k x e.n=c.p.toNat
 o:∀y,x≠y->bF e.k y e.n=bF d.k y d.n
 sd:∀i,fH (e.k i)
theorem eR.step {c d:Cu} {x:Rat} (hb:eZ c) (h:eR c d) (hx:∃r,r<c.n/\x=c.k r) (h40:d.m+d.p.toNat<=40) (h0:d.k 0<=x) (h1:x<=d.k (d.n-1)) (sd:∀i,fH (d.k i)):∃R e,Gb c d e x R:=by
 have hp:=h.p
 have hkn:=h.kn.1
 rw[hp]at hkn
 by_cases hi:d.k 0<x/\x<d.k (d.n-1)
 ·have hle:=hkn.My hi.1 hi.2
  obtain⟨R,hR⟩:∃R,R=c.p.toNat-bF d.k x d.n:=⟨_,rfl⟩
  have k2:=h.kn.2.1
  have hRp:((bF d.k x d.n+R:Nat):Int)<=d.p:=aa
  obtain⟨⟨a1,a2,a3,a4,a5,a6,a7⟩,hr⟩:=CJ h hx hi.1 hi.2 h40 hRp
  obtain⟨b1,b2⟩:=MX h hx hi.1 hi.2 h40 hRp
  have hxD:fH x:=by
   obtain⟨r,_,e⟩:=hx
   rw[e];exact hb.d.kd r
  have hK:∀r,r<=R->vS d.n c.p.toNat d.k x r:=fun r hr=>Nd hkn hi.1 hi.2 sd hxD aa
  exact⟨R,cX d x R,hr,a3,a4,aa,b1,.inl ⟨hi.1,hi.2,aa,hK⟩,a6,a7,.inr (.inr (by rw[a5];omega)),b2,fun i=>by rw[b1];exact(hK R bp).sd i⟩
 ·have hx2:x=d.k 0\/x=d.k (d.n-1):=by
   by_cases g:d.k 0<x
   ·right
    have:¬x<d.k (d.n-1):=fun g2=>hi ⟨g,g2⟩
    grind
   ·left;grind
  exact⟨0,d,h,rfl,rfl,Nat.zero_le _,rfl,.inr ⟨hx2,rfl⟩,rfl,rfl,hx2.elim (fun g=>.inl g.symm) fun g=>.inr (.inl g.symm),fun _ _=>rfl,sd⟩
theorem OE {c:Cu} {P:Nat} (hb:eZ c) (hP:At c.n c.k P) (h40:c.m+(c.p.toNat+c.p.toNat)<=40):∃R0 R1 E1 E,Gb c c E1 (c.k P) R0/\Gb c E1 E (c.k (P+1)) R1/\∃Q,vK E.n c.p.toNat E.k (c.k P) (c.k (P+1)) Q:=by
 have hkn:=hb.d.kn.1
 have hlt:=hP.lt
 have hw:=hP.wide
 have m0:=hkn.mono (Nat.zero_le P) aa
 have m1:=hkn.mono (show P+1<=c.n-1 by omega) aa
 obtain⟨R0,E1,s1⟩:=hb.self.step hb (x:=c.k P) ⟨P,aa,rfl⟩ aa m0 (by grind) hb.d.kd
 have q1:=s1.q.p
 obtain⟨R1,E,s2⟩:=s1.q.step hb (x:=c.k (P+1)) ⟨P+1,hlt,rfl⟩ (by rw[s1.m,q1];have:=s1.r;omega) (by rw[s1.k0];grind) (by rw[s1.k1];exact m1) s1.sd
 refine⟨R0,R1,E1,E,s1,s2,?_⟩
 have f0:E.k 0=c.k 0:=s2.k0.trans s1.k0
 have f1:E.k (E.n-1)=c.k (c.n-1):=s2.k1.trans s1.k1
 have hE:=s2.q.kn.1
 have q2:=s2.q.p
 rw[q2]at hE
 have hlE:=hE.len
 have hp:=hE.p1
 have ha:E.k 0=c.k P\/bF E.k (c.k P) E.n=c.p.toNat:=by
  rcases s1.t with g|g|g
  ·left;rw[s2.k0,g]
  ·rw[s1.k1]at g;exfalso;grind
  ·right;rw[s2.o _ (by grind),g]
 have hbb:E.k (E.n-1)=c.k (P+1)\/bF E.k (c.k (P+1)) E.n=c.p.toNat:=by
  rcases s2.t with g|g|g
  ·exfalso;grind
  ·exact .inl g
  ·exact .inr g
 obtain⟨Q,g1,g2,g3⟩:=s2.q.two hP (ha.elim (fun g=>⟨0,aa,g⟩) fun g=>Em aa) (hbb.elim (fun g=>⟨E.n-1,aa,g⟩) fun g=>Em aa)
 exact⟨Q,hE.Fl g1 g2 g3 ha hbb⟩
theorem afP {c d:Cu} {j:Nat} (h:eR c d) (hb:eZ c) (hj:j<d.m):pO (cr c) d.n d.k j=b9 (d.f j):=by
 obtain⟨k1,k2,k3,k4,k5⟩:=id hb.d.kn
 obtain⟨d1,d2,d3,d4,d5⟩:=id h.kn
 have hp:=h.p
 rw[hp]at d1
 have hl:=d1.len
 obtain⟨Q,hQ⟩:∃Q,Q=gU d.k d.n j:=⟨_,rfl⟩
 obtain⟨g1,g2,g3⟩:j<=Q/\Q<j+(c.p.toNat+1)/\d.k Q<d.k (Q+1):=by
  rw[hQ]
  exact KF (n:=d.n) (k:=d.k) (pc:=qN d.k d.n) (fun _=>rfl) (fun _ _=>rfl) (d1.Tl aa) aa aa
 have hA:At d.n d.k Q:=⟨aa,d1.sorted,g3⟩
 obtain⟨P,hP,hI,hE⟩:=h.sub.Iz d1 hA g1 aa
 have hI2:js c.n c.k (d.k Q)=P:=by
  unfold js
  rw[if_neg,hI]
  obtain⟨r,r1,r2⟩:=h.kc Q aa
  rw[r2]
  rintro(g|g)
  ·exact absurd (k1.mono (Nat.zero_le r) r1) (Rat.not_le.2 g)
  ·exact absurd (k1.mono (show r<=c.n-1 by omega) aa) (Rat.not_le.2 g)
 have key:∀e,iB (cr c) (P:Nat) c.p.toNat (fun i=>d.k (i+(j+1))) e=cR (b9 (d.f j)) e:=fun e=>(Ux (c:=cr c) k1 k2 k5 hP).trans (hE e)
 show qQ (cr c) (js c.n c.k (d.k (gU d.k d.n j))) c.p.toNat (fun q=>d.k (q+(j+1)))=_
 rw[<-hQ,hI2]
 unfold qQ
 rw[key 0,key 1,key 2,key 3]
 rfl
def Oe:Spec:=dj (kC (uJ 2000 4000) (kC (gz 2000) (kC (gz 2000) kN))) (fun a=>dL (jN a.1 a.2.1 a.2.2.1) 2000 sB) fun a=>[∃c P,eZ c/\a.1=cr c/\At c.n c.k P/\a.2.1=c.k P/\a.2.2.1=c.k (P+1)/\c.m+(c.p.toNat+c.p.toNat)<=40]
theorem Cb {es n m:Nat} {f g:Nat->AV} (h:n=m) (hf:∀i,i<n->bD (f i) (g i)):bD (.aq es n f) (.aq es m g):=by
 subst h
 exact gm hf
theorem ail {c:Cu} {I:Nat} (hb:eZ c) (hP:At c.n c.k I) (h40:c.m+(c.p.toNat+c.p.toNat)<=40) (K:Nat):aD P vG K [dL (cr c) 2000 4000,.rat (c.k I) 2000,.rat (c.k (I+1)) 2000] [] (aL (dL (jN (cr c) (c.k I) (c.k (I+1))) 2000 sB) []):=by
 obtain⟨R0,R1,E1,E,s1,s2,Q,hQ⟩:=OE hb hP h40
 obtain⟨k1,k2,k3,k4,k5⟩:=id hb.d.kn
 obtain⟨d1,d2,d3,d4,d5⟩:=id s2.q.kn
 have hp:=s2.q.p
 rw[hp]at d1
 obtain⟨w1,w2⟩:=d1.ji hQ.at_
 have hw:=hQ.at_.wide
 have n1:=s1.n
 have n2:=s2.n
 have r1:=s1.r
 have r2:=s2.r
 have hf:fL (kM (c.k I) E.k) E.n=Q+1:=xh (by show decide _=true;exact decide_eq_true (by rw[<-hQ.lo];exact hw)) (fun j hj=>decide_eq_false (by
  have:=d1.mono (show j<=Q by omega) aa
  rw[hQ.lo]at this
  exact Rat.not_lt.2 this)) aa
 have hl:fL (ko (c.k (I+1)) E.k) E.n=Q+1:=xh (by show decide _=true;exact decide_eq_true (by rw[hQ.hi];exact Rat.le_refl)) (fun j hj=>decide_eq_false (by
  have:=d1.mono (show j<=Q by omega) aa
  rw[<-hQ.hi]
  exact Rat.not_le.2 (by grind))) aa
 refine rL (u:=dL (zm (kq (cr c) E.n E.k) (c.k I) (c.k (I+1)) (Q+1) (Q+1)) sK sB) (l:=[]) (afF (c:=cr c) (a:=c.k I) (b:=c.k (I+1)) (f:=Q+1) (l:=Q+1) (ns:=fun j=>match j with
  |0=>c.n
  |1=>E1.n
  |_=>E.n) (rs:=fun j=>match j with
  |0=>R0
  |_=>R1) (ks:=fun j=>match j with
  |0=>c.k
  |1=>E1.k
  |_=>E.k) k1 k2 k3 (by show c.n<_;omega) (by show c.m<_;omega) rfl rfl (fun j hj=>?_) (fun j hj=>?_) (fun j hj=>?_) hf hl (by show c.p.toNat+1<=_;omega) bp (by show Q+1+c.p.toNat+1<=E.n;omega) K) (fun h=>trivial) rfl rfl ?_
 ·rcases(show j=0\/j=1\/j=2 by omega)with rfl|rfl|rfl
  ·exact⟨bp,show c.n<_ by omega⟩
  ·exact⟨show c.n<=E1.n by omega,show E1.n<_ by omega⟩
  ·exact⟨show c.n<=E.n by omega,show E.n<_ by omega⟩
 ·rcases(show j=0\/j=1 by omega)with rfl|rfl
  ·exact⟨n1,s1.k⟩
  ·exact⟨n2,s2.k⟩
 ·rcases(show j=0\/j=1 by omega)with rfl|rfl
  ·exact s1.j
  ·exact s2.j
 ·refine cu ⟨.refl _,Cb (by show c.p.toNat+1+(Q+1-(Q+1))+(c.p.toNat+1)=c.p.toNat+1+(c.p.toNat+1);omega) fun i hi=>?_,Cb (by show Q+1-(Q+1-1-c.p.toNat)=c.p.toNat+1;omega) fun i hi=>?_,trivial⟩
  ·have e:oE c.p.toNat (c.k I) (c.k (I+1)) E.k (Q+1) (Q+1) i=if i<c.p.toNat+1 then c.k I else c.k (I+1):=by
    unfold oE
    by_cases g:i<c.p.toNat+1
    ·rw[if_pos g,if_pos g]
    ·rw[if_neg g,if_neg aa,if_neg g]
   show bD (.rat (oE c.p.toNat (c.k I) (c.k (I+1)) E.k (Q+1) (Q+1) i) sK) (.rat (if i<c.p.toNat+1 then c.k I else c.k (I+1)) 2000)
   rw[e]
   refine cV rfl (rR ?_)
   split
   ·exact rF (hb.h _)
   ·exact rF (hb.h _)
  ·have hi:i<Q+1-(Q+1-1-c.p.toNat):=hi
   show bD (cy (pO (cr c) E.n E.k (Q+1-1-c.p.toNat+i)) sB) (cy ((jN (cr c) (c.k I) (c.k (I+1))).f i) sB)
   rw[Nat.add_sub_cancel,afP s2.q hb aa,z8 s2.q hP hQ aa]
   exact .refl _
theorem US:∀K args pre r,Oe K args pre=some r->aD P vG K args pre r:=cY fun⟨c,a,b,_⟩ K hn=>by
 obtain⟨g,I,h1,h2,h3,h4,h5,h6⟩:=hn
 have h2:c=cr g:=h2
 have h4:a=g.k I:=h4
 have h5:b=g.k (I+1):=h5
 rw[h2,h4,h5]
 exact ail h1 h3 h6 K
def N7 (x y:Nat):Spec:=pX fun K l=>match l with
 |[v]=>match(kL x).read v with
  |some ((n,k),q)=>some ⟨.own K 3 0 n,[(K,kW y n k)],q++[n<2^40]⟩
  |none=>none
 |_=>none
def Bq (x y:Nat):aV:=nG::(q9,N7 x y)::(J8++fK)
abbrev wP (m:Nat) (f:Nat->Pl) (w:Nat):ax:=⟨true,true,12,m,fun j=>bU (f j) w⟩
abbrev G0 (c:Cu) (a b:Nat):AV:=.agg [.int .i64 c.p,.own a 3 0 c.n,.own b 12 0 c.m]
def Rr (x r s y w:Nat):Spec:=pX fun K l=>match l with
 |[u,v]=>match(iF x r).read u,(IC s).read v with
  |some (c,q1),some (m,q2)=>some ⟨iw [G0 c K (K+1)],[(K,kW y c.n c.k),(K+1,wP c.m (fun j=>wF m (c.f j)) w)],q1++(q2++[c.n<2^30,c.m<2^30])⟩
  |_,_=>none
 |_=>none
abbrev HH (c:Cu) (m:Mp) (y w s i:Nat):aE:=[(4,wP i (fun j=>wF m (c.f j)) w),(5,kW y c.n c.k),(3,⟨false,true,3,1,fun _=>.agg [.int .i64 c.p,.own 5 3 0 c.n,.own 4 12 0 i]⟩),(2,⟨false,true,3,1,fun _=>.agg [.int .i64 0,.nil,.nil]⟩),(1,⟨false,true,36,1,fun _=>mP m s⟩)]
theorem Xx {x y n i:Nat} {k:Nat->Rat}:aJ T wT [] 60 [2] [part pC [1,1,1]] ⟨aF ri (wh x n k i),[(0,kW y i k)],1⟩=
  some (leaf ret ([own 0 3 0 i],[(0,ax.mk true true 3 i fun i=>rat (k i) y)])):=ah
theorem aiX {x y r s:Nat} {c:Cu} {m:Mp}:aJ T (Bq x y) [] 60 xZ (before wM [1,1,0,1]) ⟨aQ 0 [bT c x r,mP m s],[],0⟩=
  let c2:Prop:=0<1;let c1:AV:=agg [int i64 0,nil,nil];some (aj [c2,c2,bV (fun i=>rat (c.k i) x) c.n x,c.n<2^40,c2] (aj [c2] (leaf normal ([ptr 4096 0 (bA (mP m s)).size 0 [],ptr 8192 0 3 0 [],ptr 36864 0 3 0 [],aq 12 c.m fun i=>agg [agg [rat (c.f i).n.x r,rat (c.f i).n.y r,rat (c.f i).n.z r],rat (c.f i).d r],int i64 (↑c.m:Int),int i64 0],[(28672,ax.mk true true 3 c.n fun i=>rat (aZ (rat (c.k i) x)) y),((36864:Nat),bg fun j=>if(j==0)=true then bA (agg ((c1.kids.set 0 (bA (int i64 c.p))).set 1 (bA (own (nat_lit 28671+1) 3 0 c.n))))else c1),((8192:Nat),bg fun x=>c1),(4096,ax.mk false true (bA (mP m s)).size 1 fun x=>agg [agg [agg [rat m.m.a.x s,rat m.m.a.y s,rat m.m.a.z s],agg [rat m.m.b.x s,rat m.m.b.y s,rat m.m.b.z s],agg [rat m.m.c.x s,rat m.m.c.y s,rat m.m.c.z s]],agg [rat m.t.x s,rat m.t.y s,rat m.t.z s]])])))):=ah
theorem ZD {x y r s w i:Nat} {c:Cu} {m:Mp}:aJ T (Bq x y) [18] 60 xZ [part wM [1,1,0,1,0,0]] ⟨aF xZ (Is c r i),HH c m y w s i,6⟩=
  let c25:Int:=(↑c.m:Int);let c24:Int:=(↑(3:Nat):Int);let c20:AV:=ptr 2 0 3 0 [];let c19:AV:=ptr 3 0 3 0 [];let c18:AV:=ptr 1 0 36 0 [];let c16:Nat×ax:=(5,ax.mk true true 3 c.n fun i=>rat (c.k i) y);let c15:AV:=rat 0 1;let c14:Int:=(↑i:Int);let c13:Nat:=1+(s+r)+1;let c12:Int:=i64.wrap ((0:Int)+(1:Int));let c10:AV:=aq 12 c.m fun i=>agg [agg [rat (c.f i).n.x r,rat (c.f i).n.y r,rat (c.f i).n.z r],rat (c.f i).d r];let c8:AV:=agg [int i64 c.p,own 5 3 0 c.n,own 4 12 0 i];let c6:List (Nat×ax):=[((2:Nat),bg fun x=>agg [int i64 0,nil,nil]),(1,ax.mk false true 36 1 fun x=>agg [agg [agg [rat m.m.a.x s,rat m.m.a.y s,rat m.m.a.z s],agg [rat m.m.b.x s,rat m.m.b.y s,rat m.m.b.z s],agg [rat m.m.c.x s,rat m.m.c.y s,rat m.m.c.z s]],agg [rat m.t.x s,rat m.t.y s,rat m.t.z s]])];let c4:Nat:=2^42;let c1:Prop:=0<1;let c28:Int:=i64.wrap (c12+(1:Int));let c27:Int:=c14+(1:Int);let c26:Prop:=r<c4;let c23:Prop:=1<c4;let c21:Prop:=s<c4;let c17:Prop:=s+r<c4;let c9:V3:=(c.f c14.toNat).n;let c7:Nat:=c13+(s+r)+1;let c5:Prop:=(0:Int)<=(0:Int)/\(0:Int)<c24;let c3:Prop:=(0:Int)<=c12/\c12<c24;let c11:Nat:=c7+(s+r)+1;let c2:Prop:=(0:Int)<=c28/\c28<c24;let c22:Nat:=c11+s+1;some (fork (decide (c14<c25)) (aj [(0:Int)<=c14/\c14.toNat<c.m,c1] (aj [c1,c1,c1,c1,c1,c1,c5,c1,c1,c1,c1,c5,c1,c5,c1,c21,c26,c23,c17,c1,c1,c3,c1,c3,c1,c21,c26,c13<c4,c17,c1,c1,c2,c1,c2,c1,c21,c26,c7<c4,c17,c1,c1,c1,c1,c5,c1,c3,c1,c1,c1,c1,c5,c1,c5,c1,c21,c26,c23,c17,c1,c1,c3,c1,c3,c1,c21,c26,c13<c4,c17,c1,c1,c2,c1,c2,c1,c21,c26,c7<c4,c17,c1,c1,c1,c1,c3,c1,c2,c1,c1,c1,c1,c5,c1,c5,c1,c21,c26,c23,c17,c1,c1,c3,c1,c3,c1,c21,c26,c13<c4,c17,c1,c1,c2,c1,c2,c1,c21,c26,c7<c4,c17,c1,c1,c1,c1,c2,c1,c1,c1,c1,c1,c1,c1,c5,c1,c5,c1,c11<c4,c21,c5,c1,c3,c1,c3,c1,c11<c4,c21,c3,c1,c2,c1,c2,c1,c11<c4,c21,c2,c1,c1,c1,c1,c1,c1,c1,c1,c1,c26,c23,(1:Nat)*12<=2^24,(i+1)*((224:Nat)+1)*2<=2^47,c1] (aj [-(2:Int)^63<=c27/\c27<(2:Int)^63] (leaf normal ([c18,c20,c19,c10,int i64 c25,int i64 c27],(69638,ax.mk true true 12 (i+1) fun i_1=>if i_1<i then bU (wF m (c.f i_1)) w else nth [agg [agg [rat ((0:Rat)+m.m.a.x*c9.x+m.m.a.y*c9.y+m.m.a.z*c9.z+m.t.x) c22,rat ((0:Rat)+m.m.b.x*c9.x+m.m.b.y*c9.y+m.m.b.z*c9.z+m.t.y) c22,rat ((0:Rat)+m.m.c.x*c9.x+m.m.c.y*c9.y+m.m.c.z*c9.z+m.t.z) c22],rat ((c.f c14.toNat).d+0) (r+1+1)]] (agg [agg [c15,c15,c15],c15]) (i_1-i+0))::c16::((3:Nat),bg fun j=>if(j==0)=true then agg (c8.kids.set 2 (bA (own (nat_lit 69637+1) 12 0 (i+1))))else c8)::c6))))) (leaf (exit 0) ([c18,c20,c19,c10,int i64 c25,int i64 c14],(4,ax.mk true true 12 i fun j=>agg [agg [rat (iM m.m.a (c.f j).n m.t.x) w,rat (iM m.m.b (c.f j).n m.t.y) w,rat (iM m.m.c (c.f j).n m.t.z) w],rat (c.f j).d w])::c16::((3:Nat),bg fun x=>c8)::c6))):=ah
theorem YC {x y r s w i:Nat} {c:Cu} {m:Mp}:aJ T (Bq x y) [] 60 [4] [part wM [1,1,1]] ⟨aF xZ (Is c r i),HH c m y w s i,6⟩=
  some (aj [(0:Nat)<1,(0:Nat)<1] (leaf ret ([ptr 2 0 3 0 []],[(4,ax.mk true true 12 i fun j=>agg [agg [rat (iM m.m.a (c.f j).n m.t.x) w,rat (iM m.m.b (c.f j).n m.t.y) w,rat (iM m.m.c (c.f j).n m.t.z) w],rat (c.f j).d w]),(5,ax.mk true true 3 c.n fun i=>rat (c.k i) y),((2:Nat),bg fun j=>if(j==0)=true then bA (agg [int i64 c.p,own 5 3 0 c.n,own 4 12 0 i])else agg [int i64 0,nil,nil])]))):=ah
theorem agi {args:List AV} {x y n:Nat} {k:Nat->Rat} {l:List Prop} (hxy:x+10<=y) (hy:y<2^40) (ha:aA l->eU (aY []) args [bN k n x]) (hn:aA l->n<2^40) (K:Nat):aD P q9 K args [] ⟨iw [.own K 3 0 n],[(K,kW y n k)],l⟩:=by
 refine Ir hT Gq ha aW fun need c hk=>?_
 have hn:=hn need
 refine ay.jx hT Hf hm [1,1,0,1] (i:=0) (y:=part pC [1,1,0,1,0,0]) (z:=part pC [1,1,1]) ah ah ah Gq.dst hk (f1:=[]) (f2:=[12]) 60 ri 1 (fun i:Nat=>wh x n k i) (fun i=>[(0,kW y i k)])
  (fun i=>i<=n) (fun i=>i=n) (fun i=>n-i) (fun _=>False) ⟨_,RC,?_⟩ (fun i hi=>⟨_,KW,?_⟩) (fun i hi=>?_) (fun _ _ h=>h.elim)
 ·simp only[ag.all,aA]
  exact⟨aa,0,Nat.zero_le _,[(0,12288)],rfl,rfl,rfl,bO rfl rfl rfl (fun i hi=>absurd hi (Nat.not_lt_zero i)) trivial⟩
 ·simp only[ag.all,aA,bf,bt,aX,Nat.add_zero]
  exact⟨fun h2=>⟨aa,aa,aa,i+1,aa,by dsimp only;omega,[(0,40961)],rfl,rfl,rfl,bO rfl rfl rfl (fun j hj=>pG (fun _ _=>rfl) (Rat.add_zero _) bp aa hj) trivial⟩,fun h2=>⟨rfl,i,aa,[(0,0)],rfl,rfl,rfl,bO rfl rfl rfl (fun j hj=>cB rfl rfl) trivial⟩⟩
 ·subst hi
  refine ay.bz hT Hf hm 60 [2] Xx ah fun s' hs'=>⟨.inr rfl,[2],_,[.own 0 3 0 i],_,0,_,hs',ah,⟨⟨rfl,cP (by simp[aY,look]) rfl rfl⟩,trivial⟩,rfl,iA rfl fun i hi=>aK rfl⟩
theorem abL {x y:Nat} (hxy:x+10<=y) (hy:y<2^40):∀K args pre r,N7 x y K args pre=some r->aD P q9 K args pre r:=by
 refine uM fun K args r hk hs=>?_
 split at hs
 ·rename_i v
  split at hs
  ·rename_i n k q hv
   simp only[au]at hs
   subst hs
   exact agi hxy hy (fun hn=>xq hk (by cases v<;>first|rfl|simp[kL,ym]at hv) ⟨(kL x).ok hv (dn.1 hn).1,trivial⟩) (fun hn=>(dn (a:=q) (b:=[n<2^40]).1 hn).2) K
  ·simp at hs
 ·simp at hs
theorem PV {x y:Nat} (hxy:x+10<=y) (hy:y<2^40):bn P (Bq x y):=dB (aI (abL hxy hy) (oF adz fZ))
theorem Ke {rl:List (Nat×Nat)} {c:Cu} {a b i n:Nat} (h:aY rl 4=some a) (h5:aY rl 5=some b) (hn:n=c.n):gA rl (.agg [.int .i64 c.p,.own b 3 0 n,.own a 12 0 i]) (.agg [.int .i64 c.p,.own 5 3 0 c.n,.own 4 12 0 i]):=
 l9 ⟨⟨rfl,aK rfl⟩,⟨rfl,cP h5 rfl hn⟩,⟨rfl,cP h rfl rfl⟩,trivial⟩
theorem Yb {args:List AV} {x y r s w:Nat} {c:Cu} {m:Mp} {l:List Prop} (hx:x+10<=y) (hy:y<2^40) (hw:4*s+3*r+10<=w) (hw2:w<2^40) (ha:aA l->eU (aY []) args [bT c x r,mP m s]) (hl:aA l->c.n<2^30/\c.m<2^30) (K:Nat):
  aD P BO K args [] ⟨iw [G0 c K (K+1)],[(K,kW y c.n c.k),(K+1,wP c.m (fun j=>wF m (c.f j)) w)],l⟩:=by
 refine aiF hT MJ ha aW fun need cx hk=>?_
 obtain⟨hn,hm2⟩:=hl need
 refine ay.jx hT (PV hx hy) hm [1,1,0,1] (i:=0) (y:=part wM [1,1,0,1,0,0]) (z:=part wM [1,1,1]) ah ah ah MJ.dst hk (f1:=[]) (f2:=[18]) 60 xZ 6
  (fun i:Nat=>Is c r i) (fun i=>HH c m y w s i) (fun i=>i<=c.m) (fun i=>i=c.m) (fun i=>c.m-i) (fun _=>False) ⟨_,aiX,?_⟩ (fun i hi=>⟨_,ZD,?_⟩) (fun i hi=>?_) (fun _ _ h=>h.elim)
 ·simp only[ag.all,aA]
  rw[aiK m s]
  exact⟨⟨aa,aa,cI bp,aa,aa⟩,aa,0,Nat.zero_le _,[(1,4096),(2,8192),(3,36864),(5,28672)],rfl,rfl,rfl,qL rfl aa aa (g9 (dF rfl rfl (l9 ⟨⟨rfl,aK rfl⟩,⟨rfl,cP rfl rfl rfl⟩,⟨rfl,r9 aa⟩,trivial⟩) (aO (aO trivial))))⟩
 ·set_option maxRecDepth 10000 in simp only[ag.all,aA,bf,bt,aX,Nat.add_zero]
  refine⟨fun h=>?_,fun h=>⟨rfl,i,aa,[(1,1),(2,2),(3,3),(4,4),(5,5)],rfl,rfl,rfl,g9 (g9 (dF rfl rfl (Ke rfl rfl rfl) (aO (aO trivial))))⟩⟩
  have w1:i64.wrap (0+1)=1:=by decide
  have w2:i64.wrap (i64.wrap (0+1)+1)=2:=by decide
  rw[w2,w1]
  refine⟨aa,?_,aa,i+1,aa,by dsimp only;omega,[(1,1),(2,2),(3,3),(4,69638),(5,5)],rfl,rfl,rfl,bO rfl rfl rfl (fun k hk=>Im (y:=fun j=>wF m (c.f j)) (fun _ _=>rfl) (s':=w) ?_ rfl bp bp hk) (g9 (dF rfl rfl (Ke rfl rfl rfl) (aO (aO trivial))))⟩
  ·(repeat' with_reducible refine And.intro ?_ ?_)<;>omega
  ·exact cu ⟨cu ⟨bQ rfl aa,bQ rfl aa,bQ rfl aa,trivial⟩,bQ (Rat.add_zero _) aa,trivial⟩
 ·subst hi
  refine ay.bz hT (PV hx hy) hm 60 [4] YC ah ?_
  simp only[ag.all,aA]
  have r1:aY [(K,5),(K+1,4)] K=some 5:=NY
  have r2:aY [(K,5),(K+1,4)] (K+1)=some 4:=OU aa
  exact⟨aa,fun s' hs'=>⟨.inr trivial,[4],_,[.agg [.int .i64 c.p,.own 5 3 0 c.n,.own 4 12 0 c.m]],[0<1],_,5,4,_,_,hs',ah,Nat.zero_lt_one,by decide,⟨⟨rfl,Oa ⟨⟨rfl,aK rfl⟩,⟨rfl,cP r1 rfl rfl⟩,⟨rfl,cP r2 rfl rfl⟩,trivial⟩⟩,trivial⟩,rfl,iA rfl fun i hi=>aK rfl,rfl,iA rfl fun i hi=>aK rfl⟩⟩
theorem Sa {x y r s w:Nat} (hx:x+10<=y) (hy:y<2^40) (hw:4*s+3*r+10<=w) (hw2:w<2^40):∀K args pre q,Rr x r s y w K args pre=some q->aD P BO K args pre q:=by
 refine uM fun K args q hk hs=>?_
 split at hs
 ·rename_i u v
  split at hs
  ·rename_i c q1 m q2 hu hv
   simp only[au]at hs
   subst hs
   exact Yb hx hy hw hw2 (fun hn=>xq hk (by cases u<;>cases v<;>first|rfl|simp[iF,IC,Cg]at hu hv) ⟨(iF x r).ok hu (dn.1 hn).1,(IC s).ok hv (dn.1 (dn.1 hn).2).1,trivial⟩) (fun hn=>(dn (a:=q2) (b:=[c.n<2^30,c.m<2^30]).1 (dn.1 hn).2).2) K
  ·simp at hs
 ·simp at hs
theorem J5:aU P wR rJ (az rJ):=aT Proofs.Tryz.func30 ah ah ah
def fV (c d:Cu) (i:Nat):Rat:=if i<c.n-1 then c.k i else d.k (i-(c.n-1)+(d.p.toNat+1))+(c.k (c.n-1)-d.k 0)
def m8 (c d:Cu):Rat:=(c.f (c.m-1)).d/(d.f 0).d
def iY (c d:Cu) (i:Nat):Pl:=if i<c.m then c.f i else⟨(d.f (i-c.m+1)).n,m8 c d*(d.f (i-c.m+1)).d⟩
def gb (c d:Cu):Int:=if c.p≠d.p then 1 else if(c.f (c.m-1)).n.x=(d.f 0).n.x/\(c.f (c.m-1)).n.y=(d.f 0).n.y/\(c.f (c.m-1)).n.z=(d.f 0).n.z then 0 else 7
def fe (c d:Cu):Cu:=if gb c d=0 then⟨c.p,c.n-1+(d.n-(d.p.toNat+1)),fV c d,c.m+(d.m-1),iY c d⟩else⟨0,0,fun _=>0,0,fun _=>⟨⟨0,0,0⟩,0⟩⟩
def Rz (c:Cu):Nat->Nat
 |0=>c.n
 |i+1=>c.n-1+(i+1)
def Kr (c d:Cu):Nat->Nat->Rat
 |0=>c.k
 |_+1=>fV c d
def O6:aV:=[(afx,gT T (sG::tw) [16] 60 adp)]
abbrev yp:Code:=az rJ
abbrev sq:Code:=part yp [1,1,1,1,1,1,1,1]
abbrev ON (p:Int) (a b n m:Nat):ax:=⟨false,true,3,1,fun _=>.agg [.int .i64 p,.own a 3 0 n,.own b 12 0 m]⟩
abbrev ya:List Nat:=[4,5,2,3,6,7,87,88,89]
abbrev wq:List Nat:=[4,5,2,3,6,10,122,123,124]
theorem afz:bn P O6:=aI (ig hT (ke yY) hm (aT Proofs.Tryz.func120 ah ah ah) _ _) bE
theorem Zf {x y z x' y' z':Rat}:(bif bif !true then true else !true then true else !bif !decide (x=x')then false else bif !decide (y=y')then false else bif !decide (z=z')then false else true)=!decide (x=x'/\y=y'/\z=z'):=by
 by_cases h1:x=x'<;>by_cases h2:y=y'<;>by_cases h3:z=z'<;>simp[h1,h2,h3]
theorem aid {c d:Cu} (h:gb c d≠0):(fe c d).p=0/\(fe c d).n=0/\(fe c d).m=0:=by unfold fe;rw[if_neg h];exact⟨rfl,rfl,rfl⟩
theorem QJ {c d:Cu} (h:gb c d=0):fe c d=⟨c.p,c.n-1+(d.n-(d.p.toNat+1)),fV c d,c.m+(d.m-1),iY c d⟩:=if_pos h
theorem Yk {c d:Cu} (h:c.p≠d.p):gb c d=1:=if_pos h
theorem Ou {c d:Cu} (h:c.p=d.p):gb c d=if(c.f (c.m-1)).n.x=(d.f 0).n.x/\(c.f (c.m-1)).n.y=(d.f 0).n.y/\(c.f (c.m-1)).n.z=(d.f 0).n.z then 0 else 7:=if_neg (fun h2=>h2 h)
theorem OM {c d:Cu} {q:Nat} (h:q<c.n-1):c.k q=fV c d q:=(if_pos h).symm
theorem NQ {c d:Cu} {i:Nat}:d.k (i+(d.p.toNat+1))+(c.k (c.n-1)-d.k 0)=fV c d (c.n-1+i):=by
 unfold fV;rw[if_neg aa,show c.n-1+i-(c.n-1)=i by omega]
theorem JS {c d:Cu} {q:Nat} (h:q<c.m):c.f q=iY c d q:=(if_pos h).symm
theorem aar {c d:Cu} {i:Nat}:(⟨(d.f (i+1)).n,m8 c d*(d.f (i+1)).d⟩:Pl)=iY c d (c.m+i):=by
 unfold iY;rw[if_neg aa,show c.m+i-c.m+1=i+1 by omega]
theorem vg {rl:List (Nat×Nat)} {p:Int} {a b n n' m m':Nat} (h5:aY rl 5=some a) (h6:aY rl 6=some b) (hn:n=n') (hm2:m=m'):gA rl (.agg [.int .i64 p,.own a 3 0 n,.own b 12 0 m]) (.agg [.int .i64 p,.own 5 3 0 n',.own 6 12 0 m']):=
 l9 ⟨⟨rfl,aK rfl⟩,⟨rfl,cP h5 rfl hn⟩,⟨rfl,cP h6 rfl hm2⟩,trivial⟩
theorem afB {p:Nat} (hp:1<=p) {a b:Rat} (hab:a<b):Kn (p+1+(p+1)) p fun q=>if q<p+1 then a else b:=by
 refine⟨hp,aa,fun i hi=>?_,fun i hi=>?_,fun i h1 h2=>?_,fun i h1 h2=>?_⟩
 ·by_cases c:i+1<p+1
  ·rw[if_pos aa,if_pos c];exact Rat.le_refl
  ·rw[if_neg c]
   by_cases c2:i<p+1
   ·rw[if_pos c2];exact Rat.le_of_lt hab
   ·rw[if_neg c2];exact Rat.le_refl
 ·rw[if_pos aa,if_pos aa]
 ·rw[if_neg aa,if_neg aa]
 ·rw[if_pos aa,if_neg aa]
  exact hab
theorem abz {h:Cu} {a b:Rat} {j e:Nat} (hj:h.p.toNat<=j):cQ h a b j e=cQ h a b h.p.toNat e:=by
 unfold cQ
 rw[show h.p.toNat-j=h.p.toNat-h.p.toNat by omega]
theorem Sl {c:Cu} {I:Nat} (hb:eZ c) (hI:At c.n c.k I) (h40:c.m+(c.p.toNat+c.p.toNat)<=40):jT c (oR (jN (cr c) (c.k I) (c.k (I+1)))):=by
 obtain⟨k1,k2,k3,k4,k5⟩:=id hb.d.kn
 obtain⟨w1,w2⟩:=k1.ji hI
 obtain⟨R0,R1,E1,E,s1,s2,Q,hQ⟩:=OE hb hI h40
 have hkn:=afB k1.p1 hI.wide
 have hpos:∀j,0<cQ (cr c) (c.k I) (c.k (I+1)) j 3:=fun j=>by
  by_cases c1:j<=c.p.toNat
  ·have e:=z8 s2.q hI hQ c1
   have:=s2.q.pos (Q-c.p.toNat+j)
   have e2:(b9 (E.f (Q-c.p.toNat+j))).d=cQ (cr c) (c.k I) (c.k (I+1)) j 3:=congrArg (fun h:Pl=>h.d) e
   rw[<-e2];exact this
  ·rw[abz (show(cr c).p.toNat<=j by show c.p.toNat<=j;omega)]
   have e:=z8 s2.q hI hQ (Nat.le_refl c.p.toNat)
   have:=s2.q.pos (Q-c.p.toNat+c.p.toNat)
   have e2:(b9 (E.f (Q-c.p.toNat+c.p.toNat))).d=cQ (cr c) (c.k I) (c.k (I+1)) c.p.toNat 3:=congrArg (fun h:Pl=>h.d) e
   show 0<cQ (cr c) (c.k I) (c.k (I+1)) c.p.toNat 3
   rw[<-e2];exact this
 refine⟨⟨hkn,k2,k3,show c.p.toNat+1+(c.p.toNat+1)<=c.p.toNat+41 by omega,show((c.p.toNat+1:Nat):Int)=((c.p.toNat+1+(c.p.toNat+1):Nat):Int)-c.p-1 by omega⟩,rfl,hpos,fun Q' hQ'=>?_⟩
 obtain⟨v1,v2⟩:=hkn.ji hQ'
 have eQ:Q'=c.p.toNat:=by
  by_cases c1:Q'=c.p.toNat
  ·exact c1
  ·have v2:Q'+c.p.toNat+1<c.p.toNat+1+(c.p.toNat+1):=v2
   omega
 subst eQ
 refine⟨I,hI,by show c.k I<=(if c.p.toNat<c.p.toNat+1 then c.k I else c.k (I+1));rw[if_pos aa];exact Rat.le_refl,by show(if c.p.toNat+1<c.p.toNat+1 then c.k I else c.k (I+1))<=c.k (I+1);rw[if_neg aa];exact Rat.le_refl,fun e l hl=>?_⟩
 refine M6 (n:=c.n) hI w1 aa hQ' v1 (show c.p.toNat+c.p.toNat<c.p.toNat+1+(c.p.toNat+1) by omega) (fun J h1 h2=>?_) hl
 show cR (b9 (fu ((jN (cr c) (c.k I) (c.k (I+1))).f J))) e=_
 rw[I5 (oJ (hpos J))]
 have el:bB (fun q=>if q<c.p.toNat+1 then c.k I else c.k (I+1)) (J+1) c.p.toNat=bB (fun q=>if q<c.p.toNat-J then c.k I else c.k (I+1)) 0 c.p.toNat:=Oc fun i hi=>by
  show(if J+1+i<c.p.toNat+1 then c.k I else c.k (I+1))=if 0+i<c.p.toNat-J then c.k I else c.k (I+1)
  by_cases g:J+1+i<c.p.toNat+1
  ·rw[if_pos g,if_pos aa]
  ·rw[if_neg g,if_neg aa]
 have key:∀e,cQ (cr c) (c.k I) (c.k (I+1)) J e=dy c.k c.p.toNat (fun i=>cR (b9 (c.f i)) e) I (bB (fun q=>if q<c.p.toNat+1 then c.k I else c.k (I+1)) (J+1) c.p.toNat):=fun e=>by
  rw[el]
  show dy c.k c.p.toNat (fun i=>cR (b9 (c.f i)) e) (bL c.n c.k (c.k I)) _=_
  rw[oV hI]
 match e with
 |0=>exact key 0
 |1=>exact key 1
 |2=>exact key 2
 |e+3=>exact key 3
theorem aha {c J d:Cu} (hJ:jT c J) (hd:jT c d) (hv:J.k (J.n-1)=d.k 0) (hP:J.f (J.m-1)=d.f 0) (h41:J.n+d.n<=c.p.toNat+43):gb J d=0/\jT c (fe J d)/\(fe J d).k 0=J.k 0/\(fe J d).k ((fe J d).n-1)=d.k (d.n-1)/\(fe J d).f ((fe J d).m-1)=d.f (d.m-1)/\(fe J d).n+(c.p.toNat+2)=J.n+d.n/\(fe J d).m+1=J.m+d.m:=by
 obtain⟨j1,j2,j3,j4,j5⟩:=id hJ.kn
 obtain⟨d1,d2,d3,d4,d5⟩:=id hd.kn
 have jp:=hJ.p
 have dp:=hd.p
 have hE:gb J d=0:=by
  unfold gb
  rw[if_neg (fun h=>h (by rw[jp,dp])),if_pos ⟨by rw[hP],by rw[hP],by rw[hP]⟩]
 have hW:m8 J d=1:=by
  unfold m8
  rw[hP,Rat.div_def,Rat.mul_inv_cancel _ (oJ (hd.pos 0))]
 rw[show fe J d=⟨J.p,J.n-1+(d.n-(d.p.toNat+1)),fV J d,J.m+(d.m-1),iY J d⟩from if_pos hE]
 rw[jp]at j1 j2 j3 j4 j5 ⊢
 rw[dp]at d1 d2 d3 d4 d5 ⊢
 have jl:=j1.len
 have dl:=d1.len
 have hp1:=j1.p1
 obtain⟨s,hs⟩:∃s,s=J.n-2-c.p.toNat:=⟨_,rfl⟩
 have hK1:∀i,i<J.n-1->fV J d i=J.k i:=fun i hi=>if_pos hi
 have hK2:∀i,1<=i->fV J d (s+i)=d.k i:=fun i hi=>by
  by_cases c1:i<=c.p.toNat
  ·rw[hK1 _ aa,j1.last _ aa aa,hv,d1.first i c1]
  ·have e:fV J d (s+i)=d.k (s+i-(J.n-1)+(d.p.toNat+1))+(J.k (J.n-1)-d.k 0):=if_neg aa
   rw[e,hv,dp,show s+i-(J.n-1)+(c.p.toNat+1)=i by omega];grind
 have hF1:∀i,i<J.m->iY J d i=J.f i:=fun i hi=>if_pos hi
 have hF2:∀i,iY J d (s+i)=d.f i:=fun i=>by
  by_cases c1:i=0
  ·subst c1
   rw[hF1 _ aa,<-hP];congr 1;omega
  ·have e:iY J d (s+i)=⟨(d.f (s+i-J.m+1)).n,m8 J d*(d.f (s+i-J.m+1)).d⟩:=if_neg aa
   rw[e,hW,Rat.one_mul,show s+i-J.m+1=i by omega]
 have hN:J.n-1+(d.n-(c.p.toNat+1))=s+d.n:=aa
 rw[hN]
 have hkn:Kn (s+d.n) c.p.toNat (fV J d):=by
  refine⟨hp1,aa,fun i hi=>?_,fun i hi=>?_,fun i h1 h2=>?_,fun i h1 h2=>?_⟩
  ·by_cases c1:i+1<J.n-1
   ·rw[hK1 _ aa,hK1 _ c1];exact j1.sorted i aa
   ·obtain⟨q,rfl⟩:∃q,i=s+q:=⟨i-s,aa⟩
    rw[hK2 _ aa,Nat.add_assoc,hK2 _ aa];exact d1.sorted q aa
  ·rw[hK1 _ aa,hK1 _ aa];exact j1.first i hi
  ·obtain⟨q,rfl⟩:∃q,i=s+q:=⟨i-s,aa⟩
   rw[hK2 _ aa,show s+d.n-1=s+(d.n-1) by omega,hK2 _ aa];exact d1.last q aa aa
  ·by_cases c1:i+c.p.toNat<J.n-1
   ·rw[hK1 _ aa,hK1 _ c1];exact j1.mult i h1 aa
   ·obtain⟨q,rfl⟩:∃q,i=s+q:=⟨i-s,aa⟩
    rw[hK2 _ aa,Nat.add_assoc,hK2 _ aa];exact d1.mult q aa aa
 refine⟨hE,⟨⟨hkn,j2,j3,show s+d.n<=c.p.toNat+41 by omega,show((J.m+(d.m-1):Nat):Int)=((s+d.n:Nat):Int)-c.p-1 by omega⟩,rfl,fun i=>?_,fun Q hQ=>?_⟩,hK1 0 aa,?_,?_,by show s+d.n+(c.p.toNat+2)=_;omega,by show J.m+(d.m-1)+1=_;omega⟩
 ·show 0<(iY J d i).d
  by_cases c1:i<J.m
  ·rw[hF1 i c1];exact hJ.pos i
  ·rw[show i=s+(i-s) by omega,hF2];exact hd.pos _
 ·obtain⟨v1,v2⟩:=hkn.ji hQ
  have hw:fV J d Q<fV J d (Q+1):=hQ.wide
  by_cases c1:Q<=s
  ·rw[hK1 _ aa,hK1 _ aa]at hw
   obtain⟨P,p1,p2,p3,p4⟩:=hJ.sub Q ⟨aa,j1.sorted,hw⟩
   refine⟨P,p1,by show c.k P<=fV J d Q;rw[hK1 _ aa];exact p2,by show fV J d (Q+1)<=_;rw[hK1 _ aa];exact p3,fun e l hl=>?_⟩
   rw[<-p4 e l hl]
   show dy (fV J d) c.p.toNat (fun i=>cR (b9 (iY J d i)) e) Q l=dy J.k c.p.toNat (fun i=>cR (b9 (J.f i)) e) Q l
   rw[NO (k:=J.k) v1 (fun i _ h2=>hK1 i aa) hl]
   exact Wo hl fun q hq=>by rw[hF1 _ aa]
  ·obtain⟨q,rfl⟩:∃q,Q=s+q:=⟨Q-s,aa⟩
   rw[hK2 _ aa,Nat.add_assoc,hK2 _ aa]at hw
   have hA:At d.n d.k q:=⟨aa,d1.sorted,hw⟩
   obtain⟨P,p1,p2,p3,p4⟩:=hd.sub q hA
   obtain⟨z1,z2⟩:=d1.ji hA
   refine⟨P,p1,by show c.k P<=fV J d (s+q);rw[hK2 _ aa];exact p2,by show fV J d (s+q+1)<=_;rw[Nat.add_assoc,hK2 _ aa];exact p3,fun e l hl=>?_⟩
   rw[<-p4 e l hl]
   show bl (fV J d) (s+q-c.p.toNat) c.p.toNat 0 (fun i=>cR (b9 (iY J d (s+q-c.p.toNat+i))) e) l c.p.toNat=bl d.k (q-c.p.toNat) c.p.toNat 0 (fun i=>cR (b9 (d.f (q-c.p.toNat+i))) e) l c.p.toNat
   rw[A4 (k:=d.k) (b:=q-c.p.toNat) fun i hi=>by rw[show s+q-c.p.toNat+i=s+(q-c.p.toNat+i) by omega,hK2 _ aa]]
   congr 1
   funext i
   rw[show s+q-c.p.toNat+i=s+(q-c.p.toNat+i) by omega,hF2]
 ·show fV J d (s+d.n-1)=_
  rw[show s+d.n-1=s+(d.n-1) by omega,hK2 _ aa]
 ·show iY J d (J.m+(d.m-1)-1)=_
  rw[show J.m+(d.m-1)-1=s+(d.m-1) by omega,hF2]
def tq:aV:=nG::(vh,vO)::(BO,Rr 2000 2000 64 2100 7000)::(uZ,jZ kR kR DH qd)::(Rh++(O6++(Qv++fK)))
abbrev qi (c:Cu):ax:=⟨false,true,3,1,fun _=>bT c 2000 2000⟩
abbrev Ia (c d:Cu) (i:Nat):List AV:=[.ptr 0 0 3 0 [],.int .i64 0,.ptr 1 0 3 0 [],.ptr 2 0 3 0 [],.ptr 3 0 3 0 [],.ptr 4 0 3 0 [],bN (fun i=>d.k (i+(d.p.toNat+1))) (d.n-(d.p.toNat+1)) 2000,.int .i64 ((d.n-(d.p.toNat+1):Nat):Int),.int .i64 i]
abbrev Jg (c d:Cu) (u:Rat) (f:Nat->Rat) (N l:Nat):aE:=[(5,kW 6300 N f),(6,wP c.m c.f 7000),(4,tP u 4200),(3,ON c.p 5 6 l c.m),(2,qi d),(1,qi c),(0,KJ)]
abbrev Ex (c d:Cu) (i:Nat):List AV:=[.ptr 0 0 3 0 [],.int .i64 0,.ptr 1 0 3 0 [],.ptr 2 0 3 0 [],.ptr 3 0 3 0 [],.ptr 4 0 3 0 [],mE (fun i=>d.f (i+1)) (d.m-1) 2000,.int .i64 ((d.m-1:Nat):Int),.int .i64 i]
abbrev GV (c d:Cu) (u:Rat) (f:Nat->Rat) (g:Nat->Pl) (n m:Nat):aE:=[(5,kW 6300 n f),(6,wP m g 7000),(4,tP u 4200),(3,ON c.p 5 6 n m),(2,qi d),(1,qi c),(0,KJ)]
theorem aio {c d:Cu}:aJ T tq [19,46,200056] 60 ya (before yp [1,1,1,1,1,1,1,0,1]) ⟨aQ 0 [bT c 2000 2000,bT d 2000 2000],[],0⟩=
  let c34 : AV := tuple []; let c31 : AV := int i64 (0 : Int); let c30 : Rat := (↑(1 : Int) : Rat); let c28 : Prop := (0 : Int) <= (0 : Int); let c23 : Nat := nat_lit 188415 + 1; let c22 : Prop := 1 <= 1; let c21 : Int := (↑d.n : Int); let c19 : Int := d.p + (1 : Int); let c18 : Nat := (bA (bT c 2000 2000)).size; let c17 : Nat := (bA (bT d 2000 2000)).size; let c16 : AV := ptr 8192 0 3 0 []; let c15 : Cu := Cu.mk c.p c.n (fun i => aZ (rat (c.k i) 2000)) c.m fun i => iI (bU (c.f i) 2000); let c14 : Int := (↑c.m : Int) + (↑d.m : Int); let c12 : Int := (↑c.n : Int) - (1 : Int); let c11 : Int := (↑c.m : Int) - (1 : Int); let c9 : Int := (2 : Int) ^ 63; let c7 : Nat := Int.toNat (0 : Int); let c6 : Nat := Max.max 1 (bG (Int.natAbs (1 : Int))); let c2 : Prop := 0 < 1; let c33 : Nat := c12.toNat - c7; let c29 : Prop := 1 <= c6; let c27 : V3 := (d.f c7).n; let c26 : Int := c14 - (1 : Int); let c25 : AV := ptr 0 0 c18 0 []; let c24 : AV := ptr 4096 0 c17 0 []; let c20 : V3 := (c.f c11.toNat).n; let c13 : AV := agg [c31, nil, nil]; let c10 : AV := bA (iw [G0 c15 c23 (c23 + 1)]); let c5 : Nat × ax := ((0 : Nat), ax.mk false true c18 1 fun x => agg [int i64 c.p, aq 3 c.n fun i => rat (c.k i) 2000, aq 12 c.m fun i => agg [agg [rat (c.f i).n.x 2000, rat (c.f i).n.y 2000, rat (c.f i).n.z 2000], rat (c.f i).d 2000]]); let c4 : Nat × ax := ((4096 : Nat), ax.mk false true c17 1 fun x => agg [int i64 d.p, aq 3 d.n fun i => rat (d.k i) 2000, aq 12 d.m fun i => agg [agg [rat (d.f i).n.x 2000, rat (d.f i).n.y 2000, rat (d.f i).n.z 2000], rat (d.f i).d 2000]]); let c8 : List AV := [c25, c24, c34, c34, c34, c34, c34]; let c3 : Int := (↑c33 : Int) - (1 : Int); let c1 : List (Nat × ax) := [c4, c5, ((8192 : Nat), bg fun j => if (j == 0) = true then bA (agg c13.kids) else c13)]; let c32 : Nat := c3.toNat + ((0 : Nat) + c7); some (aj [c2, c2] (fork (c.p != d.p) (aj [c2] (leaf ret (c16 :: int i64 (1 : Int) :: c8, c1))) (aj [c2, bV (fun i => rat (c.k i) 2000) c.n sJ, fI (fun i => bU (c.f i) 2000) c.m sJ, dz c15, c2, bV (fun i => rat (d.k i) 2000) d.n sJ, fI (fun i => bU (d.f i) 2000) d.m sJ, dz (Cu.mk d.p d.n (fun i => aZ (rat (d.k i) 2000)) d.m fun i => iI (bU (d.f i) 2000)), c2, c2, -c9 <= c11 /\ c11 < c9, (0 : Int) <= c11 /\ c11.toNat < c.m, c2, c28 /\ c7 < d.m] (fork (bif bif !true then true else !true then true else !bif !decide (c20.x = c27.x) then false else bif !decide (c20.y = c27.y) then false else bif !decide (c20.z = c27.z) then false else true) (aj [c2] (leaf ret (c16 :: int i64 (7 : Int) :: c8, c1))) (aj [c2, c2, -c9 <= c14 /\ c14 < c9, -c9 <= c26 /\ c26 < c9] (aj [decide (c26 > (40 : Int)) = false] (aj [c2, c2, bV (fun i => rat (c.k i) 2000) c.n 2000, fI (fun i => bU (c.f i) 2000) c.m 2000, Max.max c6 1 <= 64, c29, c29, c29, c29, c6 <= 1, c22, c22, c6 <= 1, c22, c22, c.n < 2 ^ 30, c.m < 2 ^ 30, c2] (aj [c2, c2, -c9 <= c12 /\ c12 < c9, c28 /\ (0 : Int) <= c12 /\ c12 <= c12 /\ c12 <= (↑c.n : Int), c2] (aj [c2, c2, -c9 <= c3 /\ c3 < c9, (0 : Int) <= c3 /\ c3.toNat < c33, c32 < c.n, c2, c28 /\ c7 < d.n, (2100 : Nat) < 2 ^ 42, (2000 : Nat) < 2 ^ 42, c2] (aj [c2, c2, -c9 <= c19 /\ c19 < c9, (0 : Int) <= c19 /\ c19 <= c21 /\ c21 <= c21 /\ c21 <= c21] (leaf normal ([c16, c31, c25, c24, ptr 192512 0 3 0 [], ptr 290816 0 3 0 [], aq 3 (c21.toNat - c19.toNat) fun i => rat (d.k (i + c19.toNat)) 2000, int i64 (↑(c21.toNat - c19.toNat) : Int), c31], [((188417 : Nat), ax.mk true true 12 c.m fun j => agg [agg [rat (iM (V3.mk c30 0 0) (V3.mk (aZ (rat (c.f j).n.x 2000)) (aZ (rat (c.f j).n.y 2000)) (aZ (rat (c.f j).n.z 2000))) 0) 7000, rat (iM (V3.mk 0 c30 0) (V3.mk (aZ (rat (c.f j).n.x 2000)) (aZ (rat (c.f j).n.y 2000)) (aZ (rat (c.f j).n.z 2000))) 0) 7000, rat (iM (V3.mk 0 0 c30) (V3.mk (aZ (rat (c.f j).n.x 2000)) (aZ (rat (c.f j).n.y 2000)) (aZ (rat (c.f j).n.z 2000))) 0) 7000], rat (aZ (rat (c.f j).d 2000)) 7000]), ((188416 : Nat), ax.mk true true 3 c.n fun i => rat (aZ (rat (c.k i) 2000)) 2100), ((290816 : Nat), bg fun j => if (j == 0) = true then bA (vq (aZ (rat (c.k c32) 2000), (2100 : Nat)) (d.k c7, (2000 : Nat))) else rat 0 1), ((192512 : Nat), bg fun j => if (j == 0) = true then agg ((if ((0 : Nat) == 0) = true then c10 else c13).kids.set 1 (bA (own c23 3 ((0 : Nat) + c7) c33))) else if (j == 0) = true then c10 else c13), c4, c5, ((8192 : Nat), bg fun x => c13)])))))))))))) := ah
theorem RK {c d:Cu} {u:Rat} {f:Nat->Rat} {N l i:Nat}:aJ T tq [90] 60 ya [part yp [1,1,1,1,1,1,1,0,1,0,0]] ⟨aF ya (Ia c d i),Jg c d u f N l,7⟩=
  let c15:AV:=int i64 0;let c14:AV:=ptr 2 0 3 0 [];let c13:AV:=ptr 3 0 3 0 [];let c12:AV:=ptr 1 0 3 0 [];let c11:AV:=ptr 0 0 3 0 [];let c10:AV:=ptr 4 0 3 0 [];let c8:Int:=(↑i:Int);let c6:Nat×ax:=((4:Nat),bg fun x=>rat u 4200);let c5:Prop:=0<1;let c4:Nat:=d.p.toNat+1;let c3:AV:=agg [int i64 c.p,own 5 3 0 l,own 6 12 0 c.m];let c2:Nat×ax:=(6,ax.mk true true 12 c.m fun j=>agg [agg [rat (c.f j).n.x 7000,rat (c.f j).n.y 7000,rat (c.f j).n.z 7000],rat (c.f j).d 7000]);let c16:Int:=c8+(1:Int);let c9:Int:=(↑(d.n-c4):Int);let c7:AV:=aq 3 (d.n-c4) fun i=>rat (d.k (i+c4)) 2000;let c1:List (Nat×ax):=[((2:Nat),bg fun x=>agg [int i64 d.p,aq 3 d.n fun i=>rat (d.k i) 2000,aq 12 d.m fun i=>agg [agg [rat (d.f i).n.x 2000,rat (d.f i).n.y 2000,rat (d.f i).n.z 2000],rat (d.f i).d 2000]]),((1:Nat),bg fun x=>agg [int i64 c.p,aq 3 c.n fun i=>rat (c.k i) 2000,aq 12 c.m fun i=>agg [agg [rat (c.f i).n.x 2000,rat (c.f i).n.y 2000,rat (c.f i).n.z 2000],rat (c.f i).d 2000]]),((0:Nat),bg fun x=>agg [c15,nil,nil])];some (fork (decide (c8<c9)) (aj [(0:Int)<=c8/\c8.toNat<d.n-c4,c5] (aj [c5,c5,c5,(2000:Nat)<2^42,(4200:Nat)<2^42,(1:Nat)*3<=2^24,(l+1)*((56:Nat)+1)*2<=2^47,c5] (aj [-(2:Int)^63<=c16/\c16<(2:Int)^63] (leaf normal ([c11,c15,c12,c14,c13,c10,c7,int i64 c9,int i64 c16],c2::(45063,ax.mk true true 3 (l+1) fun i=>if i<l then rat (f i) 6300 else nth [rat (d.k (c8.toNat+c4)+u) ((2000:Nat)+4200+1)] (rat 0 1) (i-l+0))::c6::((3:Nat),bg fun j=>if(j==0)=true then agg (c3.kids.set 1 (bA (own (nat_lit 45062+1) 3 0 (l+1))))else c3)::c1))))) (leaf (exit 0) ([c11,c15,c12,c14,c13,c10,c7,int i64 c9,int i64 c8],c2::(5,ax.mk true true 3 N fun i=>rat (f i) 6300)::c6::((3:Nat),bg fun x=>c3)::c1))):=ah
theorem Vq {c d:Cu} {u:Rat} {f:Nat->Rat} {l i:Nat}:aJ T tq [] 60 wq (before sq [1,0,1]) ⟨aF ya (Ia c d i),Jg c d u f l l,7⟩=
  let c6:AV:=int i64 0;let c5:Prop:=2000<2^42;let c4:Int:=(↑d.m:Int);let c3:Prop:=0<1;let c2:Nat:=Int.toNat (1:Int);let c1:Int:=(↑c.m:Int)-(1:Int);some (aj [c3,c3,-(2:Int)^63<=c1/\c1<(2:Int)^63,(0:Int)<=c1/\c1.toNat<c.m,c3,(0:Int)<=(0:Int)/\Int.toNat (0:Int)<d.m,c5,c5,c3] (aj [c3,(0:Int)<=(1:Int)/\(1:Int)<=c4/\c4<=c4/\c4<=c4] (leaf normal ([ptr 0 0 3 0 [],c6,ptr 1 0 3 0 [],ptr 2 0 3 0 [],ptr 3 0 3 0 [],ptr 73735 0 3 0 [],aq 12 (c4.toNat-c2) fun i=>agg [agg [rat (d.f (i+c2)).n.x 2000,rat (d.f (i+c2)).n.y 2000,rat (d.f (i+c2)).n.z 2000],rat (d.f (i+c2)).d 2000],int i64 (↑(c4.toNat-c2):Int),c6],[(6,ax.mk true true 12 c.m fun j=>agg [agg [rat (c.f j).n.x 7000,rat (c.f j).n.y 7000,rat (c.f j).n.z 7000],rat (c.f j).d 7000]),(5,ax.mk true true 3 l fun i=>rat (f i) 6300),((73735:Nat),bg fun j=>if(j==0)=true then bA (rA ((c.f c1.toNat).d/(d.f (Int.toNat (0:Int))).d) ((2000:Nat)+2000))else rat 0 1),((3:Nat),bg fun x=>agg [int i64 c.p,own 5 3 0 l,own 6 12 0 c.m]),((2:Nat),bg fun x=>agg [int i64 d.p,aq 3 d.n fun i=>rat (d.k i) 2000,aq 12 d.m fun i=>agg [agg [rat (d.f i).n.x 2000,rat (d.f i).n.y 2000,rat (d.f i).n.z 2000],rat (d.f i).d 2000]]),((1:Nat),bg fun x=>agg [int i64 c.p,aq 3 c.n fun i=>rat (c.k i) 2000,aq 12 c.m fun i=>agg [agg [rat (c.f i).n.x 2000,rat (c.f i).n.y 2000,rat (c.f i).n.z 2000],rat (c.f i).d 2000]]),((0:Nat),bg fun x=>agg [c6,nil,nil])])))):=ah
theorem agv {c d:Cu} {u:Rat} {f:Nat->Rat} {g:Nat->Pl} {n m i:Nat}:aJ T tq [125] 60 wq [part sq [1,0,1,0,0]] ⟨aF wq (Ex c d i),GV c d u f g n m,7⟩=
  let c22:Nat:=d.m-1;let c20:AV:=int i64 0;let c18:AV:=ptr 2 0 3 0 [];let c17:AV:=ptr 3 0 3 0 [];let c16:AV:=ptr 1 0 3 0 [];let c15:AV:=ptr 0 0 3 0 [];let c14:AV:=ptr 4 0 3 0 [];let c12:Int:=(↑i:Int);let c11:AV:=rat 0 1;let c10:Nat×ax:=(5,ax.mk true true 3 n fun i=>rat (f i) 6300);let c9:Nat:=2000+1+1;let c8:Nat×ax:=((4:Nat),bg fun x=>rat u 4200);let c5:Nat:=2^42;let c4:AV:=agg [int i64 c.p,own 5 3 0 n,own 6 12 0 m];let c3:Prop:=0<1;let c21:Int:=c12+(1:Int);let c19:Prop:=1<c5;let c13:Prop:=2000<c5;let c7:Int:=(↑c22:Int);let c6:Pl:=d.f (c12.toNat+1);let c2:AV:=aq 12 c22 fun i=>agg [agg [rat (d.f (i+1)).n.x 2000,rat (d.f (i+1)).n.y 2000,rat (d.f (i+1)).n.z 2000],rat (d.f (i+1)).d 2000];let c1:List (Nat×ax):=[((2:Nat),bg fun x=>agg [int i64 d.p,aq 3 d.n fun i=>rat (d.k i) 2000,aq 12 d.m fun i=>agg [agg [rat (d.f i).n.x 2000,rat (d.f i).n.y 2000,rat (d.f i).n.z 2000],rat (d.f i).d 2000]]),((1:Nat),bg fun x=>agg [int i64 c.p,aq 3 c.n fun i=>rat (c.k i) 2000,aq 12 c.m fun i=>agg [agg [rat (c.f i).n.x 2000,rat (c.f i).n.y 2000,rat (c.f i).n.z 2000],rat (c.f i).d 2000]]),((0:Nat),bg fun x=>agg [c20,nil,nil])];some (fork (decide (c12<c7)) (aj [(0:Int)<=c12/\c12.toNat<c22,c3] (aj [c3,c13,c19,c13,c19,c13,c19,c3,c3,c13,c19,c3,c3] (aj [c3,c3,(4200:Nat)<c5,c13,c3] (aj [c3,c3,(1:Nat)*12<=2^24,(m+1)*((224:Nat)+1)*2<=2^47,c3] (aj [-(2:Int)^63<=c21/\c21<(2:Int)^63] (leaf normal ([c15,c20,c16,c18,c17,c14,c2,int i64 c7,int i64 c21],(77831,ax.mk true true 12 (m+1) fun i=>if i<m then bU (g i) 7000 else nth [agg [agg [rat (c6.n.x+0) c9,rat (c6.n.y+0) c9,rat (c6.n.z+0) c9],rat (u*c6.d) ((4200:Nat)+2000)]] (agg [agg [c11,c11,c11],c11]) (i-m+0))::c10::c8::((3:Nat),bg fun j=>if(j==0)=true then agg (c4.kids.set 2 (bA (own (nat_lit 77830+1) 12 0 (m+1))))else c4)::c1))))))) (leaf (exit 2) ([c15,c20,c16,c18,c17,c14,c2,int i64 c7,int i64 c12],(6,ax.mk true true 12 m fun j=>agg [agg [rat (g j).n.x 7000,rat (g j).n.y 7000,rat (g j).n.z 7000],rat (g j).d 7000])::c10::c8::((3:Nat),bg fun x=>c4)::c1))):=ah
theorem ait {c d:Cu} {u:Rat} {f:Nat->Rat} {g:Nat->Pl} {n m i:Nat}:cJ T tq [] 60 rJ [part sq [1,1]] ⟨aF wq (Ex c d i),GV c d u f g n m,7⟩=
  let c1:Prop:=0<1;some (aj [c1,c1] (aj [c1] (leaf ret [agg [int i64 c.p,aq 3 n fun i=>rat (f (i+0)) 6300,aq 12 m fun i=>agg [agg [rat (g (i+0)).n.x 7000,rat (g (i+0)).n.y 7000,rat (g (i+0)).n.z 7000],rat (g (i+0)).d 7000]],int i64 0]))):=ah
theorem aec {e:Int} {c d:Cu}:kU T rJ .ret ⟨aF [4,5,2,3] [.ptr 8192 0 3 0 [],.int .i64 e,.ptr 0 0 3 0 [],.ptr 4096 0 3 0 []],[(4096,qi d),(0,qi c),(8192,⟨false,true,3,1,fun j=>if(j==0)=true then bA (.agg (AV.kids (.agg [.int .i64 0,.nil,.nil])))else .agg [.int .i64 0,.nil,.nil]⟩)],8193⟩=
  some (aj [(0:Nat)<1] (leaf ret [agg [int i64 0,nil,nil],int i64 e])):=ah
theorem ID:bn P tq:=dB (aI Dv (aI (Sa (by decide) (by decide) (by decide) (by decide)) (aI (kE fun _ _ K hn=>Cx hn.1 hn.2 K) (oF ael (oF afz (oF RM fZ))))))
set_option maxHeartbeats 1000000 in
theorem aau {c d:Cu} (hc:dz c) (hd:dz d) (hm40:c.m+d.m<=41) (K:Nat):aD P wR K [bT c 2000 2000,bT d 2000 2000] [] (aL (.tuple [bT (fe c d) 7000 7000,.int .i64 (gb c d)]) []):=by
 refine iy (r:=aL (.tuple [bT (fe c d) 7000 7000,.int .i64 (gb c d)]) []) hT J5 rfl aW rfl (fun _ cx h00=>?_) K []
 have hk:=sL h00
 obtain⟨c1,c2,c3,c4,c5⟩:=id hc
 obtain⟨d1,d2,d3,d4,d5⟩:=id hd
 have cl:=c1.len
 have dl:=d1.len
 obtain⟨u,hu⟩:∃u,u=c.k (c.n-1)-d.k 0:=⟨_,rfl⟩
 have hr:∀e:Int,gb c d=e->e≠0->wO T rJ [4,5,2,3] (.tuple [bT (fe c d) 7000 7000,.int .i64 (gb c d)]) ([.ptr 8192 0 3 0 [],.int .i64 e,.ptr 0 0 3 0 [],.ptr 4096 0 3 0 [],.tuple [],.tuple [],.tuple [],.tuple [],.tuple []],
   [(4096,qi d),(0,qi c),(8192,⟨false,true,3,1,fun j=>if(j==0)=true then bA (.agg (AV.kids (.agg [.int .i64 0,.nil,.nil])))else .agg [.int .i64 0,.nil,.nil]⟩)]):=fun e he h0=>by
  obtain⟨e1,e2,e3⟩:=aid (c:=c) (d:=d) (by rw[he];exact h0)
  refine⟨[_,_,_,_],_,8193,_,rfl,rfl,rfl,aec,rfl,⟨⟨aa,fun i _=>rfl⟩,⟨aa,fun i _=>rfl⟩,⟨aa,fun i _=>xy rfl rfl⟩,trivial⟩,Nat.zero_lt_one,Up e1 e2 e3,bJ he.symm,trivial⟩
 refine ay.jx hT ID hm (x:=yp) [1,1,1,1,1,1,1,0,1] (i:=0) (y:=part yp [1,1,1,1,1,1,1,0,1,0,0]) (z:=sq) ah ah ah J5.dst hk (f1:=[19,46,200056]) (f2:=[90]) 60 ya 7
  (fun i:Nat=>Ia c d i) (fun i=>Jg c d u (Kr c d i) (Rz c i) (c.n-1+i)) (fun i=>i<=d.n-(d.p.toNat+1)/\gb c d=0) (fun i=>i=d.n-(d.p.toNat+1)/\gb c d=0) (fun i=>d.n-(d.p.toNat+1)-i) (wO T rJ [4,5,2,3] (.tuple [bT (fe c d) 7000 7000,.int .i64 (gb c d)]))
  ⟨_,aio,?_⟩ (fun i hi=>⟨_,RK,?_⟩) (fun i hi=>?_) (fun v s' hv hs'=>hv.fin (L1:=[6,7,87,88,89]) hk hs')
 ·have em:((c.m:Int)-1).toNat=c.m-1:=aa
  have ec:((c.n:Int)-1).toNat=c.n-1:=aa
  have e2:(((c.n-1:Nat):Int)-1).toNat=c.n-2:=aa
  have ep:(d.p+1).toNat=d.p.toNat+1:=aa
  simp only[ag.all,aA,Zf,bne_iff_ne,ne_eq,bne_eq_false_iff_eq,bf,bt,Bool.not_eq_true',Bool.not_eq_false',Int.toNat_zero,Nat.add_zero,Nat.sub_zero,Nat.zero_add,em,ec,e2,ep,aX]
  rw[LW c 2000 2000,LW d 2000 2000]
  refine⟨aa,fun hp=>⟨aa,hr 1 (Yk hp) (by decide)⟩,fun hp=>⟨⟨aa,cI (by decide),gh (by decide),hc,aa,cI (by decide),gh (by decide),hd,aa,aa,aa,aa,aa,aa⟩,fun hs=>⟨aa,hr 7 (by rw[Ou hp,if_neg hs]) (by decide)⟩,fun hs=>?_⟩⟩
  have hE:gb c d=0:=by rw[Ou hp,if_pos hs]
  refine⟨aa,aa,?_,aa,aa,aa,0,⟨Nat.zero_le _,hE⟩,[(0,8192),(1,0),(2,4096),(3,192512),(4,290816),(5,188416),(6,188417)],rfl,rfl,rfl,bO rfl rfl rfl (fun q hq=>.inr ⟨rfl,bQ rfl (by decide)⟩) (bO rfl rfl rfl (fun q hq=>.inr ⟨rfl,cu ⟨cu ⟨bQ Wj bp,bQ VY bp,bQ YR bp,trivial⟩,.refl _,trivial⟩⟩)
   (dF rfl rfl (.inr ⟨rfl,bQ (show c.k (c.n-2)-d.k 0=u by rw[hu,c1.last (c.n-2) aa aa]) (show 2100+2000+1<=4200 by decide)⟩) (dF rfl rfl (vg rfl rfl rfl rfl) (aO (aO (aO trivial))))))⟩
  (repeat' with_reducible refine And.intro ?_ ?_)
  all_goals first|omega|decide|exact cI (by decide)|exact gh (by decide)
 ·simp only[ag.all,aA,bf,bt,aX,Nat.add_zero]
  refine⟨fun h1=>⟨aa,aa,aa,i+1,⟨aa,hi.2⟩,by dsimp only;omega,[(0,0),(1,1),(2,2),(3,3),(4,4),(5,45063),(6,6)],rfl,rfl,rfl,bO rfl rfl rfl (fun q hq=>pG (y:=fV c d) ?_ ?_ bp (by decide) hq) (g9 (aO (dF rfl rfl (vg rfl rfl rfl rfl) (aO (aO (aO trivial))))))⟩,
   fun h1=>⟨rfl,i,⟨aa,hi.2⟩,[(0,0),(1,1),(2,2),(3,3),(4,4),(5,5),(6,6)],rfl,rfl,rfl,g9 (g9 (aO (dF rfl rfl (vg rfl rfl rfl rfl) (aO (aO (aO trivial))))))⟩⟩
  ·intro r hr2
   cases i with
   |zero=>exact OM aa
   |succ i=>rfl
  ·rw[hu];exact NQ
 ·obtain⟨rfl,hE⟩:=hi
  obtain⟨i,hi⟩:∃i,d.n-(d.p.toNat+1)=i+1:=⟨d.n-(d.p.toNat+1)-1,aa⟩
  have e1:Kr c d (d.n-(d.p.toNat+1))=fV c d:=by rw[hi];rfl
  have e2:Rz c (d.n-(d.p.toNat+1))=c.n-1+(d.n-(d.p.toNat+1)):=by rw[hi];rfl
  have em:((c.m:Int)-1).toNat=c.m-1:=aa
  rw[e1,e2]
  refine ay.jx hT ID hm (x:=sq) [1,0,1] (i:=2) (y:=part sq [1,0,1,0,0]) (z:=part sq [1,1]) ah ah ah ah hk (f1:=[]) (f2:=[125]) 60 wq 7
   (fun j:Nat=>Ex c d j) (fun j=>GV c d (m8 c d) (fV c d) (iY c d) (c.n-1+(d.n-(d.p.toNat+1))) (c.m+j)) (fun j=>j<=d.m-1) (fun j=>j=d.m-1) (fun j=>d.m-1-j) (fun _=>False) ⟨_,Vq,?_⟩ (fun j hj=>⟨_,agv,?_⟩) (fun j hj=>?_) (fun _ _ h=>h.elim)
  ·simp only[ag.all,aA,em,aX,Int.toNat_zero]
   exact⟨aa,aa,0,Nat.zero_le _,[(0,0),(1,1),(2,2),(3,3),(4,73735),(5,5),(6,6)],rfl,rfl,rfl,g9 (bO rfl rfl rfl (fun q hq=>cB rfl (by rw[<-JS (d:=d) (show q<c.m from hq)])) (dF rfl rfl (.inr ⟨rfl,bQ (r:=m8 c d) rfl (by decide)⟩) (dF rfl rfl (vg rfl rfl rfl rfl) (aO (aO (aO trivial))))))⟩
  ·simp only[ag.all,aA,bf,bt,aX,Nat.add_zero]
   refine⟨fun h1=>⟨aa,aa,aa,aa,aa,j+1,aa,by dsimp only;omega,[(0,0),(1,1),(2,2),(3,3),(4,4),(5,5),(6,77831)],rfl,rfl,rfl,g9 (bO rfl rfl rfl (fun q hq=>Im (y:=iY c d) (fun _ _=>rfl) (s':=7000) ?_ rfl bp bp hq) (aO (dF rfl rfl (vg rfl rfl rfl rfl) (aO (aO (aO trivial))))))⟩,
    fun h1=>⟨rfl,j,aa,[(0,0),(1,1),(2,2),(3,3),(4,4),(5,5),(6,6)],rfl,rfl,rfl,g9 (g9 (aO (dF rfl rfl (vg rfl rfl rfl rfl) (aO (aO (aO trivial))))))⟩⟩
   rw[<-aar]
   exact cu ⟨cu ⟨bQ (Rat.add_zero _) (by decide),bQ (Rat.add_zero _) (by decide),bQ (Rat.add_zero _) (by decide),trivial⟩,bQ rfl (by decide),trivial⟩
  ·subst hj
   refine ay.mC ((aG.fin hT ID hm 60 ait ah ?_).mono fun _ _ h=>.inl h)
   simp only[ag.all,aA,Nat.add_zero]
   exact⟨aa,aa,by rw[QJ hE];exact cu ⟨.refl _,gm fun q _=>bQ rfl (by decide),.refl _,trivial⟩,bJ hE.symm,trivial⟩
def VL:Spec:=dj (kC (iF 2000 2000) (kC (iF 2000 2000) kN)) (fun a=>.tuple [bT (fe a.1 a.2.1) 7000 7000,.int .i64 (gb a.1 a.2.1)]) fun a=>[dz a.1,dz a.2.1,a.1.m+a.2.1.m<=41]
theorem aaP:∀K args pre q,VL K args pre=some q->aD P wR K args pre q:=cY fun⟨c,d,_⟩ K hn=>aau hn.1 hn.2.1 hn.2.2 K
theorem Xk:aU P AP AD (az AD):=aT Proofs.Tryz.func27 ah ah ah
def BA:Spec:=dj (kC (kL 2000) kN) (fun a=>bN (aR a.1.2 a.1.1) (aP a.1.2 a.1.1) 2000) fun a=>[a.1.1<2^40,∀i,i<aP a.1.2 a.1.1->Sz (aR a.1.2 a.1.1 i) 2000]
def Bm:aV:=nG::(vh,vO)::(qz,GI)::(yF,BA)::(vG,Oe)::(vQ,Io)::[]
abbrev xP:Code:=az AD
abbrev zc:List Nat:=[1,3,4,5,17,18,19]
abbrev Gg (n:Nat) (F:Nat->Rat) (i:Nat):List AV:=[.ptr 0 0 3 0 [],.own 2 3 0 i,.ptr 1 0 3 0 [],bN F n 2000,bN (fun j=>F (j+1)) (n-1) 2000,.int .i64 ((n-1:Nat):Int),.int .i64 i]
def cF (c:Cu) (F:Nat->Rat) (i:Nat):Cu:=oR (jN (cr c) (F i) (F (i+1)))
abbrev IL (c:Cu) (F:Nat->Rat) (i:Nat):aE:=[(2,⟨true,true,3,i,fun j=>bT (cF c F j) 2000 sE⟩),(1,⟨false,true,3,1,fun _=>dL (cr c) 2000 4000⟩),(0,⟨false,true,3,1,fun _=>bT c 2000 2000⟩)]
theorem ach {c:Cu}:aJ T Bm [200010] 60 zc (before xP [1,1,1,1,1,0,1]) ⟨aQ 0 [bT c 2000 2000],[],0⟩=
  let c7:Prop:=c.n<2^40;let c6:Nat:=Int.toNat (1:Int);let c5:Nat:=(bA (bT c 2000 2000)).size;let c4:Nat:=aP (fun i=>aZ (rat (c.k i) 2000)) c.n;let c3:Prop:=0<1;let c2:Prop:=bV (fun i=>rat (c.k i) 2000) c.n 2000;let c1:Int:=(↑c4:Int);some (aj [c3,bV (fun i=>rat (c.k i) 2000) c.n sJ,fI (fun i=>bU (c.f i) 2000) c.m sJ,dz (Cu.mk c.p c.n (fun i=>aZ (rat (c.k i) 2000)) c.m fun i=>iI (bU (c.f i) 2000))] (aj [(!true)=false] (aj [c3,c2,fI (fun i=>bU (c.f i) 2000) c.m 2000,c7,c.m<2^30,c3] (aj [c3,c2,c7,∀(i:Nat),i<c4->Sz (aR (fun i=>aZ (rat (c.k i) 2000)) c.n i) 2000] (aj [(0:Int)<=(1:Int)/\(1:Int)<=c1/\c1<=c1/\c1<=c1] (leaf normal ([ptr 0 0 c5 0 [],nil,ptr 32768 0 3 0 [],aq 3 c4 fun i=>rat (aR (fun i=>aZ (rat (c.k i) 2000)) c.n i) 2000,aq 3 (c1.toNat-c6) fun i=>rat (aR (fun i=>aZ (rat (c.k i) 2000)) c.n (i+c6)) 2000,int i64 (↑(c1.toNat-c6):Int),int i64 0],[((32768:Nat),bg fun j=>if(j==0)=true then bA (dL (Cu.mk c.p c.n (fun i=>aZ (rat (c.k i) 2000)) c.m fun i=>b9 (iI (bU (c.f i) 2000))) 2000 4000)else agg [int i64 0,nil,nil]),(0,ax.mk false true c5 1 fun x=>bT c 2000 2000)]))))))):=ah
theorem Ud {c:Cu} {n i:Nat} {F:Nat->Rat}:aJ T Bm [20] 60 zc [part xP [1,1,1,1,1,0,1,0,0]] ⟨aF zc (Gg n F i),IL c F i,3⟩=
  let c16:Prop:=2000<=2000;let c15:AV:=int i64 c.p;let c14:Prop:=0<1;let c13:AV:=ptr 1 0 3 0 [];let c12:AV:=ptr 0 0 3 0 [];let c11:AV:=aq 3 n fun i=>rat (F i) 2000;let c10:AV:=aq 3 c.n fun i=>rat (c.k i) 2000;let c9:Int:=(↑i:Int);let c8:Int:=(↑(n-1):Int);let c7:AV:=aq 3 (n-1) fun i=>rat (F (i+1)) 2000;let c4:Nat:=c.p.toNat+1;let c1:Cu:=Cu.mk c.p c.n (fun i=>aZ (rat (c.k i) 2000)) c.m fun i=>pB (cy (b9 (c.f i)) 4000);let c17:Int:=c9+(1:Int);let c5:Nat:=c9.toNat;let c3:List (Nat×ax):=[((0:Nat),bg fun x=>agg [c15,c10,aq 12 c.m fun i=>bU (c.f i) 2000])];let c2:Nat×ax:=((1:Nat),bg fun x=>agg [c15,c10,aq 12 c.m fun i=>agg [rat ((c.f i).d*(c.f i).n.x) 4000,rat ((c.f i).d*(c.f i).n.y) 4000,rat ((c.f i).d*(c.f i).n.z) 4000,rat (c.f i).d 4000]]);let c6:Rat:=F (c5+1);some (fork (decide (c9<c8)) (aj [(0:Int)<=c9/\c5<n-1,c14] (aj [c14,(0:Int)<=c9/\c5<n,c14,bV (fun i=>rat (c.k i) 2000) c.n 2000,mo (fun i=>cy (b9 (c.f i)) 4000) c.m 4000,c16,c16,∃c P,eZ c/\c1=cr c/\At c.n c.k P/\F c5=c.k P/\c6=c.k (P+1)/\c.m+(c.p.toNat+c.p.toNat)<=40,bV (fun i=>rat (if i<c4 then F c5 else c6) 2000) (c4+c4) sK,mo (fun i=>cy (Pl.mk (V3.mk (cQ c1 (F c5) c6 i 0) (cQ c1 (F c5) c6 i 1) (cQ c1 (F c5) c6 i 2)) (cQ c1 (F c5) c6 i 3)) sB) c4 sB,c4+c4<2^40,c4<2^29,(1:Nat)*3<=2^24,(i+1)*((56:Nat)+1)*2<=2^47] (aj [-(2:Int)^63<=c17/\c17<(2:Int)^63] (leaf normal ([c12,own 69635 3 0 (i+1),c13,c11,c7,int i64 c8,int i64 c17],c2::(69635,ax.mk true true 3 (i+1) fun i_1=>if i_1<i then bT (cF c F i_1) 2000 sE else nth [agg [c15,aq 3 (c4+c4) fun i=>rat (aZ (rat (if i<c4 then F c5 else c6) 2000)) (sK+10),aq 12 c4 fun i=>bU (fu (pB (cy (Pl.mk (V3.mk (cQ c1 (F c5) c6 i 0) (cQ c1 (F c5) c6 i 1) (cQ c1 (F c5) c6 i 2)) (cQ c1 (F c5) c6 i 3)) sB))) (sB+sB)]] (agg [int i64 0,nil,nil]) (i_1-i+0))::c3))))) (leaf (exit 0) ([c12,own 2 3 0 i,c13,c11,c7,int i64 c8,int i64 c9],c2::(2,ax.mk true true 3 i fun j=>agg [c15,aq 3 (c4+c4) fun i=>rat (if i<c4 then F j else F (j+1)) 2000,aq 12 c4 fun i=>agg [agg [rat (cQ (cr c) (F j) (F (j+1)) i 0/cQ (cr c) (F j) (F (j+1)) i 3) 4294967298,rat (cQ (cr c) (F j) (F (j+1)) i 1/cQ (cr c) (F j) (F (j+1)) i 3) 4294967298,rat (cQ (cr c) (F j) (F (j+1)) i 2/cQ (cr c) (F j) (F (j+1)) i 3) 4294967298],rat (cQ (cr c) (F j) (F (j+1)) i 3) 4294967298]])::c3))):=ah
theorem aab {c:Cu} {n i:Nat} {F:Nat->Rat}:cJ T Bm [] 60 AD [part xP [1,1,1,1,1,1]] ⟨aF zc (Gg n F i),IL c F i,3⟩=
  let c1:Nat:=c.p.toNat+1;some (leaf ret [aq 3 i fun i=>agg [int i64 c.p,aq 3 (c1+c1) fun i_1=>rat (if i_1<c1 then F (i+0)else F (i+0+1)) 2000,aq 12 c1 fun i_1=>agg [agg [rat (cQ (cr c) (F (i+0)) (F (i+0+1)) i_1 0/cQ (cr c) (F (i+0)) (F (i+0+1)) i_1 3) 4294967298,rat (cQ (cr c) (F (i+0)) (F (i+0+1)) i_1 1/cQ (cr c) (F (i+0)) (F (i+0+1)) i_1 3) 4294967298,rat (cQ (cr c) (F (i+0)) (F (i+0+1)) i_1 2/cQ (cr c) (F (i+0)) (F (i+0+1)) i_1 3) 4294967298],rat (cQ (cr c) (F (i+0)) (F (i+0+1)) i_1 3) 4294967298]]]):=ah
theorem pW {c:Cu} (hb:eZ c) {i:Nat} (hi:i<aP c.k c.n):iQ (aR c.k c.n i):=by
 have hkn:=hb.d.kn.1
 have hl:=hkn.len
 by_cases e:i+1<aP c.k c.n
 ·obtain⟨s,_,h2,_⟩:=r6 hkn.sorted e
  rw[<-h2];exact rF (hb.h s)
 ·obtain⟨m,hm2⟩:∃m,c.n=m+1:=⟨c.n-1,aa⟩
  rw[hm2]at hi e ⊢
  obtain⟨_,_,e3⟩:=oC (k:=c.k) (n:=m)
  rw[show i=aP c.k (m+1)-1 by omega,e3]
  exact rF (hb.h m)
theorem Wr:∀K args pre r,BA K args pre=some r->aD P yF K args pre r:=cY fun⟨⟨n,k⟩,_⟩ K hn=>by
 have h1:n<2^40:=hn.1
 have h2:∀i,i<aP k n->Sz (aR k n i) 2000:=hn.2
 exact rL (u:=ls (aR k n) (aP k n)) (l:=[bV (fun i=>.rat (k i) 2000) n sJ,n<2^40]) (Pp K [bN k n 2000] [] _ rfl) (fun _=>⟨cI (by decide),h1⟩) rfl rfl (gm fun i hi=>cV rfl (h2 i hi))
theorem We:bn P Bm:=dB (aI Dv (aI PO (aI Wr (aI US (aI Pa bE)))))
theorem aiZ (c:Cu) (s r:Nat):(bA (bT c s r)).size=3:=ah
theorem ah1 {c:Cu} (hb:eZ c) (h40:c.m+(c.p.toNat+c.p.toNat)<=40) (K:Nat):aD P AP K [bT c 2000 2000] [] (aL (.aq 3 (aP c.k c.n-1) fun i=>bT (cF c (aR c.k c.n) i) 2000 sE) []):=by
 obtain⟨k1,k2,k3,k4,k5⟩:=id hb.d.kn
 have hl:=k1.len
 have hN:=nL (k:=c.k) (n:=c.n)
 have hN0:0<aP c.k c.n:=by
  obtain⟨m,hm2⟩:∃m,c.n=m+1:=⟨c.n-1,aa⟩
  rw[hm2];exact oC.1
 refine g8 (r:=aL (.aq 3 (aP c.k c.n-1) fun i=>bT (cF c (aR c.k c.n) i) 2000 sE) []) hT We hm Xk rfl aW rfl [1,1,1,1,1,0,1] (i:=0) (y:=part xP [1,1,1,1,1,0,1,0,0]) (z:=part xP [1,1,1,1,1,1]) ah ah ah (f1:=[200010]) (f2:=[20]) (f3:=[]) 60 zc 3
  (fun i:Nat=>Gg (aP c.k c.n) (aR c.k c.n) i) (fun i=>IL c (aR c.k c.n) i) (fun i=>i<=aP c.k c.n-1) (fun i=>i=aP c.k c.n-1) (fun i=>aP c.k c.n-1-i) (fun _=>⟨⟨_,ach,?_⟩,fun i hi=>⟨_,Ud,?_⟩,fun i hi=>⟨_,aab,?_⟩⟩) K []
 ·simp only[ag.all,aA]
  rw[aiZ c 2000 2000]
  refine⟨⟨aa,cI (by decide),gh (by decide),hb.d.kn⟩,by decide,⟨aa,cI (by decide),gh (by decide),aa,aa,aa⟩,⟨aa,cI (by decide),aa,fun i hi=>rR (pW hb hi)⟩,?_,0,Nat.zero_le _,[(0,0),(1,32768)],rfl,rfl,rfl,qL rfl aa aa (aO (aO trivial))⟩
  have:(1:Int)<=(aP c.k c.n:Nat):=aa
  exact⟨aa,this,Int.le_refl _,Int.le_refl _⟩
 ·simp only[ag.all,aA,bf,bt,aX]
  refine⟨fun h=>?_,fun h=>⟨rfl,i,by dsimp only;omega,[(0,0),(1,1),(2,2)],rfl,rfl,rfl,g9 (aO (aO trivial))⟩⟩
  obtain⟨I,h1,h2,h3⟩:=r6 k1.sorted (i:=i) (show i+1<aP c.k c.n by omega)
  refine⟨⟨aa,aa⟩,⟨aa,aa,aa,cI (by decide),wH (by decide),by decide,by decide,⟨c,I,hb,rfl,h1,h2.symm,h3.symm,h40⟩,cI (by decide),wH bp,aa,aa,aa,aa⟩,aa,i+1,aa,by dsimp only;omega,[(0,0),(1,1),(2,69635)],rfl,rfl,rfl,bO rfl rfl rfl (fun u hu=>zo (g:=fun j=>bT (cF c (aR c.k c.n) j) 2000 sE) (fun _ _=>⟨rfl,rfl⟩) rfl ?_ hu) (aO (aO trivial))⟩
  refine cu ⟨.refl _,gm fun q _=>cV rfl (rR ?_),gm fun q _=>cu ⟨cu ⟨bQ rfl (by decide),bQ rfl (by decide),bQ rfl (by decide),trivial⟩,bQ rfl (by decide),trivial⟩,trivial⟩
  show iQ (if q<c.p.toNat+1 then aR c.k c.n i else aR c.k c.n (i+1))
  split
  ·exact pW hb aa
  ·exact pW hb aa
 ·have hi:i=aP c.k c.n-1:=hi
  subst hi
  exact .refl _
theorem gO.SM {c:Cu} {s y i:Nat} (h:gO c s) (hs:s<=1000):bD (bU (c.f i) y) (bU (c.f i) 2000):=by
 obtain⟨a,b,d⟩:=h.x i
 exact cu ⟨cu ⟨cV rfl (a.more aa),cV rfl (b.more aa),cV rfl (d.more aa),trivial⟩,cV rfl ((h.sd i).more aa),trivial⟩
structure lJ (c:Cu):Prop where
 k:∀i,i<c.n->Sz (c.k i) 2000
 x:∀i,i<c.m->Sz (c.f i).n.x 2000
 y:∀i,i<c.m->Sz (c.f i).n.y 2000
 z:∀i,i<c.m->Sz (c.f i).n.z 2000
 d:∀i,i<c.m->Sz (c.f i).d 2000
theorem lJ.up {c:Cu} {x y:Nat} (h:lJ c):bD (bT c x y) (bT c 2000 2000):=
 cu ⟨.refl _,gm fun i hi=>cV rfl (h.k i hi),gm fun i hi=>cu ⟨cu ⟨cV rfl (h.x i hi),cV rfl (h.y i hi),cV rfl (h.z i hi),trivial⟩,cV rfl (h.d i hi),trivial⟩,trivial⟩
theorem Vo {c:Cu} {a b:Rat} {j e:Nat} (hb:eZ c) (ha:iQ a) (hb':iQ b):eV c.p.toNat (cQ (cr c) a b j e):=by
 have:=LN (k:=c.k) (x:=fun i=>cR (b9 (c.f i)) e) (p:=c.p.toNat) (P:=bL c.n c.k a) (l:=bB (fun q=>if q<c.p.toNat-j then a else b) 0 c.p.toNat) (fun i=>rF (hb.h i)) (Nn fun q=>by
  show iQ (if q<c.p.toNat-j then a else b)
  split
  ·exact ha
  ·exact hb') (fun j=>hb.d.Ka e j)
 rwa [jB]at this
theorem Ob {c:Cu} {a b:Rat} (hb:eZ c) (ha:iQ a) (hb':iQ b):lJ (oR (jN (cr c) a b)):=by
 have h6:=hb.d.kn.2.2.1
 have up:∀{r s:Nat} {x:Rat},eV r x->eV (r+s) x:=fun {r s x} h=>by
  induction s with
  |zero=>exact h
  |succ s ih=>exact ih.up
 have q:∀j e,eV 6 (cQ (cr c) a b j e):=fun j e=>by
  have:=up (s:=6-c.p.toNat) (Vo (j:=j) (e:=e) hb ha hb')
  rwa [show c.p.toNat+(6-c.p.toNat)=6 by omega]at this
 refine⟨fun i _=>?_,fun i _=>tK (q i 0) (q i 3),fun i _=>tK (q i 1) (q i 3),fun i _=>tK (q i 2) (q i 3),fun i _=>(q i 3).sz.more (by decide)⟩
 show Sz (if i<c.p.toNat+1 then a else b) 2000
 split
 ·exact rR ha
 ·exact rR hb'
theorem UQ {J d:Cu} (hJ:lJ J) (hd:lJ d) (hE:gb J d=0) (hp:d.p=J.p) (hn:J.p.toNat+1<=d.n) (hm2:1<=d.m) (hv:J.k (J.n-1)=d.k 0) (hP:(J.f (J.m-1)).d=(d.f 0).d) (h0:(d.f 0).d≠0):lJ (fe J d):=by
 have hW:m8 J d=1:=by
  unfold m8
  rw[hP,Rat.div_def,Rat.mul_inv_cancel _ h0]
 rw[QJ hE]
 have key:∀{Q:Pl->Prop},(∀i,i<J.m->Q (J.f i))->(∀i,i<d.m->Q (d.f i))->∀i,i<J.m+(d.m-1)->Q (iY J d i):=fun {Q} a b i hi=>by
  by_cases c:i<J.m
  ·rw[<-JS c];exact a i c
  ·have e:iY J d i=⟨(d.f (i-J.m+1)).n,m8 J d*(d.f (i-J.m+1)).d⟩:=if_neg c
   rw[e,hW,Rat.one_mul];exact b (i-J.m+1) aa
 refine⟨fun i hi=>?_,key (Q:=fun p=>Sz p.n.x 2000) hJ.x hd.x,key (Q:=fun p=>Sz p.n.y 2000) hJ.y hd.y,key (Q:=fun p=>Sz p.n.z 2000) hJ.z hd.z,key (Q:=fun p=>Sz p.d 2000) hJ.d hd.d⟩
 have hi:i<J.n-1+(d.n-(d.p.toNat+1)):=hi
 show Sz (fV J d i) 2000
 by_cases c:i<J.n-1
 ·rw[<-OM c];exact hJ.k i aa
 ·obtain⟨q,rfl⟩:∃q,i=J.n-1+q:=⟨i-(J.n-1),aa⟩
  rw[<-NQ,hv,show d.k (q+(d.p.toNat+1))+(d.k 0-d.k 0)=d.k (q+(d.p.toNat+1)) by grind]
  exact hd.k _ aa
def PM:Spec:=dj (kC (iF 2000 2000) kN) (fun a=>.aq 3 (aP a.1.k a.1.n-1) fun i=>bT (cF a.1 (aR a.1.k a.1.n) i) 2000 2000) fun a=>[eZ a.1,a.1.m+(a.1.p.toNat+a.1.p.toNat)<=40]
def Qo:Spec:=dj (kC (iF 2000 2000) (kC (iF 2000 2000) kN)) (fun a=>.tuple [bT (fe a.1 a.2.1) 2000 2000,.int .i64 0]) fun a=>[dz a.1,dz a.2.1,a.1.m+a.2.1.m<=41,gb a.1 a.2.1=0,lJ (fe a.1 a.2.1)]
theorem Tu:∀K args pre r,PM K args pre=some r->aD P AP K args pre r:=cY fun⟨c,_⟩ K hn=>by
 have hb:eZ c:=hn.1
 have h40:c.m+(c.p.toNat+c.p.toNat)<=40:=hn.2
 exact rL (u:=.aq 3 (aP c.k c.n-1) fun i=>bT (cF c (aR c.k c.n) i) 2000 sE) (l:=[]) (ah1 hb h40 K) (fun h=>trivial) rfl rfl (gm fun i hi=>(Ob hb (pW hb aa) (pW hb aa)).up)
theorem Ug:∀K args pre q,Qo K args pre=some q->aD P wR K args pre q:=cY fun⟨c,d,_⟩ K hn=>by
 obtain⟨h1,h2,h3,h4,h5⟩:=hn
 have h1:dz c:=h1
 have h2:dz d:=h2
 have h3:c.m+d.m<=41:=h3
 have h4:gb c d=0:=h4
 have h5:lJ (fe c d):=h5
 exact aeF (us:=[bT (fe c d) 7000 7000,.int .i64 (gb c d)]) (aaP K [bT c 2000 2000,bT d 2000 2000] [] _ rfl) (fun _=>⟨cI bp,gh bp,cI bp,gh bp,h1,h2,h3⟩) rfl ⟨h5.up,bJ h4,trivial⟩
def mS (c:Cu) (F:Nat->Rat):Nat->Cu
 |0=>cF c F 0
 |k+1=>fe (mS c F k) (cF c F (k+1))
structure oc (c:Cu) (F:Nat->Rat) (k:Nat) (J:Cu):Prop where
 w:jT c J
 s:lJ J
 k0:J.k 0=F 0
 k1:J.k (J.n-1)=F (k+1)
 f:J.f (J.m-1)=(cF c F k).f c.p.toNat
 m:J.m=(k+1)*c.p.toNat+1
theorem Cr {c:Cu} {F:Nat->Rat} {k:Nat} (hp:1<=c.p.toNat):(cF c F k).k 0=F k/\(cF c F k).k ((cF c F k).n-1)=F (k+1)/\(cF c F k).n=c.p.toNat+1+(c.p.toNat+1)/\(cF c F k).m=c.p.toNat+1:=by
 refine⟨(if_pos aa:(if 0<c.p.toNat+1 then F k else F (k+1))=F k),?_,rfl,rfl⟩
 exact(if_neg aa:(if c.p.toNat+1+(c.p.toNat+1)-1<c.p.toNat+1 then F k else F (k+1))=F (k+1))
theorem SN {c:Cu} {I J:Nat} (hb:eZ c) (hI:At c.n c.k I) (hJ:At c.n c.k J) (e:c.k (I+1)=c.k J):(oR (jN (cr c) (c.k I) (c.k (I+1)))).f c.p.toNat=(oR (jN (cr c) (c.k J) (c.k (J+1)))).f 0:=by
 obtain⟨k1,k2,k3,k4,k5⟩:=id hb.d.kn
 have hlI:=hI.lt
 have hlJ:=hJ.lt
 have hin:¬cT c.n c.k (c.k J):=E3 (k1.mono (Nat.zero_le J) aa) (k1.mono (show J<=c.n-1 by omega) aa)
 have key:∀q,cQ (cr c) (c.k I) (c.k (I+1)) c.p.toNat q=cQ (cr c) (c.k J) (c.k (J+1)) 0 q:=fun q=>by
  show dy c.k c.p.toNat (fun i=>cR (b9 (c.f i)) q) (bL c.n c.k (c.k I)) (bB (fun r=>if r<c.p.toNat-c.p.toNat then c.k I else c.k (I+1)) 0 c.p.toNat)=dy c.k c.p.toNat (fun i=>cR (b9 (c.f i)) q) (bL c.n c.k (c.k J)) (bB (fun r=>if r<c.p.toNat-0 then c.k J else c.k (J+1)) 0 c.p.toNat)
  rw[oV hI,oV hJ,B6 (v:=c.k J) fun r _ _=>by rw[if_neg aa,e],B6 (v:=c.k J) fun r _ h2=>if_pos aa]
  have hw:=hI.wide
  rw[On k1 hI (by rw[<-e];exact Rat.le_of_lt hw) (by rw[e];exact Rat.le_refl) hin,oV hJ]
 show fu (⟨⟨cQ (cr c) (c.k I) (c.k (I+1)) c.p.toNat 0,cQ (cr c) (c.k I) (c.k (I+1)) c.p.toNat 1,cQ (cr c) (c.k I) (c.k (I+1)) c.p.toNat 2⟩,cQ (cr c) (c.k I) (c.k (I+1)) c.p.toNat 3⟩:Pl)=fu ⟨⟨cQ (cr c) (c.k J) (c.k (J+1)) 0 0,cQ (cr c) (c.k J) (c.k (J+1)) 0 1,cQ (cr c) (c.k J) (c.k (J+1)) 0 2⟩,cQ (cr c) (c.k J) (c.k (J+1)) 0 3⟩
 rw[key 0,key 1,key 2,key 3]
theorem DE {c:Cu} (hb:eZ c) (h40:c.m+(c.p.toNat+c.p.toNat)<=40) {k:Nat} (hk:k+1<aP c.k c.n):jT c (cF c (aR c.k c.n) k)/\lJ (cF c (aR c.k c.n) k):=by
 obtain⟨I,i1,i2,i3⟩:=r6 hb.d.kn.1.sorted hk
 refine⟨?_,Ob hb (pW hb aa) (pW hb hk)⟩
 have:=Sl hb i1 h40
 rw[i2,i3]at this
 exact this
theorem Q3 {c:Cu} (hb:eZ c) (h40:c.m+(c.p.toNat+c.p.toNat)<=40) (hB:aP c.k c.n*c.p.toNat<=30) {k:Nat} (hk:k+1+1<aP c.k c.n) {J:Cu} (h:oc c (aR c.k c.n) k J):gb J (cF c (aR c.k c.n) (k+1))=0/\J.m+(cF c (aR c.k c.n) (k+1)).m<=41/\oc c (aR c.k c.n) (k+1) (fe J (cF c (aR c.k c.n) (k+1))):=by
 have hkn:=hb.d.kn.1
 have k5:=h.w.kn.2.2.2.2
 have k2:=hb.d.kn.2.1
 have jp:=h.w.p
 have hm2:=h.m
 obtain⟨e1,e2,e3,e4⟩:=Cr (c:=c) (F:=aR c.k c.n) (k:=k+1) aa
 obtain⟨w,s⟩:=DE hb h40 hk
 obtain⟨I,i1,i2,i3⟩:=r6 hkn.sorted (i:=k) (show k+1<aP c.k c.n by omega)
 obtain⟨I2,q1,q2,q3⟩:=r6 hkn.sorted hk
 have hX:(k+1)*c.p.toNat+c.p.toNat+c.p.toNat<=30:=by
  have:=Nat.mul_le_mul_right c.p.toNat (show k+1+1+1<=aP c.k c.n by omega)
  rw[Nat.succ_mul,Nat.succ_mul]at this
  omega
 have hP:J.f (J.m-1)=(cF c (aR c.k c.n) (k+1)).f 0:=by
  rw[h.f]
  have:=SN hb i1 q1 (by rw[i3,q2])
  rw[i2,i3,q2,q3]at this
  exact this
 have hv:J.k (J.n-1)=(cF c (aR c.k c.n) (k+1)).k 0:=by rw[h.k1,e1]
 obtain⟨z1,z2,z3,z4,z5,z6,z7⟩:=aha h.w w hv hP (by rw[e3];rw[jp]at k5;omega)
 refine⟨z1,by rw[e4,hm2];omega,⟨z2,UQ h.s s z1 (by rw[w.p,jp]) (by rw[e3,jp];omega) (by rw[e4];omega) hv (by rw[hP]) (oJ (w.pos 0)),z3.trans h.k0,z4.trans e2,?_,?_⟩⟩
 ·rw[z5,e4];rfl
 ·rw[e4,hm2]at z7
  rw[Nat.succ_mul (k+1)]
  omega
theorem oc.all {c:Cu} (hb:eZ c) (h40:c.m+(c.p.toNat+c.p.toNat)<=40) (hB:aP c.k c.n*c.p.toNat<=30):∀{k:Nat},k+1<aP c.k c.n->oc c (aR c.k c.n) k (mS c (aR c.k c.n) k)
 |0,hk=>by
  obtain⟨w,s⟩:=DE hb h40 hk
  have k2:=hb.d.kn.2.1
  obtain⟨e1,e2,e3,e4⟩:=Cr (c:=c) (F:=aR c.k c.n) (k:=0) aa
  exact⟨w,s,e1,e2,by show(cF c (aR c.k c.n) 0).f ((cF c (aR c.k c.n) 0).m-1)=_;rw[e4];rfl,by show(cF c (aR c.k c.n) 0).m=_;rw[e4];omega⟩
 |k+1,hk=>(Q3 hb h40 hB hk (oc.all hb h40 hB (k:=k) aa)).2.2
structure uD (c d:Cu) (t u:Rat):Prop where
 kc:dz c
 ic:¬cT c.n c.k t
 kd:dz d
 id:¬cT d.n d.k u
 ev:fY d u=fY c t
theorem LX {k:Nat->Rat} {a:Nat}:∀{d:Nat},aP k (a+d)<=aP k a+d
 |0=>bp
 |d+1=>by
  have:=LX (k:=k) (a:=a) (d:=d)
  show aP k (a+d)+(if eo k (a+d)then 1 else 0)<=_
  split<;>omega
theorem Iw {k:Nat->Rat} {a:Nat} (ha:1<=a):∀{d:Nat},(∀i,i<d->k (a+i)=k (a+i-1))->aP k (a+d)=aP k a
 |0,_=>rfl
 |d+1,h=>by
  have:=Iw ha (d:=d) fun i hi=>h i aa
  show aP k (a+d)+(if eo k (a+d)then 1 else 0)=_
  rw[if_neg (fun e=>e.elim (fun z=>aa) fun z=>z (h d aa)),this];rfl
theorem Kn.acL {n p:Nat} {k:Nat->Rat} (h:Kn n p k):aP k n+(p+p)<=n:=by
 have hl:=h.len
 have hp1:=h.p1
 have a1:aP k (1+p)=aP k 1:=Iw bp fun i hi=>by rw[h.first (1+i) aa,h.first (1+i-1) aa]
 have a2:aP k (n-p+p)=aP k (n-p):=Iw aa fun i hi=>by rw[h.last (n-p+i) aa aa,h.last (n-p+i-1) aa aa]
 have a3:=LX (k:=k) (a:=1+p) (d:=n-p-(1+p))
 have a4:=nL (k:=k) (n:=1)
 rw[show 1+p+(n-p-(1+p))=n-p by omega]at a3
 rw[show n-p+p=n by omega]at a2
 omega
theorem afY {c:Cu} {t:Rat} {k:Nat} (hb:eZ c) (h40:c.m+(c.p.toNat+c.p.toNat)<=40) (hk:k+1<aP c.k c.n) (hin:¬cT c.n c.k t) (h0:aR c.k c.n k<=t) (h1:t<=aR c.k c.n (k+1)):uD c (cF c (aR c.k c.n) k) t t:=by
 obtain⟨w,s⟩:=DE hb h40 hk
 have k2:=hb.d.kn.2.1
 obtain⟨e1,e2,e3,e4⟩:=Cr (c:=c) (F:=aR c.k c.n) (k:=k) aa
 have hi:¬cT (cF c (aR c.k c.n) k).n (cF c (aR c.k c.n) k).k t:=E3 (by rw[e1];exact h0) (by rw[e2];exact h1)
 exact⟨hb.d.kn,hin,w.kn,hi,w.ev hb.d.kn hin hi⟩
theorem abu {c J:Cu} {t:Rat} {k:Nat} (hb:eZ c) (hin:¬cT c.n c.k t) (hk:k+2=aP c.k c.n) (h:oc c (aR c.k c.n) k J):uD c J t t/\J.k 0=c.k 0/\J.k (J.n-1)=c.k (c.n-1):=by
 have hl:=hb.d.kn.1.len
 obtain⟨b0,b1⟩:=V7 hb.d.kn.1 hin
 have e:=oC (k:=c.k) (n:=c.n-1)
 rw[show c.n-1+1=c.n by omega]at e
 obtain⟨_,e1,e2⟩:=e
 have q0:J.k 0=c.k 0:=h.k0.trans e1
 have q1:J.k (J.n-1)=c.k (c.n-1):=by rw[h.k1,<-e2];congr 1;omega
 have hi:¬cT J.n J.k t:=E3 (by rw[q0];exact b0) (by rw[q1];exact b1)
 exact⟨⟨hb.d.kn,hin,h.w.kn,hi,h.w.ev hb.d.kn hin hi⟩,q0,q1⟩
theorem Yx:aU P Gc B3 (az B3):=aT Proofs.Tryz.func15 ah ah ah
def MN:aV:=[(W0,gT T (sG::oO) [100010,100017] 60 WW)]
def Ms:aV:=nG::(As,E7)::MN
def Pv:Spec:=dj (kC (iF 2000 2000) (kC (iF 2000 2000) (kC (gz sK) (kC (gz sK) kN)))) (fun _=>.bool true) fun a=>[uD a.1 a.2.1 a.2.2.1 a.2.2.2.1]
def JX:aV:=[(YY,gT T (nG::(EK,Oz)::(z9,iS HX)::[]) [] 60 acW)]
def JH:aV:=[(acf,gT T (sG::tw) [] 60 Xc)]
def Rc:aV:=[(YB,gT T (nG::JH) [200006] 60 agH)]
theorem aee {c d:Cu} {t u:Rat}:bP T Ms [100027,100031] 60 B3 (az B3) ⟨aQ 0 [bT c 2000 2000,bT d 2000 2000,.rat t sK,.rat u sK],[],0⟩=
  let c3:Prop:=0<1;let c2:Cu:=Cu.mk d.p d.n (fun i=>aZ (rat (d.k i) 2000)) d.m fun i=>iI (bU (d.f i) 2000);let c1:Cu:=Cu.mk c.p c.n (fun i=>aZ (rat (c.k i) 2000)) c.m fun i=>iI (bU (c.f i) 2000);let c5:V3:=fY c2 u;let c4:V3:=fY c1 t;some (aj [c3,c3,bV (fun i=>rat (c.k i) 2000) c.n sJ,fI (fun i=>bU (c.f i) 2000) c.m sJ,sK<=sK,dz c1,c3] (aj [c3,c3,bV (fun i=>rat (d.k i) 2000) d.n sJ,fI (fun i=>bU (d.f i) 2000) d.m sJ,sK<=sK,dz c2,c3] (aj [(eH c.n (fun i=>aZ (rat (c.k i) 2000)) t==(0:Int))=true,(bif true then eH d.n (fun i=>aZ (rat (d.k i) 2000)) u==(0:Int)else false)=true,c3,c3,decide (c4.x=c5.x)=true,(bif true then decide (c4.y=c5.y)else false)=true] (leaf ret [AV.bool (bif true then bif true then decide (c4.z=c5.z)else false else false)])))):=ah
theorem ab5:bn P MN:=aI (ig hT (ke r5) hm (aT Proofs.Tryz.func57 ah ah ah) _ _) bE
theorem aef:bn P JX:=aI (ig hT (dB (aI UJ (aI ai4 bE))) hm (aT Proofs.Tryz.func11 ah ah ah) _ _) bE
theorem adM:bn P JH:=aI (ig hT (ke yY) hm (aT Proofs.Tryz.func77 ah ah ah) _ _) bE
theorem Zx:bn P Rc:=aI (ig hT (dB adM) hm (aT Proofs.Tryz.func12 ah ah ah) _ _) bE
theorem Tg:bn P Ms:=dB (aI Jx ab5)
theorem UO:∀K args pre r,Pv K args pre=some r->aD P Gc K args pre r:=cY fun⟨c,d,t,u,_⟩ K hn=>by
 obtain⟨kc,ic,kd,id,ev⟩:=hn
 refine bW (r:=aL (.bool true) []) hT Tg hm Yx rfl aW rfl 60 aee (fun _=>?_) K []
 have hiv:(eH c.n c.k t==0)=true:=beq_iff_eq.2 (if_neg ic)
 have hid:(eH d.n d.k u==0)=true:=beq_iff_eq.2 (if_neg id)
 have hX:decide ((fY c t).x=(fY d u).x)=true:=decide_eq_true (congrArg V3.x ev.symm)
 have hY:decide ((fY c t).y=(fY d u).y)=true:=decide_eq_true (congrArg V3.y ev.symm)
 have hZ:decide ((fY c t).z=(fY d u).z)=true:=decide_eq_true (congrArg V3.z ev.symm)
 simp only[ag.all,aA]
 (repeat' with_reducible first|refine And.intro ?_ ?_|intro _)
 all_goals first|assumption|exact cI (by decide)|exact gh (by decide)|exact .refl _|exact trivial|decide|(show er [AV.bool (decide ((fY c t).z=(fY d u).z))] _;rw[hZ];exact bD.refl _)
theorem abZ:∀K args pre r,BA K args pre=some r->aD P Dp K args pre r:=cY fun⟨⟨n,k⟩,_⟩ K hn=>by
 have h1:n<2^40:=hn.1
 have h2:∀i,i<aP k n->Sz (aR k n i) 2000:=hn.2
 exact rL (u:=ls (aR k n) (aP k n)) (l:=[bV (fun i=>.rat (k i) 2000) n sJ,n<2^40]) (Vz K [bN k n 2000] [] _ rfl) (fun _=>⟨cI (by decide),h1⟩) rfl rfl (gm fun i hi=>cV rfl (h2 i hi))
structure vv (c d:Cu) (a:Rat):Prop where
 q:eR c d
 k0:d.k 0=a
 k1:d.k (d.n-1)=c.k (c.n-1)
 m:d.m<=c.m
theorem P4 {n p Q:Nat} {k:Nat->Rat} {a b:Rat} (h:Kn n p k) (hQ:vK n p k a b Q) (h0:k 0=a):Q=p:=by
 obtain⟨w1,w2⟩:=h.ji hQ.at_
 have hp:=h.p1
 have hl:=h.len
 have e1:=h.first 1 aa
 have e2:=h.mult 1 aa aa
 by_cases c:p+1<=Q
 ·have:=h.mono (show 1+p<=Q by omega) (by have:=hQ.at_.lt;omega)
  have:=hQ.lo
  grind
 ·omega
theorem Ow {c d:Cu} {I N M:Nat} {k:Nat->Rat} {p:Int} (h:eR c d) (hI:At c.n c.k I) (hQ:vK d.n c.p.toNat d.k (c.k I) (c.k (I+1)) c.p.toNat) (hp:p=c.p) (hN:N=c.p.toNat+1+(c.p.toNat+1)) (hM:M=c.p.toNat+1) (hk:∀i,i<N->k i=if i<c.p.toNat+1 then c.k I else c.k (I+1)):
  bD (bT ⟨p,N,k,M,d.f⟩ 2000 sE) (bT (oR (jN (cr c) (c.k I) (c.k (I+1)))) 2000 sE):=by
 refine cu ⟨bJ hp,Cb hN fun i hi=>?_,Cb hM fun j hj=>?_,trivial⟩
 ·show bD (.rat (k i) 2000) (.rat (if i<c.p.toNat+1 then c.k I else c.k (I+1)) 2000)
  rw[hk i hi];exact .refl _
 ·have hj:j<M:=hj
  show bD (bU (d.f j) sE) (bU (fu ((jN (cr c) (c.k I) (c.k (I+1))).f j)) sE)
  rw[<-z8 (j:=j) h hI hQ aa,FD (oJ (h.pos _)),Nat.sub_self,Nat.zero_add]
  exact .refl _
theorem vv.next {c d:Cu} {I:Nat} (hb:eZ c) (h:vv c d (c.k I)) (hI:At c.n c.k I) (hl:c.k (I+1)<c.k (c.n-1)) (h40:c.m+c.p.toNat<=40):
  bD (bT (Nb d (c.k (I+1))) 2000 sE) (bT (oR (jN (cr c) (c.k I) (c.k (I+1)))) 2000 sE)/\vv c (JD d (c.k (I+1))) (c.k (I+1))/\Jv d (c.k (I+1))=0:=by
 obtain⟨hq,f0,f1,fm⟩:=h
 have hw:=hI.wide
 have hlt:=hI.lt
 have hp:=hq.p
 have hp2:=hq.kn.2.1
 have i0:d.k 0<c.k (I+1):=by rw[f0];exact hw
 have i1:c.k (I+1)<d.k (d.n-1):=by rw[f1];exact hl
 have hkn:=hq.kn.1
 have hle:=hkn.My i0 i1
 obtain⟨⟨a1,a2,a3,a4,a5,a6,a7⟩,hD⟩:=CJ hq (t:=c.k (I+1)) ⟨I+1,hlt,rfl⟩ i0 i1 (by rw[hp];omega) (r:=d.p.toNat-bF d.k (c.k (I+1)) d.n) aa
 have e1:Nb d (c.k (I+1))=mH (kO d (c.k (I+1))) (c.k (I+1)) (bL (kO d (c.k (I+1))).n (kO d (c.k (I+1))).k (c.k (I+1))):=if_pos ⟨i0,i1⟩
 have e2:JD d (c.k (I+1))=gi (kO d (c.k (I+1))) (c.k (I+1)) (bL (kO d (c.k (I+1))).n (kO d (c.k (I+1))).k (c.k (I+1))):=if_pos ⟨i0,i1⟩
 have e3:Jv d (c.k (I+1))=0:=if_pos ⟨i0,i1⟩
 have eD:kO d (c.k (I+1))=cX d (c.k (I+1)) (d.p.toNat-bF d.k (c.k (I+1)) d.n):=rfl
 rw[e1,e2,e3,eD]
 generalize cX d (c.k (I+1)) (d.p.toNat-bF d.k (c.k (I+1)) d.n)=D at*
 have pD:=hD.p
 have kD:=hD.kn.1
 have pe:D.p.toNat=c.p.toNat:=by rw[pD]
 have tD:bF D.k (c.k (I+1)) D.n=D.p.toNat:=by rw[a5,a2];omega
 obtain⟨v1,v2,v3⟩:=oZ kD (by rw[a6];exact i0) (by rw[a7];exact i1)
 obtain⟨r1,r2,r3⟩:=kD.split (by rw[a6];exact i0) (by rw[a7];exact i1) v1 v2 v3 tD
 have hR:=hD.right (by rw[a6];exact i0) (by rw[a7];exact i1) v1 v2 v3 tD
 generalize hA:bL D.n D.k (c.k (I+1))=A at*
 rw[pe]at r1 r2 r3 tD
 rw[pe]at kD
 have hl4:=kD.len
 obtain⟨Q,g1,g2,g3⟩:=hD.two hI ⟨0,aa,by rw[a6,f0]⟩ (Em (by have:=kD.p1;omega))
 have hQ:=kD.Fl g1 g2 g3 (.inl (by rw[a6,f0])) (.inr tD)
 have eQ:=P4 kD hQ (by rw[a6,f0])
 subst eQ
 have hlA:=g1.lt
 have eA:A=c.p.toNat+c.p.toNat:=by
  obtain⟨w1,w2⟩:=kD.ji g1
  have x1:=hQ.right (c.p.toNat+c.p.toNat) (by have:=kD.p1;omega) bp
  have x2:c.p.toNat+c.p.toNat<=A:=r3
  by_cases x3:A<=c.p.toNat+c.p.toNat
  ·omega
  ·have:=r2 (c.p.toNat+1) aa
   rw[g3]at this
   exact absurd this Rat.lt_irrefl
 refine⟨?_,⟨hR,?_,?_,?_⟩,rfl⟩
 ·refine Ow (p:=D.p) (N:=A+1+1) (M:=A+1-D.p.toNat) hD hI hQ pD aa (by rw[pe];omega) fun i hi=>?_
  by_cases x1:i<A+1
  ·rw[if_pos x1]
   by_cases x2:i<c.p.toNat+1
   ·rw[if_pos x2,kD.first i aa,a6,f0]
   ·rw[if_neg x2];exact hQ.right i aa aa
  ·rw[if_neg x1,if_neg aa]
 ·exact(if_pos aa:(if 0<1 then c.k (I+1)else D.k (A+1-D.p.toNat+(0-1)))=_)
 ·show(if 1+(D.n-(A+1-D.p.toNat))-1<1 then c.k (I+1)else D.k (A+1-D.p.toNat+(1+(D.n-(A+1-D.p.toNat))-1-1)))=_
  rw[if_neg aa,<-f1,<-a7]
  congr 1
  omega
 ·show D.m-(A-D.p.toNat)<=c.m
  omega
theorem vv.last {c d:Cu} {I:Nat} (h:vv c d (c.k I)) (hI:At c.n c.k I) (hl:c.k (I+1)=c.k (c.n-1)):
  bD (bT d 2000 sE) (bT (oR (jN (cr c) (c.k I) (c.k (I+1)))) 2000 sE):=by
 obtain⟨hq,f0,f1,fm⟩:=h
 have hp:=hq.p
 have hkn:=hq.kn.1
 have hm2:=hq.kn.2.2.2.2
 have hp2:=hq.kn.2.1
 rw[hp]at hkn
 have hl4:=hkn.len
 have hp1:=hkn.p1
 obtain⟨Q,g1,g2,g3⟩:=hq.two hI ⟨0,aa,f0⟩ ⟨d.n-1,aa,by rw[f1,hl]⟩
 have hQ:=hkn.Fl g1 g2 g3 (.inl f0) (.inl (by rw[f1,hl]))
 have eQ:=P4 hkn hQ f0
 subst eQ
 have hr:∀i,c.p.toNat+1<=i->i<d.n->d.k i=c.k (I+1):=fun i h1 h2=>by
  have m1:=hkn.mono h1 h2
  have m2:=hkn.mono (show i<=d.n-1 by omega) aa
  rw[f1,<-hl]at m2
  rw[g3]at m1
  grind
 have eN:d.n=c.p.toNat+1+(c.p.toNat+1):=by
  by_cases x1:d.n<=c.p.toNat+1+(c.p.toNat+1)
  ·omega
  ·have:=hkn.mult (c.p.toNat+1) aa aa
   rw[hr _ bp aa,hr _ aa aa]at this
   exact absurd this Rat.lt_irrefl
 refine Ow (p:=d.p) (N:=d.n) (M:=d.m) (k:=d.k) hq hI hQ hp eN aa fun i hi=>?_
 by_cases x2:i<c.p.toNat+1
 ·rw[if_pos x2,hkn.first i aa,f0]
 ·rw[if_neg x2];exact hr i aa hi
end Go.Am.B
