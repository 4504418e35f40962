/- Spline.Cut at any two of the spline's gm. -/
import Derived.Test.YtgfjdngnneoeoaaGreatY45
import Derived.Test.YtgfjdngnneoeoaaGreatY41
import Derived.Test.YtgfjdngnneoeoaaGreatY42
import Derived.Test.YtgfjdngnneoeoaaGreatY44
import Derived.Test.YtgfjdngnneoeoaaGreatM41
set_option linter.unusedVariables false
noncomputable section
namespace Go.Am.B
open Go Go.Am.N AV ag aq IntKind Proofs.Tryz
def LO (p n:Nat) (k:Nat->Rat) (x:Rat) (R:Nat):Prop:=k 0<x/\x<k (n-1)/\bU k x n+R=p/\∀r,r<=R->u6 n p k x r
def BE (n:Nat) (k:Nat->Rat) (x:Rat) (R:Nat):Prop:=(x=k 0\/x=k (n-1))/\R=0
def sq (p n:Nat) (k:Nat->Rat) (x:Rat) (R:Nat):Prop:=LO p n k x R\/BE n k x R
theorem sq.Oa {p n:Nat} {k:Nat->Rat} {x:Rat} {R:Nat} (h:sq p n k x R) (g:x=k 0):BE n k x R:=by
 rcases h with h|h
 ·have:=h.1
  rw[<-g]at this
  exact absurd this Rat.lt_irrefl
 ·exact h
set_option maxHeartbeats 1000000 in
theorem Tw {c:Cu} {a b:Rat} {f l:Nat} {ns rs:Nat->Nat} {ks:Nat->Nat->Rat} (hc:Kn c.n c.p.toNat c.k) (hp1:1<=c.p) (hp6:c.p<=6) (hcn:c.n<2^27) (hcm:c.m<2^28) (n0:ns 0=c.n) (k0:ks 0=c.k) (hns:∀j,j<=2->c.n<=ns j/\ns j<2^28) (hs:∀j,j<2->ns (j+1)=ns j+rs j/\ks (j+1)=fM (ks j) (ns j) (if j=0 then a else b) (rs j)) (hJ:∀j,j<2->sq c.p.toNat (ns j) (ks j) (if j=0 then a else b) (rs j))
  (hf:gC (lP a (ks 2)) (ns 2)=f) (hl:gC (lS b (ks 2)) (ns 2)=l) (g1:c.p.toNat+1<=f) (g2:f<=l) (g3:l+c.p.toNat+1<=ns 2) (K:Nat):
  aN P 157 K [fF c 2000 4000,.rat a 2000,.rat b 2000] [] (aH (fF (xL (l9 c (ns 2) (ks 2)) a b f l) sK sB) []):=by
 refine jq (r:=aH (fF (xL (l9 c (ns 2) (ks 2)) a b f l) sK sB) []) hT IJ rfl aW rfl (fun _ cx h00=>?_) K []
 have hk:=tJ h00
 have hl4:=hc.len
 refine ay.hole [1] ah (aI.bH hT wg hm 60 zZ aa7 (ow IJ.dst) ?_)
 intro s' hs'
 show ay _ _ _ (part sU [1]) s' _
 rw[show behind sU [1]=[]from by kernel_rfl]
 refine ay.lD (s2:=⟨aG zZ [.ptr 0 0 3 0 [],.ptr 1 0 3 0 [],.ptr 2 0 3 0 [],.ptr 3 0 3 0 []],[(3,wE),(2,tP b 2000),(1,tP a 2000),(0,wG c)],4⟩) (fz.le ⟨[(0,0),(1,4096),(2,8192),(3,12288)],rfl,rfl,rfl,aY (aY (aY (aY trivial)))⟩ hs' hk)
  ((?_:ay P cx f157.ntmps (part sU [1]) _ (eU cx (Fin T f157 (fF (xL (l9 c (ns 2) (ks 2)) a b f l) sK sB)))).mono fun e s' h=>by cases e<;>exact h)
 refine ay.IF (t:=4) (k:=1) rfl rfl rfl rfl rfl ?_
 refine ay.IF (t:=5) (k:=2) rfl rfl rfl rfl rfl ?_
 refine ay.aep hT wg hm (x:=yy) (y:=xq) (x1:=uQ) (zb:=part xq [1,1,1]) (y2:=part uQ [1,1,0,0]) [1,0,1] (i:=0) ah ah ah [1,1,0] (j:=1) ah ah ah [1,1] (i2:=2) ah ah rfl hk (f1:=[]) (f2:=[21]) (f3:=[28]) (f4:=[40,47]) (f5:=[]) 60 oE uo 2 3
  (fun j:Nat=>pE a b (ns j) (ks j) j) (fun _=>pN c) (fun j=>j<=2) (fun j=>j=2) (fun j=>2-j) (fun j=>j<2) (fun _=>False) (fun _=>False)
  (fun j (q:Nat×Bool)=>uJ a b (ns j+q.1) (fM (ks j) (ns j) (if j=0 then a else b) q.1) j q.2) (fun j _=>wk c (if j=0 then a else b)) (fun j q=>q.2=false/\LO c.p.toNat (ns j) (ks j) (if j=0 then a else b) (rs j)/\q.1<=rs j\/q.2=true/\BE (ns j) (ks j) (if j=0 then a else b) (rs j)/\q.1=0) (fun j q=>q.1=rs j) (fun j q=>rs j-q.1)
  ⟨_,adP,?_⟩ (fun j hj=>⟨_,aaM,?_⟩) (fun j hj hG=>?_) (fun j hj hG q hq=>⟨_,Xq,?_⟩) (fun j hj hG q hq=>⟨_,Ww,?_⟩) (fun j s' hj hle=>?_) (fun _ _ h=>h.elim) (fun _ _ h=>h.elim)
 ·simp only[ag.all,au]
  refine⟨aa,0,Nat.zero_le _,?_⟩
  show fz [] _ (pE a b (ns 0) (ks 0) 0) (pN c) 2
  rw[n0,k0]
  exact⟨[(0,0),(1,3)],rfl,rfl,rfl,aY (aY trivial)⟩
 ·simp only[ag.all,au,bz,bG]
  exact⟨fun h=>⟨aa,[(0,0),(1,1)],rfl,rfl,rfl,aY (aY trivial)⟩,fun h=>⟨rfl,j,aa,[(0,0),(1,1)],rfl,rfl,rfl,aY (aY trivial)⟩⟩
 ·have hG:j<2:=hG
  rcases(show j=0\/j=1 by omega)with rfl|rfl
  ·refine⟨_,abr,?_⟩
   have hl0:=hns 0 aa
   have e1:((ns 0:Nat)-1:Int).toNat=ns 0-1:=aa
   have hc0:sq c.p.toNat (ns 0) (ks 0) a (rs 0):=hJ 0 aa
   simp only[ag.all,au,bz,bG,cond_false,Int.toNat_zero,e1]
   refine⟨⟨aa,aa⟩,fun g=>⟨⟨aa,aa,aa,aa,g⟩,(0,true),.inr ⟨rfl,hc0.Oa g,rfl⟩,[(0,0),(1,1),(2,4098)],rfl,rfl,rfl,aY (aY (aY trivial))⟩,fun g=>⟨⟨aa,aa,aa,aa,g,aa,aa,aa,aa,aa⟩,?_⟩⟩
   rcases hc0 with hc1|hc1
   ·have e2:decide (a=ks 0 (ns 0-1))=false:=decide_eq_false fun g2=>by
     have:=hc1.2.1
     rw[<-g2]at this
     exact Rat.lt_irrefl this
    rw[e2]
    exact⟨(0,false),.inl ⟨rfl,hc1,Nat.zero_le _⟩,[(0,0),(1,1),(2,4098)],rfl,rfl,rfl,aY (aY (aY trivial))⟩
   ·have e2:decide (a=ks 0 (ns 0-1))=true:=decide_eq_true (hc1.1.resolve_left g)
    rw[e2]
    exact⟨(0,true),.inr ⟨rfl,hc1,rfl⟩,[(0,0),(1,1),(2,4098)],rfl,rfl,rfl,aY (aY (aY trivial))⟩
  ·refine⟨_,Vs,?_⟩
   have hl0:=hns 1 aa
   have e1:((ns 1:Nat)-1:Int).toNat=ns 1-1:=aa
   have hc0:sq c.p.toNat (ns 1) (ks 1) b (rs 1):=hJ 1 aa
   simp only[ag.all,au,bz,bG,cond_false,Int.toNat_zero,e1]
   refine⟨⟨aa,aa⟩,fun g=>⟨⟨aa,aa,aa,aa,g⟩,(0,true),.inr ⟨rfl,hc0.Oa g,rfl⟩,[(0,0),(1,1),(2,4098)],rfl,rfl,rfl,aY (aY (aY trivial))⟩,fun g=>⟨⟨aa,aa,aa,aa,g,aa,aa,aa,aa,aa⟩,?_⟩⟩
   rcases hc0 with hc1|hc1
   ·have e2:decide (b=ks 1 (ns 1-1))=false:=decide_eq_false fun g2=>by
     have:=hc1.2.1
     rw[<-g2]at this
     exact Rat.lt_irrefl this
    rw[e2]
    exact⟨(0,false),.inl ⟨rfl,hc1,Nat.zero_le _⟩,[(0,0),(1,1),(2,4098)],rfl,rfl,rfl,aY (aY (aY trivial))⟩
   ·have e2:decide (b=ks 1 (ns 1-1))=true:=decide_eq_true (hc1.1.resolve_left g)
    rw[e2]
    exact⟨(0,true),.inr ⟨rfl,hc1,rfl⟩,[(0,0),(1,1),(2,4098)],rfl,rfl,rfl,aY (aY (aY trivial))⟩
 ·obtain⟨r,e⟩:=q
  have hG:j<2:=hG
  have hl0:=hns j aa
  obtain⟨x,hx⟩:∃x,x=if j=0 then a else b:=⟨_,rfl⟩
  simp only[<-hx]at hq ⊢
  have same:fz [] (uJ a b (ns j+r) (fM (ks j) (ns j) x r) j e,wk c x) (uJ a b (ns j+r) (fM (ks j) (ns j) x r) j e) (wk c x) 3:=⟨[(0,0),(1,1),(2,2)],rfl,rfl,rfl,aY (aY (aY trivial))⟩
  simp only[ag.all,au,cond_true,bz,bG]
  rcases hq with⟨he,⟨w1,w2,w3,w4⟩,hr⟩|⟨he,hw,hr⟩
  ·have he:e=false:=he
   have hr:r<=rs j:=hr
   have hq2:=hns (j+1) aa
   have hsj:=(hs j hG).1
   subst he
   have h:=w4 r hr
   have e1:(bU (fun i=>aC (rat (fM (ks j) (ns j) x r i) 2000)) x (ns j+r):Int)=((bU (ks j) x (ns j)+r:Nat):Int):=congrArg Nat.cast h.tm
   have e2:js (fun i=>aC (rat (fM (ks j) (ns j) x r i) 2000)) x (gP (fun i=>aC (rat (fM (ks j) (ns j) x r i) 2000)) x (ns j+r))=fM (ks j) (ns j) x (r+1):=h.next w1 w2
   simp only[e1,e2]
   refine⟨fun _=>⟨⟨rfl,aa,cV (by decide),by decide,aa,aa⟩,fun g=>⟨⟨aa,cV aR,aa,aa,fun i _=>((w4 (r+1) aa).sd i).more (by decide)⟩,(r+1,false),.inl ⟨rfl,⟨w1,w2,w3,w4⟩,show r+1<=rs j by omega⟩,show rs j-(r+1)<rs j-r by omega,[(0,0),(1,1),(2,2)],rfl,rfl,rfl,fj rfl rfl (eJ rfl ?_) (aY (aY trivial))⟩,fun g=>⟨rfl,(r,false),?_,?_⟩⟩,fun g=>absurd g (by decide)⟩
   ·rfl
   ·have g:¬((bU (ks j) x (ns j)+r:Nat):Int)<c.p:=g
    show r=rs j
    omega
   ·exact same
  ·have he:e=true:=he
   have hr:r=0:=hr
   subst he
   exact⟨fun g=>absurd g (by decide),fun _=>⟨rfl,fun g=>absurd g (by decide),fun _=>⟨rfl,(r,true),hr.trans hw.2.symm,same⟩⟩⟩
 ·have hG:j<2:=hG
  obtain⟨r,e⟩:=q
  have hq:r=rs j:=hq
  subst hq
  simp only[ag.all,au]
  refine⟨aa,j+1,aa,by dsimp only;omega,?_⟩
  show fz [] _ (pE a b (ns (j+1)) (ks (j+1)) ((j+1:Nat))) (pN c) 2
  rw[(hs j hG).1,(hs j hG).2]
  exact⟨[(0,0),(1,1)],rfl,rfl,rfl,aY (aY trivial)⟩
 ·subst hj
  rw[show behind yy [1,0,1]=[qX]from by kernel_rfl]
  have h2:=hns 2 aa
  exact aI.weak rfl hle (aI.one (afY hk hc hp1 hp6 aa hcm aa aa hf hl g1 g2 g3 fun _ _ h=>h))
theorem yG {k:Nat->Rat}:∀{n:Nat},(∀i,i+1<n->k i<=k (i+1))->∀{i:Nat},i+1<bO k n->∃s,At n k s/\k s=cy k n i/\k (s+1)=cy k n (i+1)
 |0,_,i,h=>by simp[bO]at h
 |n+1,hs,i,h=>by
  have hs':∀i,i+1<n->k i<=k (i+1):=fun i hi=>hs i (by omega)
  by_cases c:gv k n
  ·rw[bO,if_pos c]at h
   by_cases e:i+1<bO k n
   ·obtain⟨s,h1,h2,h3⟩:=yG hs' e
    refine⟨s,⟨by have:=h1.lt;omega,hs,h1.wide⟩,?_,?_⟩
    ·rw[cy,if_pos c,kz (by omega)];exact h2
    ·rw[cy,if_pos c,kz (by omega)];exact h3
   ·have hn0:n≠0:=fun e0=>by
     rw[e0]at h
     simp[bO]at h
    obtain⟨m,rfl⟩:∃m,n=m+1:=⟨n-1,by omega⟩
    obtain⟨_,_,e3⟩:=y9 (k:=k) (n:=m)
    have hne:k (m+1)≠k m:=by
     rcases c with c|c
     ·omega
     ·exact c
    have hle:=hs m (by omega)
    refine⟨m,⟨by omega,hs,by grind⟩,?_,?_⟩
    ·rw[cy,if_pos c,kz (by omega),show i=bO k (m+1)-1 by omega];exact e3.symm
    ·rw[cy,if_pos c,show i+1=bO k (m+1) by omega,rG]
  ·rw[bO,if_neg c,Nat.add_zero]at h
   obtain⟨s,h1,h2,h3⟩:=yG hs' h
   refine⟨s,⟨by have:=h1.lt;omega,hs,h1.wide⟩,?_,?_⟩
   ·rw[cy,if_neg c];exact h2
   ·rw[cy,if_neg c];exact h3
theorem Cc {k:Nat->Rat} {t:Rat}:∀{n:Nat},bU k t n≠0->∃q,q<n/\k q=t
 |0,h=>absurd rfl h
 |n+1,h=>by
  by_cases c:k n=t
  ·exact⟨n,by omega,c⟩
  ·rw[j5,if_neg c,Nat.add_zero]at h
   obtain⟨q,h1,h2⟩:=Cc h
   exact⟨q,by omega,h2⟩
theorem Gf {k:Nat->Rat} {t y:Rat} {q:Nat} (hy:t≠y):∀{m:Nat},bU (dH k t q) y (q+1+m)=bU k y (q+m)
 |0=>by
  have pre:∀i,i<=q->bU (dH k t q) y i=bU k y i:=fun i=>by
   induction i with
   |zero=>intro _;rfl
   |succ i ih=>intro h;rw[j5,j5,ih (by omega),iX (by omega)]
  show bU (dH k t q) y (q+1)=bU k y q
  rw[j5,pre q (Nat.le_refl _),mQ,if_neg hy];rfl
 |m+1=>by
  rw[<-Nat.add_assoc,j5,Gf hy (m:=m),iQ (by omega),<-Nat.add_assoc,j5,show q+1+m-1=q+m by omega]
structure Ed (n p:Nat) (k:Nat->Rat) (a b:Rat) (Q:Nat):Prop where
 at_:At n k Q
 lo:k Q=a
 hi:k (Q+1)=b
 left:∀i,i<=Q->Q<i+p->k i=a
 right:∀i,Q+1<=i->i<=Q+p->k i=b
theorem Kn.WS {n p Q:Nat} {k:Nat->Rat} {a b:Rat} (h:Kn n p k) (hQ:At n k Q) (ea:k Q=a) (eb:k (Q+1)=b) (ha:k 0=a\/bU k a n=p) (hb:k (n-1)=b\/bU k b n=p):Ed n p k a b Q:=by
 obtain⟨w1,w2⟩:=h.qm hQ
 have hw:=hQ.wide
 refine⟨hQ,ea,eb,fun i h1 h2=>?_,fun i h1 h2=>?_⟩
 ·rcases ha with ha|ha
  ·have m1:=h.mono (Nat.zero_le i) (by omega)
   have m2:=h.mono h1 (by omega)
   grind
  ·exact Fh h.sorted (show a<k (Q+1) by grind) hQ.lt (by rw[ea];exact Rat.le_refl) h1 (by rw[ha];exact h2)
 ·have m1:=h.mono h1 (by omega)
  rcases hb with hb|hb
  ·have m2:=h.mono (show i<=n-1 by omega) (by omega)
   grind
  ·by_cases e:k i=b
   ·exact e
   ·exfalso
    have hp:=h.p1
    have:=ym (k:=k) (t:=b) (lo:=Q+1) (hi:=i) h1 (n:=n) fun j hj hjb=>by
     constructor
     ·by_cases c:Q+1<=j
      ·exact c
      ·have:=h.mono (show j<=Q by omega) (by omega)
       grind
     ·by_cases c:j<i
      ·exact c
      ·have:=h.mono (show i<=j by omega) hj
       grind
    omega
def fD (h:Cu) (a b:Rat) (j e:Nat):Rat:=j7 h.k h.p.toNat (fun i=>iw (h.f i) e) (bY h.n h.k a) (cm (fun q=>if q<h.p.toNat-j then a else b) 0 h.p.toNat)
def vj (h:Cu) (a b:Rat):Cu:=⟨h.p,h.p.toNat+1+(h.p.toNat+1),fun q=>if q<h.p.toNat+1 then a else b,h.p.toNat+1,fun j=>⟨⟨fD h a b j 0,fD h a b j 1,fD h a b j 2⟩,fD h a b j 3⟩⟩
theorem X1 {c d:Cu} {P Q j:Nat} (h:gz c d) (hP:At c.n c.k P) (hQ:Ed d.n c.p.toNat d.k (c.k P) (c.k (P+1)) Q) (hj:j<=c.p.toNat):dg (d.f (Q-c.p.toNat+j))=(vj (eZ c) (c.k P) (c.k (P+1))).f j:=by
 obtain⟨k1,k2,k3,k4,k5⟩:=id h.kn
 have hp:=h.p
 rw[hp]at k1
 obtain⟨w1,w2⟩:=k1.qm hQ.at_
 obtain⟨P',p1,p2,p3⟩:=h.sub.B7 (j:=Q-c.p.toNat+j) k1 hQ.at_ aa aa
 have e:P'=P:=by rw[<-p2,hQ.lo];exact yY hP
 have el:cm d.k (Q-c.p.toNat+j+1) c.p.toNat=cm (fun q=>if q<c.p.toNat-j then c.k P else c.k (P+1)) 0 c.p.toNat:=by
  have:=DI (k:=d.k) (c:=Q-c.p.toNat+j+1) (l:=c.p.toNat) (a:=0)
  rw[Nat.add_zero]at this
  rw[<-this]
  exact xN fun q _ hq=>by
   by_cases c1:q<c.p.toNat-j
   ·rw[if_pos c1];exact hQ.left _ aa aa
   ·rw[if_neg c1];exact hQ.right _ aa aa
 have key:∀e,iw (dg (d.f (Q-c.p.toNat+j))) e=fD (eZ c) (c.k P) (c.k (P+1)) j e:=fun e'=>by
  have:=p3 e'
  rw[el,e]at this
  rw[<-this]
  show _=j7 c.k c.p.toNat (fun i=>iw (dg (c.f i)) e') (bY c.n c.k (c.k P)) _
  rw[yY hP]
 show dg (d.f (Q-c.p.toNat+j))=(⟨⟨fD (eZ c) (c.k P) (c.k (P+1)) j 0,fD (eZ c) (c.k P) (c.k (P+1)) j 1,fD (eZ c) (c.k P) (c.k (P+1)) j 2⟩,fD (eZ c) (c.k P) (c.k (P+1)) j 3⟩:Pl)
 rw[<-key 0,<-key 1,<-key 2,<-key 3];rfl
theorem gz.two {c d:Cu} {P:Nat} (h:gz c d) (hP:At c.n c.k P) (ha:∃q,q<d.n/\d.k q=c.k P) (hb:∃q,q<d.n/\d.k q=c.k (P+1)):∃Q,At d.n d.k Q/\d.k Q=c.k P/\d.k (Q+1)=c.k (P+1):=by
 obtain⟨k1,k2,k3,k4,k5⟩:=id h.kn
 obtain⟨qa,a1,a2⟩:=ha
 obtain⟨qb,b1,b2⟩:=hb
 have hw:=hP.wide
 have m1:=k1.mono (Nat.zero_le qa) a1
 have m2:=k1.mono (show qb<=d.n-1 by omega) aa
 obtain⟨g1,g2,g3⟩:=k1.xX (t:=c.k P) (by grind) (by grind)
 generalize bY d.n d.k (c.k P)=Q at*
 have hlt:=g1.at_.lt
 have glo:=g1.lo
 have gw:=g1.at_.wide
 have hgt:c.k P<d.k (Q+1):=by
  rcases g1.Cx with e|e
  ·exact e
  ·rw[e];grind
 have e1:d.k Q=c.k P:=by
  by_cases c1:qa<=Q
  ·have:=k1.mono c1 aa
   grind
  ·have:=k1.mono (show Q+1<=qa by omega) a1
   grind
 refine⟨Q,g1.at_,e1,?_⟩
 obtain⟨r,r1,r2⟩:=h.kc (Q+1) hlt
 have c1:P+1<=r:=by
  by_cases c2:P+1<=r
  ·exact c2
  ·have:=gG hP.sorted (show r<=P by omega) (by have:=hP.lt;omega)
   grind
 have c2:=gG hP.sorted c1 r1
 have c3:Q+1<=qb:=by
  by_cases c4:Q+1<=qb
  ·exact c4
  ·have:=k1.mono (show qb<=Q by omega) aa
   grind
 have c4:=k1.mono c3 b1
 grind
theorem Kp {c d:Cu} {t:Rat} (hq:gz c d) (ht:∃r,r<c.n/\t=c.k r) (h0:d.k 0<t) (h1:t<d.k (d.n-1)) (h40:d.m+d.p.toNat<=40):∀{r:Nat},((bU d.k t d.n+r:Nat):Int)<=d.p->(dG d t r).k=fM d.k d.n t r/\∀y,t≠y->bU (dG d t r).k y (dG d t r).n=bU d.k y d.n
 |0,_=>⟨rfl,fun _ _=>rfl⟩
 |r+1,h=>by
  obtain⟨ih,ih2⟩:=Kp hq ht h0 h1 h40 (r:=r) aa
  obtain⟨⟨a1,a2,a3,a4,a5,a6,a7⟩,hr⟩:=Ct hq ht h0 h1 h40 (r:=r) aa
  have hE:jX (dG d t r) t=0:=Bd (by rw[a6];exact h0) (by rw[a7];exact h1) (by rw[a5,a2];omega) (by rw[a4];omega)
  obtain⟨b1,b2,b3,b4⟩:=yU hE
  obtain⟨i1,i2,i3⟩:=rR hr.kn.1 b1 b2
  have e:dG d t (r+1)=um (dG d t r) t (bY (dG d t r).n (dG d t r).k t):=if_pos hE
  refine⟨?_,fun y hy=>?_⟩
  ·rw[e]
   show dH (dG d t r).k t (bY (dG d t r).n (dG d t r).k t+1)=dH (fM d.k d.n t r) t (bY (d.n+r) (fM d.k d.n t r) t+1)
   rw[ih,a3]
  ·rw[e,<-ih2 y hy]
   show bU (dH (dG d t r).k t (bY (dG d t r).n (dG d t r).k t+1)) y ((dG d t r).n+1)=_
   generalize bY (dG d t r).n (dG d t r).k t=a at*
   have:=Gf (k:=(dG d t r).k) (q:=a+1) hy (m:=(dG d t r).n-(a+1))
   rw[show a+1+1+((dG d t r).n-(a+1))=(dG d t r).n+1 by omega,show a+1+((dG d t r).n-(a+1))=(dG d t r).n by omega]at this
   exact this
structure DW (c d e:Cu) (x:Rat) (R:Nat):Prop where
 q:gz c e
 n:e.n=d.n+R
 m:e.m=d.m+R
 r:R<=c.p.toNat
 k:e.k=fM d.k d.n x R
 j:sq c.p.toNat d.n d.k x R
 k0:e.k 0=d.k 0
 k1:e.k (e.n-1)=d.k (d.n-1)
 t:e.k 0=x\/e.k (e.n-1)=x\/bU e.k x e.n=c.p.toNat
 o:∀y,x≠y->bU e.k y e.n=bU d.k y d.n
 sd:∀i,Sz (e.k i) 60
theorem gz.step {c d:Cu} {x:Rat} (hb:jR c) (h:gz c d) (hx:∃r,r<c.n/\x=c.k r) (h40:d.m+d.p.toNat<=40) (h0:d.k 0<=x) (h1:x<=d.k (d.n-1)) (sd:∀i,Sz (d.k i) 60):∃R e,DW c d e x R:=by
 have hp:=h.p
 have hkn:=h.kn.1
 rw[hp]at hkn
 by_cases hi:d.k 0<x/\x<d.k (d.n-1)
 ·have hle:=hkn.abG hi.1 hi.2
  obtain⟨R,hR⟩:∃R,R=c.p.toNat-bU d.k x d.n:=⟨_,rfl⟩
  have k2:=h.kn.2.1
  have hRp:((bU d.k x d.n+R:Nat):Int)<=d.p:=aa
  obtain⟨⟨a1,a2,a3,a4,a5,a6,a7⟩,hr⟩:=Ct h hx hi.1 hi.2 h40 hRp
  obtain⟨b1,b2⟩:=Kp h hx hi.1 hi.2 h40 hRp
  have hxD:ju x:=by
   obtain⟨r,_,e⟩:=hx
   rw[e];exact hb.d.kd r
  have hK:∀r,r<=R->u6 d.n c.p.toNat d.k x r:=fun r hr=>NK hkn hi.1 hi.2 sd (hxD.sz.more (by decide)) aa
  exact⟨R,dG d x R,hr,a3,a4,aa,b1,.inl ⟨hi.1,hi.2,aa,hK⟩,a6,a7,.inr (.inr (by rw[a5];omega)),b2,fun i=>by rw[b1];exact(hK R aR).sd i⟩
 ·have hx2:x=d.k 0\/x=d.k (d.n-1):=by
   by_cases g:d.k 0<x
   ·right
    have:¬x<d.k (d.n-1):=fun g2=>hi ⟨g,g2⟩
    grind
   ·left;grind
  exact⟨0,d,h,rfl,rfl,Nat.zero_le _,rfl,.inr ⟨hx2,rfl⟩,rfl,rfl,hx2.elim (fun g=>.inl g.symm) fun g=>.inr (.inl g.symm),fun _ _=>rfl,sd⟩
theorem Pq {c:Cu} {P:Nat} (hb:jR c) (hP:At c.n c.k P) (h40:c.m+(c.p.toNat+c.p.toNat)<=40):∃R0 R1 E1 E,DW c c E1 (c.k P) R0/\DW c E1 E (c.k (P+1)) R1/\∃Q,Ed E.n c.p.toNat E.k (c.k P) (c.k (P+1)) Q:=by
 have hkn:=hb.d.kn.1
 have hlt:=hP.lt
 have hw:=hP.wide
 have m0:=hkn.mono (Nat.zero_le P) aa
 have m1:=hkn.mono (show P+1<=c.n-1 by omega) aa
 obtain⟨R0,E1,s1⟩:=hb.self.step hb (x:=c.k P) ⟨P,aa,rfl⟩ aa m0 (by grind) (fun i=>(hb.d.kd i).sz.more (by decide))
 have q1:=s1.q.p
 obtain⟨R1,E,s2⟩:=s1.q.step hb (x:=c.k (P+1)) ⟨P+1,hlt,rfl⟩ (by rw[s1.m,q1];have:=s1.r;omega) (by rw[s1.k0];grind) (by rw[s1.k1];exact m1) s1.sd
 refine⟨R0,R1,E1,E,s1,s2,?_⟩
 have f0:E.k 0=c.k 0:=s2.k0.trans s1.k0
 have f1:E.k (E.n-1)=c.k (c.n-1):=s2.k1.trans s1.k1
 have hE:=s2.q.kn.1
 have q2:=s2.q.p
 rw[q2]at hE
 have hlE:=hE.len
 have hp:=hE.p1
 have ha:E.k 0=c.k P\/bU E.k (c.k P) E.n=c.p.toNat:=by
  rcases s1.t with g|g|g
  ·left;rw[s2.k0,g]
  ·rw[s1.k1]at g;exfalso;grind
  ·right;rw[s2.o _ (by grind),g]
 have hbb:E.k (E.n-1)=c.k (P+1)\/bU E.k (c.k (P+1)) E.n=c.p.toNat:=by
  rcases s2.t with g|g|g
  ·exfalso;grind
  ·exact .inl g
  ·exact .inr g
 obtain⟨Q,g1,g2,g3⟩:=s2.q.two hP (ha.elim (fun g=>⟨0,aa,g⟩) fun g=>Cc aa) (hbb.elim (fun g=>⟨E.n-1,aa,g⟩) fun g=>Cc aa)
 exact⟨Q,hE.WS g1 g2 g3 ha hbb⟩
theorem WJ {c d:Cu} {j:Nat} (h:gz c d) (hb:jR c) (hj:j<d.m):pe (eZ c) d.n d.k j=dg (d.f j):=by
 obtain⟨k1,k2,k3,k4,k5⟩:=id hb.d.kn
 obtain⟨d1,d2,d3,d4,d5⟩:=id h.kn
 have hp:=h.p
 rw[hp]at d1
 have hl:=d1.len
 obtain⟨Q,hQ⟩:∃Q,Q=iA d.k d.n j:=⟨_,rfl⟩
 obtain⟨g1,g2,g3⟩:j<=Q/\Q<j+(c.p.toNat+1)/\d.k Q<d.k (Q+1):=by
  rw[hQ]
  exact Lc (n:=d.n) (k:=d.k) (pc:=rJ d.k d.n) (fun _=>rfl) (fun _ _=>rfl) (d1.agC aa) aa aa
 have hA:At d.n d.k Q:=⟨aa,d1.sorted,g3⟩
 obtain⟨P,hP,hI,hE⟩:=h.sub.B7 d1 hA g1 aa
 have hI2:jK c.n c.k (d.k Q)=P:=by
  unfold jK
  rw[if_neg,hI]
  obtain⟨r,r1,r2⟩:=h.kc Q aa
  rw[r2]
  rintro(g|g)
  ·exact absurd (k1.mono (Nat.zero_le r) r1) (Rat.not_le.2 g)
  ·exact absurd (k1.mono (show r<=c.n-1 by omega) aa) (Rat.not_le.2 g)
 have key:∀e,jc (eZ c) (P:Nat) c.p.toNat (fun i=>d.k (i+(j+1))) e=iw (dg (d.f j)) e:=fun e=>(Se (c:=eZ c) k1 k2 k5 hP).trans (hE e)
 show qA (eZ c) (jK c.n c.k (d.k (iA d.k d.n j))) c.p.toNat (fun q=>d.k (q+(j+1)))=_
 rw[<-hQ,hI2]
 unfold qA
 rw[key 0,key 1,key 2,key 3]
 rfl
def Iw:Spec:=cF (kC (xW 2000 4000) (kC (dQ 2000) (kC (dQ 2000) kN))) (fun a=>fF (vj a.1 a.2.1 a.2.2.1) 2000 sB) fun a=>[∃c P,jR c/\a.1=eZ c/\At c.n c.k P/\a.2.1=c.k P/\a.2.2.1=c.k (P+1)/\c.m+(c.p.toNat+c.p.toNat)<=40]
theorem Fj {es n m:Nat} {f g:Nat->AV} (h:n=m) (hf:∀i,i<n->bp (f i) (g i)):bp (.ak es n f) (.ak es m g):=by
 subst h
 exact dB hf
theorem Yt {c:Cu} {I:Nat} (hb:jR c) (hP:At c.n c.k I) (h40:c.m+(c.p.toNat+c.p.toNat)<=40) (K:Nat):aN P 157 K [fF (eZ c) 2000 4000,.rat (c.k I) 2000,.rat (c.k (I+1)) 2000] [] (aH (fF (vj (eZ c) (c.k I) (c.k (I+1))) 2000 sB) []):=by
 obtain⟨R0,R1,E1,E,s1,s2,Q,hQ⟩:=Pq hb hP h40
 obtain⟨k1,k2,k3,k4,k5⟩:=id hb.d.kn
 obtain⟨d1,d2,d3,d4,d5⟩:=id s2.q.kn
 have hp:=s2.q.p
 rw[hp]at d1
 obtain⟨w1,w2⟩:=d1.qm hQ.at_
 have hw:=hQ.at_.wide
 have n1:=s1.n
 have n2:=s2.n
 have r1:=s1.r
 have r2:=s2.r
 have hf:gC (lP (c.k I) E.k) E.n=Q+1:=xx (by show decide _=true;exact decide_eq_true (by rw[<-hQ.lo];exact hw)) (fun j hj=>decide_eq_false (by
  have:=d1.mono (show j<=Q by omega) aa
  rw[hQ.lo]at this
  exact Rat.not_lt.2 this)) aa
 have hl:gC (lS (c.k (I+1)) E.k) E.n=Q+1:=xx (by show decide _=true;exact decide_eq_true (by rw[hQ.hi];exact Rat.le_refl)) (fun j hj=>decide_eq_false (by
  have:=d1.mono (show j<=Q by omega) aa
  rw[<-hQ.hi]
  exact Rat.not_le.2 (by grind))) aa
 refine nR (u:=fF (xL (l9 (eZ c) E.n E.k) (c.k I) (c.k (I+1)) (Q+1) (Q+1)) sK sB) (l:=[]) (Tw (c:=eZ c) (a:=c.k I) (b:=c.k (I+1)) (f:=Q+1) (l:=Q+1) (ns:=fun j=>match j with
  |0=>c.n
  |1=>E1.n
  |_=>E.n) (rs:=fun j=>match j with
  |0=>R0
  |_=>R1) (ks:=fun j=>match j with
  |0=>c.k
  |1=>E1.k
  |_=>E.k) k1 k2 k3 (by show c.n<_;omega) (by show c.m<_;omega) rfl rfl (fun j hj=>?_) (fun j hj=>?_) (fun j hj=>?_) hf hl (by show c.p.toNat+1<=_;omega) aR (by show Q+1+c.p.toNat+1<=E.n;omega) K) (fun h=>trivial) rfl rfl ?_
 ·rcases(show j=0\/j=1\/j=2 by omega)with rfl|rfl|rfl
  ·exact⟨aR,show c.n<_ by omega⟩
  ·exact⟨show c.n<=E1.n by omega,show E1.n<_ by omega⟩
  ·exact⟨show c.n<=E.n by omega,show E.n<_ by omega⟩
 ·rcases(show j=0\/j=1 by omega)with rfl|rfl
  ·exact⟨n1,s1.k⟩
  ·exact⟨n2,s2.k⟩
 ·rcases(show j=0\/j=1 by omega)with rfl|rfl
  ·exact s1.j
  ·exact s2.j
 ·refine cj ⟨.refl _,Fj (by show c.p.toNat+1+(Q+1-(Q+1))+(c.p.toNat+1)=c.p.toNat+1+(c.p.toNat+1);omega) fun i hi=>?_,Fj (by show Q+1-(Q+1-1-c.p.toNat)=c.p.toNat+1;omega) fun i hi=>?_,trivial⟩
  ·have e:pX c.p.toNat (c.k I) (c.k (I+1)) E.k (Q+1) (Q+1) i=if i<c.p.toNat+1 then c.k I else c.k (I+1):=by
    unfold pX
    by_cases g:i<c.p.toNat+1
    ·rw[if_pos g,if_pos g]
    ·rw[if_neg g,if_neg aa,if_neg g]
   show bp (.rat (pX c.p.toNat (c.k I) (c.k (I+1)) E.k (Q+1) (Q+1) i) sK) (.rat (if i<c.p.toNat+1 then c.k I else c.k (I+1)) 2000)
   rw[e]
   refine en rfl (xR ?_)
   split
   ·exact tB (hb.h _)
   ·exact tB (hb.h _)
  ·have hi:i<Q+1-(Q+1-1-c.p.toNat):=hi
   show bp (b7 (pe (eZ c) E.n E.k (Q+1-1-c.p.toNat+i)) sB) (b7 ((vj (eZ c) (c.k I) (c.k (I+1))).f i) sB)
   rw[Nat.add_sub_cancel,WJ s2.q hb aa,X1 s2.q hP hQ aa]
   exact .refl _
theorem ahZ:bf P Iw 157:=cC fun⟨c,a,b,_⟩ K hn=>by
 obtain⟨g,I,h1,h2,h3,h4,h5,h6⟩:=hn
 have h2:c=eZ g:=h2
 have h4:a=g.k I:=h4
 have h5:b=g.k (I+1):=h5
 rw[h2,h4,h5]
 exact Yt h1 h3 h6 K
theorem QM:aX 115 f115:=aM func115
def Kg:Spec:=cF (kC (kL 2000) kN) (fun a=>bq (cy a.1.2 a.1.1) (bO a.1.2 a.1.1) 2000) fun a=>[a.1.1<2^40,∀i,i<bO a.1.2 a.1.1->Sz (cy a.1.2 a.1.1 i) 2000]
def zF:aV:=nG::(154,MA)::(155,E7)::(112,Kg)::(157,Iw)::(156,Ma)::[]
abbrev xE:Code:=aF f115
abbrev xB:List Nat:=[1,3,4,5,17,18,19]
abbrev BH (n:Nat) (F:Nat->Rat) (i:Nat):List AV:=[.ptr 0 0 3 0 [],.own 2 3 0 i,.ptr 1 0 3 0 [],bq F n 2000,bq (fun j=>F (j+1)) (n-1) 2000,.int .i64 ((n-1:Nat):Int),.int .i64 i]
def wj (c:Cu) (F:Nat->Rat) (i:Nat):Cu:=Vt (vj (eZ c) (F i) (F (i+1)))
abbrev Eb (c:Cu) (F:Nat->Rat) (i:Nat):aD:=[(2,⟨true,true,3,i,fun j=>bk (wj c F j) 2000 sE⟩),(1,⟨false,true,3,1,fun _=>fF (eZ c) 2000 4000⟩),(0,⟨false,true,3,1,fun _=>bk c 2000 2000⟩)]
theorem acH {c:Cu}:aL T zF [200010] 60 xB (before xE [1,1,1,1,1,0,1]) ⟨aS 0 [bk c 2000 2000],[],0⟩=
  let c7:Prop:=c.n<2^40;let c6:Nat:=Int.toNat (1:Int);let c5:Nat:=(bE (bk c 2000 2000)).size;let c4:Nat:=bO (fun i=>aC (rat (c.k i) 2000)) c.n;let c3:Prop:=0<1;let c2:Prop:=bQ (fun i=>rat (c.k i) 2000) c.n 2000;let c1:Int:=(↑c4:Int);some (aj [c3,bQ (fun i=>rat (c.k i) 2000) c.n sJ,ej (fun i=>aJ (c.f i) 2000) c.m sJ,qF (Cu.mk c.p c.n (fun i=>aC (rat (c.k i) 2000)) c.m fun i=>aT (aJ (c.f i) 2000))] (aj [(!true)=false] (aj [c3,c2,ej (fun i=>aJ (c.f i) 2000) c.m 2000,c7,c.m<2^30,c3] (aj [c3,c2,c7,∀(i:Nat),i<c4->Sz (cy (fun i=>aC (rat (c.k i) 2000)) c.n i) 2000] (aj [(0:Int)<=1/\(1:Int)<=c1/\c1<=c1/\c1<=c1] (leaf normal ([ptr 0 0 c5 0 [],nil,ptr 32768 0 3 0 [],ak 3 c4 fun i=>rat (cy (fun i=>aC (rat (c.k i) 2000)) c.n i) 2000,ak 3 (c1.toNat-c6) fun i=>rat (cy (fun i=>aC (rat (c.k i) 2000)) c.n (i+c6)) 2000,int i64 (↑(c1.toNat-c6):Int),int i64 0],[((32768:Nat),bL fun j=>if(j==0)=true then bE (fF (Cu.mk c.p c.n (fun i=>aC (rat (c.k i) 2000)) c.m fun i=>dg (aT (aJ (c.f i) 2000))) 2000 4000)else agg [int i64 0,nil,nil]),(0,az.mk false true c5 1 fun x=>bk c 2000 2000)]))))))):=ah
theorem Xr {c:Cu} {n i:Nat} {F:Nat->Rat}:aL T zF [20] 60 xB [part xE [1,1,1,1,1,0,1,0,0]] ⟨aG xB (BH n F i),Eb c F i,3⟩=
  let c16:Prop:=2000<=2000;let c15:AV:=int i64 c.p;let c14:Prop:=0<1;let c13:AV:=ptr 1 0 3 0 [];let c12:AV:=ptr 0 0 3 0 [];let c11:AV:=ak 3 n fun i=>rat (F i) 2000;let c10:AV:=ak 3 c.n fun i=>rat (c.k i) 2000;let c9:Int:=(↑i:Int);let c8:Int:=(↑(n-1):Int);let c7:AV:=ak 3 (n-1) fun i=>rat (F (i+1)) 2000;let c4:Nat:=c.p.toNat+1;let c1:Cu:=Cu.mk c.p c.n (fun i=>aC (rat (c.k i) 2000)) c.m fun i=>qD (b7 (dg (c.f i)) 4000);let c17:Int:=c9+1;let c5:Nat:=c9.toNat;let c3:List (Nat×az):=[((0:Nat),bL fun x=>agg [c15,c10,ak 12 c.m fun i=>aJ (c.f i) 2000])];let c2:Nat×az:=((1:Nat),bL fun x=>agg [c15,c10,ak 12 c.m fun i=>agg [rat ((c.f i).d*(c.f i).n.x) 4000,rat ((c.f i).d*(c.f i).n.y) 4000,rat ((c.f i).d*(c.f i).n.z) 4000,rat (c.f i).d 4000]]);let c6:Rat:=F (c5+1);some (fork (decide (c9<c8)) (aj [(0:Int)<=c9/\c5<n-1,c14] (aj [c14,(0:Int)<=c9/\c5<n,c14,bQ (fun i=>rat (c.k i) 2000) c.n 2000,qx (fun i=>b7 (dg (c.f i)) 4000) c.m 4000,c16,c16,∃c P,jR c/\c1=eZ c/\At c.n c.k P/\F c5=c.k P/\c6=c.k (P+1)/\c.m+(c.p.toNat+c.p.toNat)<=40,bQ (fun i=>rat (if i<c4 then F c5 else c6) 2000) (c4+c4) sK,qx (fun i=>b7 (Pl.mk (V3.mk (fD c1 (F c5) c6 i 0) (fD c1 (F c5) c6 i 1) (fD c1 (F c5) c6 i 2)) (fD c1 (F c5) c6 i 3)) sB) c4 sB,c4+c4<2^40,c4<2^29,(1:Nat)*3<=2^24,(i+1)*((56:Nat)+1)*2<=2^47] (aj [-(2:Int)^63<=c17/\c17<2^63] (leaf normal ([c12,own 69635 3 0 (i+1),c13,c11,c7,int i64 c8,int i64 c17],c2::(69635,az.mk true true 3 (i+1) fun i_1=>if i_1<i then bk (wj c F i_1) 2000 sE else nth [agg [c15,ak 3 (c4+c4) fun i=>rat (aC (rat (if i<c4 then F c5 else c6) 2000)) (sK+10),ak 12 c4 fun i=>aJ (iq (qD (b7 (Pl.mk (V3.mk (fD c1 (F c5) c6 i 0) (fD c1 (F c5) c6 i 1) (fD c1 (F c5) c6 i 2)) (fD c1 (F c5) c6 i 3)) sB))) (sB+sB)]] (agg [int i64 0,nil,nil]) (i_1-i+0))::c3))))) (leaf (exit 0) ([c12,own 2 3 0 i,c13,c11,c7,int i64 c8,int i64 c9],c2::(2,az.mk true true 3 i fun j=>agg [c15,ak 3 (c4+c4) fun i=>rat (if i<c4 then F j else F (j+1)) 2000,ak 12 c4 fun i=>agg [agg [rat (fD (eZ c) (F j) (F (j+1)) i 0/fD (eZ c) (F j) (F (j+1)) i 3) 4294967298,rat (fD (eZ c) (F j) (F (j+1)) i 1/fD (eZ c) (F j) (F (j+1)) i 3) 4294967298,rat (fD (eZ c) (F j) (F (j+1)) i 2/fD (eZ c) (F j) (F (j+1)) i 3) 4294967298],rat (fD (eZ c) (F j) (F (j+1)) i 3) 4294967298]])::c3))):=ah
theorem Uu {c:Cu} {n i:Nat} {F:Nat->Rat}:cP T zF [] 60 f115 [part xE [1,1,1,1,1,1]] ⟨aG xB (BH n F i),Eb c F i,3⟩=
  let c1:Nat:=c.p.toNat+1;some (leaf ret [ak 3 i fun i=>agg [int i64 c.p,ak 3 (c1+c1) fun i_1=>rat (if i_1<c1 then F (i+0)else F (i+0+1)) 2000,ak 12 c1 fun i_1=>agg [agg [rat (fD (eZ c) (F (i+0)) (F (i+0+1)) i_1 0/fD (eZ c) (F (i+0)) (F (i+0+1)) i_1 3) 4294967298,rat (fD (eZ c) (F (i+0)) (F (i+0+1)) i_1 1/fD (eZ c) (F (i+0)) (F (i+0+1)) i_1 3) 4294967298,rat (fD (eZ c) (F (i+0)) (F (i+0+1)) i_1 2/fD (eZ c) (F (i+0)) (F (i+0+1)) i_1 3) 4294967298],rat (fD (eZ c) (F (i+0)) (F (i+0+1)) i_1 3) 4294967298]]]):=ah
theorem Es {c:Cu} (hb:jR c) {i:Nat} (hi:i<bO c.k c.n):l8 (cy c.k c.n i):=by
 have hkn:=hb.d.kn.1
 have hl:=hkn.len
 by_cases e:i+1<bO c.k c.n
 ·obtain⟨s,_,h2,_⟩:=yG hkn.sorted e
  rw[<-h2];exact tB (hb.h s)
 ·obtain⟨m,hm2⟩:∃m,c.n=m+1:=⟨c.n-1,aa⟩
  rw[hm2]at hi e ⊢
  obtain⟨_,_,e3⟩:=y9 (k:=c.k) (n:=m)
  rw[show i=bO c.k (m+1)-1 by omega,e3]
  exact tB (hb.h m)
theorem YO:bf P Kg 112:=cC fun⟨⟨n,k⟩,_⟩ K hn=>by
 have h1:n<2^40:=hn.1
 have h2:∀i,i<bO k n->Sz (cy k n i) 2000:=hn.2
 exact nR (u:=ls (cy k n) (bO k n)) (l:=[bQ (fun i=>.rat (k i) 2000) n sJ,n<2^40]) (ED K [bq k n 2000] [] _ rfl) (fun _=>⟨cV (by decide),h1⟩) rfl rfl (dB fun i hi=>en rfl (h2 i hi))
theorem aaS:bg P zF:=eP (aE abq (aE O5 (aE YO (aE ahZ (aE YC bD)))))
theorem ab6 (c:Cu) (s r:Nat):(bE (bk c s r)).size=3:=ah
theorem Um {c:Cu} (hb:jR c) (h40:c.m+(c.p.toNat+c.p.toNat)<=40) (K:Nat):aN P 115 K [bk c 2000 2000] [] (aH (.ak 3 (bO c.k c.n-1) fun i=>bk (wj c (cy c.k c.n) i) 2000 sE) []):=by
 obtain⟨k1,k2,k3,k4,k5⟩:=id hb.d.kn
 have hl:=k1.len
 have hN:=rO (k:=c.k) (n:=c.n)
 have hN0:0<bO c.k c.n:=by
  obtain⟨m,hm2⟩:∃m,c.n=m+1:=⟨c.n-1,aa⟩
  rw[hm2];exact y9.1
 refine iu (r:=aH (.ak 3 (bO c.k c.n-1) fun i=>bk (wj c (cy c.k c.n) i) 2000 sE) []) hT aaS hm QM rfl aW rfl [1,1,1,1,1,0,1] (i:=0) (y:=part xE [1,1,1,1,1,0,1,0,0]) (z:=part xE [1,1,1,1,1,1]) ah ah ah (f1:=[200010]) (f2:=[20]) (f3:=[]) 60 xB 3
  (fun i:Nat=>BH (bO c.k c.n) (cy c.k c.n) i) (fun i=>Eb c (cy c.k c.n) i) (fun i=>i<=bO c.k c.n-1) (fun i=>i=bO c.k c.n-1) (fun i=>bO c.k c.n-1-i) (fun _=>⟨⟨_,acH,?_⟩,fun i hi=>⟨_,Xr,?_⟩,fun i hi=>⟨_,Uu,?_⟩⟩) K []
 ·simp only[ag.all,au]
  rw[ab6 c 2000 2000]
  refine⟨⟨aa,cV (by decide),jt (by decide),hb.d.kn⟩,by decide,⟨aa,cV (by decide),jt (by decide),aa,aa,aa⟩,⟨aa,cV (by decide),aa,fun i hi=>xR (Es hb hi)⟩,?_,0,Nat.zero_le _,[(0,0),(1,32768)],rfl,rfl,rfl,lO rfl aa aa (aY (aY trivial))⟩
  have:(1:Int)<=(bO c.k c.n:Nat):=aa
  exact⟨aa,this,Int.le_refl _,Int.le_refl _⟩
 ·simp only[ag.all,au,bz,bG,br]
  refine⟨fun h=>?_,fun h=>⟨rfl,i,by dsimp only;omega,[(0,0),(1,1),(2,2)],rfl,rfl,rfl,mI (aY (aY trivial))⟩⟩
  obtain⟨I,h1,h2,h3⟩:=yG k1.sorted (i:=i) (show i+1<bO c.k c.n by omega)
  refine⟨⟨aa,aa⟩,⟨aa,aa,aa,cV (by decide),EV (by decide),by decide,by decide,⟨c,I,hb,rfl,h1,h2.symm,h3.symm,h40⟩,cV (by decide),EV aR,aa,aa,aa,aa⟩,aa,i+1,aa,by dsimp only;omega,[(0,0),(1,1),(2,69635)],rfl,rfl,rfl,cJ rfl rfl rfl (fun u hu=>yu (g:=fun j=>bk (wj c (cy c.k c.n) j) 2000 sE) (fun _ _=>⟨rfl,rfl⟩) rfl ?_ hu) (aY (aY trivial))⟩
  refine cj ⟨.refl _,dB fun q _=>en rfl (xR ?_),dB fun q _=>cj ⟨cj ⟨bC rfl (by decide),bC rfl (by decide),bC rfl (by decide),trivial⟩,bC rfl (by decide),trivial⟩,trivial⟩
  show l8 (if q<c.p.toNat+1 then cy c.k c.n i else cy c.k c.n (i+1))
  split
  ·exact Es hb aa
  ·exact Es hb aa
 ·have hi:i=bO c.k c.n-1:=hi
  subst hi
  exact .refl _
theorem Kn.ends {n p:Nat} {k:Nat->Rat} (h:Kn n p k):k 0<k (n-1):=by
 have h1:=h.p1
 have hl:=h.len
 have:=h.mult 1 aa aa
 have e1:=h.mono (show 0<=1 by omega) (show 1<n by omega)
 have e2:=h.mono (show 1+p<=n-1 by omega) (show n-1<n by omega)
 grind
theorem AR {n:Nat} {k:Nat->Rat} {a b:Rat} {i:Nat}:ia n k a b i=a+(k i-k 0)*((k (n-1)-k 0)⁻¹*(b-a)):=by
 unfold ia;rw[Rat.div_def];grind
theorem Kn.WV {n p:Nat} {k:Nat->Rat} {a b:Rat} (h:Kn n p k) (hab:a<b):Kn n p (ia n k a b):=by
 have he:=h.ends
 have hp:0<(k (n-1)-k 0)⁻¹*(b-a):=Rat.mul_pos (Rat.inv_pos.2 (by grind)) (by grind)
 have key:∀i j,k i<=k j->ia n k a b i<=ia n k a b j:=fun i j hij=>by
  rw[AR,AR]
  have:=Rat.mul_le_mul_of_nonneg_right (show k i-k 0<=k j-k 0 by grind) (Rat.le_of_lt hp)
  grind
 have keyL:∀i j,k i<k j->ia n k a b i<ia n k a b j:=fun i j hij=>by
  rw[AR,AR]
  have:=Rat.mul_lt_mul_of_pos_right (show k i-k 0<k j-k 0 by grind) hp
  grind
 have keyE:∀i j,k i=k j->ia n k a b i=ia n k a b j:=fun i j hij=>by unfold ia;rw[hij]
 exact⟨h.p1,h.len,fun i hi=>key _ _ (h.sorted i hi),fun i hi=>keyE _ _ (h.first i hi),fun i h2 h3=>keyE _ _ (h.last i h2 h3),fun i h2 h3=>keyL _ _ (h.mult i h2 h3)⟩
theorem Vd:aX 61 f61:=aM func61
def I3:aV:=[(111,cQ T (sG::gy) [] 100 f111)]
def K4 (x r s y w:Nat):Spec:=cF (kC (gk x r) (kC (Tj s) kN)) (fun a=>bk (CZ a.2.1 a.1) y w) fun a=>[a.1.n<2^30,a.1.m<2^30]
def oq (c:Cu) (a b:Rat):Cu:=⟨if b<=a then 0 else c.p,kQ c.n a b,ia c.n c.k a b,kQ c.m a b,c.f⟩
def IS:aV:=nG::(109,Aq 64 64 1000)::(110,K4 64 64 64 100 1000)::I3
theorem adh {c:Cu} {a b:Rat}:bF T IS [19] 60 f61 (aF f61) ⟨aS 0 [bk c 64 64,.rat a 64,.rat b 64],[],0⟩=
  let c6:Rat:=(↑(1:Int):Rat);let c4:Prop:=bQ (fun i=>rat (c.k i) 64) c.n 64;let c3:Prop:=1<=1;let c2:Prop:=0<1;let c1:Nat:=Max.max 1 (bN (Int.natAbs (1:Int)));let c5:Prop:=1<=c1;some (aj [c2,c2,c2,c4,(64:Nat)<=64,(64:Nat)<=64,(1:Nat)<=c.n,c.n<2^40] (fork (jE a b !=(0:Int)) (aj [c2] (aj [c2] (leaf ret [agg [int i64 0,nil,nil],int i64 (jE a b)]))) (aj [c2,c2,c2,c4,ej (fun i=>aJ (c.f i) 64) c.m 64,Max.max c1 1<=64,c5,c5,c5,c5,c1<=1,c3,c3,c1<=1,c3,c3,c.n<2^30,c.m<2^30,c2] (aj [c2] (leaf ret [agg [int i64 c.p,ak 3 (kQ c.n a b) fun i=>rat (ia c.n (fun i=>aC (rat (c.k i) 64)) a b i) 1000,ak 12 c.m fun i=>agg [agg [rat (jd (V3.mk c6 0 0) (V3.mk (aC (rat (c.f i).n.x 64)) (aC (rat (c.f i).n.y 64)) (aC (rat (c.f i).n.z 64))) 0) 1000,rat (jd (V3.mk 0 c6 0) (V3.mk (aC (rat (c.f i).n.x 64)) (aC (rat (c.f i).n.y 64)) (aC (rat (c.f i).n.z 64))) 0) 1000,rat (jd (V3.mk 0 0 c6) (V3.mk (aC (rat (c.f i).n.x 64)) (aC (rat (c.f i).n.y 64)) (aC (rat (c.f i).n.z 64))) 0) 1000],rat (aC (rat (c.f i).d 64)) 1000]],int i64 0]))))):=ah
theorem QE:bg P I3:=aE (cT hT (cB gH) hm (aM func111) _ _) bD
theorem afc {x r s y w:Nat} (hx:x+10<=y) (hy:y<2^40) (hw:4*s+3*r+10<=w) (hw2:w<2^40):bf P (K4 x r s y w) 110:=cC fun⟨c,m,_⟩ K hn=>Ua hx hy hw hw2 hn.1 hn.2 K
theorem abo:bg P IS:=eP (aE (ab4 (by decide) (by decide)) (aE (afc (by decide) (by decide) (by decide) (by decide)) QE))
theorem rV:((1:Int):Rat)=1:=rfl
theorem aeB {v:V3}:jd ⟨((1:Int):Rat),0,0⟩ v 0=v.x:=by unfold jd;rw[rV];dsimp only;grind
theorem UO {v:V3}:jd ⟨0,((1:Int):Rat),0⟩ v 0=v.y:=by unfold jd;rw[rV];dsimp only;grind
theorem Uz {v:V3}:jd ⟨0,0,((1:Int):Rat)⟩ v 0=v.z:=by unfold jd;rw[rV];dsimp only;grind
theorem EY {c:Cu} {a b:Rat} (h:jE a b≠0):oq c a b=⟨0,0,ia c.n c.k a b,0,c.f⟩:=by
 have hab:b<=a:=by
  by_cases h2:b<=a
  ·exact h2
  ·exact absurd (if_neg h2) h
 unfold oq kQ;simp only[if_pos hab]
theorem U2 {c:Cu} {a b:Rat} (h:jE a b=0):oq c a b=⟨c.p,c.n,ia c.n c.k a b,c.m,c.f⟩/\kQ c.n a b=c.n:=by
 have hab:¬b<=a:=by
  intro h2
  unfold jE at h;rw[if_pos h2]at h;exact absurd h (by decide)
 unfold oq kQ;simp only[if_neg hab];exact⟨trivial,trivial⟩
theorem adW {c:Cu} {s r:Nat} (hp:c.p=0) (hn:c.n=0) (hm2:c.m=0):bp (.agg [.int .i64 0,.nil,.nil]) (bk c s r):=by
 obtain⟨p,n,k,m,f⟩:=c
 dsimp only at hp hn hm2
 subst hp hn hm2
 exact cj ⟨.refl _,lf (by decide),lf (by decide),trivial⟩
theorem PL {c:Cu} {a b:Rat} (hn1:1<=c.n) (hn:c.n<2^30) (hm2:c.m<2^30) (K:Nat):aN P 61 K [bk c 64 64,.rat a 64,.rat b 64] [] (aH (.tuple [bk (oq c a b) 1000 1000,.int .i64 (jE a b)]) []):=by
 refine bM (r:=aH (.tuple [bk (oq c a b) 1000 1000,.int .i64 (jE a b)]) []) hT abo hm Vd rfl aW rfl 60 adh (fun _=>?_) K []
 simp only[ag.all,au,bne_iff_ne,ne_eq,bne_eq_false_iff_eq]
 refine⟨⟨aa,aa,aa,cV aR,aa,aa,hn1,aa⟩,fun hE=>⟨aa,aa,?_⟩,fun hE=>⟨?_,aa,?_⟩⟩
 ·exact⟨adW (by rw[EY hE]) (by rw[EY hE]) (by rw[EY hE]),.refl _,trivial⟩
 ·(repeat' with_reducible refine And.intro ?_ ?_)
  all_goals first|omega|decide|exact cV aR|exact jt aR
 ·obtain⟨e1,e2⟩:=U2 (c:=c) hE
  rw[e1,e2,hE]
  exact⟨cj ⟨.refl _,.refl _,dB fun i _=>cj ⟨cj ⟨bC aeB aR,bC UO aR,bC Uz aR,trivial⟩,.refl _,trivial⟩,trivial⟩,.refl _,trivial⟩
def CT (q:Pl):Prop:=q=⟨⟨0,0,0⟩,1⟩\/q=⟨⟨2,0,0⟩,1⟩
def gx (c:Cu):Prop:=er c/\(∀i,i<4->c.k i=bh i)/\CT (c.f 0)/\CT (c.f 1)
abbrev pA (b:Bool):Pl:=if b=true then⟨⟨2,0,0⟩,1⟩else⟨⟨0,0,0⟩,1⟩
abbrev dc (a b:Bool) (i:Nat):Pl:=if i=0 then pA a else pA b
def Gh:Spec:=cF (kC (gk 64 64) (kC (dQ 64) (kC (dQ 64) kN))) (fun a=>.tuple [bk (aU bh a.1.f) 64 64,.int .i64 0]) fun a=>[gx a.1,a.2.1=0,a.2.2.1=1]
def Ob:aV:=(158,Gh)::Bb
theorem PA {f:Nat->Pl}:bF T (sG::Ob) [] 60 f116 (aF f116) ⟨aS 0 [.ak 3 1 (fun _=>bk (aU bh f) 64 64),.rat 0 64,.rat 1 64],[],0⟩=
  let c10:Nat:=64+1+1;let c9:Pl:=f (Int.toNat (0:Int));let c7:Prop:=0<1;let c6:Nat:=64+64;let c4:AV:=rat 0 1;let c3:Pl:=f (i64.wrap ((0:Int)+1)).toNat;let c2:Prop:=((1:Nat)+1)*((56:Nat)+1)*2<=2^47;let c8:Rat:=aC (rat c3.d 64);let c5:Rat:=aC (rat c9.d 64);let c1:Prop:=c7/\1*((56:Nat)+1)*2<=2^47;some (aj [bQ (fun i=>rat (bh i) 64) 4 64,ej (fun i=>aJ (f i) 64) 2 64,(64:Nat)<=64,(64:Nat)<=64,gx (Cu.mk (1:Int) 4 (fun i=>aC (rat (bh i) 64)) 2 fun i=>aT (aJ (f i) 64)),(0:Rat)=0,(1:Rat)=1] (aj [c7,c1,c1,c1,c1,c7,c2,c2,c2,c2,c7] (aj [c7] (leaf ret [agg [ak 3 2 fun i=>if i+0<1 then nth [rat (c5*aC (rat c9.n.x 64)) c6] c4 (i+0+0)else nth [rat (c8*aC (rat c3.n.x 64)) c6] c4 (i+0-1+0),ak 3 2 fun i=>if i+0<1 then nth [rat (c5*aC (rat c9.n.y 64)) c6] c4 (i+0+0)else nth [rat (c8*aC (rat c3.n.y 64)) c6] c4 (i+0-1+0),ak 3 2 fun i=>if i+0<1 then nth [rat (c5*aC (rat c9.n.z 64)) c6] c4 (i+0+0)else nth [rat (c8*aC (rat c3.n.z 64)) c6] c4 (i+0-1+0),ak 3 2 fun i=>if i+0<1 then nth [rat (c5+0) c10] c4 (i+0+0)else nth [rat (c8+0) c10] c4 (i+0-1+0)]])))):=ah
theorem Wo:aX 158 f158:=aM func158
theorem ny {q:Pl} (h:CT q):∃b,q=pA b:=by
 rcases h with h|h
 ·exact⟨false,h⟩
 ·exact⟨true,h⟩
theorem afy:bg P JA:=aE (cT hT (Bq (aE F4 gH)) hm (aM func205) _ _) (aE (cT hT (cB gH) hm (aM func161) _ _) bD)
theorem Vz:bg P Jf:=Bq (aE F4 (iK afy gH))
theorem acL:bg P Oi:=aE (cT hT (cB gH) hm (aM func204) _ _) bD
theorem G6:bg P Bb:=aE (cT hT (cB (iK acL (iK KT gH))) hm (aM func193) _ _) (aE (cT hT (cB (aE (cT hT (cB gH) hm (aM func187) _ _) gH)) hm (aM func159) _ _) (aE (cT hT Vz hm (aM func194) _ _) (aE (cT hT (cB gH) hm (aM func188) _ _) bD)))
theorem Wm:bg P Lt:=cB (iK G6 gH)
theorem Oh {P:Program} {f:FuncId} {K:Nat} {args us vs:List AV} {l l':List Prop} (hf:aN P f K args [] ⟨.tuple us,[],l⟩) (hl:au l'->au l) (hk:bI us=[]) (hle:dA us vs):aN P f K args [] ⟨.tuple vs,[],l'⟩:=by
 intro need
 obtain⟨h1,h2⟩:=hf (hl need)
 refine⟨fun k o ho=>by simp[look]at ho,fun c D D' β w vs hw0 hMw hrel hD hK hv=>(h2 c D D' β w vs hw0 hMw hrel hD hK hv).mono ?_⟩
 rintro x w' ⟨β',g1,g2,xs,rfl,g3⟩
 exact⟨β',g1,g2,xs,rfl,(sw hle (g3.bt hk)).mono (fun b o h1 h2=>⟨h2,h1⟩) (β':=β') fun k x hx=>by simp[bt]at hx⟩
theorem C6 {x y z d:Rat} {a b c e w:Nat} {q:Pl} (h1:x=q.n.x/\y=q.n.y/\z=q.n.z/\d=q.d) (s1:Sz q.n.x w/\Sz q.n.y w/\Sz q.n.z w/\Sz q.d w):bp (.agg [.agg [.rat x a,.rat y b,.rat z c],.rat d e]) (aJ q w):=by
 obtain⟨rfl,rfl,rfl,rfl⟩:=h1
 exact cj ⟨cj ⟨en rfl s1.1,en rfl s1.2.1,en rfl s1.2.2.1,trivial⟩,en rfl s1.2.2.2,trivial⟩
set_option maxHeartbeats 4000000 in
theorem Pj (a b:Bool) (K:Nat):aN P 158 K [bk (aU bh (dc a b)) 64 64,.rat 0 1,.rat 1 1] [] (aH (.tuple [bk (aU bh (dc a b)) 64 64,.int .i64 0]) []):=by
 refine bM (r:=aH (.tuple [bk (aU bh (dc a b)) 64 64,.int .i64 0]) []) hT Wm hm Wo rfl aW rfl 400 abD (fun _=>?_) K []
 simp only[ag.all,au,k8]
 (repeat' with_reducible refine And.intro ?_ ?_)
 all_goals first|omega|(with_reducible exact trivial)|decide+kernel|skip
 refine⟨cj ⟨.refl _,dB fun i hi=>?_,dB fun i hi=>?_,trivial⟩,.refl _,trivial⟩
 ·match i,hi with
  |0,_|1,_=>exact bC (show(0:Rat)+0=0 by decide+kernel) (by decide+kernel)
  |2,_|3,_=>exact bC (show(1:Rat)+0=1 by decide+kernel) (by decide+kernel)
 ·cases a<;>cases b
  all_goals
   match i,hi with
   |0,_|1,_=>exact C6 (by decide+kernel) (by unfold Sz;decide+kernel)
theorem XE:bf P Gh 158:=cC fun⟨c,a,b,_⟩ K hn=>by
 obtain⟨⟨h1,h2,h3,h4⟩,e1,e2⟩:gx c/\a=0/\b=1:=hn
 subst e1 e2
 obtain⟨x,h3⟩:=ny h3
 obtain⟨y,h4⟩:=ny h4
 dsimp only
 rw[pL h1]
 have hf:∀i,i<2->c.f i=dc x y i:=fun i hi=>by
  match i,hi with
  |0,_=>exact h3
  |1,_=>exact h4
 have hz:∀b:Bool,Sz (pA b).n.x 64/\Sz (pA b).n.y 64/\Sz (pA b).n.z 64/\Sz (pA b).d 64:=by unfold Sz;decide+kernel
 have hp:∀i,i<2->bp (aJ (dc x y i) 64) (aJ (c.f i) 64)/\bp (aJ (c.f i) 64) (aJ (dc x y i) 64):=fun i hi=>by rw[hf i hi];exact⟨.refl _,.refl _⟩
 refine eR (args':=[bk (aU bh (dc x y)) 64 64,.rat 0 1,.rat 1 1]) (Oh (us:=[bk (aU bh (dc x y)) 64 64,.int .i64 0]) (Pj x y K) (fun _=>trivial) rfl (show dA [bk (aU bh (dc x y)) 64 64,.int .i64 0] [bk (aU bh c.f) 64 64,.int .i64 0]from⟨cj ⟨.refl _,.refl _,dB fun i hi=>(hp i hi).1,trivial⟩,.refl _,trivial⟩)) rfl ?_ []
 refine(show dA [bk (aU c.k c.f) 64 64,.rat 0 64,.rat 1 64] [bk (aU bh (dc x y)) 64 64,.rat 0 1,.rat 1 1]from⟨cj ⟨.refl _,dB fun i hi=>bC (h2 i hi) aR,dB fun i hi=>(hp i hi).2,trivial⟩,en rfl (by unfold Sz;decide+kernel),en rfl (by unfold Sz;decide+kernel),trivial⟩)
theorem acp:aX 117 f117:=aM func117
theorem acM:aX 118 f118:=aM func118
theorem Wy:aX 208 f208:=aM func208
def KS:aV:=[(160,cQ T (sG::gy) [] 200 f160),(161,cQ T (sG::gy) [] 60 f161)]
def dZ (p q:Nat->Rat) (i:Nat):Rat:=if i=0 then p 0*q 0 else if i=1 then(p 0*q 1+p 1*q 0)/2 else p 1*q 1
def Mu:Spec:=cF (kC (kL 200) (kC (kL 200) kN)) (fun a=>.tuple [bq (dZ a.1.2 a.2.1.2) 3 2000,.int .i64 0]) fun a=>[a.1.1=2,a.2.1.1=2]
def KL:aV:=[(206,cQ T (sG::gy) [] 200 f206)]
def NA:aV:=[(209,cQ T (sG::(KL++gy)) [] 200 f209)]
def Ij:aV:=[(197,cQ T (sG::(NA++gy)) [] 200 f197)]
def Ke:aV:=sG::(Ij++gy)
def L5:Spec:=cF (kC (kL 2000) (kC (kL 2000) kN)) (fun a=>bq (fun i=>a.1.2 i-a.2.1.2 i) 3 9000) fun a=>[a.1.1=3,a.2.1.1=3]
def rZ (p:Nat->Rat):Int:=if p 0=0 then(if p 1=0 then(if p 2=0 then-1 else 2)else 1)else 0
def E8:Spec:=cF (kC (kL 9000) (kC QD kN)) (fun a=>.int .i64 (rZ a.1.2)) fun a=>[a.1.1=3,a.2.1=196]
def Kt:aV:=sG::(196,cQ T (sG::gy) [] 60 f196)::[]
def K1:aV:=[(195,cQ T (sG::(208,E8)::[]) [] 60 f195)]
def Ji:aV:=[(162,cQ T (sG::K1) [] 60 f162)]
def JM:aV:=sG::(163,L5)::Ji
def Kc:Spec:=cF (kC (kL 2000) (kC (kL 2000) kN)) (fun a=>.bool (decide (a.1.2 0=a.2.1.2 0/\a.1.2 1=a.2.1.2 1/\a.1.2 2=a.2.1.2 2))) fun a=>[a.1.1=3,a.2.1.1=3]
theorem VN {p q:Nat->Rat}:bF T (sG::(KS++gy)) [] 400 f117 (aF f117) ⟨aS 0 [bq p 2 200,bq q 2 200],[],0⟩=
  let c43:Int:=(↑(56:Nat):Int);let c40:Prop:=0<1;let c36:Int:=i64.wrap ((↑(2:Nat):Int)-1);let c35:Nat:=Int.toNat (0:Int);let c32:Int:=(2:Int)^47;let c30:Int:=i64.wrap ((1:Int)+1);let c23:Nat:=1+1;let c21:Rat:=(↑(1:Int):Rat);let c16:Nat:=(i64.wrap ((0:Int)+0)).toNat+0;let c15:Nat:=Max.max 1 (bN (Int.natAbs (1:Int)));let c8:Int:=i64.wrap ((0:Int)+1);let c37:Int:=(↑c23:Int);let c34:Nat:=Max.max 1 (bN c30.natAbs);let c33:Int:=(↑(c23+1):Int);let c31:Prop:=c23*((8:Nat)+1)*2<=2^47;let bK:Int:=i64.wrap (i64.wrap (c36+c36)+1);let c19:Nat:=(i64.wrap (c8+c8)).toNat+0;let c18:Nat:=(i64.wrap ((0:Int)+c8)).toNat+0;let c17:Nat:=(i64.wrap (c8+0)).toNat+0;let c14:Nat:=(i64.wrap (c8+1)).toNat+0;let c13:Nat:=c8.toNat+0;let c10:Nat:=c35+0;let c42:Rat:=bif c13==c10 then c21 else 0;let c41:Rat:=bif c10==c10 then c21 else 0;let c39:Nat:=bif c10==c10 then c15 else 1;let c38:Nat:=bif c13==c10 then c15 else 1;let c29:Prop:=(0:Int)<=c37/\c37<=c37/\c37<=c32/\c37*c43<=c32;let c28:Rat:=bif c13==c13 then c21 else c42;let c27:Rat:=bif c10==c13 then c21 else c41;let c26:Nat:=(bif c10==c13 then c15 else c39)+200;let c25:Nat:=(bif c13==c13 then c15 else c38)+200;let c9:Rat:=0+c27*p c35*(c27*q c35);let c7:Nat:=1+(c26+c26)+1;let c6:Rat:=(bif c18==c16 then c9 else 0)+c27*p c35*(c28*q c8.toNat);let c5:Nat:=(bif c18==c16 then c7 else 1)+(c26+c25)+1;let c4:Rat:=(bif c17==c18 then c6 else bif c17==c16 then c9 else 0)+c28*p c8.toNat*(c27*q c35);let c3:Nat:=(bif c17==c18 then c5 else bif c17==c16 then c7 else 1)+(c25+c26)+1;let c2:Rat:=(bif c19==c17 then c4 else bif c19==c18 then c6 else bif c19==c16 then c9 else 0)+c28*p c8.toNat*(c28*q c8.toNat);let c1:Nat:=(bif c19==c17 then c3 else bif c19==c18 then c5 else bif c19==c16 then c7 else 1)+(c25+c25)+1;let c12:Rat:=(bif c10==c19 then c2 else bif c10==c17 then c4 else bif c10==c18 then c6 else bif c10==c16 then c9 else 0)/bif c10==c14 then c21 else bif c10==c13 then(↑c30:Rat)else c41;let c11:Nat:=(bif c10==c19 then c1 else bif c10==c17 then c3 else bif c10==c18 then c5 else bif c10==c16 then c7 else 1)+bif c10==c14 then c15 else bif c10==c13 then c34 else c39;let c24:Rat:=(bif c13==c10 then c12 else bif c13==c19 then c2 else bif c13==c17 then c4 else bif c13==c18 then c6 else bif c13==c16 then c9 else 0)/bif c13==c14 then c21 else bif c13==c13 then(↑c30:Rat)else c42;let c22:Nat:=(bif c13==c10 then c11 else bif c13==c19 then c1 else bif c13==c17 then c3 else bif c13==c18 then c5 else bif c13==c16 then c7 else 1)+bif c13==c14 then c15 else bif c13==c13 then c34 else c38;some (aj [c31,c29,c31,c29,c31,(c23+1)*((8:Nat)+1)*2<=2^47,(0:Int)<=c33/\c33<=c33/\c33<=c32/\c33*c43<=c32] (aj [(0:Int)<=bK/\bK<=bK/\bK<=c32/\bK*c43<=c32] (aj [c40] (aj [c40] (aj [c40] (leaf ret [ak 3 3 fun i=>rat (bif i+0==c14 then(bif c14==c13 then c24 else bif c14==c10 then c12 else bif c14==c19 then c2 else bif c14==c17 then c4 else bif c14==c18 then c6 else bif c14==c16 then c9 else 0)/bif c14==c14 then c21 else bif c14==c13 then(↑c30:Rat)else bif c14==c10 then c21 else 0 else bif i+0==c13 then c24 else bif i+0==c10 then c12 else bif i+0==c19 then c2 else bif i+0==c17 then c4 else bif i+0==c18 then c6 else bif i+0==c16 then c9 else 0) (bif i+0==c14 then(bif c14==c13 then c22 else bif c14==c10 then c11 else bif c14==c19 then c1 else bif c14==c17 then c3 else bif c14==c18 then c5 else bif c14==c16 then c7 else 1)+bif c14==c14 then c15 else bif c14==c13 then c34 else bif c14==c10 then c15 else 1 else bif i+0==c13 then c22 else bif i+0==c10 then c11 else bif i+0==c19 then c1 else bif i+0==c17 then c3 else bif i+0==c18 then c5 else bif i+0==c16 then c7 else 1),int i64 0])))))):=ah
theorem Qy {p:Nat->Rat}:bF T Kt [16] 60 f208 (aF f208) ⟨aS 0 [bq p 3 9000,.func 196 []],[],0⟩=
  let c1:Int:=i64.wrap ((0:Int)+1);some (fork (eO (p (Int.toNat (0:Int)))!=0) (leaf ret [int i64 0]) (fork (eO (p c1.toNat)!=0) (leaf ret [int i64 1]) (fork (eO (p (i64.wrap (c1+1)).toNat)!=0) (leaf ret [int i64 2]) (leaf ret [int i64 (-1:Int)])))):=ah
theorem RY {p q:Nat->Rat}:bF T Ke [] 60 f163 (aF f163) ⟨aS 0 [bq p 3 2000,bq q 3 2000],[],0⟩=
  let c16:Int:=i64.wrap ((0:Int)+1);let c15:Int:=(2:Int)^47;let c14:Int:=(↑(3:Nat):Int);let c9:Nat:=Int.toNat (0:Int);let c5:Nat:=2000+1+1;let c22:Rat:=q c9+0;let c18:Rat:=p c9+0;let c8:Prop:=(0:Int)<=c14/\c14<=c14/\c14<=c15/\c14*(↑(56:Nat):Int)<=c15;let c7:Nat:=c16.toNat;let c4:Nat:=c9+0;let c3:Int:=(↑c14.toNat:Int);let c1:Nat:=(i64.wrap (c16+1)).toNat;let c21:Rat:=p c7+0;let bK:Rat:=q c7+0;let c19:Rat:=q c1+0;let c17:Rat:=p c1+0;let c10:Int:=if c3<c3 then c3 else c3;let c6:Nat:=c1+0;let c2:Nat:=c7+0;let c13:Nat:=bif c4==c6 then c5 else bif c4==c2 then c5 else bif c4==c4 then c5 else 1;let c12:Nat:=bif c6==c6 then c5 else bif c6==c2 then c5 else bif c6==c4 then c5 else 1;let c11:Nat:=bif c2==c6 then c5 else bif c2==c2 then c5 else bif c2==c4 then c5 else 1;some (aj [c8,c8,(0:Int)<=c10/\c10<=c10/\c10<=c15/\c10*(↑(56:Nat):Int)<=c15] (leaf ret [ak 3 3 fun i=>rat (bif i+0==c6 then(bif c6==c6 then c17 else bif c6==c2 then c21 else bif c6==c4 then c18 else 0)-bif c6==c6 then c19 else bif c6==c2 then bK else bif c6==c4 then c22 else 0 else bif i+0==c2 then(bif c2==c6 then c17 else bif c2==c2 then c21 else bif c2==c4 then c18 else 0)-bif c2==c6 then c19 else bif c2==c2 then bK else bif c2==c4 then c22 else 0 else bif i+0==c4 then(bif c4==c6 then c17 else bif c4==c2 then c21 else bif c4==c4 then c18 else 0)-bif c4==c6 then c19 else bif c4==c2 then bK else bif c4==c4 then c22 else 0 else 0) (bif i+0==c6 then c12+c12+1 else bif i+0==c2 then c11+c11+1 else bif i+0==c4 then c13+c13+1 else 1)])):=ah
theorem RC {p q:Nat->Rat}:bF T JM [] 60 f118 (aF f118) ⟨aS 0 [bq p 3 2000,bq q 3 2000],[],0⟩=
  let c2:Prop:=3=3;let c1:Int:=rZ fun i=>aC (rat (aC (rat (p i) 2000)-aC (rat (q i) 2000)) 9000);some (aj [bQ (fun i=>rat (p i) 2000) 3 2000,bQ (fun i=>rat (q i) 2000) 3 2000,c2,c2,bQ (fun i=>rat (aC (rat (p i) 2000)-aC (rat (q i) 2000)) 9000) 3 9000,c2,196=196] (leaf ret [AV.bool !decide (c1>=0)])):=ah
theorem af9:bg P KS:=aE (cT hT (cB gH) hm (aM func160) _ _) (aE (cT hT (cB gH) hm (aM func161) _ _) bD)
theorem afq:bg P KL:=aE (cT hT (cB gH) hm (aM func206) _ _) bD
theorem adZ:bg P NA:=aE (cT hT (cB (iK afq gH)) hm (aM func209) _ _) bD
theorem S1:bg P Ij:=aE (cT hT (cB (iK adZ gH)) hm (aM func197) _ _) bD
theorem ado:aX 163 f163:=aM func163
theorem aac:bg P Ke:=cB (iK S1 gH)
theorem afS:bf P L5 163:=cC fun⟨⟨n,p⟩,⟨m,q⟩,_⟩ K hn=>by
 obtain⟨h1,h2⟩:n=3/\m=3:=hn
 subst h1 h2
 refine bM (r:=aH (bq (fun i=>p i-q i) 3 9000) []) hT aac hm ado rfl aW rfl 60 RY (fun _=>?_) K []
 simp only[ag.all,au]
 (repeat' with_reducible refine And.intro ?_ ?_)
 all_goals first|omega|(with_reducible exact trivial)|decide+kernel|skip
 refine dB fun i hi=>?_
 have f:∀x y:Rat,x+0-(y+0)=x-y:=fun x y=>by grind
 match i,hi with
 |0,_=>exact bC (f (p 0) (q 0)) (by decide+kernel)
 |1,_=>exact bC (f (p 1) (q 1)) (by decide+kernel)
 |2,_=>exact bC (f (p 2) (q 2)) (by decide+kernel)
theorem agS:bg P Kt:=cB (aE (cT hT (cB gH) hm (aM func196) _ _) bD)
theorem Vv:bf P E8 208:=cC fun⟨⟨n,p⟩,g,_⟩ K hn=>by
 obtain⟨h1,h2⟩:n=3/\g=196:=hn
 subst h1 h2
 refine bM (r:=aH (.int .i64 (rZ p)) []) hT agS hm Wy rfl aW rfl 60 Qy (fun _=>?_) K []
 have hz:∀x:Rat,eO x=0↔x=0:=fun x=>by unfold eO;grind
 have e1:p (i64.wrap ((0:Int)+1)).toNat=p 1:=rfl
 have e2:p (i64.wrap (i64.wrap ((0:Int)+1)+1)).toNat=p 2:=rfl
 simp only[ag.all,au,e1,e2,Int.toNat_zero]
 unfold rZ
 by_cases c0:p 0=0<;>by_cases c1:p 1=0<;>by_cases c2:p 2=0<;>simp[c0,c1,c2,hz,fA,bp.refl]
theorem T5:bg P K1:=aE (cT hT (cB (aE Vv bD)) hm (aM func195) _ _) bD
theorem adT:bg P Ji:=aE (cT hT (cB T5) hm (aM func162) _ _) bD
theorem ad4:bg P JM:=cB (aE afS adT)
theorem PD:bf P Mu 117:=cC fun⟨⟨n,p⟩,⟨m,q⟩,_⟩ K hn=>by
 obtain⟨h1,h2⟩:n=2/\m=2:=hn
 subst h1 h2
 refine bM (r:=aH (.tuple [bq (dZ p q) 3 2000,.int .i64 0]) []) hT (cB (iK af9 gH)) hm acp rfl aW rfl 400 VN (fun _=>?_) K []
 simp only[ag.all,au]
 (repeat' with_reducible refine And.intro ?_ ?_)
 all_goals first|omega|(with_reducible exact trivial)|decide+kernel|skip
 refine⟨dB fun i hi=>?_,.refl _,trivial⟩
 have d2:((2:Int):Rat)=2:=by decide+kernel
 have f0:(0+((1:Int):Rat)*p 0*(((1:Int):Rat)*q 0))/((1:Int):Rat)=dZ p q 0:=by unfold dZ;rw[rV];rw[if_pos rfl,Rat.div_def];grind
 have f1:(0+((1:Int):Rat)*p 0*(((1:Int):Rat)*q 1)+((1:Int):Rat)*p 1*(((1:Int):Rat)*q 0))/((2:Int):Rat)=dZ p q 1:=by unfold dZ;rw[rV,d2];rw[if_neg (by decide),if_pos rfl];grind
 have f2:(0+((1:Int):Rat)*p 1*(((1:Int):Rat)*q 1))/((1:Int):Rat)=dZ p q 2:=by unfold dZ;rw[rV];rw[if_neg (by decide),if_neg (by decide),Rat.div_def];grind
 match i,hi with
 |0,_=>exact bC f0 (by decide+kernel)
 |1,_=>exact bC f1 (by decide+kernel)
 |2,_=>exact bC f2 (by decide+kernel)
theorem ab3:bf P Kc 118:=cC fun⟨⟨n,p⟩,⟨m,q⟩,_⟩ K hn=>by
 obtain⟨h1,h2⟩:n=3/\m=3:=hn
 subst h1 h2
 refine bM (r:=aH (.bool (decide (p 0=q 0/\p 1=q 1/\p 2=q 2))) []) hT ad4 hm acM rfl aW rfl 60 RC (fun _=>?_) K []
 simp only[ag.all,au]
 (repeat' with_reducible refine And.intro ?_ ?_)
 all_goals first|omega|(with_reducible exact trivial)|exact cV aR|skip
 refine gZ ?_
 have e:∀F:Nat->Rat,(!decide (rZ F>=0))=decide (F 0=0/\F 1=0/\F 2=0):=fun F=>by
  unfold rZ
  by_cases c0:F 0=0<;>by_cases c1:F 1=0<;>by_cases c2:F 2=0<;>simp[c0,c1,c2]
 refine(e (fun i=>p i-q i)).trans (decide_eq_decide.2 ?_)
 grind
theorem Fe:aX 62 f62:=aM func62
theorem V7:aX 116 f116:=aM func116
abbrev jy (i:Nat):Rat:=if i=0 then 0 else 1
def Fc:Spec:=cF (kC (kL 64) kN) (fun _=>bq jy 2 64) fun a=>[a.1.1=4,∀i,i<4->a.1.2 i=bh i]
def Fz:Spec:=cF (kC (gk 64 64) kN) (fun a=>.ak 3 1 fun _=>bk (aU bh a.1.f) 64 64) fun a=>[gx a.1]
def kC1:Kind Cu:=⟨fun v=>match v with
 |.ak 3 1 f=>(gk 64 64).read (f 0)
 |_=>none,fun a=>.ak 3 1 (fun _=>bk a 64 64),fun {v a q} h hq=>by
  split at h
  ·refine dB fun i hi=>?_
   match i,hi with
   |0,_=>exact(gk 64 64).ok h hq
  ·simp at h⟩
abbrev bT (f:Nat->Pl) (e i:Nat):Rat:=if e=0 then(f i).d*(f i).n.x else if e=1 then(f i).d*(f i).n.y else if e=2 then(f i).d*(f i).n.z else(f i).d
def Ky:Spec:=cF (kC kC1 (kC (dQ 64) (kC (dQ 64) kN))) (fun a=>.agg [bq (bT a.1.f 0) 2 200,bq (bT a.1.f 1) 2 200,bq (bT a.1.f 2) 2 200,bq (bT a.1.f 3) 2 200]) fun a=>[gx a.1,a.2.1=0,a.2.2.1=1]
def Cr:aV:=sG::(112,Fc)::(113,xQ)::(115,Fz)::(116,Ky)::(117,Mu)::(118,Kc)::[]
theorem abW {f g:Nat->Pl}:bF T Cr [200032,200093] 200 f62 (aF f62) ⟨aS 0 [bk (aU bh f) 64 64,bk (aU bh g) 64 64],[],0⟩=
  let c40:Prop:=jy (Int.toNat (1:Int))=1;let c39:Prop:=2=2;let c38:Prop:=jy (i64.wrap ((1:Int)-1)).toNat=0;let c37:Prop:=64<=64;let c36:Prop:=3=3;let c34:List Prop:=[bQ (fun i=>rat (jy i) 64) 2 sK,(64:Nat)<=sK,(2:Nat)<2^40];let c33:Rat:=aC (rat (dZ (fun i=>aC (rat (bT (fun i=>aT (aJ (aT (aJ (g i) 64)) 64)) 2 i) 200)) (fun i=>aC (rat (bT (fun i=>aT (aJ (aT (aJ (f i) 64)) 64)) 3 i) 200)) 1) 2000);let c32:Rat:=aC (rat (dZ (fun i=>aC (rat (bT (fun i=>aT (aJ (aT (aJ (f i) 64)) 64)) 0 i) 200)) (fun i=>aC (rat (bT (fun i=>aT (aJ (aT (aJ (g i) 64)) 64)) 3 i) 200)) 0) 2000);let c31:Rat:=aC (rat (dZ (fun i=>aC (rat (bT (fun i=>aT (aJ (aT (aJ (g i) 64)) 64)) 2 i) 200)) (fun i=>aC (rat (bT (fun i=>aT (aJ (aT (aJ (f i) 64)) 64)) 3 i) 200)) 0) 2000);let c30:Rat:=aC (rat (dZ (fun i=>aC (rat (bT (fun i=>aT (aJ (aT (aJ (f i) 64)) 64)) 1 i) 200)) (fun i=>aC (rat (bT (fun i=>aT (aJ (aT (aJ (g i) 64)) 64)) 3 i) 200)) 1) 2000);let c29:Rat:=aC (rat (dZ (fun i=>aC (rat (bT (fun i=>aT (aJ (aT (aJ (f i) 64)) 64)) 1 i) 200)) (fun i=>aC (rat (bT (fun i=>aT (aJ (aT (aJ (g i) 64)) 64)) 3 i) 200)) 2) 2000);let c28:Rat:=aC (rat (dZ (fun i=>aC (rat (bT (fun i=>aT (aJ (aT (aJ (f i) 64)) 64)) 2 i) 200)) (fun i=>aC (rat (bT (fun i=>aT (aJ (aT (aJ (g i) 64)) 64)) 3 i) 200)) 0) 2000);let c27:Rat:=aC (rat (dZ (fun i=>aC (rat (bT (fun i=>aT (aJ (aT (aJ (g i) 64)) 64)) 1 i) 200)) (fun i=>aC (rat (bT (fun i=>aT (aJ (aT (aJ (f i) 64)) 64)) 3 i) 200)) 1) 2000);let c26:Rat:=aC (rat (dZ (fun i=>aC (rat (bT (fun i=>aT (aJ (aT (aJ (g i) 64)) 64)) 1 i) 200)) (fun i=>aC (rat (bT (fun i=>aT (aJ (aT (aJ (f i) 64)) 64)) 3 i) 200)) 2) 2000);let c25:Rat:=aC (rat (dZ (fun i=>aC (rat (bT (fun i=>aT (aJ (aT (aJ (f i) 64)) 64)) 0 i) 200)) (fun i=>aC (rat (bT (fun i=>aT (aJ (aT (aJ (g i) 64)) 64)) 3 i) 200)) 1) 2000);let c24:Rat:=aC (rat (dZ (fun i=>aC (rat (bT (fun i=>aT (aJ (aT (aJ (g i) 64)) 64)) 2 i) 200)) (fun i=>aC (rat (bT (fun i=>aT (aJ (aT (aJ (f i) 64)) 64)) 3 i) 200)) 2) 2000);let c23:Rat:=aC (rat (dZ (fun i=>aC (rat (bT (fun i=>aT (aJ (aT (aJ (g i) 64)) 64)) 0 i) 200)) (fun i=>aC (rat (bT (fun i=>aT (aJ (aT (aJ (f i) 64)) 64)) 3 i) 200)) 0) 2000);let c22:Rat:=aC (rat (dZ (fun i=>aC (rat (bT (fun i=>aT (aJ (aT (aJ (f i) 64)) 64)) 0 i) 200)) (fun i=>aC (rat (bT (fun i=>aT (aJ (aT (aJ (g i) 64)) 64)) 3 i) 200)) 2) 2000);let c21:Rat:=aC (rat (dZ (fun i=>aC (rat (bT (fun i=>aT (aJ (aT (aJ (f i) 64)) 64)) 2 i) 200)) (fun i=>aC (rat (bT (fun i=>aT (aJ (aT (aJ (g i) 64)) 64)) 3 i) 200)) 1) 2000);let bK:Rat:=aC (rat (dZ (fun i=>aC (rat (bT (fun i=>aT (aJ (aT (aJ (g i) 64)) 64)) 0 i) 200)) (fun i=>aC (rat (bT (fun i=>aT (aJ (aT (aJ (f i) 64)) 64)) 3 i) 200)) 1) 2000);let c19:Rat:=aC (rat (dZ (fun i=>aC (rat (bT (fun i=>aT (aJ (aT (aJ (f i) 64)) 64)) 1 i) 200)) (fun i=>aC (rat (bT (fun i=>aT (aJ (aT (aJ (g i) 64)) 64)) 3 i) 200)) 0) 2000);let c18:Rat:=aC (rat (dZ (fun i=>aC (rat (bT (fun i=>aT (aJ (aT (aJ (g i) 64)) 64)) 1 i) 200)) (fun i=>aC (rat (bT (fun i=>aT (aJ (aT (aJ (f i) 64)) 64)) 3 i) 200)) 0) 2000);let c17:Rat:=aC (rat (dZ (fun i=>aC (rat (bT (fun i=>aT (aJ (aT (aJ (f i) 64)) 64)) 2 i) 200)) (fun i=>aC (rat (bT (fun i=>aT (aJ (aT (aJ (g i) 64)) 64)) 3 i) 200)) 2) 2000);let c16:Rat:=aC (rat (dZ (fun i=>aC (rat (bT (fun i=>aT (aJ (aT (aJ (g i) 64)) 64)) 0 i) 200)) (fun i=>aC (rat (bT (fun i=>aT (aJ (aT (aJ (f i) 64)) 64)) 3 i) 200)) 2) 2000);let c15:Prop:=bQ (fun i=>rat (bh i) 64) 4 64;let c35:List Prop:=[c15,(4:Nat)=4,∀(i:Nat),i<4->aC (rat (bh i) 64)=bh i];let c14:List Prop:=[bQ (fun i=>rat (bT (fun i=>aT (aJ (aT (aJ (f i) 64)) 64)) 3 i) 200) 2 200,c39,c39];let c13:List Prop:=[bQ (fun i=>rat (bT (fun i=>aT (aJ (aT (aJ (g i) 64)) 64)) 3 i) 200) 2 200,c39,c39];let c12:Prop:=c32=c23;let c11:Prop:=c17=c24;let c10:Prop:=c28=c31;let c9:Prop:=c30=c27;let c8:Prop:=c19=c18;let c7:Prop:=c29=c26;let c6:Prop:=c21=c33;let c5:Prop:=c22=c16;let c4:Prop:=c25=bK;let c3:Prop:=c6/\c11;let c2:Prop:=c4/\c5;let c1:Prop:=c9/\c7;some (aj c35 (aj c35 (aj c34 (aj [((↑(bU (fun i=>aC (rat (jy i) 64)) (jy (Int.toNat (0:Int))) 2):Int)==0)=false] (aj c34 (aj [((↑(bU (fun i=>aC (rat (jy i) 64)) (jy (i64.wrap ((0:Int)+1)).toNat) 2):Int)==0)=false] (aj [c15,ej (fun i=>aJ (f i) 64) 2 64,gx (Cu.mk (1:Int) 4 (fun i=>aC (rat (bh i) 64)) 2 fun i=>aT (aJ (f i) 64)),c15,ej (fun i=>aJ (g i) 64) 2 64,gx (Cu.mk (1:Int) 4 (fun i=>aC (rat (bh i) 64)) 2 fun i=>aT (aJ (g i) 64))] (aj [c15,ej (fun i=>aJ (aT (aJ (f i) 64)) 64) 2 64,c37,c37,gx (Cu.mk (1:Int) 4 (fun i=>aC (rat (bh i) 64)) 2 fun i=>aT (aJ (aT (aJ (f i) 64)) 64)),c38,c40,c15,ej (fun i=>aJ (aT (aJ (g i) 64)) 64) 2 64,c37,c37,gx (Cu.mk (1:Int) 4 (fun i=>aC (rat (bh i) 64)) 2 fun i=>aT (aJ (aT (aJ (g i) 64)) 64)),c38,c40] (aj (bQ (fun i=>rat (bT (fun i=>aT (aJ (aT (aJ (f i) 64)) 64)) 0 i) 200) 2 200::c13) (aj (bQ (fun i=>rat (bT (fun i=>aT (aJ (aT (aJ (g i) 64)) 64)) 0 i) 200) 2 200::c14) (aj [bQ (fun i=>rat (dZ (fun i=>aC (rat (bT (fun i=>aT (aJ (aT (aJ (f i) 64)) 64)) 0 i) 200)) (fun i=>aC (rat (bT (fun i=>aT (aJ (aT (aJ (g i) 64)) 64)) 3 i) 200)) i) 2000) 3 2000,bQ (fun i=>rat (dZ (fun i=>aC (rat (bT (fun i=>aT (aJ (aT (aJ (g i) 64)) 64)) 0 i) 200)) (fun i=>aC (rat (bT (fun i=>aT (aJ (aT (aJ (f i) 64)) 64)) 3 i) 200)) i) 2000) 3 2000,c36,c36] (aj [(!decide (c12/\c2))=false] (aj (bQ (fun i=>rat (bT (fun i=>aT (aJ (aT (aJ (f i) 64)) 64)) 1 i) 200) 2 200::c13) (aj (bQ (fun i=>rat (bT (fun i=>aT (aJ (aT (aJ (g i) 64)) 64)) 1 i) 200) 2 200::c14) (aj [bQ (fun i=>rat (dZ (fun i=>aC (rat (bT (fun i=>aT (aJ (aT (aJ (f i) 64)) 64)) 1 i) 200)) (fun i=>aC (rat (bT (fun i=>aT (aJ (aT (aJ (g i) 64)) 64)) 3 i) 200)) i) 2000) 3 2000,bQ (fun i=>rat (dZ (fun i=>aC (rat (bT (fun i=>aT (aJ (aT (aJ (g i) 64)) 64)) 1 i) 200)) (fun i=>aC (rat (bT (fun i=>aT (aJ (aT (aJ (f i) 64)) 64)) 3 i) 200)) i) 2000) 3 2000,c36,c36] (aj [(!decide (c8/\c1))=false] (aj (bQ (fun i=>rat (bT (fun i=>aT (aJ (aT (aJ (f i) 64)) 64)) 2 i) 200) 2 200::c13) (aj (bQ (fun i=>rat (bT (fun i=>aT (aJ (aT (aJ (g i) 64)) 64)) 2 i) 200) 2 200::c14) (aj [bQ (fun i=>rat (dZ (fun i=>aC (rat (bT (fun i=>aT (aJ (aT (aJ (f i) 64)) 64)) 2 i) 200)) (fun i=>aC (rat (bT (fun i=>aT (aJ (aT (aJ (g i) 64)) 64)) 3 i) 200)) i) 2000) 3 2000,bQ (fun i=>rat (dZ (fun i=>aC (rat (bT (fun i=>aT (aJ (aT (aJ (g i) 64)) 64)) 2 i) 200)) (fun i=>aC (rat (bT (fun i=>aT (aJ (aT (aJ (f i) 64)) 64)) 3 i) 200)) i) 2000) 3 2000,c36,c36] (aj [(!decide (c10/\c3))=false] (leaf ret [AV.bool true]))))))))))))))))))))):=ah
theorem agq {f g:Nat->Pl}:bF T Cr [200032,100093] 200 f62 (aF f62) ⟨aS 0 [bk (aU bh f) 64 64,bk (aU bh g) 64 64],[],0⟩=
  let c17:Prop:=jy (Int.toNat (1:Int))=1;let c16:Prop:=2=2;let c15:Prop:=jy (i64.wrap ((1:Int)-1)).toNat=0;let c14:Prop:=64<=64;let c12:List Prop:=[bQ (fun i=>rat (jy i) 64) 2 sK,(64:Nat)<=sK,(2:Nat)<2^40];let c11:Rat:=aC (rat (dZ (fun i=>aC (rat (bT (fun i=>aT (aJ (aT (aJ (f i) 64)) 64)) 0 i) 200)) (fun i=>aC (rat (bT (fun i=>aT (aJ (aT (aJ (g i) 64)) 64)) 3 i) 200)) 1) 2000);let c10:Rat:=aC (rat (dZ (fun i=>aC (rat (bT (fun i=>aT (aJ (aT (aJ (g i) 64)) 64)) 0 i) 200)) (fun i=>aC (rat (bT (fun i=>aT (aJ (aT (aJ (f i) 64)) 64)) 3 i) 200)) 1) 2000);let c9:Rat:=aC (rat (dZ (fun i=>aC (rat (bT (fun i=>aT (aJ (aT (aJ (f i) 64)) 64)) 0 i) 200)) (fun i=>aC (rat (bT (fun i=>aT (aJ (aT (aJ (g i) 64)) 64)) 3 i) 200)) 2) 2000);let c8:Rat:=aC (rat (dZ (fun i=>aC (rat (bT (fun i=>aT (aJ (aT (aJ (g i) 64)) 64)) 0 i) 200)) (fun i=>aC (rat (bT (fun i=>aT (aJ (aT (aJ (f i) 64)) 64)) 3 i) 200)) 2) 2000);let c7:Rat:=aC (rat (dZ (fun i=>aC (rat (bT (fun i=>aT (aJ (aT (aJ (f i) 64)) 64)) 0 i) 200)) (fun i=>aC (rat (bT (fun i=>aT (aJ (aT (aJ (g i) 64)) 64)) 3 i) 200)) 0) 2000);let c6:Rat:=aC (rat (dZ (fun i=>aC (rat (bT (fun i=>aT (aJ (aT (aJ (g i) 64)) 64)) 0 i) 200)) (fun i=>aC (rat (bT (fun i=>aT (aJ (aT (aJ (f i) 64)) 64)) 3 i) 200)) 0) 2000);let c5:Prop:=bQ (fun i=>rat (bh i) 64) 4 64;let c13:List Prop:=[c5,(4:Nat)=4,∀(i:Nat),i<4->aC (rat (bh i) 64)=bh i];let c4:Prop:=c11=c10;let c3:Prop:=c7=c6;let c2:Prop:=c9=c8;let c1:Prop:=c4/\c2;some (aj c13 (aj c13 (aj c12 (aj [((↑(bU (fun i=>aC (rat (jy i) 64)) (jy (Int.toNat (0:Int))) 2):Int)==0)=false] (aj c12 (aj [((↑(bU (fun i=>aC (rat (jy i) 64)) (jy (i64.wrap ((0:Int)+1)).toNat) 2):Int)==0)=false] (aj [c5,ej (fun i=>aJ (f i) 64) 2 64,gx (Cu.mk (1:Int) 4 (fun i=>aC (rat (bh i) 64)) 2 fun i=>aT (aJ (f i) 64)),c5,ej (fun i=>aJ (g i) 64) 2 64,gx (Cu.mk (1:Int) 4 (fun i=>aC (rat (bh i) 64)) 2 fun i=>aT (aJ (g i) 64))] (aj [c5,ej (fun i=>aJ (aT (aJ (f i) 64)) 64) 2 64,c14,c14,gx (Cu.mk (1:Int) 4 (fun i=>aC (rat (bh i) 64)) 2 fun i=>aT (aJ (aT (aJ (f i) 64)) 64)),c15,c17,c5,ej (fun i=>aJ (aT (aJ (g i) 64)) 64) 2 64,c14,c14,gx (Cu.mk (1:Int) 4 (fun i=>aC (rat (bh i) 64)) 2 fun i=>aT (aJ (aT (aJ (g i) 64)) 64)),c15,c17] (aj [bQ (fun i=>rat (bT (fun i=>aT (aJ (aT (aJ (f i) 64)) 64)) 0 i) 200) 2 200,bQ (fun i=>rat (bT (fun i=>aT (aJ (aT (aJ (g i) 64)) 64)) 3 i) 200) 2 200,c16,c16] (aj [bQ (fun i=>rat (bT (fun i=>aT (aJ (aT (aJ (g i) 64)) 64)) 0 i) 200) 2 200,bQ (fun i=>rat (bT (fun i=>aT (aJ (aT (aJ (f i) 64)) 64)) 3 i) 200) 2 200,c16,c16] (aj [bQ (fun i=>rat (dZ (fun i=>aC (rat (bT (fun i=>aT (aJ (aT (aJ (f i) 64)) 64)) 0 i) 200)) (fun i=>aC (rat (bT (fun i=>aT (aJ (aT (aJ (g i) 64)) 64)) 3 i) 200)) i) 2000) 3 2000,bQ (fun i=>rat (dZ (fun i=>aC (rat (bT (fun i=>aT (aJ (aT (aJ (g i) 64)) 64)) 0 i) 200)) (fun i=>aC (rat (bT (fun i=>aT (aJ (aT (aJ (f i) 64)) 64)) 3 i) 200)) i) 2000) 3 2000,(3:Nat)=3,(3:Nat)=3] (aj [(!decide (c3/\c1))=true] (leaf ret [AV.bool false]))))))))))))):=ah
theorem Iu:bO bh 4=2:=by decide+kernel
theorem agj:bf P Fc 112:=cC fun⟨⟨n,k⟩,_⟩ K hn=>by
 obtain⟨h1,h2⟩:n=4/\∀i,i<4->k i=bh i:=hn
 subst h1
 show aN P 112 K [bq k 4 64] [] (aH (bq jy 2 64) [])
 refine eR (args':=[bq bh 4 64]) (nR (u:=ls (cy bh 4) (bO bh 4)) (l:=[bQ (fun i=>.rat (bh i) 64) 4 sJ,4<2^40]) (ED K [bq bh 4 64] [] _ rfl) (fun _=>⟨cV (by decide),(by decide:4<2^40)⟩) rfl rfl ?_) rfl (show dA [bq k 4 64] [bq bh 4 64]from⟨dB fun i hi=>bC (h2 i hi) aR,trivial⟩) []
 rw[Iu]
 refine dB fun i hi=>?_
 match i,hi with
 |0,_=>exact en (by decide+kernel) (by unfold Sz;decide+kernel)
 |1,_=>exact en (by decide+kernel) (by unfold Sz;decide+kernel)
theorem tL (b:Bool) {w:Nat} (hw:5<=w):Sz (pA b).n.x w/\Sz (pA b).n.y w/\Sz (pA b).n.z w/\Sz (pA b).d w:=by
 have h:Sz (pA b).n.x 5/\Sz (pA b).n.y 5/\Sz (pA b).n.z 5/\Sz (pA b).d 5:=by cases b<;>(unfold Sz;decide+kernel)
 exact⟨h.1.more hw,h.2.1.more hw,h.2.2.1.more hw,h.2.2.2.more hw⟩
theorem C2 (b:Bool):dg (pA b)=pA b:=by
 cases b<;>(unfold dg pA;simp[Rat.one_mul])
theorem ab5 {a b:Bool} (i:Nat):∃x,dc a b i=pA x:=by
 by_cases h:i=0
 ·exact⟨a,if_pos h⟩
 ·exact⟨b,if_neg h⟩
theorem ahU (a b:Bool):jR (aU bh (dc a b)):=by
 have hh:∀i,wQ (bh i):=fun i=>by
  by_cases h:i<2
  ·exact⟨0,by show bh i=_;rw[show bh i=0 from if_pos h];decide+kernel,aa,aa⟩
  ·exact⟨2,by show bh i=_;rw[show bh i=1 from if_neg h];decide+kernel,aa,aa⟩
 have hl:jG (aU bh (dc a b)):=⟨jz,by show bh 0=bh 1;decide+kernel,by show bh 2=bh 3;decide+kernel,by show bh 0<bh 3;decide+kernel,by cases a<;>rfl,by cases b<;>rfl⟩
 refine⟨⟨⟨hl.kn,(by decide:(1:Int)<=1),(by decide:(1:Int)<=6),(by decide:4<=1+41),(by decide:((2:Nat):Int)=((4:Nat):Int)-1-1)⟩,fun i=>?_,fun i=>(hh i).isD,fun i=>?_,fun i=>?_,fun i=>?_,fun i=>?_⟩,hh⟩
 all_goals obtain⟨x,hx⟩:=ab5 (a:=a) (b:=b) i
 ·show 0<(dc a b i).d;rw[hx];cases x<;>decide+kernel
 ·show Sz (dg (dc a b i)).n.x 5;rw[hx,C2];exact(tL x aR).1
 ·show Sz (dg (dc a b i)).n.y 5;rw[hx,C2];exact(tL x aR).2.1
 ·show Sz (dg (dc a b i)).n.z 5;rw[hx,C2];exact(tL x aR).2.2.1
 ·show Sz (dc a b i).d 5;rw[hx];exact(tL x aR).2.2.2
theorem mA {c:Cu} {s r y w:Nat} {a b:Bool} (h0:er c) (hk:∀i,i<4->c.k i=bh i) (h1:c.f 0=pA a) (h2:c.f 1=pA b) (hy:5<=y) (hw:5<=w):bp (bk c s r) (bk (aU bh (dc a b)) y w):=by
 rw[pL h0]
 have hz:∀i,i<4->Sz (bh i) y:=fun i hi=>by
  have:Sz (bh i) 5:=by
   match i,hi with
   |0,_|1,_|2,_|3,_=>unfold Sz;decide+kernel
  exact this.more hy
 refine cj ⟨.refl _,dB fun i hi=>en (hk i hi) (hz i hi),dB fun i hi=>?_,trivial⟩
 match i,hi with
 |0,_=>exact C6 (q:=pA a) (by dsimp only;rw[h1];exact⟨rfl,rfl,rfl,rfl⟩) (tL a hw)
 |1,_=>exact C6 (q:=pA b) (by dsimp only;rw[h2];exact⟨rfl,rfl,rfl,rfl⟩) (tL b hw)
theorem DL {c:Cu} {s r:Nat} {a b:Bool} (h1:c.f 0=pA a) (h2:c.f 1=pA b):bp (bk (aU bh (dc a b)) s r) (bk (aU bh c.f) s r):=by
 refine cj ⟨.refl _,.refl _,dB fun i hi=>?_,trivial⟩
 match i,hi with
 |0,_=>rw[h1];exact .refl _
 |1,_=>rw[h2];exact .refl _
theorem ahc (a b:Bool) (K:Nat):aN P 115 K [bk (aU bh (dc a b)) 2000 2000] [] (aH (.ak 3 1 fun _=>bk (aU bh (dc a b)) 64 64) []):=by
 refine nR (Um (ahU a b) (by decide:2+(1+1)<=40) K) (fun _=>trivial) rfl rfl ?_
 rw[show bO (aU bh (dc a b)).k (aU bh (dc a b)).n-1=1 from by show bO bh 4-1=1;rw[Iu]]
 refine dB fun i hi=>?_
 obtain rfl:i=0:=aa
 refine mA (a:=a) (b:=b) ⟨rfl,rfl,rfl⟩ (fun i hi=>?_) ?_ ?_ (by decide) (by decide)
 ·show(if i<2 then cy bh 4 0 else cy bh 4 1)=_
  match i,hi with
  |0,_|1,_|2,_|3,_=>decide+kernel
 all_goals (cases a<;>cases b<;>exact vU (by decide+kernel) (by decide+kernel) (by decide+kernel) (by decide+kernel))
theorem TO:bf P Fz 115:=cC fun⟨c,_⟩ K hn=>by
 obtain⟨h1,h2,h3,h4⟩:gx c:=hn
 obtain⟨x,h3⟩:=ny h3
 obtain⟨y,h4⟩:=ny h4
 show aN P 115 K [bk c 64 64] [] (aH (.ak 3 1 fun _=>bk (aU bh c.f) 64 64) [])
 exact eR (args':=[bk (aU bh (dc x y)) 2000 2000]) (nR (ahc x y K) (fun _=>trivial) rfl rfl (dB fun i hi=>DL h3 h4)) rfl (show dA [bk c 64 64] [bk (aU bh (dc x y)) 2000 2000]from⟨mA h1 h2 h3 h4 (by decide) (by decide),trivial⟩) []
theorem acX:bg P (sG::Ob):=cB (aE XE G6)
theorem XD:bf P Ky 116:=cC fun⟨c,a,b,_⟩ K hn=>by
 obtain⟨⟨h1,h2,h3,h4⟩,e1,e2⟩:gx c/\a=0/\b=1:=hn
 subst e1 e2
 obtain⟨x,h3⟩:=ny h3
 obtain⟨y,h4⟩:=ny h4
 show aN P 116 K [.ak 3 1 (fun _=>bk c 64 64),.rat 0 64,.rat 1 64] [] (aH (.agg [bq (bT c.f 0) 2 200,bq (bT c.f 1) 2 200,bq (bT c.f 2) 2 200,bq (bT c.f 3) 2 200]) [])
 refine eR (args':=[.ak 3 1 (fun _=>bk (aU bh (dc x y)) 64 64),.rat 0 64,.rat 1 64]) (r:=aH (.agg [bq (bT c.f 0) 2 200,bq (bT c.f 1) 2 200,bq (bT c.f 2) 2 200,bq (bT c.f 3) 2 200]) []) ?_ rfl (show dA [.ak 3 1 (fun _=>bk c 64 64),.rat 0 64,.rat 1 64] [.ak 3 1 (fun _=>bk (aU bh (dc x y)) 64 64),.rat 0 64,.rat 1 64]from⟨dB fun i hi=>mA h1 h2 h3 h4 (by decide) (by decide),.refl _,.refl _,trivial⟩) []
 refine bM (r:=aH (.agg [bq (bT c.f 0) 2 200,bq (bT c.f 1) 2 200,bq (bT c.f 2) 2 200,bq (bT c.f 3) 2 200]) []) hT acX hm V7 rfl aW rfl 60 PA (fun _=>?_) K []
 have r1:bQ (fun i=>.rat (bh i) 64) 4 64:=cV aR
 have r2:ej (fun i=>aJ (dc x y i) 64) 2 64:=jt aR
 have r3:gx (aU bh (dc x y)):=⟨jz,fun _ _=>rfl,by cases x<;>first|exact .inl rfl|exact .inr rfl,by cases y<;>first|exact .inl rfl|exact .inr rfl⟩
 simp only[ag.all,au,k8]
 (repeat' with_reducible refine And.intro ?_ ?_)
 all_goals first|exact r1|exact r2|exact r3|omega|(with_reducible rfl)|exact trivial|skip
 refine cj ⟨dB fun i hi=>?_,dB fun i hi=>?_,dB fun i hi=>?_,dB fun i hi=>?_,trivial⟩
 all_goals
  match i,hi with
  |0,_=>unfold bT;rw[h3];exact bC (by first|rfl|exact Rat.add_zero _) (by decide)
  |1,_=>unfold bT;rw[h4];exact bC (by first|rfl|exact Rat.add_zero _) (by decide)
theorem KX:bg P Cr:=cB (aE agj (aE Dj (aE TO (aE XD (aE PD (aE ab3 bD))))))
theorem M6 (a b:Bool):gx (aU bh (dc a b)):=⟨jz,fun _ _=>rfl,by cases a<;>first|exact .inl rfl|exact .inr rfl,by cases b<;>first|exact .inl rfl|exact .inr rfl⟩
theorem Ru (K:Nat):aN P 62 K [bk (aU bh (dc false true)) 64 64,bk (aU bh (dc false true)) 64 64] [] (aH (.bool true) []):=by
 refine bM (r:=aH (.bool true) []) hT KX hm Fe rfl aW rfl 200 abW (fun _=>?_) K []
 simp only[ag.all,au]
 (repeat' with_reducible refine And.intro ?_ ?_)
 all_goals first|exact cV (by decide)|exact jt aR|exact M6 _ _|omega|(with_reducible rfl)|exact trivial|(with_reducible exact bp.refl _)|decide+kernel|skip
 all_goals exact bp.refl _
theorem smF (K:Nat):aN P 62 K [bk (aU bh (dc false true)) 64 64,bk (aU bh (dc true false)) 64 64] [] (aH (.bool false) []):=by
 refine bM (r:=aH (.bool false) []) hT KX hm Fe rfl aW rfl 200 agq (fun _=>?_) K []
 simp only[ag.all,au]
 (repeat' with_reducible refine And.intro ?_ ?_)
 all_goals first|exact cV (by decide)|exact jt aR|exact M6 _ _|omega|(with_reducible rfl)|exact trivial|(with_reducible exact bp.refl _)|decide+kernel|skip
 all_goals exact bp.refl _
theorem aih:aX 21 f21:=aM func21
theorem afd:aX 60 f60:=aM func60
def fR (b:Bool) (c:Cu):Prop:=er c/\(∀i,i<4->c.k i=bh i)/\c.f 0=pA b/\c.f 1=pA (!b)
def My:Spec:=cF (kC (gk 1000 1000) (kC (dQ 1000) (kC (dQ 1000) kN))) (fun a=>.tuple [bk (aU bh a.1.f) 64 64,.int .i64 0]) fun a=>[gx a.1,a.2.1=0,a.2.2.1=1]
def F0:Spec:=cF (kC (gk 1000 1000) kN) (fun a=>bk (aU bh (fun i=>a.1.f (1-i))) 1000 1000) fun a=>[gx a.1]
def Im:Spec:=cF (kC (gk 1000 1000) (kC (gk 64 64) kN)) (fun a=>.bool (decide ((a.2.1.f 0).n.x=0))) fun a=>[fR false a.1,fR false a.2.1\/fR true a.2.1]
def Ll:Spec:=cF (kC (gk 1000 1000) (kC (zM (Ak 1000)) (kC (zM (gk 1000 1000)) kN))) (fun a=>.bool (decide ((a.1.f 0).n.x=0))) fun a=>[fR false a.2.2.1,fR false a.1\/fR true a.1,a.2.1=(0,1)]
def Ox:aV:=sG::(61,My)::(62,Im)::[]
def Mo:aV:=sG::(59,EP)::(63,F0)::(60,Ll)::[]
theorem ag7 {c d:Cu} {x:Rat×Rat}:bF T Ox [18] 60 f60 (aF f60) ⟨aS 0 [bk d 1000 1000,.bn (gn x 1000),.bn (bk c 1000 1000)],[],0⟩=
  let c3:Prop:=1000<=1000;let c2:Rat:=aC (rat (aC (rat (d.f 0).n.x 1000)) 64);let c1:Cu:=Cu.mk (1:Int) 4 (fun i=>aC (rat (bh i) 64)) 2 fun i=>aT (aJ (aT (aJ (d.f i) 1000)) 64);some (aj [bQ (fun i=>rat (d.k i) 1000) d.n 1000,ej (fun i=>aJ (d.f i) 1000) d.m 1000,c3,c3,gx (Cu.mk d.p d.n (fun i=>aC (rat (d.k i) 1000)) d.m fun i=>aT (aJ (d.f i) 1000)),x.fst=0,x.snd=1] (fork true (aj [((0:Int)==0)=true,bQ (fun i=>rat (c.k i) 1000) c.n 1000,ej (fun i=>aJ (c.f i) 1000) c.m 1000,bQ (fun i=>rat (bh i) 64) 4 64,ej (fun i=>aJ (aT (aJ (d.f i) 1000)) 64) 2 64,fR false (Cu.mk c.p c.n (fun i=>aC (rat (c.k i) 1000)) c.m fun i=>aT (aJ (c.f i) 1000)),fR false c1\/fR true c1] (leaf ret [AV.bool (bif true then decide (c2=0)else false)])) (aj [((0:Int)==0)=false] (leaf ret [AV.bool false])))):=ah
theorem PY {c d:Cu}:bF T Mo [] 60 f21 (aF f21) ⟨aS 0 [bk c 1000 1000,bk d 1000 1000],[],0⟩=
  let c14:Rat:=aC (rat (c.k 3) 1000);let c13:Rat:=aC (rat (c.k 0) 1000);let c11:Rat:=aC (rat (d.f 0).n.x 1000);let c10:Prop:=ej (fun i=>aJ (d.f i) 1000) d.m 1000;let c9:Prop:=bQ (fun i=>rat (d.k i) 1000) d.n 1000;let c8:Rat:=aC (rat (aC (rat (d.f ((1:Nat)-0)).n.x 1000)) 1000);let c7:Prop:=ej (fun i=>aJ (c.f i) 1000) c.m 1000;let c6:Prop:=bQ (fun i=>rat (c.k i) 1000) c.n 1000;let c5:Cu:=Cu.mk (1:Int) 4 (fun i=>aC (rat (bh i) 1000)) 2 fun i=>aT (aJ (aT (aJ (d.f ((1:Nat)-i)) 1000)) 1000);let c4:Cu:=Cu.mk c.p c.n (fun i=>aC (rat (c.k i) 1000)) c.m fun i=>aT (aJ (c.f i) 1000);let c3:Cu:=Cu.mk d.p d.n (fun i=>aC (rat (d.k i) 1000)) d.m fun i=>aT (aJ (d.f i) 1000);let c2:AV:=rat c14 1000;let c1:AV:=rat c13 1000;let c16:Prop:=bp c2 (rat (aC c2) 1000);let c15:Prop:=bp c1 (rat (aC c1) 1000);let c12:Prop:=(aC c1,aC c2)=((0:Rat),(1:Rat));some (aj [c6,c7,er c4,c13<c14] (aj [c9,c10,c15,c16,c6,c7,fR false c4,fR false c3\/fR true c3,c12,c9,c10,gx c3,bQ (fun i=>rat (bh i) 1000) 4 1000,ej (fun i=>aJ (aT (aJ (d.f ((1:Nat)-i)) 1000)) 1000) 2 1000,c15,c16,c6,c7,fR false c4,fR false c5\/fR true c5,c12] (leaf ret [AV.bool (decide (c11=0)),AV.bool (decide (c8=0))]))):=ah
theorem fR.a {b:Bool} {c:Cu} (h:fR b c):gx c:=⟨h.1,h.2.1,by rw[h.2.2.1];cases b<;>first|exact .inl rfl|exact .inr rfl,by rw[h.2.2.2];cases b<;>first|exact .inl rfl|exact .inr rfl⟩
theorem aab:bf P My 61:=cC fun⟨c,a,b,_⟩ K hn=>by
 obtain⟨⟨h1,h2,h3,h4⟩,e1,e2⟩:gx c/\a=0/\b=1:=hn
 subst e1 e2
 obtain⟨x,h3⟩:=ny h3
 obtain⟨y,h4⟩:=ny h4
 show aN P 61 K [bk c 1000 1000,.rat 0 1000,.rat 1 1000] [] (aH (.tuple [bk (aU bh c.f) 64 64,.int .i64 0]) [])
 refine eR (args':=[bk (aU bh (dc x y)) 64 64,.rat 0 64,.rat 1 64]) (Oh (us:=[bk (oq (aU bh (dc x y)) 0 1) 1000 1000,.int .i64 (jE 0 1)]) (PL (c:=aU bh (dc x y)) (a:=0) (b:=1) (by decide:1<=4) (by decide:4<2^30) (by decide:2<2^30) K) (fun _=>trivial) rfl (show dA [bk (oq (aU bh (dc x y)) 0 1) 1000 1000,.int .i64 (jE 0 1)] [bk (aU bh c.f) 64 64,.int .i64 0]from⟨?_,?_,trivial⟩)) rfl (show dA [bk c 1000 1000,.rat 0 1000,.rat 1 1000] [bk (aU bh (dc x y)) 64 64,.rat 0 64,.rat 1 64]from⟨mA h1 h2 h3 h4 (by decide) (by decide),en rfl (by unfold Sz;decide+kernel),en rfl (by unfold Sz;decide+kernel),trivial⟩) []
 ·refine(mA (c:=oq (aU bh (dc x y)) 0 1) (a:=x) (b:=y) ⟨?_,?_,?_⟩ (fun i hi=>?_) rfl rfl (by decide) (by decide)).trans (DL h3 h4)
  ·show(if(1:Rat)<=0 then(0:Int)else 1)=1;decide+kernel
  ·show kQ 4 0 1=4;decide+kernel
  ·show kQ 2 0 1=2;decide+kernel
  ·show ia 4 bh 0 1 i=bh i
   match i,hi with
   |0,_|1,_|2,_|3,_=>decide+kernel
 ·rw[show jE 0 1=0 by decide+kernel];exact .refl _
theorem VW:bf P F0 63:=cC fun⟨c,_⟩ K hn=>by
 obtain⟨h1,h2,h3,h4⟩:gx c:=hn
 obtain⟨x,h3⟩:=ny h3
 obtain⟨y,h4⟩:=ny h4
 show aN P 63 K [bk c 1000 1000] [] (aH (bk (aU bh (fun i=>c.f (1-i))) 1000 1000) [])
 refine eR (args':=[bk (aU bh (dc x y)) 64 64]) (nR (u:=bk (ri (aU bh (dc x y))) 1000 1000) (abb (c:=aU bh (dc x y)) (s:=64) (r:=64) (y:=1000) (w:=1000) (by decide) (by decide) (by decide) (by decide) (by decide:4<2^30) (by decide:2<2^30) K) (fun _=>trivial) rfl rfl ?_) rfl (show dA [bk c 1000 1000] [bk (aU bh (dc x y)) 64 64]from⟨mA h1 h2 h3 h4 (by decide) (by decide),trivial⟩) []
 refine(mA (c:=ri (aU bh (dc x y))) (a:=y) (b:=x) ⟨rfl,rfl,rfl⟩ (fun i hi=>?_) rfl rfl (by decide) (by decide)).trans (DL (c:=aU c.k (fun i=>c.f (1-i))) h4 h3)
 show gO 4 bh i=bh i
 match i,hi with
 |0,_|1,_|2,_|3,_=>decide+kernel
theorem afk:bf P Im 62:=cC fun⟨c,d,_⟩ K hn=>by
 obtain⟨⟨h1,h2,h3,h4⟩,hd⟩:fR false c/\(fR false d\/fR true d):=hn
 show aN P 62 K [bk c 1000 1000,bk d 64 64] [] (aH (.bool (decide ((d.f 0).n.x=0))) [])
 rcases hd with⟨g1,g2,g3,g4⟩|⟨g1,g2,g3,g4⟩
 ·rw[show decide ((d.f 0).n.x=0)=true by rw[g3];decide+kernel]
  exact eR (Ru K) rfl (show dA [bk c 1000 1000,bk d 64 64] [bk (aU bh (dc false true)) 64 64,bk (aU bh (dc false true)) 64 64]from⟨mA h1 h2 h3 h4 (by decide) (by decide),mA g1 g2 g3 g4 (by decide) (by decide),trivial⟩) []
 ·rw[show decide ((d.f 0).n.x=0)=false by rw[g3];decide+kernel]
  exact eR (smF K) rfl (show dA [bk c 1000 1000,bk d 64 64] [bk (aU bh (dc false true)) 64 64,bk (aU bh (dc true false)) 64 64]from⟨mA h1 h2 h3 h4 (by decide) (by decide),mA g1 g2 g3 g4 (by decide) (by decide),trivial⟩) []
theorem Y7:bg P Ox:=cB (aE aab (aE afk bD))
theorem Qp:bf P Ll 60:=cC fun⟨d,x,c,_⟩ K hn=>by
 obtain⟨h1,h2,h3⟩:fR false c/\(fR false d\/fR true d)/\x=(0,1):=hn
 show aN P 60 K [bk d 1000 1000,.bn (gn x 1000),.bn (bk c 1000 1000)] [] (aH (.bool (decide ((d.f 0).n.x=0))) [])
 refine bM (r:=aH (.bool (decide ((d.f 0).n.x=0))) []) hT Y7 hm afd rfl aW rfl 60 ag7 (fun _=>?_) K []
 have ha:gx d:=h2.elim (·.a) (·.a)
 subst h3
 have hd:fR false (aU bh d.f)\/fR true (aU bh d.f):=h2.imp (fun h=>⟨jz,fun _ _=>rfl,h.2.2⟩) (fun h=>⟨jz,fun _ _=>rfl,h.2.2⟩)
 simp only[ag.all,au]
 refine⟨⟨cV aR,jt aR,aR,aR,ha,trivial,trivial⟩,fun _=>⟨⟨rfl,cV aR,jt aR,cV aR,jt aR,h1,hd⟩,.refl _⟩,fun h=>absurd h (by decide)⟩
theorem QJ:bg P Mo:=cB (aE HH (aE VW (aE Qp bD)))
theorem Qt:bf P zL 21:=cC fun⟨c,d,_⟩ K hn=>by
 obtain⟨c1,d1,hk,f0,f1,g0,g1⟩:EG c d:=hn
 have hc:fR false c:=⟨c1,fun i hi=>(hk i hi).1,f0,f1⟩
 have hd:fR true d:=⟨d1,fun i hi=>(hk i hi).2,g0,g1⟩
 have hm2:fR false (aU bh (fun i=>d.f (1-i))):=⟨jz,fun _ _=>rfl,g1,g0⟩
 have k0:c.k 0=0:=(hk 0 (by decide)).1
 have k3:c.k 3=1:=(hk 3 (by decide)).1
 show aN P 21 K [bk c 1000 1000,bk d 1000 1000] [] (aH (.tuple [.bool false,.bool true]) [])
 refine bM (r:=aH (.tuple [.bool false,.bool true]) []) hT QJ hm aih rfl aW rfl 60 PY (fun _=>?_) K []
 simp only[ag.all,au,k8,k0,k3]
 (repeat' with_reducible refine And.intro ?_ ?_)
 all_goals first|exact cV aR|exact jt aR|exact c1|exact hc|exact .inr hd|exact .inl hm2|exact hd.a|(with_reducible exact bp.refl _)|exact trivial|rfl|decide+kernel|skip
 refine⟨gZ ?_,gZ ?_,trivial⟩
 ·show decide ((d.f 0).n.x=0)=false;rw[g0];decide+kernel
 ·show decide ((d.f 1).n.x=0)=true;rw[g1];decide+kernel
theorem QY:bf P Jv 6:=by
 refine cM fun K args r hk hs _=>?_
 split at hs
 ·simp only[ax]at hs
  subst hs
  exact SS Qt K
 ·simp at hs
theorem Xb {s t:Rat} (h:(fo s t).1<(fo s t).2):0<=(fo s t).1/\(fo s t).2<=1:=by
 unfold fo cq cr at*;dsimp only at*;grind
theorem Dy {c d:Cu} (hc:c.k 0<c.k 3) (h:dO c d=true):e9 c d=(c.k 0+(cW c d).1*(c.k 3-c.k 0),c.k 0+(cW c d).2*(c.k 3-c.k 0))/\0<=(cW c d).1/\(cW c d).1<(cW c d).2/\(cW c d).2<=1:=by
 have hx:(cW c d).1<(cW c d).2:=by
  unfold dO at h
  rw[Bool.and_eq_true,bz]at h
  exact h.2
 obtain⟨h0,h1⟩:=Xb (s:=hH c d) (t:=ir c d) hx
 refine⟨?_,h0,hx,h1⟩
 unfold e9
 rw[if_pos h,Ao hc]
 rw[show cr (cW c d).1 (cW c d).2=(cW c d).1 by unfold cr;grind,show cq (cW c d).1 (cW c d).2=(cW c d).2 by unfold cq;grind]
theorem NT {c d:Cu} (hc:c.k 0<c.k 3) (h:dO c d=true):c.k 0<=(e9 c d).1/\(e9 c d).1<=c.k 3/\c.k 0<=(e9 c d).2/\(e9 c d).2<=c.k 3:=by
 obtain⟨e,h0,h1,h2⟩:=Dy hc h
 rw[e]
 dsimp only
 generalize (cW c d).1=x at*
 generalize (cW c d).2=y at*
 have k1:=oY (show 0<c.k 3-c.k 0 by grind) (a:=0) (b:=x)
 have k2:=oY (show 0<c.k 3-c.k 0 by grind) (a:=x) (b:=1)
 have k3:=oY (show 0<c.k 3-c.k 0 by grind) (a:=x) (b:=y)
 have k4:=oY (show 0<c.k 3-c.k 0 by grind) (a:=1) (b:=y)
 have k5:=oY (show 0<c.k 3-c.k 0 by grind) (a:=x) (b:=0)
 grind
theorem yK {c:Cu} (hc:c.k 0<c.k 3) {x:Rat}:gi c (c.k 0+x*(c.k 3-c.k 0))=iU (c.f 0).n (fZ x (bV (c.f 1).n (c.f 0).n)):=by
 unfold gi
 rw[show(c.k 0+x*(c.k 3-c.k 0)-c.k 0)/(c.k 3-c.k 0)=x by
  rw[show c.k 0+x*(c.k 3-c.k 0)-c.k 0=x*(c.k 3-c.k 0) by grind,Rat.div_def,Rat.mul_assoc,Rat.mul_inv_cancel _ (by grind),Rat.mul_one]]
theorem KN {c d:Cu} (hc:c.k 0<c.k 3) (hd:d.k 0<d.k 3) (h:dO c d=true):
  ((gi c (e9 c d).1=gi d (ic c d).1/\gi c (e9 c d).2=gi d (ic c d).2)\/(gi c (e9 c d).1=gi d (ic c d).2/\gi c (e9 c d).2=gi d (ic c d).1))/\gi c (e9 c d).1≠gi c (e9 c d).2:=by
 obtain⟨e,h0,h1,h2⟩:=Dy hc h
 have hb:=h
 unfold dO at hb
 rw[Bool.and_eq_true]at hb
 have hB:=hb.1
 unfold kj at hB
 simp only[Bool.and_eq_true]at hB
 obtain⟨q1,q2,q3,q4⟩:=hB
 obtain⟨hne,_⟩:=Af q1 q2 q3 q4
 have nab:=(wV q1).2
 have ep:=AB nab q3
 have eq:=AB nab q4
 rw[e]
 dsimp only
 rw[yK hc,yK hc]
 have hT:ic c d=(d.k 0+cr (cI (hH c d) (ir c d) (cW c d).1) (cI (hH c d) (ir c d) (cW c d).2)*(d.k 3-d.k 0),d.k 0+cq (cI (hH c d) (ir c d) (cW c d).1) (cI (hH c d) (ir c d) (cW c d).2)*(d.k 3-d.k 0)):=by
  unfold ic
  rw[if_pos h,Ao hd]
 rw[hT]
 dsimp only
 rw[yK hd,yK hd]
 have b1:=sA (r:=(cW c d).1) hne
 have b2:=sA (r:=(cW c d).2) hne
 have pt:∀{x y:Rat},hH c d+y*(ir c d-hH c d)=x->iU (c.f 0).n (fZ x (bV (c.f 1).n (c.f 0).n))=iU (d.f 0).n (fZ y (bV (d.f 1).n (d.f 0).n)):=fun {x y} hxy=>by
  have ep:(d.f 0).n=iU (c.f 0).n (fZ (hH c d) (bV (c.f 1).n (c.f 0).n)):=ep
  have eq:(d.f 1).n=iU (c.f 0).n (fZ (ir c d) (bV (c.f 1).n (c.f 0).n)):=eq
  rw[ep,eq,<-hxy]
  refine lN ?_ ?_ ?_<;>(simp only[iU,fZ,bV];grind)
 have g1:=pt b1
 have g2:=pt b2
 refine⟨?_,fun he=>nab ?_⟩
 ·generalize cI (hH c d) (ir c d) (cW c d).1=y1 at*
  generalize cI (hH c d) (ir c d) (cW c d).2=y2 at*
  by_cases hy:y1<=y2
  ·rw[show cr y1 y2=y1 by unfold cr;grind,show cq y1 y2=y2 by unfold cq;grind]
   exact .inl ⟨g1,g2⟩
  ·rw[show cr y1 y2=y2 by unfold cr;grind,show cq y1 y2=y1 by unfold cq;grind]
   exact .inr ⟨g1,g2⟩
 ·generalize (cW c d).1=x at*
  generalize (cW c d).2=y at*
  have key:∀{u v:Rat},u+x*(v-u)=u+y*(v-u)->u=v:=fun {u v} hh=>by
   have:(x-y)*(v-u)=0:=by grind
   rcases Rat.mul_eq_zero.1 this with g|g
   ·exfalso;grind
   ·grind
  exact lN (key (congrArg V3.x he)) (key (congrArg V3.y he)) (key (congrArg V3.z he))
def gp (v:V3) (n:Nat):Prop:=Sz v.x n/\Sz v.y n/\Sz v.z n
theorem Lm {a b p:V3} (ha:gp a 14) (hb:gp b 14) (hp:gp p 14):Sz (fY a b p) 400:=by
 have d:∀{u v:V3},gp u 29->gp v 29->Sz (dot u v) 176:=fun {u v} hu hv=>by
  have h:=((hu.1.mul hv.1).add (hu.2.1.mul hv.2.1)).add (hu.2.2.mul hv.2.2)
  unfold dot
  rw[Rat.zero_add]
  exact h.more (by decide)
 have s:∀{u v:V3},gp u 14->gp v 14->gp (bV u v) 29:=fun hu hv=>⟨hu.1.sub hv.1,hu.2.1.sub hv.2.1,hu.2.2.sub hv.2.2⟩
 exact((d (s hp ha) (s hb ha)).div (d (s hb ha) (s hb ha))).more (by decide)
theorem yE {a b:Rat} {n:Nat} (ha:Sz a n) (hb:Sz b n):Sz (cr a b) n/\Sz (cq a b) n:=by
 unfold cr cq
 constructor<;>(split<;>assumption)
theorem IZ {c d:Cu} (hc:c.k 0<c.k 3) (c0:gp (c.f 0).n 14) (c1:gp (c.f 1).n 14) (d0:gp (d.f 0).n 14) (d1:gp (d.f 1).n 14) (k0:Sz (c.k 0) 14) (k3:Sz (c.k 3) 14):Sz (e9 c d).1 sK/\Sz (e9 c d).2 sK:=by
 have z0:Sz (0:Rat) 400:=by unfold Sz;decide+kernel
 have z1:Sz (1:Rat) 400:=by unfold Sz;decide+kernel
 cases h:dO c d with
 |false=>
  unfold e9
  rw[h,if_neg (by decide)]
  exact⟨z0.more (by decide),z0.more (by decide)⟩
 |true=>
  rw[(Dy hc h).1]
  have u:=Lm c0 c1 d0
  have v:=Lm c0 c1 d1
  have x1:Sz (cW c d).1 400:=(yE (yE u v).1 z0).2
  have x2:Sz (cW c d).2 400:=(yE (yE u v).2 z1).1
  exact⟨(k0.add (x1.mul (k3.sub k0))).more (by decide),(k0.add (x2.mul (k3.sub k0))).more (by decide)⟩
end Go.Am.B
