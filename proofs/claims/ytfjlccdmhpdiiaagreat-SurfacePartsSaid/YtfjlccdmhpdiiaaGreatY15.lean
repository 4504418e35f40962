/- Spline.Cut at any two of the spline's fT. -/
import Derived.Test.YtfjlccdmhpdiiaaGreatY11
import Derived.Test.YtfjlccdmhpdiiaaGreatY8
import Derived.Test.YtfjlccdmhpdiiaaGreatY10
import Derived.Test.YtfjlccdmhpdiiaaGreatY13
import Derived.Test.YtfjlccdmhpdiiaaGreatY7
set_option linter.unusedVariables false
noncomputable section
namespace Go.Am.B
open Go Go.Am.N AV ag aq IntKind Proofs.Tryz
def KH (p n:Nat) (k:Nat->Rat) (x:Rat) (R:Nat):Prop:=k 0<x/\x<k (n-1)/\bW k x n+R=p/\∀r,r<=R->sM n p k x r
def Er (n:Nat) (k:Nat->Rat) (x:Rat) (R:Nat):Prop:=(x=k 0\/x=k (n-1))/\R=0
def uo (p n:Nat) (k:Nat->Rat) (x:Rat) (R:Nat):Prop:=KH p n k x R\/Er n k x R
theorem uo.OL {p n:Nat} {k:Nat->Rat} {x:Rat} {R:Nat} (h:uo p n k x R) (g:x=k 0):Er n k x R:=by
 rcases h with h|h
 ·have:=h.1
  rw[<-g]at this
  exact absurd this Rat.lt_irrefl
 ·exact h
set_option maxHeartbeats 1000000 in
theorem aiL {c:Cu} {a b:Rat} {f l:Nat} {ns rs:Nat->Nat} {ks:Nat->Nat->Rat} (hc:Kn c.n c.p.toNat c.k) (hp1:1<=c.p) (hp6:c.p<=6) (hcn:c.n<2^27) (hcm:c.m<2^28) (n0:ns 0=c.n) (k0:ks 0=c.k) (hns:∀j,j<=2->c.n<=ns j/\ns j<2^28) (hs:∀j,j<2->ns (j+1)=ns j+rs j/\ks (j+1)=ee (ks j) (ns j) (if j=0 then a else b) (rs j)) (hJ:∀j,j<2->uo c.p.toNat (ns j) (ks j) (if j=0 then a else b) (rs j))
  (hf:e9 (iX a (ks 2)) (ns 2)=f) (hl:e9 (jf b (ks 2)) (ns 2)=l) (g1:c.p.toNat+1<=f) (g2:f<=l) (g3:l+c.p.toNat+1<=ns 2) (K:Nat):
  aS P 56 K [dD c 2000 4000,.rat a 2000,.rat b 2000] [] (aJ (dD (xF (mG c (ns 2) (ks 2)) a b f l) sK sB) []):=by
 refine fX (r:=aJ (dD (xF (mG c (ns 2) (ks 2)) a b f l) sK sB) []) hT PD rfl aV rfl (fun _ cx h00=>?_) K []
 have hk:=jk h00
 have hl4:=hc.len
 refine ax.hole [1] ah (aG.bE hT wk hm 60 Au abA (jM PD.dst) ?_)
 intro s' hs'
 show ax _ _ _ (part uc [1]) s' _
 rw[show behind uc [1]=[]from by kernel_rfl]
 refine ax.ja (s2:=⟨aA Au [.ptr 0 0 3 0 [],.ptr 1 0 3 0 [],.ptr 2 0 3 0 [],.ptr 3 0 3 0 []],[(3,xQ),(2,tP b 2000),(1,tP a 2000),(0,yN c)],4⟩) (dN.le ⟨[(0,0),(1,4096),(2,8192),(3,12288)],rfl,rfl,rfl,aM (aM (aM (aM trivial)))⟩ hs' hk)
  ((?_:ax P cx f56.ntmps (part uc [1]) _ (dH cx (Fin T f56 (dD (xF (mG c (ns 2) (ks 2)) a b f l) sK sB)))).mono fun e s' h=>by cases e<;>exact h)
 refine ax.tE (t:=4) (k:=1) rfl rfl rfl rfl rfl ?_
 refine ax.tE (t:=5) (k:=2) rfl rfl rfl rfl rfl ?_
 refine ax.Je hT wk hm (x:=Ce) (y:=y5) (x1:=yd) (zb:=part y5 [1,1,1]) (y2:=part yd [1,1,0,0]) [1,0,1] (i:=0) ah ah ah [1,1,0] (j:=1) ah ah ah [1,1] (i2:=2) ah ah rfl hk (f1:=[]) (f2:=[21]) (f3:=[28]) (f4:=[40,47]) (f5:=[]) 60 oN uh 2 3
  (fun j:Nat=>q9 a b (ns j) (ks j) j) (fun _=>ri c) (fun j=>j<=2) (fun j=>j=2) (fun j=>2-j) (fun j=>j<2) (fun _=>False) (fun _=>False)
  (fun j (q:Nat×Bool)=>zk a b (ns j+q.1) (ee (ks j) (ns j) (if j=0 then a else b) q.1) j q.2) (fun j _=>yL c (if j=0 then a else b)) (fun j q=>q.2=false/\KH c.p.toNat (ns j) (ks j) (if j=0 then a else b) (rs j)/\q.1<=rs j\/q.2=true/\Er (ns j) (ks j) (if j=0 then a else b) (rs j)/\q.1=0) (fun j q=>q.1=rs j) (fun j q=>rs j-q.1)
  ⟨_,ad9,?_⟩ (fun j hj=>⟨_,Wh,?_⟩) (fun j hj hG=>?_) (fun j hj hG q hq=>⟨_,Sc,?_⟩) (fun j hj hG q hq=>⟨_,UF,?_⟩) (fun j s' hj hle=>?_) (fun _ _ h=>h.elim) (fun _ _ h=>h.elim)
 ·simp only[ag.all,az]
  refine⟨aa,0,Nat.zero_le _,?_⟩
  show dN [] _ (q9 a b (ns 0) (ks 0) 0) (ri c) 2
  rw[n0,k0]
  exact⟨[(0,0),(1,3)],rfl,rfl,rfl,aM (aM trivial)⟩
 ·simp only[ag.all,az,bk,bt]
  exact⟨fun h=>⟨aa,[(0,0),(1,1)],rfl,rfl,rfl,aM (aM trivial)⟩,fun h=>⟨rfl,j,aa,[(0,0),(1,1)],rfl,rfl,rfl,aM (aM trivial)⟩⟩
 ·have hG:j<2:=hG
  rcases(show j=0\/j=1 by omega)with rfl|rfl
  ·refine⟨_,ajb,?_⟩
   have hl0:=hns 0 aa
   have e1:((ns 0:Nat)-1:Int).toNat=ns 0-1:=aa
   have hc0:uo c.p.toNat (ns 0) (ks 0) a (rs 0):=hJ 0 aa
   simp only[ag.all,az,bk,bt,cond_false,Int.toNat_zero,e1]
   refine⟨⟨aa,aa⟩,fun g=>⟨⟨aa,aa,aa,aa,g⟩,(0,true),.inr ⟨rfl,hc0.OL g,rfl⟩,[(0,0),(1,1),(2,4098)],rfl,rfl,rfl,aM (aM (aM trivial))⟩,fun g=>⟨⟨aa,aa,aa,aa,g,aa,aa,aa,aa,aa⟩,?_⟩⟩
   rcases hc0 with hc1|hc1
   ·have e2:decide (a=ks 0 (ns 0-1))=false:=decide_eq_false fun g2=>by
     have:=hc1.2.1
     rw[<-g2]at this
     exact Rat.lt_irrefl this
    rw[e2]
    exact⟨(0,false),.inl ⟨rfl,hc1,Nat.zero_le _⟩,[(0,0),(1,1),(2,4098)],rfl,rfl,rfl,aM (aM (aM trivial))⟩
   ·have e2:decide (a=ks 0 (ns 0-1))=true:=decide_eq_true (hc1.1.resolve_left g)
    rw[e2]
    exact⟨(0,true),.inr ⟨rfl,hc1,rfl⟩,[(0,0),(1,1),(2,4098)],rfl,rfl,rfl,aM (aM (aM trivial))⟩
  ·refine⟨_,aeg,?_⟩
   have hl0:=hns 1 aa
   have e1:((ns 1:Nat)-1:Int).toNat=ns 1-1:=aa
   have hc0:uo c.p.toNat (ns 1) (ks 1) b (rs 1):=hJ 1 aa
   simp only[ag.all,az,bk,bt,cond_false,Int.toNat_zero,e1]
   refine⟨⟨aa,aa⟩,fun g=>⟨⟨aa,aa,aa,aa,g⟩,(0,true),.inr ⟨rfl,hc0.OL g,rfl⟩,[(0,0),(1,1),(2,4098)],rfl,rfl,rfl,aM (aM (aM trivial))⟩,fun g=>⟨⟨aa,aa,aa,aa,g,aa,aa,aa,aa,aa⟩,?_⟩⟩
   rcases hc0 with hc1|hc1
   ·have e2:decide (b=ks 1 (ns 1-1))=false:=decide_eq_false fun g2=>by
     have:=hc1.2.1
     rw[<-g2]at this
     exact Rat.lt_irrefl this
    rw[e2]
    exact⟨(0,false),.inl ⟨rfl,hc1,Nat.zero_le _⟩,[(0,0),(1,1),(2,4098)],rfl,rfl,rfl,aM (aM (aM trivial))⟩
   ·have e2:decide (b=ks 1 (ns 1-1))=true:=decide_eq_true (hc1.1.resolve_left g)
    rw[e2]
    exact⟨(0,true),.inr ⟨rfl,hc1,rfl⟩,[(0,0),(1,1),(2,4098)],rfl,rfl,rfl,aM (aM (aM trivial))⟩
 ·obtain⟨r,e⟩:=q
  have hG:j<2:=hG
  have hl0:=hns j aa
  obtain⟨x,hx⟩:∃x,x=if j=0 then a else b:=⟨_,rfl⟩
  simp only[<-hx]at hq ⊢
  have same:dN [] (zk a b (ns j+r) (ee (ks j) (ns j) x r) j e,yL c x) (zk a b (ns j+r) (ee (ks j) (ns j) x r) j e) (yL c x) 3:=⟨[(0,0),(1,1),(2,2)],rfl,rfl,rfl,aM (aM (aM trivial))⟩
  simp only[ag.all,az,cond_true,bk,bt]
  rcases hq with⟨he,⟨w1,w2,w3,w4⟩,hr⟩|⟨he,hw,hr⟩
  ·have he:e=false:=he
   have hr:r<=rs j:=hr
   have hq2:=hns (j+1) aa
   have hsj:=(hs j hG).1
   subst he
   have h:=w4 r hr
   have e1:(bW (fun i=>aE (rat (ee (ks j) (ns j) x r i) 2000)) x (ns j+r):Int)=((bW (ks j) x (ns j)+r:Nat):Int):=congrArg Nat.cast h.tm
   have e2:jB (fun i=>aE (rat (ee (ks j) (ns j) x r i) 2000)) x (gY (fun i=>aE (rat (ee (ks j) (ns j) x r i) 2000)) x (ns j+r))=ee (ks j) (ns j) x (r+1):=h.next w1 w2
   simp only[e1,e2]
   refine⟨fun _=>⟨⟨rfl,aa,bI (by decide),by decide,aa,aa⟩,fun g=>⟨⟨aa,bI bz,aa,aa,fun i _=>((w4 (r+1) aa).sd i).more (by decide)⟩,(r+1,false),.inl ⟨rfl,⟨w1,w2,w3,w4⟩,show r+1<=rs j by omega⟩,show rs j-(r+1)<rs j-r by omega,[(0,0),(1,1),(2,2)],rfl,rfl,rfl,dh rfl rfl (cR rfl ?_) (aM (aM trivial))⟩,fun g=>⟨rfl,(r,false),?_,?_⟩⟩,fun g=>absurd g (by decide)⟩
   ·rfl
   ·have g:¬((bW (ks j) x (ns j)+r:Nat):Int)<c.p:=g
    show r=rs j
    omega
   ·exact same
  ·have he:e=true:=he
   have hr:r=0:=hr
   subst he
   exact⟨fun g=>absurd g (by decide),fun _=>⟨rfl,fun g=>absurd g (by decide),fun _=>⟨rfl,(r,true),hr.trans hw.2.symm,same⟩⟩⟩
 ·have hG:j<2:=hG
  obtain⟨r,e⟩:=q
  have hq:r=rs j:=hq
  subst hq
  simp only[ag.all,az]
  refine⟨aa,j+1,aa,by dsimp only;omega,?_⟩
  show dN [] _ (q9 a b (ns (j+1)) (ks (j+1)) ((j+1:Nat))) (ri c) 2
  rw[(hs j hG).1,(hs j hG).2]
  exact⟨[(0,0),(1,1)],rfl,rfl,rfl,aM (aM trivial)⟩
 ·subst hj
  rw[show behind Ce [1,0,1]=[s4]from by kernel_rfl]
  have h2:=hns 2 aa
  exact aG.weak rfl hle (aG.one (Rf hk hc hp1 hp6 aa hcm aa aa hf hl g1 g2 g3 fun _ _ h=>h))
theorem BT {k:Nat->Rat}:∀{n:Nat},(∀i,i+1<n->k i<=k (i+1))->∀{i:Nat},i+1<aP k n->∃s,At n k s/\k s=br k n i/\k (s+1)=br k n (i+1)
 |0,_,i,h=>by simp[aP]at h
 |n+1,hs,i,h=>by
  have hs':∀i,i+1<n->k i<=k (i+1):=fun i hi=>hs i (by omega)
  by_cases c:fI k n
  ·rw[aP,if_pos c]at h
   by_cases e:i+1<aP k n
   ·obtain⟨s,h1,h2,h3⟩:=BT hs' e
    refine⟨s,⟨by have:=h1.lt;omega,hs,h1.wide⟩,?_,?_⟩
    ·rw[br,if_pos c,iY (by omega)];exact h2
    ·rw[br,if_pos c,iY (by omega)];exact h3
   ·have hn0:n≠0:=fun e0=>by
     rw[e0]at h
     simp[aP]at h
    obtain⟨m,rfl⟩:∃m,n=m+1:=⟨n-1,by omega⟩
    obtain⟨_,_,e3⟩:=oo (k:=k) (n:=m)
    have hne:k (m+1)≠k m:=by
     rcases c with c|c
     ·omega
     ·exact c
    have hle:=hs m (by omega)
    refine⟨m,⟨by omega,hs,by grind⟩,?_,?_⟩
    ·rw[br,if_pos c,iY (by omega),show i=aP k (m+1)-1 by omega];exact e3.symm
    ·rw[br,if_pos c,show i+1=aP k (m+1) by omega,ou]
  ·rw[aP,if_neg c,Nat.add_zero]at h
   obtain⟨s,h1,h2,h3⟩:=BT hs' h
   refine⟨s,⟨by have:=h1.lt;omega,hs,h1.wide⟩,?_,?_⟩
   ·rw[br,if_neg c];exact h2
   ·rw[br,if_neg c];exact h3
theorem NO {k:Nat->Rat} {t y:Rat} {q:Nat} (hy:t≠y):∀{m:Nat},bW (dg k t q) y (q+1+m)=bW k y (q+m)
 |0=>by
  have pre:∀i,i<=q->bW (dg k t q) y i=bW k y i:=fun i=>by
   induction i with
   |zero=>intro _;rfl
   |succ i ih=>intro h;rw[lJ,lJ,ih (by omega),gv (by omega)]
  show bW (dg k t q) y (q+1)=bW k y q
  rw[lJ,pre q (Nat.le_refl _),k7,if_neg hy];rfl
 |m+1=>by
  rw[<-Nat.add_assoc,lJ,NO hy (m:=m),hH (by omega),<-Nat.add_assoc,lJ,show q+1+m-1=q+m by omega]
theorem L4 {es n m:Nat} {f g:Nat->AV} (h:n=m) (hf:∀i,i<n->bh (f i) (g i)):bh (.ak es n f) (.ak es m g):=by
 subst h
 exact fB hf
open Go
theorem Qo {k:Nat->Rat} {b p:Nat} {L:(Nat->Rat)->Rat} (hL:∀(x y:Nat->Rat) (f:Rat),L (fun i=>x i+f*(y i-x i))=L x+f*(L y-L x)):∀{l:List Rat} {r:Nat} {X:Nat->Nat->Rat} {j:Nat},bl k b p r (fun j=>L (X j)) l j=L fun i=>bl k b p r (fun j=>X j i) l j
 |[],_,_,_=>rfl
 |t::l,r,X,j=>by
  have e:gm k b p r t (fun j=>L (X j))=fun j=>L ((fun j i=>gm k b p r t (fun j=>X j i) j) j):=by
   funext j
   unfold gm
   by_cases h:r<j
   ·simp only[if_pos h];rw[hL]
   ·simp only[if_neg h]
  rw[bl,e,Qo hL (l:=l) (X:=fun j i=>gm k b p r t (fun j=>X j i) j)]
  rfl
def sq (ku:Nat->Rat) (p:Nat) (kv:Nat->Rat) (q:Nat) (X:Nat->Nat->Rat) (P:Nat) (l:List Rat) (R:Nat) (m:List Rat):Rat:=eI kv q (fun j=>eI ku p (fun i=>X i j) P l) R m
theorem ajo {ku kv:Nat->Rat} {p q P R:Nat} {X:Nat->Nat->Rat} {l m:List Rat}:sq ku p kv q X P l R m=sq kv q ku p (fun j i=>X i j) R m P l:=
 Qo (L:=fun x=>eI ku p x P l) (X:=fun s i=>X i (R-q+s)) fun _ _ _=>GO
theorem Ic {ku KU kv:Nat->Rat} {p q P Q R:Nat} {X Y:Nat->Nat->Rat} {l m:List Rat} (h:∀j,eI KU p (fun i=>Y i j) Q l=eI ku p (fun i=>X i j) P l):sq KU p kv q Y Q l R m=sq ku p kv q X P l R m:=by
 unfold sq
 rw[show(fun j=>eI KU p (fun i=>Y i j) Q l)=fun j=>eI ku p (fun i=>X i j) P l from funext h]
def LG:Int:=LQ*110880
theorem abd {r:Nat}:((LG^r:Int):Rat)≠0:=fun h=>by
 have h:((LG^r:Int):Rat)=((0:Int):Rat):=h
 have:=Rat.intCast_inj.1 h
 exact absurd this (Int.pow_ne_zero (by decide))
def cO (t:Rat):Prop:=∃z:Int,(z:Rat)=t*110880/\-221760<=z/\z<=1774080
theorem cO.sz {t:Rat} (h:cO t):Sz t 60:=by
 obtain⟨z,e,h1,h2⟩:=h
 have:t=(z:Rat)/((110880:Int):Rat):=by
  rw[e,Rat.div_def,Rat.mul_assoc,show(110880:Rat)=((110880:Int):Rat)from rfl,Rat.mul_inv_cancel _ (by decide+kernel),Rat.mul_one]
 rw[this]
 exact((ke (n:=21) aa (by decide)).div (ke (n:=20) (by decide) (by decide))).more (by decide)
theorem fC.m {t:Rat} (h:fC t):cO t:=by
 obtain⟨z,e,h1,h2⟩:=h
 exact⟨z*2,by rw[Rat.intCast_mul,e,Rat.mul_assoc,show(55440:Rat)*((2:Int):Rat)=110880 by decide+kernel],aa,aa⟩
theorem og.m {t:Rat} (h:og t):cO t:=by
 obtain⟨z,e,h1,h2⟩:=h
 refine⟨z*55440,?_,aa,aa⟩
 rw[e,Rat.intCast_mul,Rat.div_def,Rat.mul_assoc,show(2:Rat)⁻¹*110880=((55440:Int):Rat) by decide+kernel]
theorem cO.half {a b:Rat} (ha:fC a) (hb:fC b):cO ((a+b)/2):=by
 obtain⟨za,e,h1,h2⟩:=ha
 obtain⟨zb,f,g1,g2⟩:=hb
 refine⟨za+zb,?_,aa,aa⟩
 rw[Rat.intCast_add,e,f,Rat.div_def,Rat.mul_assoc,show(2:Rat)⁻¹*110880=55440 by decide+kernel,Rat.add_mul]
def iC (r:Nat) (x:Rat):Prop:=∃z:Int,(z:Rat)=x*((LG^(r+1):Int):Rat)/\z.natAbs<=2^(70+75*r)
theorem iC.sz {r:Nat} {x:Rat} (h:iC r x):Sz x (136+140*r):=by
 obtain⟨z,e,b⟩:=h
 have hx:x=(z:Rat)/((LG^(r+1):Int):Rat):=by rw[e,Rat.div_def,Rat.mul_assoc,Rat.mul_inv_cancel _ abd,Rat.mul_one]
 rw[hx]
 have s1:Sz (z:Rat) (71+75*r):=ke (Nat.lt_of_le_of_lt b (Nat.pow_lt_pow_right (by decide) aa)) aa
 have s2:Sz ((LG^(r+1):Int):Rat) (65*(r+1)):=ke (by
  rw[Int.natAbs_pow,Nat.pow_mul]
  exact Nat.pow_lt_pow_left (by decide) aa) aa
 exact(s1.div s2).more aa
theorem iC.up {r:Nat} {x:Rat} (h:iC r x):iC (r+1) x:=by
 obtain⟨z,e,b⟩:=h
 refine⟨z*LG,?_,?_⟩
 ·rw[Rat.intCast_mul,e,Int.pow_succ LG (r+1),Rat.intCast_mul,Rat.mul_assoc]
 ·rw[Int.natAbs_mul,show 70+75*(r+1)=(70+75*r)+75 by omega,Nat.pow_add]
  exact Nat.mul_le_mul b (by decide)
theorem iC.H8 {r s:Nat} {x:Rat} (h:iC r x) (hs:r<=s):iC s x:=by
 obtain⟨d,rfl⟩:∃d,s=r+d:=⟨s-r,aa⟩
 clear hs
 induction d with
 |zero=>exact h
 |succ d ih=>exact ih.up
theorem gB.g {x:Rat} (h:gB 0 x):iC 0 x:=by
 obtain⟨z,e,b⟩:=h
 refine⟨z*110880,?_,?_⟩
 ·rw[Rat.intCast_mul,e,Rat.mul_assoc,<-Rat.intCast_mul];rfl
 ·rw[Int.natAbs_mul]
  exact Nat.le_trans (Nat.mul_le_mul_right _ b) (by decide)
theorem iC.mix {r:Nat} {x y a b t:Rat} (ha:og a) (hb:og b) (ht:cO t) (hx:iC r x) (hy:iC r y):iC (r+1) (x+fr a b t*(y-x)):=by
 obtain⟨za,a1,a2,a3⟩:=ha
 obtain⟨zb,b1,b2,b3⟩:=hb
 obtain⟨zt,t1,t2,t3⟩:=ht
 have e1:b-a=((zb-za:Int):Rat)/2:=by rw[a1,b1,Rat.intCast_sub,Rat.div_def,Rat.div_def,Rat.div_def];grind
 by_cases hv:zb-za=0
 ·have:fr a b t=0:=by
   unfold fr
   rw[e1,hv,Rat.div_def,show((0:Int):Rat)/2=0 by decide+kernel,Rat.inv_zero,Rat.mul_zero]
  rw[this,Rat.zero_mul,Rat.add_zero]
  exact hx.up
 ·have hvq:((zb-za:Int):Rat)≠0:=fun h=>hv (Rat.intCast_inj.1 (show((zb-za:Int):Rat)=((0:Int):Rat)from h))
  have hf:fr a b t*(((zb-za:Int):Rat)*((110880:Int):Rat))=((2*zt-110880*za:Int):Rat):=by
   unfold fr
   have hn:b-a≠0:=by
    rw[e1]
    intro h
    apply hvq
    have:((zb-za:Int):Rat)=((zb-za:Int):Rat)/2*2:=by rw[Rat.div_mul_cancel (by decide)]
    rw[this,h,Rat.zero_mul]
   have h2:((zb-za:Int):Rat)=(b-a)*2:=by rw[e1,Rat.div_mul_cancel (by decide)]
   have h3:((2*zt-110880*za:Int):Rat)=(t-a)*(2*((110880:Int):Rat)):=by
    rw[Rat.intCast_sub,Rat.intCast_mul,Rat.intCast_mul,t1,a1,Rat.div_def]
    show(2:Rat)*(t*110880)-110880*(za:Rat)=(t-(za:Rat)*2⁻¹)*(2*110880)
    have:(2:Rat)⁻¹*2=1:=by decide+kernel
    grind
   rw[h2,h3,Rat.mul_assoc,<-Rat.mul_assoc,Rat.div_mul_cancel hn]
  obtain⟨w,hw,wb⟩:=B8 (v:=zb-za) aa hv
  obtain⟨zx,x1,x2⟩:=hx
  obtain⟨zy,y1,y2⟩:=hy
  refine⟨zx*LG+(2*zt-110880*za)*w*(zy-zx),?_,?_⟩
  ·have hL:fr a b t*(LG:Rat)=(((2*zt-110880*za)*w:Int):Rat):=by
    rw[show LG=(zb-za)*w*110880 by rw[<-hw];rfl,Rat.intCast_mul,Rat.intCast_mul (zb-za),Rat.intCast_mul (2*zt-110880*za) w,<-hf]
    generalize ((zb-za:Int):Rat)=m
    generalize (w:Rat)=w
    generalize fr a b t=f
    generalize ((110880:Int):Rat)=g
    grind
   rw[Rat.intCast_add,Rat.intCast_mul,Rat.intCast_mul ((2*zt-110880*za)*w),<-hL,Rat.intCast_sub,x1,y1,Int.pow_succ LG (r+1),Rat.intCast_mul]
   generalize ((LG^(r+1):Int):Rat)=m
   generalize (LG:Rat)=l
   generalize fr a b t=f
   grind
  ·have c1:(zy-zx).natAbs<=2^(70+75*r)+2^(70+75*r):=aa
   have c2:((2*zt-110880*za)*w).natAbs<=8388608*144403552893600:=by
    rw[Int.natAbs_mul];exact Nat.mul_le_mul aa wb
   have c3:((2*zt-110880*za)*w*(zy-zx)).natAbs<=8388608*144403552893600*(2^(70+75*r)+2^(70+75*r)):=by
    rw[Int.natAbs_mul];exact Nat.mul_le_mul c2 c1
   have c4:(zx*LG).natAbs<=2^(70+75*r)*16011465944842368000:=by
    rw[Int.natAbs_mul];exact Nat.mul_le_mul x2 (by decide)
   have c5:=Int.natAbs_add_le (zx*LG) ((2*zt-110880*za)*w*(zy-zx))
   rw[show 70+75*(r+1)=(70+75*r)+75 by omega,Nat.pow_add]
   generalize 2^(70+75*r)=B at*
   omega
theorem Kc {k:Nat->Rat} {b p:Nat} (hk:∀i,og (k i)):∀{l:List Rat} {r s:Nat} {x:Nat->Rat},(∀t∈l,cO t)->(∀j,iC s (x j))->∀j,iC (s+l.length) (bl k b p r x l j)
 |[],_,_,_,_,hx,j=>hx j
 |t::l,r,s,x,hl,hx,j=>by
  rw[bl,List.length_cons,show s+(l.length+1)=s+1+l.length by omega]
  refine Kc hk (fun u hu=>hl u (List.mem_cons_of_mem _ hu)) (fun q=>?_) j
  unfold gm
  split
  ·exact(hx _).mix (hk _) (hk _) (hl t (List.mem_cons_self ..)) (hx _)
  ·exact(hx _).up
theorem MN {k x:Nat->Rat} {p P s:Nat} {l:List Rat} (hk:∀i,og (k i)) (hl:∀t∈l,cO t) (hx:∀j,iC s (x j)):iC (s+l.length) (eI k p x P l):=
 Kc (b:=P-p) (p:=p) (r:=0) hk hl (fun j=>hx (P-p+j)) p
open Go Go.Am.N AV ag aq IntKind Proofs.Tryz
theorem gj.self {c:Cu} (h:nD c) (hw:∀i,0<(c.f i).d):gj c c:=⟨h,rfl,hw,jY.refl⟩
theorem jY.trans {p n n1 n2:Nat} {k k1 k2:Nat->Rat} {x x1 x2:Nat->Nat->Rat} (h:jY p n k x n1 k1 x1) (g:jY p n1 k1 x1 n2 k2 x2):jY p n k x n2 k2 x2:=fun Q hQ=>by
 obtain⟨P,p1,p2,p3,p4⟩:=g Q hQ
 obtain⟨R,r1,r2,r3,r4⟩:=h P p1
 exact⟨R,r1,Rat.le_trans r2 p2,Rat.le_trans p3 r3,fun e l hl=>(p4 e l hl).trans (r4 e l hl)⟩
theorem gj.trans {c d e:Cu} (h:gj c d) (g:gj d e):gj c e:=⟨g.kn,g.p.trans h.p,g.pos,h.sub.trans (by have:=g.sub;rwa [h.p]at this)⟩
theorem gj.ins {c d:Cu} {t:Rat} (h:gj c d) (he:kO d t=0):gj c (kS d t):=by
 obtain⟨e1,e2,e3,e4⟩:=Be he
 obtain⟨k1,k2,k3,k4,k5⟩:=id h.kn
 obtain⟨i1,i2,i3⟩:=qF k1 e1 e2
 have hp:=h.p
 rw[show kS d t=vj d t (bL d.n d.k t)from if_pos he]
 have hpos:∀i,0<(oq d t (bL d.n d.k t) i).d:=fun i=>Nf h.kn h.pos e1 e2 i1 i2 i3
 refine⟨⟨k1.dg e1 e2 i1 i2 i3 e3,k2,k3,show d.n+1<=d.p.toNat+41 by omega,show((d.m+1:Nat):Int)=((d.n+1:Nat):Int)-d.p-1 by omega⟩,hp,hpos,?_⟩
 have key:=jY.ins (t:=t) h.sub (by rw[<-hp];exact k1) e1 e2 i1 i2 i3 (by rw[<-hp];exact e3)
 have ef:(fun e i=>ck (bM ((vj d t (bL d.n d.k t)).f i)) e)=fun e=>mL d.k c.p.toNat (fun i=>ck (bM (d.f i)) e) t (bL d.n d.k t):=by
  funext e i
  show ck (bM (dJ (oq d t (bL d.n d.k t) i))) e=_
  rw[Li (pM (hpos i)),<-hp]
  match e with
  |0=>rfl
  |1=>rfl
  |2=>rfl
  |e+3=>rfl
 rw[ef]
 exact key
theorem De {c d:Cu} {t:Rat} (hq:gj c d) (h0:d.k 0<t) (h1:t<d.k (d.n-1)) (kM:d.m+d.p.toNat<=40):∀{r:Nat},((bW d.k t d.n+r:Nat):Int)<=d.p->tR d t r/\gj c (dM d t r)
 |0,_=>⟨⟨rfl,rfl,rfl,rfl,rfl,rfl,rfl⟩,hq⟩
 |r+1,h=>by
  obtain⟨⟨a1,a2,a3,a4,a5,a6,a7⟩,hr⟩:=De hq h0 h1 kM (r:=r) aa
  have hE:kO (dM d t r) t=0:=FF (by rw[a6];exact h0) (by rw[a7];exact h1) (by rw[a5,a2];omega) (by rw[a4];omega)
  obtain⟨b1,b2,b3,b4,b5,b6⟩:=OE hr.kn hE
  exact⟨⟨Kz a1 hE,b1.trans a2,by rw[show(dM d t (r+1)).n=(dM d t r).n+1 from b2,a3];rfl,by rw[show(dM d t (r+1)).m=(dM d t r).m+1 from b3,a4];rfl,b4.trans (by rw[a5];rfl),b5.trans a6,b6.trans a7⟩,hr.ins hE⟩
theorem Ig {c d:Cu} {t:Rat} (hq:gj c d) (h0:d.k 0<t) (h1:t<d.k (d.n-1)) (kM:d.m+d.p.toNat<=40):∀{r:Nat},((bW d.k t d.n+r:Nat):Int)<=d.p->(dM d t r).k=ee d.k d.n t r/\∀y,t≠y->bW (dM d t r).k y (dM d t r).n=bW d.k y d.n
 |0,_=>⟨rfl,fun _ _=>rfl⟩
 |r+1,h=>by
  obtain⟨ih,ih2⟩:=Ig hq h0 h1 kM (r:=r) aa
  obtain⟨⟨a1,a2,a3,a4,a5,a6,a7⟩,hr⟩:=De hq h0 h1 kM (r:=r) aa
  have hE:kO (dM d t r) t=0:=FF (by rw[a6];exact h0) (by rw[a7];exact h1) (by rw[a5,a2];omega) (by rw[a4];omega)
  obtain⟨b1,b2,b3,b4⟩:=Be hE
  obtain⟨i1,i2,i3⟩:=qF hr.kn.1 b1 b2
  have e:dM d t (r+1)=vj (dM d t r) t (bL (dM d t r).n (dM d t r).k t):=if_pos hE
  refine⟨?_,fun y hy=>?_⟩
  ·rw[e]
   show dg (dM d t r).k t (bL (dM d t r).n (dM d t r).k t+1)=dg (ee d.k d.n t r) t (bL (d.n+r) (ee d.k d.n t r) t+1)
   rw[ih,a3]
  ·rw[e,<-ih2 y hy]
   show bW (dg (dM d t r).k t (bL (dM d t r).n (dM d t r).k t+1)) y ((dM d t r).n+1)=_
   generalize bL (dM d t r).n (dM d t r).k t=a at*
   have:=NO (k:=(dM d t r).k) (q:=a+1) hy (m:=(dM d t r).n-(a+1))
   rw[show a+1+1+((dM d t r).n-(a+1))=(dM d t r).n+1 by omega,show a+1+((dM d t r).n-(a+1))=(dM d t r).n by omega]at this
   exact this
def fY (n:Nat) (k:Nat->Rat) (a:Rat) (f:Nat):Prop:=f<n/\a<k f/\∀j,j<f->k j<=a
def gA (n:Nat) (k:Nat->Rat) (b:Rat) (l:Nat):Prop:=l<n/\b<=k l/\∀j,j<l->k j<b
theorem fY.fst {n f:Nat} {k:Nat->Rat} {a:Rat} (h:fY n k a f):e9 (iX a k) n=f:=xG (decide_eq_true h.2.1) (fun j hj=>decide_eq_false (Rat.not_lt.2 (h.2.2 j hj))) h.1
theorem gA.fst {n f:Nat} {k:Nat->Rat} {a:Rat} (h:gA n k a f):e9 (jf a k) n=f:=xG (decide_eq_true h.2.1) (fun j hj=>decide_eq_false (Rat.not_le.2 (h.2.2 j hj))) h.1
theorem FR {g:Nat->Bool}:∀{n i:Nat},i<n->g i=true->∃f,f<=i/\g f=true/\∀j,j<f->g j=false:=fun {n i} hi hg=>by
 clear hi
 induction i using Nat.strongRecOn with
 |ind i ih=>
  by_cases h:∃j,j<i/\g j=true
  ·obtain⟨j,h1,h2⟩:=h
   obtain⟨f,f1,f2⟩:=ih j h1 h2
   exact⟨f,aa,f2⟩
  ·exact⟨i,bz,hg,fun j hj=>by
    cases e:g j
    ·rfl
    ·exact absurd ⟨j,hj,e⟩ h⟩
theorem fY.ex {n i:Nat} {k:Nat->Rat} {a:Rat} (hi:i<n) (h:a<k i):∃f,f<=i/\fY n k a f:=by
 obtain⟨f,h1,h2,h3⟩:=FR (g:=iX a k) hi (decide_eq_true h)
 exact⟨f,h1,aa,of_decide_eq_true h2,fun j hj=>Rat.not_lt.1 (of_decide_eq_false (h3 j hj))⟩
theorem gA.ex {n i:Nat} {k:Nat->Rat} {a:Rat} (hi:i<n) (h:a<=k i):∃f,f<=i/\gA n k a f:=by
 obtain⟨f,h1,h2,h3⟩:=FR (g:=jf a k) hi (decide_eq_true h)
 exact⟨f,h1,aa,of_decide_eq_true h2,fun j hj=>Rat.not_le.1 (of_decide_eq_false (h3 j hj))⟩
theorem fY.one {n q:Nat} {k:Nat->Rat} {a:Rat} (h:fY n k a q):fY (n+1) (dg k a q) a (q+1):=by
 obtain⟨h1,h2,h3⟩:=h
 refine⟨aa,by rw[hH aa];exact h2,fun j hj=>?_⟩
 by_cases e:j=q
 ·rw[e,k7];exact Rat.le_refl
 ·rw[gv aa];exact h3 j aa
theorem gA.one {n q l:Nat} {k:Nat->Rat} {a b:Rat} (h:fY n k a q) (hl:gA n k b l) (hab:a<b):q<=l/\gA (n+1) (dg k a q) b (l+1):=by
 obtain⟨h1,h2,h3⟩:=h
 obtain⟨l1,l2,l3⟩:=hl
 have hql:q<=l:=by
  by_cases c:q<=l
  ·exact c
  ·have:=h3 l aa;grind
 refine⟨hql,aa,by rw[hH aa];exact l2,fun j hj=>?_⟩
 by_cases e:j=q
 ·rw[e,k7];exact hab
 ·by_cases e2:j<q
  ·rw[gv e2];exact l3 j aa
  ·rw[hH aa];exact l3 _ aa
theorem gA.two {n q l:Nat} {k:Nat->Rat} {b:Rat} (h:fY n k b q) (hl:gA n k b l):l<=q/\gA (n+1) (dg k b q) b l:=by
 obtain⟨h1,h2,h3⟩:=h
 obtain⟨l1,l2,l3⟩:=hl
 have hql:l<=q:=by
  by_cases c:l<=q
  ·exact c
  ·have:=l3 q aa;grind
 refine⟨hql,aa,?_,fun j hj=>by rw[gv aa];exact l3 j hj⟩
 by_cases e:l=q
 ·rw[e,k7];exact Rat.le_refl
 ·rw[gv aa];exact l2
theorem fY.two {n q l f:Nat} {k:Nat->Rat} {a b:Rat} (h:fY n k b q) (hl:gA n k b l) (hf:fY n k a f) (hab:a<b):f<=l/\fY (n+1) (dg k b q) a f:=by
 obtain⟨h1,h2,h3⟩:=h
 obtain⟨l1,l2,l3⟩:=hl
 obtain⟨f1,f2,f3⟩:=hf
 have hql:l<=q:=by
  by_cases c:l<=q
  ·exact c
  ·have:=l3 q aa;grind
 have hfl:f<=l:=by
  by_cases c:f<=l
  ·exact c
  ·have:=f3 l aa;grind
 refine⟨hfl,aa,?_,fun j hj=>by rw[gv aa];exact f3 j hj⟩
 by_cases e:f=q
 ·rw[e,k7];exact hab
 ·rw[gv aa];exact f2
theorem QI {n p:Nat} {k:Nat->Rat} {t:Rat} (h:Kn n p k) (h0:k 0<t) (h1:t<k (n-1)):fY n k t (bL n k t+1):=by
 obtain⟨i1,i2,i3⟩:=qF h h0 h1
 exact⟨i3,i2,fun j hj=>Rat.le_trans (h.mono (show j<=bL n k t by omega) aa) i1⟩
theorem fY.uniq {n f g:Nat} {k:Nat->Rat} {a:Rat} (h:fY n k a f) (h':fY n k a g):f=g:=by rw[<-h.fst,<-h'.fst]
theorem JU {n p f l:Nat} {k:Nat->Rat} {a b:Rat} (h0:k 0<a) (h1:a<k (n-1)) (hf:fY n k a f) (hl:gA n k b l) (hab:a<b):∀{r:Nat},(∀s,s<=r->sM n p k a s)->fY (n+r) (ee k n a r) a (f+r)/\gA (n+r) (ee k n a r) b (l+r)/\∀i,ee k n a r (f+r+i)=k (f+i)
 |0,_=>⟨hf,hl,fun _=>rfl⟩
 |r+1,hK=>by
  obtain⟨a1,a2,a3⟩:=JU h0 h1 hf hl hab (r:=r) fun s hs=>hK s aa
  obtain⟨g1,_,g3,g4,_⟩:=hK r aa
  have e:=(QI g1 (by rw[g3];exact h0) (by rw[g4];exact h1)).uniq a1
  have ek:ee k n a (r+1)=dg (ee k n a r) a (f+r):=by show dg _ _ (bL _ _ _+1)=_;rw[e]
  rw[ek]
  refine⟨a1.one,(gA.one a1 a2 hab).2,fun i=>?_⟩
  rw[hH aa,<-a3 i];congr 1;omega
theorem Mu {n p f l:Nat} {k:Nat->Rat} {a b:Rat} (h0:k 0<b) (h1:b<k (n-1)) (hf:fY n k a f) (hl:gA n k b l) (hab:a<b):∀{r:Nat},(∀s,s<=r->sM n p k b s)->fY (n+r) (ee k n b r) a f/\gA (n+r) (ee k n b r) b l/\f<=l/\∀i,i<l->ee k n b r i=k i
 |0,_=>⟨hf,hl,by
   by_cases c:f<=l
   ·exact c
   ·have:=hf.2.2 l aa;have:=hl.2.1;grind,fun _ _=>rfl⟩
 |r+1,hK=>by
  obtain⟨a1,a2,a3,a4⟩:=Mu h0 h1 hf hl hab (r:=r) fun s hs=>hK s aa
  obtain⟨g1,_,g3,g4,_⟩:=hK r aa
  have hq:=QI g1 (by rw[g3];exact h0) (by rw[g4];exact h1)
  have ek:ee k n b (r+1)=dg (ee k n b r) b (bL (n+r) (ee k n b r) b+1):=rfl
  rw[ek]
  obtain⟨b1,b2⟩:=gA.two hq a2
  exact⟨(fY.two hq a2 a1 hab).2,b2,a3,fun i hi=>by rw[gv aa];exact a4 i hi⟩
structure FO (c d e:Cu) (x:Rat) (R:Nat):Prop where
 q:gj c e
 n:e.n=d.n+R
 m:e.m=d.m+R
 r:R<=c.p.toNat
 k:e.k=ee d.k d.n x R
 j:uo c.p.toNat d.n d.k x R
 k0:e.k 0=d.k 0
 k1:e.k (e.n-1)=d.k (d.n-1)
 t:e.k 0=x\/e.k (e.n-1)=x\/bW e.k x e.n=c.p.toNat
 o:∀y,x≠y->bW e.k y e.n=bW d.k y d.n
 sd:∀i,Sz (e.k i) 60
theorem gj.step {c d:Cu} {x:Rat} (h:gj c d) (hx:Sz x 60) (kM:d.m+d.p.toNat<=40) (h0:d.k 0<=x) (h1:x<=d.k (d.n-1)) (sd:∀i,Sz (d.k i) 60):∃R e,FO c d e x R:=by
 have hp:=h.p
 have hkn:=h.kn.1
 rw[hp]at hkn
 by_cases hi:d.k 0<x/\x<d.k (d.n-1)
 ·have hle:=hkn.WV hi.1 hi.2
  obtain⟨R,hR⟩:∃R,R=c.p.toNat-bW d.k x d.n:=⟨_,rfl⟩
  have k2:=h.kn.2.1
  have hRp:((bW d.k x d.n+R:Nat):Int)<=d.p:=aa
  obtain⟨⟨a1,a2,a3,a4,a5,a6,a7⟩,hr⟩:=De h hi.1 hi.2 kM hRp
  obtain⟨b1,b2⟩:=Ig h hi.1 hi.2 kM hRp
  have hK:∀r,r<=R->sM d.n c.p.toNat d.k x r:=fun r hr=>ON hkn hi.1 hi.2 sd hx aa
  exact⟨R,dM d x R,hr,a3,a4,aa,b1,.inl ⟨hi.1,hi.2,aa,hK⟩,a6,a7,.inr (.inr (by rw[a5];omega)),b2,fun i=>by rw[b1];exact(hK R bz).sd i⟩
 ·have hx2:x=d.k 0\/x=d.k (d.n-1):=by
   by_cases g:d.k 0<x
   ·right
    have:¬x<d.k (d.n-1):=fun g2=>hi ⟨g,g2⟩
    grind
   ·left;grind
  exact⟨0,d,h,rfl,rfl,Nat.zero_le _,rfl,.inr ⟨hx2,rfl⟩,rfl,rfl,hx2.elim (fun g=>.inl g.symm) fun g=>.inr (.inl g.symm),fun _ _=>rfl,sd⟩
structure rX (c E:Cu) (a b:Rat) (f l f0 l0:Nat):Prop where
 q:gj c E
 f1:fY E.n E.k a f
 l1:gA E.n E.k b l
 c0:fY c.n c.k a f0
 d0:gA c.n c.k b l0
 lo:c.p.toNat+1<=f
 fl:f<=l
 ln:l+c.p.toNat+1<=E.n
 left:∀i,i<f->f<=i+c.p.toNat->E.k i=a
 right:∀i,l<=i->i<l+c.p.toNat->E.k i=b
 d:l-f=l0-f0
 mid:∀i,i<l-f->E.k (f+i)=c.k (f0+i)
theorem Nz {c:Cu} {a b:Rat} (hc:nD c) (hw:∀i,0<(c.f i).d) (hab:a<b) (h0:c.k 0<=a) (h1:b<=c.k (c.n-1)) (kM:c.m+(c.p.toNat+c.p.toNat)<=40) (sk:∀i,Sz (c.k i) 60) (sa:Sz a 60) (sb:Sz b 60):
  ∃R0 R1 E1 E f l f0 l0,FO c c E1 a R0/\FO c E1 E b R1/\rX c E a b f l f0 l0:=by
 obtain⟨k1,k2,k3,k4,k5⟩:=id hc
 have hl:=k1.len
 obtain⟨R0,E1,s1⟩:=(gj.self hc hw).step sa aa h0 (by grind) sk
 have q1:=s1.q.p
 obtain⟨R1,E,s2⟩:=s1.q.step sb (by rw[s1.m,q1];have:=s1.r;omega) (by rw[s1.k0];grind) (by rw[s1.k1];exact h1) s1.sd
 obtain⟨f0,f01,hf0⟩:=fY.ex (k:=c.k) (n:=c.n) (a:=a) (i:=c.n-1) aa (by grind)
 obtain⟨l0,l01,hl0⟩:=gA.ex (k:=c.k) (n:=c.n) (a:=b) (i:=c.n-1) aa h1
 have g1:fY E1.n E1.k a (f0+R0)/\gA E1.n E1.k b (l0+R0)/\∀i,E1.k (f0+R0+i)=c.k (f0+i):=by
  rw[s1.n,s1.k]
  rcases s1.j with⟨j1,j2,_,j4⟩|⟨_,j2⟩
  ·exact JU j1 j2 hf0 hl0 hab fun s hs=>j4 s hs
  ·subst j2;exact⟨hf0,hl0,fun _=>rfl⟩
 obtain⟨f,hf⟩:∃f,f=f0+R0:=⟨_,rfl⟩
 obtain⟨l,hll⟩:∃l,l=l0+R0:=⟨_,rfl⟩
 rw[<-hf,<-hll]at g1
 obtain⟨e1,e2,e3⟩:=g1
 have hfl:f<=l:=by
  by_cases c:f<=l
  ·exact c
  ·have:=e1.2.2 l aa;have:=e2.2.1;grind
 have g2:fY E.n E.k a f/\gA E.n E.k b l/\∀i,i<l->E.k i=E1.k i:=by
  rw[s2.n,s2.k]
  rcases s2.j with⟨j1,j2,_,j4⟩|⟨_,j2⟩
  ·obtain⟨m1,m2,_,m4⟩:=Mu j1 j2 e1 e2 hab fun s hs=>j4 s hs
   exact⟨m1,m2,m4⟩
  ·subst j2;exact⟨e1,e2,fun _ _=>rfl⟩
 obtain⟨m1,m2,m3⟩:=g2
 have hE:=s2.q.kn.1
 rw[s2.q.p]at hE
 have hlE:=hE.len
 have z0:E.k 0<=a:=by rw[s2.k0,s1.k0];exact h0
 have z1:b<=E.k (E.n-1):=by rw[s2.k1,s1.k1];exact h1
 have hlo:c.p.toNat+1<=f:=by
  by_cases g:c.p.toNat+1<=f
  ·exact g
  ·have:=hE.first f aa;have:=m1.2.1;grind
 have hln:l+c.p.toNat+1<=E.n:=by
  by_cases g:l+c.p.toNat+1<=E.n
  ·exact g
  ·have:=m2.2.2 (E.n-c.p.toNat-1) aa;have:=hE.last (E.n-c.p.toNat-1) aa aa;grind
 refine⟨R0,R1,E1,E,f,l,f0,l0,s1,s2,s2.q,m1,m2,hf0,hl0,hlo,hfl,hln,fun i i1 i2=>?_,fun i i1 i2=>?_,aa,fun i hi=>by rw[m3 _ aa,hf];exact hf▸e3 i⟩
 ·have ha:E.k 0=a\/bW E.k a E.n=c.p.toNat:=by
   rcases s1.t with g|g|g
   ·left;rw[s2.k0,g]
   ·exfalso;rw[s1.k1]at g;grind
   ·right;rw[s2.o _ (by grind),g]
  rcases ha with g|g
  ·have:=m1.2.2 i i1
   have:=hE.mono (Nat.zero_le i) (show i<E.n by have:=m1.1;omega)
   grind
  ·exact PB (a:=f-1) hE.sorted (by rw[show f-1+1=f by omega];exact m1.2.1) (by have:=m1.1;omega) (m1.2.2 _ aa) aa (by rw[g];omega)
 ·have lo:=hE.mono i1 (show i<E.n by omega)
  have lo2:=m2.2.1
  rcases s2.t with g|g|g
  ·exfalso;grind
  ·have:=hE.mono (show i<=E.n-1 by omega) aa
   grind
  ·by_cases e:E.k i=b
   ·exact e
   ·exfalso
    have hp:=hE.p1
    have:=AS (k:=E.k) (t:=b) (lo:=l) (hi:=i) i1 (n:=E.n) fun j hj hjb=>by
     constructor
     ·by_cases c:l<=j
      ·exact c
      ·have:=m2.2.2 j aa;grind
     ·by_cases c:j<i
      ·exact c
      ·have:=hE.mono (show i<=j by omega) hj
       grind
    omega
def dP (c:Cu) (a b:Rat):Nat:=c.p.toNat+1+(e9 (jf b c.k) c.n-e9 (iX a c.k) c.n)+(c.p.toNat+1)
def iP (c:Cu) (a b:Rat):Nat:=c.p.toNat+1+(e9 (jf b c.k) c.n-e9 (iX a c.k) c.n)
def cU (c:Cu) (a b:Rat):Nat->Rat:=jw c.p.toNat a b c.k (e9 (iX a c.k) c.n) (e9 (jf b c.k) c.n)
def iQ (h:Cu) (a b:Rat):Cu:=⟨h.p,dP h a b,cU h a b,iP h a b,jF h (dP h a b) (cU h a b)⟩
def iR (c:Cu) (a b:Rat):Cu:=⟨c.p,dP c a b,cU c a b,iP c a b,fun j=>if j<iP c a b then dJ (jF (kB c) (dP c a b) (cU c a b) j)else c.f 0⟩
def Cd (c E:Cu) (a b:Rat) (f:Nat):Cu:=⟨c.p,dP c a b,cU c a b,iP c a b,fun q=>if q<iP c a b then E.f (f-1-c.p.toNat+q)else c.f 0⟩
theorem rX.ks {c E:Cu} {a b:Rat} {f l f0 l0:Nat} (h:rX c E a b f l f0 l0):dP c a b=c.p.toNat+1+(l-f)+(c.p.toNat+1)/\iP c a b=c.p.toNat+1+(l-f)/\(∀i,i<=c.p.toNat->cU c a b i=a)/\(∀i,c.p.toNat+1+(l-f)<=i->cU c a b i=b)/\∀i,1<=i->i+1<dP c a b->cU c a b i=E.k (f-1-c.p.toNat+i):=by
 have e1:=h.c0.fst
 have e2:=h.d0.fst
 have hd:=h.d
 have hlo:=h.lo
 have hfl:=h.fl
 have eN:dP c a b=c.p.toNat+1+(l-f)+(c.p.toNat+1):=by unfold dP;rw[e1,e2,<-hd]
 have ek:∀i,cU c a b i=if i<c.p.toNat+1 then a else if i<c.p.toNat+1+(l-f)then c.k (f0+(i-(c.p.toNat+1)))else b:=fun i=>by
  unfold cU jw;rw[e1,e2,<-hd]
 refine⟨eN,by unfold iP;rw[e1,e2,<-hd],fun i hi=>by rw[ek,if_pos aa],fun i hi=>by rw[ek,if_neg aa,if_neg aa],fun i h1 h2=>?_⟩
 rw[eN]at h2
 rw[ek]
 by_cases g:i<c.p.toNat+1
 ·rw[if_pos g];exact(h.left _ aa aa).symm
 ·rw[if_neg g]
  by_cases g2:i<c.p.toNat+1+(l-f)
  ·rw[if_pos g2,<-h.mid _ aa];congr 1;omega
  ·rw[if_neg g2];exact(h.right _ aa aa).symm
theorem rX.part {c E:Cu} {a b:Rat} {f l f0 l0:Nat} (hw:∀i,0<(c.f i).d) (hab:a<b) (h:rX c E a b f l f0 l0):gj c (Cd c E a b f):=by
 obtain⟨eN,eM,ea,eb,ek⟩:=h.ks
 obtain⟨k1,k2,k3,k4,k5⟩:=id h.q.kn
 have hp:=h.q.p
 rw[hp]at k1 k4
 have hp1:=k1.p1
 have hlo:=h.lo
 have hfl:=h.fl
 have hln:=h.ln
 have kn:Kn (dP c a b) c.p.toNat (cU c a b):=by
  rw[eN]at ek ⊢
  refine⟨hp1,aa,fun i hi=>?_,fun i hi=>by rw[ea i hi,ea 0 (Nat.zero_le _)],fun i h1 h2=>by rw[eb i aa,eb _ aa],fun i h1 h2=>?_⟩
  ·by_cases e:i=0
   ·subst e;rw[ea 0 aa,ea _ aa];exact Rat.le_refl
   ·by_cases e2:i+2<c.p.toNat+1+(l-f)+(c.p.toNat+1)
    ·rw[ek i aa aa,ek (i+1) aa aa];exact k1.sorted _ aa
    ·rw[eb i aa,eb (i+1) aa];exact Rat.le_refl
  ·rw[ek i aa aa,ek (i+c.p.toNat) aa aa,<-Nat.add_assoc];exact k1.mult _ aa aa
 refine⟨⟨kn,by show 1<=c.p;rw[<-hp];exact k2,by show c.p<=6;rw[<-hp];exact k3,show dP c a b<=c.p.toNat+41 by omega,show(iP c a b:Int)=(dP c a b:Int)-c.p-1 by omega⟩,rfl,fun i=>?_,fun Q hQ=>?_⟩
 ·show 0<(if i<iP c a b then E.f (f-1-c.p.toNat+i)else c.f 0).d
  split
  ·exact h.q.pos _
  ·exact hw 0
 ·have hQ:At (dP c a b) (cU c a b) Q:=hQ
  obtain⟨v1,v2⟩:=kn.nk hQ
  have hwd:=hQ.wide
  rw[ek Q aa aa,ek (Q+1) aa aa]at hwd
  rw[eN]at v2
  obtain⟨P,p1,p2,p3,p4⟩:=h.q.sub (f-1-c.p.toNat+Q) ⟨aa,k1.sorted,hwd⟩
  refine⟨P,p1,by show _<=cU c a b Q;rw[ek Q aa aa];exact p2,by show cU c a b (Q+1)<=_;rw[ek (Q+1) aa aa];exact p3,fun e l' hl=>?_⟩
  rw[<-p4 e l' hl]
  have key:eI (cU c a b) c.p.toNat (fun i=>ck (bM ((Cd c E a b f).f i)) e) Q l'=eI (fun i=>E.k (f-1-c.p.toNat+i)) c.p.toNat (fun i=>ck (bM (E.f (f-1-c.p.toNat+i))) e) Q l':=by
   rw[Ly (k:=fun i=>E.k (f-1-c.p.toNat+i)) v1 (fun i i1 i2=>ek i aa aa) hl]
   refine JS hl fun q hq=>?_
   show ck (bM (if Q-c.p.toNat+q<iP c a b then E.f (f-1-c.p.toNat+(Q-c.p.toNat+q))else c.f 0)) e=_
   rw[if_pos aa]
  refine key.trans ?_
  show bl (fun i=>E.k (f-1-c.p.toNat+i)) (Q-c.p.toNat) c.p.toNat 0 (fun q=>ck (bM (E.f (f-1-c.p.toNat+(Q-c.p.toNat+q)))) e) l' c.p.toNat=bl E.k (f-1-c.p.toNat+Q-c.p.toNat) c.p.toNat 0 (fun q=>ck (bM (E.f (f-1-c.p.toNat+Q-c.p.toNat+q))) e) l' c.p.toNat
  rw[DQ (k:=E.k) (b:=f-1-c.p.toNat+Q-c.p.toNat) fun i hi=>by show E.k _=E.k _;congr 1;omega]
  congr 1
  funext q
  rw[show f-1-c.p.toNat+(Q-c.p.toNat+q)=f-1-c.p.toNat+Q-c.p.toNat+q by omega]
theorem gj.ov {c d:Cu} {j:Nat} (hc:nD c) (h:gj c d) (hj:j<d.m):jF (kB c) d.n d.k j=bM (d.f j):=by
 obtain⟨k1,k2,k3,k4,k5⟩:=id hc
 obtain⟨d1,d2,d3,d4,d5⟩:=id h.kn
 have hp:=h.p
 rw[hp]at d1
 have hl:=d1.len
 obtain⟨Q,hQ⟩:∃Q,Q=iO d.k d.n j:=⟨_,rfl⟩
 obtain⟨g1,g2,g3⟩:j<=Q/\Q<j+(c.p.toNat+1)/\d.k Q<d.k (Q+1):=by
  rw[hQ]
  exact KX (n:=d.n) (k:=d.k) (pc:=sU d.k d.n) (fun _=>rfl) (fun _ _=>rfl) (d1.Yv aa) aa aa
 have hA:At d.n d.k Q:=⟨aa,d1.sorted,g3⟩
 obtain⟨P,hP,hI,hE⟩:=h.sub.B4 d1 hA g1 aa
 obtain⟨P',p1,p2,p3,_⟩:=h.sub Q hA
 have hI2:jO c.n c.k (d.k Q)=P:=by
  unfold jO
  rw[if_neg,hI]
  have:=p1.lt
  have m1:=k1.mono (Nat.zero_le P') aa
  have m2:=k1.mono (show P'+1<=c.n-1 by omega) aa
  rintro(g|g)
  ·exact absurd g (Rat.not_lt.2 (Rat.le_trans m1 p2))
  ·exact absurd g (Rat.not_lt.2 (by grind))
 have key:∀e,jo (kB c) (P:Nat) c.p.toNat (fun i=>d.k (i+(j+1))) e=ck (bM (d.f j)) e:=fun e=>(aff (c:=kB c) k1 k2 k5 hP).trans (hE e)
 show rF (kB c) (jO c.n c.k (d.k (iO d.k d.n j))) c.p.toNat (fun q=>d.k (q+(j+1)))=_
 rw[<-hQ,hI2]
 unfold rF
 rw[key 0,key 1,key 2,key 3]
 rfl
theorem rX.eq {c E:Cu} {a b:Rat} {f l f0 l0:Nat} (hc:nD c) (hw:∀i,0<(c.f i).d) (hab:a<b) (h:rX c E a b f l f0 l0):iR c a b=Cd c E a b f/\∀j,j<iP c a b->jF (kB c) (dP c a b) (cU c a b) j=bM (E.f (f-1-c.p.toNat+j)):=by
 have hR:=h.part hw hab
 have key:∀j,j<iP c a b->jF (kB c) (dP c a b) (cU c a b) j=bM (E.f (f-1-c.p.toNat+j)):=fun j hj=>by
  refine(hR.ov hc (j:=j) hj).trans ?_
  show bM (if j<iP c a b then E.f (f-1-c.p.toNat+j)else c.f 0)=_
  rw[if_pos hj]
 refine⟨?_,key⟩
 unfold iR Cd
 congr 1
 funext j
 by_cases hj:j<iP c a b
 ·rw[if_pos hj,if_pos hj,key j hj,uz (pM (h.q.pos _))]
 ·rw[if_neg hj,if_neg hj]
structure pL (c:Cu) (a b:Rat):Prop where
 kn:nD c
 w:∀i,0<(c.f i).d
 ab:a<b
 h0:c.k 0<=a
 h1:b<=c.k (c.n-1)
 kM:c.m+(c.p.toNat+c.p.toNat)<=40
 sk:∀i,Sz (c.k i) 60
 sa:Sz a 60
 sb:Sz b 60
theorem pL.part {c:Cu} {a b:Rat} (h:pL c a b):gj c (iR c a b):=by
 obtain⟨R0,R1,E1,E,f,l,f0,l0,s1,s2,g⟩:=Nz h.kn h.w h.ab h.h0 h.h1 h.kM h.sk h.sa h.sb
 rw[(g.eq h.kn h.w h.ab).1]
 exact g.part h.w h.ab
theorem pL.cut {c:Cu} {a b:Rat} (h:pL c a b) (K:Nat):aS P 56 K [dD (kB c) 2000 4000,.rat a 2000,.rat b 2000] [] (aJ (dD (iQ (kB c) a b) 2000 sB) []):=by
 obtain⟨R0,R1,E1,E,f,l,f0,l0,s1,s2,g⟩:=Nz h.kn h.w h.ab h.h0 h.h1 h.kM h.sk h.sa h.sb
 obtain⟨k1,k2,k3,k4,k5⟩:=id h.kn
 obtain⟨d1,d2,d3,d4,d5⟩:=id s2.q.kn
 have hp:=s2.q.p
 rw[hp]at d1 d5
 have n1:=s1.n
 have n2:=s2.n
 have r1:=s1.r
 have r2:=s2.r
 have hlo:=g.lo
 have hfl:=g.fl
 have hln:=g.ln
 have kM:=h.kM
 obtain⟨eN,eM,ea,eb,ek⟩:=g.ks
 obtain⟨_,e2⟩:=g.eq h.kn h.w h.ab
 refine sP (u:=dD (xF (mG (kB c) E.n E.k) a b f l) sK sB) (l:=[]) (aiL (c:=kB c) (a:=a) (b:=b) (f:=f) (l:=l) (ns:=fun j=>match j with
  |0=>c.n
  |1=>E1.n
  |_=>E.n) (rs:=fun j=>match j with
  |0=>R0
  |_=>R1) (ks:=fun j=>match j with
  |0=>c.k
  |1=>E1.k
  |_=>E.k) k1 k2 k3 (by show c.n<_;omega) (by show c.m<_;omega) rfl rfl (fun j hj=>?_) (fun j hj=>?_) (fun j hj=>?_) g.f1.fst g.l1.fst (by show c.p.toNat+1<=_;omega) hfl (by show l+c.p.toNat+1<=E.n;omega) K) (fun h=>trivial) rfl rfl ?_
 ·rcases(show j=0\/j=1\/j=2 by omega)with rfl|rfl|rfl
  ·exact⟨bz,show c.n<_ by omega⟩
  ·exact⟨show c.n<=E1.n by omega,show E1.n<_ by omega⟩
  ·exact⟨show c.n<=E.n by omega,show E.n<_ by omega⟩
 ·rcases(show j=0\/j=1 by omega)with rfl|rfl
  ·exact⟨n1,s1.k⟩
  ·exact⟨n2,s2.k⟩
 ·rcases(show j=0\/j=1 by omega)with rfl|rfl
  ·exact s1.j
  ·exact s2.j
 ·have eF:=g.c0.fst
  have eL:=g.d0.fst
  have hd:=g.d
  refine cL ⟨.refl _,L4 (by show c.p.toNat+1+(l-f)+(c.p.toNat+1)=dP c a b;rw[eN]) fun i hi=>?_,L4 (by show l-(f-1-c.p.toNat)=iP c a b;rw[eM];omega) fun i hi=>?_,trivial⟩
  ·show bh (.rat (jw c.p.toNat a b E.k f l i) sK) (.rat (cU c a b i) 2000)
   have e:jw c.p.toNat a b E.k f l i=cU c a b i:=by
    unfold cU jw
    rw[eF,eL,<-hd]
    by_cases g1:i<c.p.toNat+1
    ·rw[if_pos g1,if_pos g1]
    ·rw[if_neg g1,if_neg g1]
     by_cases g2:i<c.p.toNat+1+(l-f)
     ·rw[if_pos g2,if_pos g2,g.mid _ aa]
     ·rw[if_neg g2,if_neg g2]
   rw[e]
   refine dU rfl (Sz.more ?_ (show 60<=2000 by decide))
   unfold cU jw
   split
   ·exact h.sa
   ·split
    ·exact h.sk _
    ·exact h.sb
  ·have hi:i<l-(f-1-c.p.toNat):=hi
   show bh (bV (jF (kB c) E.n E.k (f-1-c.p.toNat+i)) sB) (bV (jF (kB c) (dP c a b) (cU c a b) i) sB)
   rw[e2 i aa,s2.q.ov h.kn aa]
   exact .refl _
def nJ (s:Sf) (e P:Nat) (l:List Rat) (R:Nat) (m:List Rat):Rat:=sq s.ku s.u.toNat s.kv s.v.toNat (fun i j=>ck (bM (s.f i j)) e) P l R m
theorem HD {s:Sf} {e P R:Nat} {l m:List Rat}:nJ (fU s) e R m P l=nJ s e P l R m:=(ajo (X:=fun i j=>ck (bM (s.f i j)) e)).symm
structure TW (s t:Sf):Prop where
 u:t.u=s.u
 v:t.v=s.v
 ku:Kn t.a s.u.toNat t.ku
 kv:Kn t.b s.v.toNat t.kv
 a:t.a<=s.a
 b:t.b<=s.b
 n:(t.n:Int)=(t.a:Int)-s.u-1
 m:(t.m:Int)=(t.b:Int)-s.v-1
 pos:∀i j,0<(t.f i j).d
 mu:∀i,cO (t.ku i)
 mv:∀i,cO (t.kv i)
 sub:∀QU QV,At t.a t.ku QU->At t.b t.kv QV->∃PU PV,At s.a s.ku PU/\At s.b s.kv PV/\s.ku PU<=t.ku QU/\t.ku (QU+1)<=s.ku (PU+1)/\s.kv PV<=t.kv QV/\t.kv (QV+1)<=s.kv (PV+1)/\∀e l m,l.length=s.u.toNat->m.length=s.v.toNat->nJ t e QU l QV m=nJ s e PU l PV m
structure eO (s:Sf):Prop where
 d:jW s
 u1:1<=s.u
 v1:1<=s.v
 u3:s.u<=3
 v3:s.v<=3
theorem eO.swap {s:Sf} (h:eO s):eO (fU s):=⟨h.d.swap,h.v1,h.u1,h.v3,h.u3⟩
theorem TW.swap {s t:Sf} (h:TW s t):TW (fU s) (fU t):=⟨h.v,h.u,h.kv,h.ku,h.b,h.a,h.m,h.n,fun i j=>h.pos j i,h.mv,h.mu,fun QV QU hV hU=>by
 obtain⟨PU,PV,p1,p2,p3,p4,p5,p6,p7⟩:=h.sub QU QV hU hV
 refine⟨PV,PU,p2,p1,p5,p6,p3,p4,fun e m l hm hl=>?_⟩
 rw[HD,HD];exact p7 e l m hl hm⟩
theorem eO.self {s:Sf} (h:eO s):TW s s:=⟨rfl,rfl,h.d.ok.ku,h.d.ok.kv,bz,bz,h.d.ok.n,h.d.ok.m,fun i j=>(h.d.c j).d.pos i,fun i=>(Bz ((h.d.c 0).h i)).m,fun i=>(Bz ((h.d.r 0).h i)).m,fun QU QV hU hV=>⟨QU,QV,hU,hV,Rat.le_refl,Rat.le_refl,Rat.le_refl,Rat.le_refl,fun _ _ _ _ _=>rfl⟩⟩
theorem TW.ok {s t:Sf} (h:TW s t) (hs:eO s):de t:=by
 have hu:=h.u
 have hv:=h.v
 have u3:=hs.u3
 have v3:=hs.v3
 have u1:=hs.u1
 have v1:=hs.v1
 have lI:=hs.d.lI
 have nq:=hs.d.nq
 have ha:=h.a
 have hb:=h.b
 exact⟨by rw[hu];exact h.ku,by rw[hv];exact h.kv,aa,aa,aa,aa,aa,aa,by rw[hu];exact h.n,by rw[hv];exact h.m,fun i j _ _=>h.pos i j⟩
theorem TW.CH {s t:Sf} {a b:Rat} (h:TW s t) (hs:eO s) (hab:a<b) (h0:t.ku 0<=a) (h1:b<=t.ku (t.a-1)) (ma:cO a) (mb:cO b) (j:Nat):pL (eE t j) a b:=by
 have hu:=h.u
 have u3:=hs.u3
 have u1:=hs.u1
 have lI:=hs.d.lI
 have ha:=h.a
 have hn:=h.n
 exact⟨⟨by show Kn t.a t.u.toNat t.ku;rw[hu];exact h.ku,by show 1<=t.u;omega,by show t.u<=6;omega,by show t.a<=t.u.toNat+41;omega,by show(t.n:Int)=(t.a:Int)-t.u-1;omega⟩,fun i=>h.pos i j,hab,h0,h1,by show t.n+(t.u.toNat+t.u.toNat)<=40;omega,fun i=>(h.mu i).sz,ma.sz,mb.sz⟩
theorem N3 {c:Cu} {a b:Rat} (h:pL c a b):dP c a b<=c.n/\2*c.p.toNat+2<=dP c a b:=by
 have hk:=h.kn.1
 have hl:=hk.len
 have hab:=h.ab
 have h0:=h.h0
 have h1:=h.h1
 obtain⟨f,f1,hf⟩:=fY.ex (k:=c.k) (n:=c.n) (a:=a) (i:=c.n-1) aa (by grind)
 obtain⟨l,l1,hl2⟩:=gA.ex (k:=c.k) (n:=c.n) (a:=b) (i:=c.n-c.p.toNat-1) aa (by rw[hk.last _ aa aa];exact h1)
 have hf2:c.p.toNat+1<=f:=by
  by_cases g:c.p.toNat+1<=f
  ·exact g
  ·have:=hk.first f aa;have:=hf.2.1;grind
 unfold dP
 rw[hf.fst,hl2.fst]
 omega
theorem abt {C:Rat->Prop} {c:Cu} {a b:Rat} (hk:∀i,C (c.k i)) (ha:C a) (hb:C b) (i:Nat):C (cU c a b i):=by
 unfold cU jw
 split
 ·exact ha
 ·split
  ·exact hk _
  ·exact hb
theorem TW.y6 {s t:Sf} {a b:Rat} (h:TW s t) (hs:eO s) (hab:a<b) (h0:t.ku 0<=a) (h1:b<=t.ku (t.a-1)) (ma:cO a) (mb:cO b):TW s (lT (fun c=>iR c a b) t):=by
 have hp:=fun j=>h.CH hs hab h0 h1 ma mb j
 have hc:=fun j=>(hp j).part
 have hu:=h.u
 obtain⟨k1,k2,k3,k4,k5⟩:=id (hc 0).kn
 have k1:Kn (dP (eE t 0) a b) t.u.toNat (cU (eE t 0) a b):=k1
 have k5:(iP (eE t 0) a b:Int)=(dP (eE t 0) a b:Int)-t.u-1:=k5
 rw[hu]at k1 k5
 have hn:dP (eE t 0) a b<=t.a:=(N3 (hp 0)).1
 refine⟨hu,h.v,k1,h.kv,Nat.le_trans hn h.a,h.b,k5,h.m,fun i j=>(hc j).pos i,fun i=>abt h.mu ma mb i,h.mv,fun QU QV hU hV=>?_⟩
 have hU:At (dP (eE t 0) a b) (cU (eE t 0) a b) QU:=hU
 have hw:=hU.wide
 have key:∀j,∃P,At t.a t.ku P/\bL t.a t.ku (cU (eE t 0) a b QU)=P/\t.ku P<=cU (eE t 0) a b QU/\cU (eE t 0) a b (QU+1)<=t.ku (P+1)/\∀e l,l.length=t.u.toNat->eI (cU (eE t 0) a b) t.u.toNat (fun i=>ck (bM ((iR (eE t j) a b).f i)) e) QU l=eI t.ku t.u.toNat (fun i=>ck (bM (t.f i j)) e) P l:=fun j=>by
  obtain⟨P,p1,p2,p3,p4⟩:=(hc j).sub QU hU
  exact⟨P,p1,o5 ⟨p1,p2,Rat.le_of_lt (show cU (eE t 0) a b QU<t.ku (P+1)from by have p3:cU (eE t 0) a b (QU+1)<=t.ku (P+1):=p3;grind),.inl (show cU (eE t 0) a b QU<t.ku (P+1)from by have p3:cU (eE t 0) a b (QU+1)<=t.ku (P+1):=p3;grind)⟩,p2,p3,p4⟩
 obtain⟨P,p1,p2,p3,p4,_⟩:=key 0
 obtain⟨PU,PV,q1,q2,q3,q4,q5,q6,q7⟩:=h.sub P QV p1 hV
 refine⟨PU,PV,q1,q2,Rat.le_trans q3 p3,Rat.le_trans p4 q4,q5,q6,fun e l m hl hm=>?_⟩
 rw[<-q7 e l m hl hm]
 refine Ic (X:=fun i j=>ck (bM (t.f i j)) e) (Y:=fun i j=>ck (bM ((iR (eE t j) a b).f i)) e) (p:=t.u.toNat) fun j=>?_
 obtain⟨P',_,g2,_,_,g5⟩:=key j
 have:P'=P:=by rw[<-g2,<-p2]
 rw[<-this]
 exact g5 e l (by rw[hu];exact hl)
theorem H7 {t:Sf} {i j QU QV:Nat} (ku:Kn t.a t.u.toNat t.ku) (kv:Kn t.b t.v.toNat t.kv) (hU:At t.a t.ku QU) (hV:At t.b t.kv QV) (u1:QU<=i+t.u.toNat) (u2:i<=QU) (v1:QV<=j+t.v.toNat) (v2:j<=QV) (e:Nat):nJ t e QU (bZ t.ku (i+1) t.u.toNat) QV (bZ t.kv (j+1) t.v.toNat)=ck (bM (t.f i j)) e:=by
 obtain⟨w1,w2⟩:=ku.nk hU
 obtain⟨w3,w4⟩:=kv.nk hV
 unfold nJ sq
 rw[show(fun j=>eI t.ku t.u.toNat (fun i=>ck (bM (t.f i j)) e) QU (bZ t.ku (i+1) t.u.toNat))=fun j=>ck (bM (t.f i j)) e from funext fun j=>tv (x:=fun i=>ck (bM (t.f i j)) e) hU w1 aa u1 u2]
 exact tv (x:=fun j=>ck (bM (t.f i j)) e) hV w3 aa v1 v2
theorem TW.B4 {s t:Sf} (h:TW s t) {i j:Nat} (hi:i<t.n) (hj:j<t.m):∃QU QV,At t.a t.ku QU/\At t.b t.kv QV/\i<=QU/\QU<=i+s.u.toNat/\j<=QV/\QV<=j+s.v.toNat/\∀e,nJ s e (bL s.a s.ku (t.ku QU)) (bZ t.ku (i+1) s.u.toNat) (bL s.b s.kv (t.kv QV)) (bZ t.kv (j+1) s.v.toNat)=ck (bM (t.f i j)) e:=by
 have hn:=h.n
 have hm:=h.m
 have lu:=h.ku.p1
 have lv:=h.kv.p1
 obtain⟨QU,_,a1,a2,a3,a4,a5⟩:=h.ku.piece (j:=i) aa
 obtain⟨QV,_,b1,b2,b3,b4,b5⟩:=h.kv.piece (j:=j) aa
 have hU:At t.a t.ku QU:=⟨aa,h.ku.sorted,a3⟩
 have hV:At t.b t.kv QV:=⟨aa,h.kv.sorted,b3⟩
 obtain⟨PU,PV,q1,q2,q3,q4,q5,q6,q7⟩:=h.sub QU QV hU hV
 have e1:bL s.a s.ku (t.ku QU)=PU:=o5 ⟨q1,q3,by grind,.inl (by grind)⟩
 have e2:bL s.b s.kv (t.kv QV)=PV:=o5 ⟨q2,q5,by grind,.inl (by grind)⟩
 refine⟨QU,QV,hU,hV,a1,a2,b1,b2,fun e=>?_⟩
 rw[e1,e2,<-q7 e _ _ jC jC]
 have:=H7 (t:=t) (i:=i) (j:=j) (by rw[h.u];exact h.ku) (by rw[h.v];exact h.kv) hU hV (by rw[h.u];exact a2) a1 (by rw[h.v];exact b2) b1 e
 rw[h.u,h.v]at this
 exact this
theorem afu {p q:Pl} (hp:0<p.d) (hq:0<q.d) (h:∀e,ck (bM p) e=ck (bM q) e):p=q:=by
 have e:bM p=bM q:=by
  show(⟨⟨ck (bM p) 0,ck (bM p) 1,ck (bM p) 2⟩,ck (bM p) 3⟩:Pl)=⟨⟨ck (bM q) 0,ck (bM q) 1,ck (bM q) 2⟩,ck (bM q) 3⟩
  rw[h 0,h 1,h 2,h 3]
 rw[<-uz (pM hp),<-uz (pM hq),e]
theorem TW.uniq {s t t':Sf} (h:TW s t) (h':TW s t') (ea:t'.a=t.a) (ek:∀i,i<t.a->t'.ku i=t.ku i) (eb:t'.b=t.b) (el:∀i,i<t.b->t'.kv i=t.kv i) {i j:Nat} (hi:i<t.n) (hj:j<t.m):t'.f i j=t.f i j:=by
 have hn:=h.n
 have hm:=h.m
 have u1:=h.ku.p1
 have v1:=h.kv.p1
 obtain⟨QU,QV,hU,hV,a1,a2,b1,b2,hE⟩:=h.B4 hi hj
 obtain⟨w1,w2⟩:=h.ku.nk hU
 obtain⟨w3,w4⟩:=h.kv.nk hV
 have hU':At t'.a t'.ku QU:=⟨by rw[ea];exact hU.lt,h'.ku.sorted,by rw[ek _ aa,ek _ aa];exact hU.wide⟩
 have hV':At t'.b t'.kv QV:=⟨by rw[eb];exact hV.lt,h'.kv.sorted,by rw[el _ aa,el _ aa];exact hV.wide⟩
 refine afu (h'.pos i j) (h.pos i j) fun e=>?_
 rw[<-hE e]
 obtain⟨PU,PV,q1,q2,q3,q4,q5,q6,q7⟩:=h'.sub QU QV hU' hV'
 have:=H7 (t:=t') (i:=i) (j:=j) (by rw[h'.u];exact h'.ku) (by rw[h'.v];exact h'.kv) hU' hV' (by rw[h'.u];exact a2) a1 (by rw[h'.v];exact b2) b1 e
 rw[h'.u,h'.v]at this
 rw[<-this,q7 e _ _ jC jC]
 rw[ek _ aa]at q3
 rw[ek _ aa]at q4
 rw[el _ aa]at q5
 rw[el _ aa]at q6
 have wU:=hU.wide
 have wV:=hV.wide
 have e1:bL s.a s.ku (t.ku QU)=PU:=o5 ⟨q1,q3,by grind,.inl (by grind)⟩
 have e2:bL s.b s.kv (t.kv QV)=PV:=o5 ⟨q2,q5,by grind,.inl (by grind)⟩
 rw[e1,e2]
 have f1:bZ t'.ku (i+1) s.u.toNat=bZ t.ku (i+1) s.u.toNat:=um fun q _ hq=>ek q aa
 have f2:bZ t'.kv (j+1) s.v.toNat=bZ t.kv (j+1) s.v.toNat:=um fun q _ hq=>el q aa
 rw[f1,f2]
theorem TW.rI {s t:Sf} (h:TW s t) (hs:eO s) {i j:Nat} (hi:i<t.n) (hj:j<t.m) (e:Nat):iC 6 (ck (bM (t.f i j)) e):=by
 obtain⟨QU,QV,hU,hV,a1,a2,b1,b2,hE⟩:=h.B4 hi hj
 rw[<-hE e]
 have u3:=hs.u3
 have v3:=hs.v3
 refine iC.H8 (r:=0+(bZ t.ku (i+1) s.u.toNat).length+(bZ t.kv (j+1) s.v.toNat).length) (MN (fun i=>Bz ((hs.d.r 0).h i)) (Gt h.mv) fun j'=>MN (fun i=>Bz ((hs.d.c 0).h i)) (Gt h.mu) fun i'=>((hs.d.c j').q i' e).g) ?_
 rw[jC,jC]
 omega
theorem ET {x y:Rat} (hx:iC 6 x) (hy:iC 6 y):Sz (x/y) 2000:=(hx.sz.div hy.sz).more (by decide)
theorem TW.z {s t:Sf} (h:TW s t) (hs:eO s):ny t:=by
 have e:=fun i j=>uz (pM (h.pos i j))
 refine⟨fun i _=>(h.mu i).sz.more (by decide),fun i _=>(h.mv i).sz.more (by decide),fun i j hi hj=>?_,fun i j hi hj=>?_,fun i j hi hj=>?_,fun i j hi hj=>(h.rI hs hi hj 3).sz.more (by decide)⟩
 ·rw[<-e i j];exact ET (h.rI hs hi hj 0) (h.rI hs hi hj 3)
 ·rw[<-e i j];exact ET (h.rI hs hi hj 1) (h.rI hs hi hj 3)
 ·rw[<-e i j];exact ET (h.rI hs hi hj 2) (h.rI hs hi hj 3)
theorem MQ {s:Sf} {u v:Rat} (hs:de s) (hu:¬bQ s.a s.ku u) (hv:¬bQ s.b s.kv v) (e:Nat):ck (gF (rD s u) v) e=nJ s e (bL s.a s.ku u) (List.replicate s.u.toNat u) (bL s.b s.kv v) (List.replicate s.v.toNat v):=by
 have hiv:=hs.kv.qZ hv
 have h1:=hs.m
 have h2:=hs.v0
 refine(Bt (c:=rD s u) hs.kv hv e).trans ?_
 show eI s.kv s.v.toNat (fun i=>ck (bM ((rD s u).f i)) e) (bL s.b s.kv v) (List.replicate s.v.toNat v)=eI s.kv s.v.toNat (fun j=>eI s.ku s.u.toNat (fun i=>ck (bM (s.f i j)) e) (bL s.a s.ku u) (List.replicate s.u.toNat u)) (bL s.b s.kv v) (List.replicate s.v.toNat v)
 refine JS List.length_replicate fun q hq=>?_
 show ck (bM ((rD s u).f (bL s.b s.kv v-s.v.toNat+q))) e=_
 rw[aae hs hu aa]
 exact Bt (c:=eE s (bL s.b s.kv v-s.v.toNat+q)) hs.ku hu e
theorem UB {s:Sf} {u v:Rat} {P R:Nat} (hs:de s) (hu:¬bQ s.a s.ku u) (hv:¬bQ s.b s.kv v) (hP:At s.a s.ku P) (hR:At s.b s.kv R) (p0:s.ku P<=u) (p1:u<=s.ku (P+1)) (r0:s.kv R<=v) (r1:v<=s.kv (R+1)) (e:Nat):nJ s e P (List.replicate s.u.toNat u) R (List.replicate s.v.toNat v)=nJ s e (bL s.a s.ku u) (List.replicate s.u.toNat u) (bL s.b s.kv v) (List.replicate s.v.toNat v):=
 (Ic fun j=>Du (x:=fun i=>ck (bM (s.f i j)) e) hs.ku hP p0 p1 hu).trans (Du (x:=fun j=>eI s.ku s.u.toNat (fun i=>ck (bM (s.f i j)) e) (bL s.a s.ku u) (List.replicate s.u.toNat u)) hs.kv hR r0 r1 hv)
theorem TW.pt {s t:Sf} (h:TW s t) (hs:eO s) {u v:Rat} (hu:¬bQ s.a s.ku u) (hv:¬bQ s.b s.kv v) (hu':¬bQ t.a t.ku u) (hv':¬bQ t.b t.kv v):iL t u v=iL s u v:=by
 have ht:=h.ok hs
 rw[Pj hs.d.ok hu,Pj ht hu']
 refine IU (c:=rD s u) (d:=rD t u) hv hv' fun e=>?_
 rw[MQ hs.d.ok hu hv e,MQ ht hu' hv' e]
 have iu:=ht.ku.wh hu'
 have iv:=ht.kv.wh hv'
 obtain⟨PU,PV,q1,q2,q3,q4,q5,q6,q7⟩:=h.sub _ _ iu.at_ iv.at_
 rw[q7 e _ _ (by rw[h.u];exact List.length_replicate) (by rw[h.v];exact List.length_replicate),h.u,h.v]
 exact UB hs.d.ok hu hv q1 q2 (Rat.le_trans q3 iu.lo) (Rat.le_trans iu.hi q4) (Rat.le_trans q5 iv.lo) (Rat.le_trans iv.hi q6) e
def eH (t:Sf) (a b c d:Rat):Sf:=acv (fun x=>iR x c d) (lT (fun x=>iR x a b) t)
theorem TW.cut {s t:Sf} {a b c d:Rat} (h:TW s t) (hs:eO s) (hab:a<b) (h0:t.ku 0<=a) (h1:b<=t.ku (t.a-1)) (ma:cO a) (mb:cO b) (hcd:c<d) (g0:t.kv 0<=c) (g1:d<=t.kv (t.b-1)) (mc:cO c) (md:cO d):TW s (eH t a b c d):=
 ((h.y6 hs hab h0 h1 ma mb).swap.y6 hs.swap hcd g0 g1 mc md).swap
theorem HS {c:Cu} {a b d:Rat} (h:pL c a b) (had:a<d) (hdb:d<=b):dP (iR c a b) a d=dP c a d/\∀i,cU (iR c a b) a d i=cU c a d i:=by
 have hk:=h.kn.1
 have hl:=hk.len
 have hab:=h.ab
 have h1:=h.h1
 obtain⟨f,f1,hf⟩:=fY.ex (k:=c.k) (n:=c.n) (a:=a) (i:=c.n-1) aa (by grind)
 obtain⟨l,l1,hl2⟩:=gA.ex (k:=c.k) (n:=c.n) (a:=b) (i:=c.n-1) aa h1
 obtain⟨l',l2,hl3⟩:=gA.ex (k:=c.k) (n:=c.n) (a:=d) (i:=l) hl2.1 (Rat.le_trans hdb hl2.2.1)
 have hfl':f<=l':=by
  by_cases g:f<=l'
  ·exact g
  ·have:=hf.2.2 l' aa;have:=hl3.2.1;grind
 have eN:dP c a b=c.p.toNat+1+(l-f)+(c.p.toNat+1):=by unfold dP;rw[hf.fst,hl2.fst]
 have ek:∀i,cU c a b i=if i<c.p.toNat+1 then a else if i<c.p.toNat+1+(l-f)then c.k (f+(i-(c.p.toNat+1)))else b:=fun i=>by unfold cU jw;rw[hf.fst,hl2.fst]
 have sf:∀i,f<=i->i<c.n->a<c.k i:=fun i i1 i2=>by have:=hk.mono i1 i2;have:=hf.2.1;grind
 have F:fY (dP c a b) (cU c a b) a (c.p.toNat+1):=by
  refine⟨aa,?_,fun j hj=>by rw[ek,if_pos hj];exact Rat.le_refl⟩
  rw[ek,if_neg aa]
  split
  ·exact sf _ aa (by have:=hl2.1;omega)
  ·exact hab
 have B:gA (dP c a b) (cU c a b) d (c.p.toNat+1+(l'-f)):=by
  refine⟨aa,?_,fun j hj=>?_⟩
  ·rw[ek,if_neg aa]
   split
   ·rw[show f+(c.p.toNat+1+(l'-f)-(c.p.toNat+1))=l' by omega];exact hl3.2.1
   ·exact hdb
  ·rw[ek]
   split
   ·exact had
   ·rw[if_pos aa];exact hl3.2.2 _ aa
 refine⟨?_,fun i=>?_⟩
 ·show c.p.toNat+1+(e9 (jf d (cU c a b)) (dP c a b)-e9 (iX a (cU c a b)) (dP c a b))+(c.p.toNat+1)=_
  rw[F.fst,B.fst]
  unfold dP
  rw[hf.fst,hl3.fst]
  omega
 ·show jw c.p.toNat a d (cU c a b) (e9 (iX a (cU c a b)) (dP c a b)) (e9 (jf d (cU c a b)) (dP c a b)) i=jw c.p.toNat a d c.k (e9 (iX a c.k) c.n) (e9 (jf d c.k) c.n) i
  rw[F.fst,B.fst,hf.fst,hl3.fst]
  unfold jw
  by_cases g:i<c.p.toNat+1
  ·rw[if_pos g,if_pos g]
  ·rw[if_neg g,if_neg g]
   by_cases g2:i<c.p.toNat+1+(l'-f)
   ·rw[if_pos aa,if_pos g2,ek,if_neg aa,if_pos aa]
    congr 1;omega
   ·rw[if_neg aa,if_neg g2]
theorem afU:aW 55 f55:=aT func55
theorem Vb:aW 57 f57:=aT func57
abbrev dO (a b:Rat) (n:Nat):AV:=.agg [.rat a n,.rat b n]
def lK (s:Nat):Kind (Rat×Rat):=⟨fun v=>match v with
 |.agg [x,y]=>some ((aE x,aE y),[bh x (.rat (aE x) s),bh y (.rat (aE y) s)])
 |_=>none,fun a=>dO a.1 a.2 s,fun {v a q} h hq=>by
  split at h
  ·simp only[ay,Prod.mk.injEq]at h
   obtain⟨rfl,rfl⟩:=h
   exact cL ⟨hq.1,hq.2,trivial⟩
  ·simp at h⟩
def o4 (h:Cu) (a b:Rat):Prop:=∃c,pL c a b/\h=kB c
def LV:Spec:=cA (kC (uO 2000 4000) (kC (gp 2000) (kC (gp 2000) kN))) (fun a=>dD (iQ a.1 a.2.1 a.2.2.1) 2000 sB) fun a=>[o4 a.1 a.2.1 a.2.2.1]
def GJ:aX:=nG::(56,LV)::[]
def CL:Spec:=cA (kC (uO 2000 4000) (kC (AH (lK 2000)) kN)) (fun a=>dD (iQ a.1 a.2.1.1 a.2.1.2) sK er) fun a=>[o4 a.1 a.2.1.1 a.2.1.2]
def ta:aX:=nG::(116,CN sK 4200)::(135,Dv)::(55,CL)::(57,CL)::(115,KC)::(97,BO)::[]
abbrev jx (b:Bool) (x y:Rat):AV:=bif b then .func 55 [.bg (dO x y 2000)]else .func 57 [.bg (dO x y 2000)]
theorem S5 {c:Cu} {x y:Rat}:bU T GJ [] 60 f55 (aF f55) ⟨aQ 0 [dD c 2000 4000,.bg (dO x y 2000)],[],0⟩=
  let o:Prop:=0<1;some (aj [o,bn (fun i=>.rat (c.k i) 2000) c.n 2000,l9 (fun i=>bV (c.f i) 4000) c.m 4000,2000<=2000,2000<=2000,o4 c x y,o] (aj [o] (leaf .ret [dD (iQ c x y) 2000 sB]))):=ah
theorem acy {c:Cu} {x y:Rat}:bU T GJ [] 60 f57 (aF f57) ⟨aQ 0 [dD c 2000 4000,.bg (dO x y 2000)],[],0⟩=
  let o:Prop:=0<1;some (aj [o,bn (fun i=>.rat (c.k i) 2000) c.n 2000,l9 (fun i=>bV (c.f i) 4000) c.m 4000,2000<=2000,2000<=2000,o4 c x y,o] (aj [o] (leaf .ret [dD (iQ c x y) 2000 sB]))):=ah
theorem RN {s:Sf} {x y:Rat} {b:Bool}:aH T ta [] 60 tT (before xB [1,1,1,0,1]) ⟨aQ 0 [bu s 2000 2000,jx b x y],[],0⟩=
  let z:AV:=.agg [.int .i64 0,.int .i64 0,.nil,.nil,.nil];let o:Prop:=0<1;some (aj [o,o,bn (fun i=>.rat (s.kv i) 2000) s.b sK,sK+10<=4200,4200<2^40,s.b<2^40,o] (aj [o,bn (fun i=>.rat (s.ku i) 2000) s.a 2000,bn (fun i=>.rat (s.kv i) 2000) s.b 2000,dG (fun i=>aZ (s.f i) s.m 2000) s.n 2000,1<=s.n,s.n<2^28,s.m<2^28] (leaf .normal ([.ptr 4096 0 5 0 [],jx b x y,.ptr 32768 0 5 0 [],.nil,lD s s.m,.int .i64 s.m,.int .i64 0],[(32768,⟨false,true,5,1,fun j=>if(j==0)=true then bp (.agg ((z.kids.set 1 (bp (.int .i64 s.v))).set 3 (bp (bD s.kv s.b 4200))))else z⟩),(4096,⟨false,true,5,1,fun _=>z⟩)])))):=by cases b<;>kernel_rfl
theorem adv {s:Sf} {x y:Rat} {b:Bool} {u:Int} {a n j:Nat} {k:Nat->Rat} {g:Nat->Nat->Pl}:aH T ta [23] 60 tT (before yT [1,1,0]) ⟨aA tT (tX (jx b x y) s j),oc s u a k n g j,3⟩=
  let x:List AV×aC:=(tX (jx b x y) s j,oc s u a k n g j);some (fork (decide ((j:Int)<(s.m:Int))) (leaf .normal x) (leaf (.exit 0) x)):=by cases b<;>kernel_rfl
theorem acm {s:Sf} {x y:Rat} {b:Bool} {u:Int} {a n j:Nat} {k:Nat->Rat} {g:Nat->Nat->Pl}:aH T ta [] 60 wI (before ym [1,1,1,1,0,1]) ⟨aA tT (tX (jx b x y) s j),oc s u a k n g j,3⟩=
  let c:=cK s j;let d:=iQ c x y;let z:AV:=.agg [.int .i64 u,.int .i64 s.v,bD k a 4200,bD s.kv s.b 4200,.nil];let w:AV:=.agg (z.kids.set 0 (bp (.int .i64 d.p)));let o:Prop:=0<1;let R:=bn (fun i=>.rat (s.ku i) 2000) s.a 2000;let H:=l9 (fun i=>bV (c.f i) 4000) s.n 4000;some (aj [(0:Int)<=j/\j<s.m,o] (aj [o,R,H,bh (.rat x 2000) (.rat x 2000),bh (.rat y 2000) (.rat y 2000),o4 c x y,o] (aj [o,o,bn (fun i=>.rat (d.k i) sK) d.n sK,sK+10<=4200,4200<2^40,d.n<2^40,o,o] (aj [o] (leaf .normal ([.ptr 0 0 5 0 [],jx b x y,.ptr 1 0 5 0 [],.own 2 1 0 j,lD s s.m,.int .i64 s.m,.int .i64 j,.nil,qD d.f d.m er,.int .i64 d.m,.int .i64 0],[(2,⟨true,true,1,j,fun j=>aZ (g j) n (er+er)⟩),(1,⟨false,true,5,1,fun j=>if(j==0)=true then .agg ((if((0:Nat)==0)=true then w else z).kids.set 2 (bp (bD d.k d.n 4200)))else if(j==0)=true then w else z⟩),(0,⟨false,true,5,1,fun _=>.agg [.int .i64 0,.int .i64 0,.nil,.nil,.nil]⟩)])))))):=by cases b<;>kernel_rfl
theorem XJ {s:Sf} {x y:Rat} {b:Bool} {u:Int} {a n j i:Nat} {k:Nat->Rat} {h:Nat->Pl} {g:Nat->Nat->Pl}:aH T ta [40] 60 wI [part ym [1,1,1,1,0,1,0,0]] ⟨aA wI (En (jx b x y) s n h j i),AK s u a k n h g j i,4⟩=
  let l:=er+er;let q:Int:=(i:Int)+1;let p:=h i;let o:Prop:=er<=er;let V:AV->Int->List AV:=fun v w=>[.ptr 0 0 5 0 [],jx b x y,.ptr 1 0 5 0 [],.own 2 1 0 j,lD s s.m,.int .i64 s.m,.int .i64 j,v,qD h n er,.int .i64 n,.int .i64 w];some (fork (decide ((i:Int)<n)) (aj [(0:Int)<=i/\i<n,0<1] (aj [0<1,o,o,o,o,1*12<=2^24,(i+1)*(224+1)*2<=2^47] (aj [-2^63<=q/\q<2^63] (leaf .normal (V (.own 36868 12 0 (i+1)) q,(36868,⟨true,true,12,i+1,fun r=>if r<i then bJ (dJ (h r)) l else nth [bJ (dJ p) l] (.agg [.agg [.rat 0 1,.rat 0 1,.rat 0 1],.rat 0 1]) (r-i+0)⟩)::oc s u a k n g j))))) (leaf (.exit 2) (V (.own 3 12 0 i) i,AK s u a k n h g j i))):=by cases b<;>kernel_rfl
theorem abQ {s:Sf} {x y:Rat} {b:Bool} {u:Int} {a n j i:Nat} {k:Nat->Rat} {h:Nat->Pl} {g:Nat->Nat->Pl}:aH T ta [] 60 tT (behind ym [1,1,1,1,0,1]++[part yT [1,1,1]]) ⟨aA wI (En (jx b x y) s n h j i),AK s u a k n h g j i,4⟩=
  let w:Int:=(j:Int)+1;some (aj [1*1<=2^24,(j+1)*(24+1)*2<=2^47] (aj [-2^63<=w/\w<2^63] (leaf .normal ([.ptr 0 0 5 0 [],jx b x y,.ptr 1 0 5 0 [],.own 12292 1 0 (j+1),lD s s.m,.int .i64 s.m,.int .i64 w],(12292,⟨true,true,1,j+1,fun r=>if r<j then aZ (g r) n (er+er)else nth [.ak 12 i fun i=>bJ (dJ (h (i+0))) (er+er)] .nil (r-j+0)⟩)::(oc s u a k n g j).tail)))):=by cases b<;>kernel_rfl
theorem ajd {s:Sf} {x y:Rat} {b:Bool} {u:Int} {a n j:Nat} {k:Nat->Rat} {g:Nat->Nat->Pl}:cy T ta [] 60 f54 [part xB [1,1,1,1]] ⟨aA tT (tX (jx b x y) s j),oc s u a k n g j,3⟩=
  let l:=er+er;let o:Prop:=0<1;some (aj [dG (fun i=>aZ (g (i+0)) n l) j l,j=0->n=0,j<2^28,n<2^28,o] (aj [o,o] (aj [o] (leaf .ret [bu ⟨u,s.v,a,k,s.b,s.kv,n,j,fun i j=>g (j+0) i⟩ 4200 l])))):=by cases b<;>kernel_rfl
theorem Q0:aU P LV 56:=ct fun⟨h,a,b,_⟩ K hn=>by
 obtain⟨c,hc,e⟩:o4 h a b:=hn
 subst e
 exact hc.cut K
theorem NF:bq P GJ:=cz (aI Q0 bB)
theorem aif:aU P CL 55:=ct fun⟨c,⟨x,y⟩,_⟩ K hn=>by
 have hn:o4 c x y:=hn
 refine bX (r:=aJ (dD (iQ c x y) sK er) []) hT NF hm afU rfl aV rfl 60 S5 (fun _=>?_) K []
 simp only[ag.all,az]
 (repeat' with_reducible refine And.intro ?_ ?_)
 all_goals first|omega|exact bI (by decide)|exact BS (by decide)|exact hn|skip
 exact cL ⟨.refl _,fB fun i _=>cB rfl (by decide),fB fun i _=>pT rfl (by decide),trivial⟩
theorem af4:aU P CL 57:=ct fun⟨c,⟨x,y⟩,_⟩ K hn=>by
 have hn:o4 c x y:=hn
 refine bX (r:=aJ (dD (iQ c x y) sK er) []) hT NF hm Vb rfl aV rfl 60 acy (fun _=>?_) K []
 simp only[ag.all,az]
 (repeat' with_reducible refine And.intro ?_ ?_)
 all_goals first|omega|exact bI (by decide)|exact BS (by decide)|exact hn|skip
 exact cL ⟨.refl _,fB fun i _=>cB rfl (by decide),fB fun i _=>pT rfl (by decide),trivial⟩
theorem JW:bq P ta:=cz (aI (He _ _) (aI Qx (aI aif (aI af4 (aI Ya (aI Fz bB))))))
def sN (x y:Rat) (s:Sf):Sf:=⟨s.u,s.v,dP (cK s 0) x y,cU (cK s 0) x y,s.b,s.kv,iP (cK s 0) x y,s.m,fun i j=>dJ (jF (cK s j) (dP (cK s 0) x y) (cU (cK s 0) x y) i)⟩
set_option maxHeartbeats 1000000 in
theorem acr {b:Bool} {s:Sf} {x y:Rat} (hs:∀j,o4 (cK s j) x y) (ha:s.a<2^18) (hm1:1<=s.m) (hm2:s.m<2^28) (hb:s.b<2^28) (hn1:1<=s.n) (hn2:s.n<2^28) (hN:dP (cK s 0) x y<=s.a) (K:Nat):aS P 54 K [bu s 2000 2000,jx b x y] [] (aJ (bu (sN x y s) 4200 (er+er)) []):=by
 refine fX (r:=aJ (bu (sN x y s) 4200 (er+er)) []) hT IC (by cases b<;>rfl) aV rfl (fun _ cx h00=>?_) K []
 have hk:=jk h00
 obtain⟨N,hN0⟩:∃N,N=dP (cK s 0) x y:=⟨_,rfl⟩
 obtain⟨M,hM0⟩:∃M,M=iP (cK s 0) x y:=⟨_,rfl⟩
 obtain⟨kk,hk0⟩:∃k,k=cU (cK s 0) x y:=⟨_,rfl⟩
 have hMN:M<=N:=by rw[hM0,hN0];exact Nat.le_add_right _ _
 rw[<-hN0]at hN
 have eN:∀j,(iQ (cK s j) x y).n=N:=fun j=>by rw[hN0];rfl
 have eM:∀j,(iQ (cK s j) x y).m=M:=fun j=>by rw[hM0];rfl
 have eK:∀j,(iQ (cK s j) x y).k=kk:=fun j=>by rw[hk0];rfl
 refine ax.r6 hT JW hm (x:=xB) [1,1,1,0,1] (i:=0) (y:=yT) (z:=part xB [1,1,1,1]) ah ah ah IC.dst [1,1,0] (j:=1) (x1:=ym) (zb:=part yT [1,1,1]) ah ah ah [1,1,1,1,0,1] (i2:=2) (y2:=part ym [1,1,1,1,0,1,0,0]) ah ah rfl
  hk (f1:=[]) (f2:=[23]) (f3:=[]) (f4:=[40]) (f5:=[]) 60 tT wI 3 4 (fun j:Nat=>tX (jx b x y) s j) (fun j=>oc s (nE 0 s.u j) (nE 0 N j) (nE (fun _=>0) kk j) M (fun j i=>dJ ((iQ (cK s j) x y).f i)) j) (fun j=>j<=s.m) (fun j=>j=s.m) (fun j=>s.m-j) (fun j=>j<s.m) (fun _=>False) (fun _=>False)
  (fun j (i:Nat)=>En (jx b x y) s M (iQ (cK s j) x y).f j i) (fun j i=>AK s s.u N kk M (iQ (cK s j) x y).f (fun j i=>dJ ((iQ (cK s j) x y).f i)) j i) (fun _ i=>i<=M) (fun _ i=>i=M) (fun _ i=>M-i) ⟨_,RN,?_⟩ (fun j hj=>⟨_,adv,?_⟩) (fun j hj hg=>⟨_,acm,?_⟩) (fun j hj hg i hi=>⟨_,XJ,?_⟩) (fun j hj hg i hi=>⟨_,abQ,?_⟩) (fun j hj=>?_) (fun _ _ h=>h.elim) (fun _ _ h=>h.elim)
 all_goals try simp only[ag.all,az,bk,bt,bf,Nat.add_zero]
 ·exact⟨⟨aa,aa,bI (by decide),by decide,by decide,aa,aa⟩,⟨aa,bI (by decide),bI (by decide),fc (by decide),aa,aa,aa⟩,0,Nat.zero_le _,[(0,4096),(1,32768)],by cases b<;>rfl,by cases b<;>rfl,by cases b<;>rfl,ko rfl aa aa (dh rfl rfl (.inr ⟨rfl,cL ⟨.refl _,.refl _,iJ aa,.refl _,.refl _,trivial⟩⟩) (aM trivial))⟩
 ·have re:dN [] (tX (jx b x y) s j,oc s (nE 0 s.u j) (nE 0 N j) (nE (fun x=>0) kk j) M (fun j i=>dJ ((iQ (cK s j) x y).f i)) j) (tX (jx b x y) s j) (oc s (nE 0 s.u j) (nE 0 N j) (nE (fun x=>0) kk j) M (fun j i=>dJ ((iQ (cK s j) x y).f i)) j) 3:=⟨[(0,0),(1,1),(2,2)],by cases b<;>rfl,by cases b<;>rfl,by cases b<;>rfl,dQ (aM (aM trivial))⟩
  exact⟨fun h=>⟨aa,re⟩,fun h=>⟨rfl,j,aa,re⟩⟩
 ·rw[eM,eN,eK]
  exact⟨aa,⟨aa,bI (by decide),BS (by decide),.refl _,.refl _,hs j,aa⟩,⟨aa,aa,bI (by decide),by decide,by decide,aa,aa,aa⟩,aa,0,Nat.zero_le _,[(0,0),(1,1),(2,2)],by cases b<;>rfl,by cases b<;>rfl,by cases b<;>rfl,ko rfl aa aa (dQ (aM (aM trivial)))⟩
 ·refine⟨fun h=>⟨aa,⟨aa,aa,aa,aa,aa,aa,aa⟩,aa,i+1,aa,by dsimp only;omega,[(0,0),(1,1),(2,2),(3,36868)],by cases b<;>rfl,by cases b<;>rfl,by cases b<;>rfl,b7 rfl rfl rfl (fun k hk=>qS (g:=fun i=>bJ (dJ ((iQ (cK s j) x y).f i)) (er+er)) (fun _ _=>⟨rfl,rfl⟩) rfl (.refl _) hk) (dQ (aM (aM trivial)))⟩,
   fun h=>⟨rfl,i,aa,[(0,0),(1,1),(2,2),(3,3)],by cases b<;>rfl,by cases b<;>rfl,by cases b<;>rfl,dQ (dQ (aM (aM trivial)))⟩⟩
 ·subst hi
  exact⟨⟨aa,aa⟩,aa,j+1,aa,by dsimp only;omega,[(0,0),(1,1),(2,12292)],by cases b<;>rfl,by cases b<;>rfl,by cases b<;>rfl,b7 rfl rfl rfl (fun k hk=>rowAt (g:=fun j=>aZ (fun i=>dJ ((iQ (cK s j) x y).f i)) i (er+er)) hk rfl rfl) (aM (aM trivial))⟩
 ·subst hj
  refine ax.gZ ((aG.fin hT JW hm 60 ajd (by cases b<;>kernel_rfl) ?_).mono fun _ _ h=>.inl h)
  simp only[ag.all,az,agj hm1,Nat.add_zero]
  refine⟨⟨fc bz,aa,aa,aa,aa⟩,aa,aa,?_⟩
  unfold sN
  rw[<-hN0,<-hM0,<-hk0]
  have e:(fun i j=>dJ ((iQ (cK s j) x y).f i))=fun i j=>dJ (jF (cK s j) N kk i):=by
   funext i j
   show dJ (jF (cK s j) (dP (cK s j) x y) (cU (cK s j) x y) i)=_
   rw[hN0,hk0];rfl
  rw[e]
  exact .refl _
theorem Lr:aW 10 f10:=aT func10
theorem Se:aW 53 f53:=aT func53
structure uY (t:Sf) (x y:Rat):Prop where
 ex:∃s,eO s/\TW s t
 xy:x<y
 h0:t.ku 0<=x
 h1:y<=t.ku (t.a-1)
 mx:cO x
 my:cO y
def Ow:Spec:=cA (kC (ir 2000 2000) (kC (zV (lK 2000)) kN)) (fun a=>bu (lT (fun c=>iR c a.2.1.2.1 a.2.1.2.2) a.1) 2000 2000) fun a=>[a.2.1.1=55\/a.2.1.1=57,uY a.1 a.2.1.2.1 a.2.1.2.2]
def jm (x y r:Rat):Bool:=decide (x<=r/\r<=y)
def IK:Spec:=cA (kC (lK 2000) (kC (gp 2000) kN)) (fun a=>.bool (jm a.1.1 a.1.2 a.2.1)) fun _=>[]
def LK:Spec:=cA (kC (lK 2000) kN) (fun a=>.bool (decide (a.1.1<=a.1.2))) fun _=>[]
def Jt:Spec:=cA (kC (lK 2000) (kC (lK 2000) kN)) (fun a=>.bool (jm a.2.1.1 a.2.1.2 a.1.1&&jm a.2.1.1 a.2.1.2 a.1.2)) fun _=>[]
def Ri:aX:=nG::(74,Ew)::gW
def Mj:aX:=nG::(191,IK)::[]
def kJ (x y d e:Rat):Bool:=decide (x<y/\d<=x/\y<=e)
def Oe:Spec:=cA (kC (lK 2000) (kC (lK 2000) kN)) (fun a=>.bool (kJ a.1.1 a.1.2 a.2.1.1 a.2.1.2)) fun _=>[]
def P8:aX:=nG::(133,LK)::(134,Jt)::gW
def NY:aX:=[(16,iZ T (nG::Dp) [] 60 f16)]
def Ft:aX:=nG::(52,Cl)::(53,Oe)::(54,Ow)::(27,OX)::NY
abbrev vD:List Nat:=[6,7,3,4,5]
theorem SS {x y r:Rat}:bU T (nG::gW) [10] 60 f191 (aF f191) ⟨aQ 0 [dO x y 2000,.rat r 2000],[],0⟩=
  let c3:Bool:=decide (ep x r<=0);let c2:Prop:=0<1;let c1:Prop:=2000<2^42;some (fork c3 (aj [c2,c2,c1,c1,c3=true,c2,c2,c1,c1] (leaf ret [AV.bool (bif true then decide (ep r y<=0)else false)])) (aj [c2,c2,c1,c1,c3=false] (leaf ret [AV.bool false]))):=ah
theorem Rl {x y:Rat}:bU T Ri [11] 60 f133 (aF f133) ⟨aQ 0 [dO x y 2000],[],0⟩=
  let c4:Bool:=bif true then true else false;let c3:Prop:=2000<2^42;let c2:Prop:=0<1;let c1:Prop:=2000<2^44;some (fork true (aj [c2,c1,c2,c1,c4=true,c2,c2,c3,c3] (leaf ret [AV.bool (bif true then decide (ep x y<=0)else false)])) (aj [c2,c1,c2,c1,c4=false] (leaf ret [AV.bool false]))):=ah
theorem U1 {x y d e:Rat}:bU T Mj [9] 60 f134 (aF f134) ⟨aQ 0 [dO x y 2000,dO d e 2000],[],0⟩=
  let c7:AV:=rat d 2000;let c6:AV:=rat e 2000;let c5:Prop:=2000<=2000;let c4:Prop:=0<1;let c3:Bool:=jm (aE c7) (aE c6) x;let c2:Prop:=bh c7 (rat (aE c7) 2000);let c1:Prop:=bh c6 (rat (aE c6) 2000);some (fork c3 (aj [c4,c4,c2,c1,c5,c3=true,c4,c4,c2,c1,c5] (leaf ret [AV.bool (bif true then jm (aE c7) (aE c6) y else false)])) (aj [c4,c4,c2,c1,c5,c3=false] (leaf ret [AV.bool false]))):=ah
theorem age {x y d e:Rat}:bU T P8 [7,15] 60 f53 (aF f53) ⟨aQ 0 [dO x y 2000,dO d e 2000],[],0⟩=
  let c12:AV:=rat d 2000;let c11:AV:=rat e 2000;let c9:Bool:=bif true then !decide (x=y)else false;let c8:Prop:=2000<2^42;let c7:Prop:=0<1;let c2:Rat:=aE (rat x 2000);let c1:Rat:=aE (rat y 2000);let c10:Bool:=decide (c2<=c1);let c6:Prop:=bh (rat y 2000) (rat c1 2000);let c5:Prop:=bh (rat x 2000) (rat c2 2000);let c4:ag (List AV):=leaf ret [AV.bool (bif true then jm (aE c12) (aE c11) c2&&jm (aE c12) (aE c11) c1 else false)];let c3:List Prop:=[c7,c7,c5,c6,bh c12 (rat (aE c12) 2000),bh c11 (rat (aE c11) 2000)];some (fork c10 (fork c9 (aj (c7::c5::c6::(c10=true)::c7::c7::c8::c8::(c9=true)::c3) c4) (aj [c7,c5,c6,c10=true,c7,c7,c8,c8,c9=false] (leaf ret [AV.bool false]))) (fork false (aj (c7::c5::c6::(c10=false)::(false=true)::c3) c4) (aj [c7,c5,c6,c10=false,false=false] (leaf ret [AV.bool false])))):=ah
theorem ahI {s:Sf} {x y z w:Rat}:aH T Ft [24,29] 60 vD (before (aF f10) [1,1,1]) ⟨aQ 0 [bu s 2000 2000,dO x y 2000,dO z w 2000],[],0⟩=
  let c35:AV:=int i64 0;let c34:Nat:=(bp (dO z w 2000)).size;let c33:Nat:=(bp (dO x y 2000)).size;let c28:Nat:=(bp (bu s 2000 2000)).size;let c27:Prop:=bn (fun i=>rat (s.kv i) 2000) s.b sJ;let c26:Prop:=bn (fun i=>rat (s.ku i) 2000) s.a sJ;let c25:AV:=rat z 2000;let c24:AV:=rat w 2000;let c23:Prop:=dG (fun i=>aZ (s.f i) s.m 2000) s.n sJ;let c22:AV:=ptr 12288 0 5 0 [];let c21:Int:=(2:Int)^63;let c20:AV:=rat y 2000;let c19:AV:=rat x 2000;let c16:Int:=(↑s.a:Int)-1;let c12:Nat:=Int.toNat (0:Int);let c11:Int:=(↑s.b:Int)-1;let c10:Prop:=de (Sf.mk s.u s.v s.a (fun i=>aE (rat (s.ku i) 2000)) s.b (fun i=>aE (rat (s.kv i) 2000)) s.n (dn (aZ (s.f 0) s.m 2000)) (fq fun i=>aZ (s.f i) s.m 2000));let c6:Prop:=0<1;let c5:Nat:=Max.max 2000 2000;let c30:Prop:=bh c20 (rat (aE c20) 2000);let c29:Prop:=bh c19 (rat (aE c19) 2000);let c18:AV:=rat (fJ (s.kv c12) (s.kv c11.toNat)) c5;let c17:AV:=rat (ff (s.kv c12) (s.kv c11.toNat)) c5;let c15:AV:=agg [c35,c35,nil,nil,nil];let c14:Nat×au:=(8192,au.mk false true c34 1 fun x=>agg [c25,c24]);let c13:Nat×au:=(4096,au.mk false true c33 1 fun x=>agg [c19,c20]);let c9:List AV:=[ptr 0 0 c28 0 [],ptr 4096 0 c33 0 [],ptr 8192 0 c34 0 []];let c8:AV:=rat (fJ (s.ku c12) (s.ku c16.toNat)) c5;let c7:AV:=rat (ff (s.ku c12) (s.ku c16.toNat)) c5;let c1:Nat×au:=(0,au.mk false true c28 1 fun x=>agg [int i64 s.u,int i64 s.v,ak 3 s.a fun i=>rat (s.ku i) 2000,ak 3 s.b fun i=>rat (s.kv i) 2000,ak 1 s.n fun i=>ak 12 s.m fun i_1=>agg [agg [rat (s.f i i_1).n.x 2000,rat (s.f i i_1).n.y 2000,rat (s.f i i_1).n.z 2000],rat (s.f i i_1).d 2000]]);let c32:Prop:=bh c8 (rat (aE c8) 2000);let c31:Prop:=bh c7 (rat (aE c7) 2000);let c4:Bool:=bif !true then true else !kJ (aE c19) (aE c20) (aE c8) (aE c7);let c3:ag (List AV×aC):=leaf normal (c22::c35::c9,[c14,c13,c1,(12288,au.mk false true 5 1 fun x=>c15)]);let c2:ag (List AV×aC):=aj [c6] (leaf ret (c22::int i64 7::c9,[c14,c13,c1,(12288,au.mk false true 5 1 fun j=>if(j==0)=true then bp (agg c15.kids)else c15)]));some (aj [c6,c6,((↑s.a:Int)==0)=false,(0:Int)<=0/\c12<s.a,-c21<=c16/\c16<c21,(0:Int)<=c16/\c16.toNat<s.a,c6,c6,c6,c6,((↑s.b:Int)==0)=false,(0:Int)<=0/\c12<s.b,-c21<=c11/\c11<c21,(0:Int)<=c11/\c11.toNat<s.b,c6,c6,c6,c6,c6,c6,c6,c6,c6] (fork c4 (aj [c6,c26,c27,c23,c10,c6,c6,c29,c30,c32,c31,c4=true] (fork true c2 c3)) (aj [c6,c26,c27,c23,c10,c6,c6,c29,c30,c32,c31,c4=false,c6,c6,bh c25 (rat (aE c25) 2000),bh c24 (rat (aE c24) 2000),bh c18 (rat (aE c18) 2000),bh c17 (rat (aE c17) 2000)] (fork (bif false then true else !kJ (aE c25) (aE c24) (aE c18) (aE c17)) c2 c3)))):=ah
theorem Xh {s:Sf} {x y z w:Rat}:cy T Ft [] 60 f10 [part (aF f10) [1,1,1]] ⟨aA vD [.ptr 0 0 5 0 [],.int .i64 0,.ptr 1 0 5 0 [],.bg (dO x y 2000),.bg (dO z w 2000)],[(3,⟨false,false,6,1,fun _=>dO z w 2000⟩),(2,⟨false,false,6,1,fun _=>dO x y 2000⟩),(1,⟨false,true,5,1,fun _=>bu s 2000 2000⟩),(0,⟨false,true,5,1,fun _=>.agg [.int .i64 0,.int .i64 0,.nil,.nil,.nil]⟩)],4⟩=
  let o:Prop:=0<1;let A:=lT (fun c=>iR c x y) s;let B:=lT (fun c=>iR c z w) (fU A);let L:Rat->Prop:=fun r=>bh (.rat r 2000) (.rat r 2000);some (aj (o::(A9 s++[L x,L y,55=55\/55=57,uY s x y,o])) (aj (o::(oJ A++(A9 (fU A)++(L z::L w::(57=55\/57=57)::uY (fU A) z w::(oJ B++[o]))))) (aj [o] (leaf .ret [bu (fU B) 2000 2000,.int .i64 0])))):=ah
theorem afM {s:Sf} {x y z w:Rat}:kH T f10 .ret ⟨aA vD [.ptr 12288 0 5 0 [],.int .i64 7,.ptr 0 0 5 0 [],.ptr 4096 0 6 0 [],.ptr 8192 0 6 0 []],[(8192,⟨false,true,6,1,fun _=>dO z w 2000⟩),(4096,⟨false,true,6,1,fun _=>dO x y 2000⟩),(0,⟨false,true,5,1,fun _=>bu s 2000 2000⟩),(12288,⟨false,true,5,1,fun j=>if(j==0)=true then bp (.agg (AV.kids (.agg [.int .i64 0,.int .i64 0,.nil,.nil,.nil])))else .agg [.int .i64 0,.int .i64 0,.nil,.nil,.nil]⟩)],12289⟩=
  some (aj [(0:Nat)<1] (leaf ret [agg [int i64 0,int i64 0,nil,nil,nil],int i64 7])):=ah
theorem Hz {a b:Rat}:decide (ep a b<=0)=decide (a<=b):=decide_eq_decide.2 Nd
theorem Y2:aU P IK 191:=ct fun⟨⟨x,y⟩,r,_⟩ K _=>by
 refine bX (r:=aJ (.bool (jm x y r)) []) hT (cz iN) hm (aT func191) rfl aV rfl 60 SS (fun _=>?_) K []
 have m1:2000<2^42:=by decide
 simp only[ag.all,az,Hz,bk,bt,cond_true]
 refine⟨fun h=>⟨⟨aa,aa,m1,m1,h,aa,aa,m1,m1⟩,fF (decide_eq_decide.2 ⟨fun g=>⟨h,g⟩,fun g=>g.2⟩)⟩,fun h=>⟨⟨aa,aa,m1,m1,h⟩,fF (decide_eq_false fun g=>h g.1).symm⟩⟩
theorem aiD:aU P LK 133:=ct fun⟨⟨x,y⟩,_⟩ K _=>by
 refine bX (r:=aJ (.bool (decide (x<=y))) []) hT (cz (aI LL iN)) hm (aT func133) rfl aV rfl 60 Rl (fun _=>?_) K []
 have m1:2000<2^42:=by decide
 have m2:2000<2^44:=by decide
 simp only[ag.all,az,Hz,cond_true]
 exact⟨fun _=>⟨⟨aa,m2,aa,m2,trivial,aa,aa,m1,m1⟩,.refl _⟩,fun h=>absurd h (by decide)⟩
theorem aie:bq P Mj:=cz (aI Y2 bB)
theorem aiG:aU P Jt 134:=ct fun⟨⟨x,y⟩,⟨d,e⟩,_⟩ K _=>by
 refine bX (r:=aJ (.bool (jm d e x&&jm d e y)) []) hT aie hm (aT func134) rfl aV rfl 60 U1 (fun _=>?_) K []
 simp only[ag.all,az,cond_true]
 have hd:aE (rat d 2000)=d:=rfl
 have he:aE (rat e 2000)=e:=rfl
 rw[hd,he]
 refine⟨fun h=>⟨⟨aa,aa,.refl _,.refl _,aa,h,aa,aa,.refl _,.refl _,aa⟩,fF (by rw[h];rfl)⟩,fun h=>⟨⟨aa,aa,.refl _,.refl _,aa,h⟩,fF (by rw[h];rfl)⟩⟩
theorem aiK:bq P P8:=cz (aI aiD (aI aiG iN))
theorem Xb:aU P Oe 53:=ct fun⟨⟨x,y⟩,⟨d,e⟩,_⟩ K _=>by
 refine bX (r:=aJ (.bool (kJ x y d e)) []) hT aiK hm Se rfl aV rfl 60 age (fun _=>?_) K []
 have m1:2000<2^42:=by decide
 simp only[ag.all,az,cond_true,Bool.not_eq_true',bk,bt,Bool.not_eq_false']
 have hr:∀{r:Rat},aE (rat r 2000)=r:=rfl
 simp only[hr]
 refine⟨fun h=>⟨fun g=>⟨⟨aa,.refl _,.refl _,h,aa,aa,m1,m1,g,aa,aa,.refl _,.refl _,.refl _,.refl _⟩,fF ?_⟩,fun g=>⟨⟨aa,.refl _,.refl _,h,aa,aa,m1,m1,g⟩,fF (decide_eq_false fun k=>by rw[g]at k;exact Rat.lt_irrefl k.1).symm⟩⟩,
  fun h=>⟨fun g=>absurd g (by decide),fun _=>⟨⟨aa,.refl _,.refl _,h,trivial⟩,fF (decide_eq_false fun k=>h (Rat.le_of_lt k.1)).symm⟩⟩⟩
 unfold kJ jm
 rw[<-Bool.decide_and]
 exact decide_eq_decide.2 ⟨fun k=>⟨by grind,k.1.1,k.2.2⟩,fun k=>⟨⟨k.2.1,by grind⟩,⟨by grind,k.2.2⟩⟩⟩
theorem TW.cnt {s t:Sf} (h:TW s t) (hs:eO s):t.a<=20/\t.b<=20/\1<=t.n/\1<=t.m/\t.n<=20/\t.m<=20:=by
 have hn:=h.n
 have hm:=h.m
 have lu:=h.ku.len
 have lv:=h.kv.len
 have lI:=hs.d.lI
 have nq:=hs.d.nq
 have ha:=h.a
 have hb:=h.b
 have u1:=hs.u1
 have v1:=hs.v1
 omega
theorem uY.tw {t:Sf} {x y:Rat} (h:uY t x y):∃s,eO s/\TW s t/\TW s (lT (fun c=>iR c x y) t):=by
 obtain⟨s,h1,h2⟩:=h.ex
 exact⟨s,h1,h2,h2.y6 h1 h.xy h.h0 h.h1 h.mx h.my⟩
theorem Uv:aU P Ow 54:=ct fun⟨s,⟨g,⟨x,y⟩⟩,_⟩ K hn=>by
 obtain⟨hg,hx⟩:(g=55\/g=57)/\uY s x y:=hn
 obtain⟨s0,h0,h1,h2⟩:=hx.tw
 obtain⟨c1,c2,c3,c4,c5,c6⟩:=h1.cnt h0
 have hz:=h2.z h0
 have hp:=fun j=>h1.CH h0 hx.xy hx.h0 hx.h1 hx.mx hx.my j
 have up:bh (bu (sN x y s) 4200 (er+er)) (bu (lT (fun c=>iR c x y) s) 2000 2000):=by
  refine cL ⟨.refl _,.refl _,fB fun i hi=>dU rfl (hz.ku i hi),fB fun i hi=>dU rfl (hz.kv i hi),fB fun i hi=>fB fun j hj=>?_,trivial⟩
  have hi:i<iP (eE s 0) x y:=hi
  have hj:j<s.m:=hj
  have e:(lT (fun c=>iR c x y) s).f i j=(sN x y s).f i j:=by
   show(if i<iP (eE s 0) x y then dJ (jF (kB (eE s j)) (dP (eE s 0) x y) (cU (eE s 0) x y) i)else s.f 0 j)=_
   rw[if_pos hi];rfl
  have z1:=hz.x i j hi hj
  have z2:=hz.y i j hi hj
  have z3:=hz.z i j hi hj
  have z4:=hz.d i j hi hj
  show bh (bJ ((sN x y s).f i j) (er+er)) (bJ ((lT (fun c=>iR c x y) s).f i j) 2000)
  rw[e]at z1 z2 z3 z4 ⊢
  exact cL ⟨cL ⟨dU rfl z1,dU rfl z2,dU rfl z3,trivial⟩,dU rfl z4,trivial⟩
 have key:∀b,aS P 54 K [bu s 2000 2000,jx b x y] [] (aJ (bu (lT (fun c=>iR c x y) s) 2000 2000) []):=fun b=>sP (u:=bu (sN x y s) 4200 (er+er)) (l:=[]) (acr (fun j=>⟨eE s j,hp j,rfl⟩) aa c4 aa aa c3 aa (N3 (hp 0)).1 K) (fun h=>trivial) rfl rfl up
 rcases hg with rfl|rfl
 ·exact key true
 ·exact key false
theorem adF:bq P NY:=aI (jn hT (cz OI) hm IX _ _) bB
theorem Qf:bq P Ft:=cz (aI EI (aI Xb (aI Uv (aI abr adF))))
def ic (t:Sf) (x y z w:Rat):Int:=if kJ x y (t.ku 0) (t.ku (t.a-1))&&kJ z w (t.kv 0) (t.kv (t.b-1))then 0 else 7
def ki (t:Sf) (x y z w:Rat):Sf:=if ic t x y z w=0 then eH t x y z w else Gh
def E7:Spec:=cA (kC (ir 2000 2000) (kC (lK 2000) (kC (lK 2000) kN))) (fun a=>.tuple [bu (ki a.1 a.2.1.1 a.2.1.2 a.2.2.1.1 a.2.2.1.2) 2000 2000,.int .i64 (ic a.1 a.2.1.1 a.2.1.2 a.2.2.1.1 a.2.2.1.2)]) fun a=>[∃s,eO s/\TW s a.1,cO a.2.1.1,cO a.2.1.2,cO a.2.2.1.1,cO a.2.2.1.2]
theorem ajx (x y:Rat):(bp (dO x y 2000)).size=6:=ah
theorem TW.oJ {s t:Sf} {l:List Prop} (h:TW s t) (hs:eO s) (hl:az l):az (oJ t++l):=by
 obtain⟨c1,c2,c3,c4,c5,c6⟩:=h.cnt hs
 exact KI (fun g=>aa) aa aa aa aa (h.z hs) hl
set_option maxHeartbeats 1000000 in
theorem acQ {s t:Sf} {x y z w:Rat} (hs:eO s) (h:TW s t) (mx:cO x) (my:cO y) (mz:cO z) (mw:cO w) (K:Nat):aS P 10 K [bu t 2000 2000,dO x y 2000,dO z w 2000] [] (aJ (.tuple [bu (ki t x y z w) 2000 2000,.int .i64 (ic t x y z w)]) []):=by
 refine fX (r:=aJ (.tuple [bu (ki t x y z w) 2000 2000,.int .i64 (ic t x y z w)]) []) hT Lr rfl aV rfl (fun _ cx h00=>?_) K []
 have hk:=jk h00
 obtain⟨c1,c2,c3,c4,c5,c6⟩:=h.cnt hs
 have lu:=h.ku.len
 have lv:=h.kv.len
 have pu:=h.ku.p1
 have pv:=h.kv.p1
 have e1:((t.a:Int)-1).toNat=t.a-1:=aa
 have e2:((t.b:Int)-1).toNat=t.b-1:=aa
 have hle:t.ku 0<=t.ku (t.a-1):=h.ku.mono (Nat.zero_le _) aa
 have hle2:t.kv 0<=t.kv (t.b-1):=h.kv.mono (Nat.zero_le _) aa
 have hmin:fJ (t.ku 0) (t.ku (t.a-1))=t.ku 0:=by unfold fJ;split<;>grind
 have hmax:ff (t.ku 0) (t.ku (t.a-1))=t.ku (t.a-1):=by unfold ff;split<;>grind
 have hmin2:fJ (t.kv 0) (t.kv (t.b-1))=t.kv 0:=by unfold fJ;split<;>grind
 have hmax2:ff (t.kv 0) (t.kv (t.b-1))=t.kv (t.b-1):=by unfold ff;split<;>grind
 have hok:de t:=h.ok hs
 have hr:ic t x y z w=7->uw T f10 vD (.tuple [bu (ki t x y z w) 2000 2000,.int .i64 (ic t x y z w)]) ([.ptr 12288 0 5 0 [],.int .i64 7,.ptr 0 0 5 0 [],.ptr 4096 0 6 0 [],.ptr 8192 0 6 0 []],[(8192,⟨false,true,6,1,fun _=>dO z w 2000⟩),(4096,⟨false,true,6,1,fun _=>dO x y 2000⟩),(0,⟨false,true,5,1,fun _=>bu t 2000 2000⟩),(12288,⟨false,true,5,1,fun j=>if(j==0)=true then bp (.agg (AV.kids (.agg [.int .i64 0,.int .i64 0,.nil,.nil,.nil])))else .agg [.int .i64 0,.int .i64 0,.nil,.nil,.nil]⟩)]):=fun he=>by
  refine⟨[_,_,_,_,_],[],12289,_,rfl,rfl,rfl,afM,rfl,⟨⟨aa,fun i _=>rfl⟩,⟨aa,fun i _=>rfl⟩,⟨aa,fun i _=>rfl⟩,⟨aa,fun i _=>th rfl rfl⟩,trivial⟩,?_⟩
  simp only[ag.all,az]
  refine⟨Nat.zero_lt_one,?_,bS he.symm,trivial⟩
  rw[show ki t x y z w=Gh from if_neg (by rw[he];decide)]
  exact WQ
 have hgo:kJ x y (t.ku 0) (t.ku (t.a-1))=true->kJ z w (t.kv 0) (t.kv (t.b-1))=true->ic t x y z w=0:=fun g1 g2=>if_pos (by rw[g1,g2];rfl)
 have hno1:kJ x y (t.ku 0) (t.ku (t.a-1))=false->ic t x y z w=7:=fun g1=>if_neg (by rw[g1,Bool.false_and];decide)
 have hno2:kJ z w (t.kv 0) (t.kv (t.b-1))=false->ic t x y z w=7:=fun g1=>if_neg (by rw[g1,Bool.and_false];decide)
 refine ax.hole [1,1,1] ah (aG.bE hT Qf hm 60 vD ahI (jM Lr.dst) ?_)
 simp only[ag.all,az,Bool.not_true,cond_false,e1,e2,Int.toNat_zero,hmin,hmax,hmin2,hmax2,Ms,ajx,Bool.not_eq_true',Bool.not_eq_false',Nat.max_self]
 have vr:∀{r:Rat},aE (rat r 2000)=r:=rfl
 simp only[vr]
 have n0:(0:Nat)<1:=Nat.zero_lt_one
 have b1:bn (fun i=>rat (t.ku i) 2000) t.a sJ:=bI (by decide)
 have b2:bn (fun i=>rat (t.kv i) 2000) t.b sJ:=bI (by decide)
 have b3:dG (fun i=>aZ (t.f i) t.m 2000) t.n sJ:=fc (by decide)
 refine⟨⟨n0,n0,beq_eq_false_iff_ne.2 aa,aa,aa,aa,n0,n0,n0,n0,beq_eq_false_iff_ne.2 aa,aa,aa,aa,n0,n0,n0,n0,n0,n0,n0,n0,n0⟩,
  fun g=>⟨⟨n0,b1,b2,b3,hok,n0,n0,.refl _,.refl _,.refl _,.refl _,g⟩,fun _=>⟨n0,fun s' hs'=>(hr (hno1 g)).fin (L1:=[]) hk hs'⟩,fun k=>absurd k (by decide)⟩,
  fun g=>⟨⟨n0,b1,b2,b3,hok,n0,n0,.refl _,.refl _,.refl _,.refl _,g,n0,n0,.refl _,.refl _,.refl _,.refl _⟩,fun g2=>⟨n0,fun s' hs'=>(hr (hno2 g2)).fin (L1:=[]) hk hs'⟩,fun g2 s' hs'=>?_⟩⟩
 have he:=hgo g g2
 obtain⟨x1,x2,x3⟩:x<y/\t.ku 0<=x/\y<=t.ku (t.a-1):=of_decide_eq_true g
 obtain⟨z1,z2,z3⟩:z<w/\t.kv 0<=z/\w<=t.kv (t.b-1):=of_decide_eq_true g2
 rw[show behind (aF f10) [1,1,1]=[]from by kernel_rfl]
 refine ax.ja (s2:=⟨aA vD [.ptr 0 0 5 0 [],.int .i64 0,.ptr 1 0 5 0 [],.ptr 2 0 6 0 [],.ptr 3 0 6 0 []],[(3,⟨false,true,6,1,fun _=>dO z w 2000⟩),(2,⟨false,true,6,1,fun _=>dO x y 2000⟩),(1,⟨false,true,5,1,fun _=>bu t 2000 2000⟩),(0,⟨false,true,5,1,fun _=>.agg [.int .i64 0,.int .i64 0,.nil,.nil,.nil]⟩)],4⟩) (dN.le ⟨[(0,12288),(1,0),(2,4096),(3,8192)],rfl,rfl,rfl,aM (aM (aM (aM trivial)))⟩ hs' hk) ((?_:ax P cx f10.ntmps (part (aF f10) [1,1,1]) _ (dH cx (Fin T f10 (.tuple [bu (ki t x y z w) 2000 2000,.int .i64 (ic t x y z w)])))).mono fun e s' h=>by cases e<;>exact h)
 refine ax.tE (t:=4) (k:=2) rfl rfl rfl rfl rfl ?_
 refine ax.tE (t:=5) (k:=3) rfl rfl rfl rfl rfl ?_
 refine ax.gZ ((aG.fin hT Qf hm 60 Xh ah ?_).mono fun _ _ h=>.inl h)
 have hA:=h.y6 hs x1 x2 x3 mx my
 have hB:=hA.swap.y6 hs.swap z1 z2 z3 mz mw
 simp only[ag.all]
 refine⟨⟨n0,Qj ⟨.refl _,.refl _,.inl trivial,⟨⟨s,hs,h⟩,x1,x2,x3,mx,my⟩,n0⟩⟩,⟨n0,hA.oJ hs (Qj ⟨.refl _,.refl _,.inr trivial,⟨⟨fU s,hs.swap,hA.swap⟩,z1,z2,z3,mz,mw⟩,hB.oJ hs.swap n0⟩)⟩,n0,?_,bS he.symm,trivial⟩
 rw[show ki t x y z w=eH t x y z w from if_pos he]
 exact .refl _
theorem NZ:aU P E7 10:=ct fun⟨t,⟨x,y⟩,⟨z,w⟩,_⟩ K hn=>by
 obtain⟨⟨s,h1,h2⟩,h3,h4,h5,h6⟩:=hn
 exact acQ h1 h2 h3 h4 h5 h6 K
def BE:Spec:=cA (kC (kL 2000) kN) (fun a=>bD (br a.1.2 a.1.1) (aP a.1.2 a.1.1) 2000) fun a=>[a.1.1<2^40,∀i,i<aP a.1.2 a.1.1->Sz (br a.1.2 a.1.1 i) 2000]
theorem U6:aU P BE 68:=ct fun⟨⟨n,k⟩,_⟩ K hn=>by
 have h1:n<2^40:=hn.1
 have h2:∀i,i<aP k n->Sz (br k n i) 2000:=hn.2
 exact sP (u:=ls (br k n) (aP k n)) (l:=[bn (fun i=>.rat (k i) 2000) n sJ,n<2^40]) (Kg K [bD k n 2000] [] _ rfl) (fun _=>⟨bI (by decide),h1⟩) rfl rfl (fB fun i hi=>dU rfl (h2 i hi))
theorem MS:aW 15 f15:=aT func15
def Iw:aX:=[(69,iZ T (sG::oX) [] 60 f69)]
def s7:aX:=nG::(52,Cl)::(68,BE)::(10,E7)::Iw
abbrev xH:Code:=aF f15
abbrev zf:Code:=part xH [1,1,1,1,0,1,0,0]
abbrev xA:Code:=part zf [1,1,0,0]
abbrev rZ:List Nat:=[1,3,4,5,21,22]
abbrev Ba (F G:Nat->Rat) (n m i q:Nat):List AV:=[.ptr 0 0 5 0 [],.own 1 5 0 q,bD F n 2000,bD G m 2000,.int .i64 ((n-1:Nat):Int),.int .i64 i]
abbrev pq (s:Sf) (g:Nat->Sf) (q:Nat):aC:=[(1,⟨true,true,5,q,fun q=>bu (g q) 2000 2000⟩),(0,⟨false,true,5,1,fun _=>bu s 2000 2000⟩)]
abbrev wJ:List Nat:=[1,3,4,5,21,22,6,27,28]
abbrev DN (F G:Nat->Rat) (n m i q j:Nat):List AV:=[.ptr 0 0 5 0 [],.own 1 5 0 q,bD F n 2000,bD G m 2000,.int .i64 ((n-1:Nat):Int),.int .i64 i,.int .i64 i,.int .i64 ((m-1:Nat):Int),.int .i64 j]
def fe (s:Sf) (q:Nat):Sf:=eH s (br s.ku s.a (q/(aP s.kv s.b-1))) (br s.ku s.a (q/(aP s.kv s.b-1)+1)) (br s.kv s.b (q%(aP s.kv s.b-1))) (br s.kv s.b (q%(aP s.kv s.b-1)+1))
def HX:Spec:=cA (kC (ir 2000 2000) kN) (fun a=>.ak 5 ((aP a.1.ku a.1.a-1)*(aP a.1.kv a.1.b-1)) fun q=>bu (fe a.1 q) 2000 2000) fun a=>[eO a.1]
theorem Sx {s:Sf}:aH T s7 [200012] 60 rZ (before xH [1,1,1,1,0,1]) ⟨aQ 0 [bu s 2000 2000],[],0⟩=
  let c4:Prop:=0<1;let c2:Nat:=(bp (bu s 2000 2000)).size;let c1:Nat:=aP (fun i=>aE (rat (s.ku i) 2000)) s.a;let c3:Int:=(↑c1:Int)-1;some (aj [c4,bn (fun i=>rat (s.ku i) 2000) s.a sJ,bn (fun i=>rat (s.kv i) 2000) s.b sJ,dG (fun i=>aZ (s.f i) s.m 2000) s.n sJ,de (Sf.mk s.u s.v s.a (fun i=>aE (rat (s.ku i) 2000)) s.b (fun i=>aE (rat (s.kv i) 2000)) s.n (dn (aZ (s.f 0) s.m 2000)) (fq fun i=>aZ (s.f i) s.m 2000))] (aj [(!true)=false] (aj [c4,bn (fun i=>rat (s.ku i) 2000) s.a 2000,s.a<2^40,∀(i:Nat),i<c1->Sz (br (fun i=>aE (rat (s.ku i) 2000)) s.a i) 2000,c4,bn (fun i=>rat (s.kv i) 2000) s.b 2000,s.b<2^40,∀(i:Nat),i<aP (fun i=>aE (rat (s.kv i) 2000)) s.b->Sz (br (fun i=>aE (rat (s.kv i) 2000)) s.b i) 2000] (aj [-(2:Int)^63<=c3/\c3<2^63] (leaf normal ([ptr 0 0 c2 0 [],nil,ak 3 c1 fun i=>rat (br (fun i=>aE (rat (s.ku i) 2000)) s.a i) 2000,ak 3 (aP (fun i=>aE (rat (s.kv i) 2000)) s.b) fun i=>rat (br (fun i=>aE (rat (s.kv i) 2000)) s.b i) 2000,int i64 c3,int i64 0],[(0,au.mk false true c2 1 fun x=>bu s 2000 2000)])))))):=ah
theorem aeR {s:Sf} {F G:Nat->Rat} {n m i q:Nat} {g:Nat->Sf}:aH T s7 [23] 60 rZ (before zf [1,1,0]) ⟨aA rZ (Ba F G n m i q),pq s g q,2⟩=
  let c2:Int:=(↑(n-1):Int);let c1:List AV×aC:=([ptr 0 0 5 0 [],own 1 5 0 q,ak 3 n fun i=>rat (F i) 2000,ak 3 m fun i=>rat (G i) 2000,int i64 c2,int i64 (↑i:Int)],[(1,au.mk true true 5 q fun q=>agg [int i64 (g q).u,int i64 (g q).v,ak 3 (g q).a fun i=>rat ((g q).ku i) 2000,ak 3 (g q).b fun i=>rat ((g q).kv i) 2000,ak 1 (g q).n fun i=>ak 12 (g q).m fun i_1=>bJ ((g q).f i i_1) 2000]),(0,au.mk false true 5 1 fun x=>bu s 2000 2000)]);some (fork (decide ((↑i:Int)<c2)) (leaf normal c1) (leaf (exit 0) c1)):=ah
theorem Y7 {s:Sf} {F G:Nat->Rat} {n m i q:Nat} {g:Nat->Sf}:aH T s7 [] 60 wJ (before xA [1,1]) ⟨aA rZ (Ba F G n m i q),pq s g q,2⟩=
  let c1:Int:=(↑m:Int)-1;some (aj [-(2:Int)^63<=c1/\c1<2^63] (leaf normal ([ptr 0 0 5 0 [],own 1 5 0 q,ak 3 n fun i=>rat (F i) 2000,ak 3 m fun i=>rat (G i) 2000,int i64 (↑(n-1):Int),int i64 (↑i:Int),int i64 (↑i:Int),int i64 c1,int i64 0],[(1,au.mk true true 5 q fun q=>agg [int i64 (g q).u,int i64 (g q).v,ak 3 (g q).a fun i=>rat ((g q).ku i) 2000,ak 3 (g q).b fun i=>rat ((g q).kv i) 2000,ak 1 (g q).n fun i=>ak 12 (g q).m fun i_1=>bJ ((g q).f i i_1) 2000]),(0,au.mk false true 5 1 fun x=>bu s 2000 2000)]))):=ah
theorem aiR {s:Sf} {F G:Nat->Rat} {n m i q j:Nat} {g:Nat->Sf}:aH T s7 [29] 60 wJ [part xA [1,1,0,0]] ⟨aA wJ (DN F G n m i q j),pq s g q,2⟩=
  let c20:AV:=int i64 (↑(n-1):Int);let c18:AV:=ptr 0 0 5 0 [];let c17:AV:=ak 3 n fun i=>rat (F i) 2000;let c16:AV:=ak 3 m fun i=>rat (G i) 2000;let c15:Int:=(↑j:Int);let c14:Int:=(↑(m-1):Int);let c13:Prop:=0<1;let c10:Int:=(2:Int)^63;let c9:Int:=(↑i:Int);let c6:Sf:=Sf.mk s.u s.v s.a (fun i=>aE (rat (s.ku i) 2000)) s.b (fun i=>aE (rat (s.kv i) 2000)) s.n (dn (aZ (s.f 0) s.m 2000)) (fq fun i=>aZ (s.f i) s.m 2000);let c3:Nat:=Max.max 2000 2000;let c2:List (Nat×au):=[(0,au.mk false true 5 1 fun x=>bu s 2000 2000)];let c21:AV:=int i64 c9;let c19:Int:=c9+1;let c4:Int:=c15+1;let c8:AV:=rat (ff (G c15.toNat) (G c4.toNat)) c3;let c7:AV:=rat (fJ (G c15.toNat) (G c4.toNat)) c3;let c5:Nat:=c19.toNat;let c12:AV:=rat (fJ (F c9.toNat) (F c5)) c3;let c11:AV:=rat (ff (F c9.toNat) (F c5)) c3;let c1:Sf:=ki c6 (aE c12) (aE c11) (aE c7) (aE c8);some (fork (decide (c15<c14)) (aj [c13,(0:Int)<=c9/\c9.toNat<n,-c10<=c19/\c19<c10,(0:Int)<=c19/\c5<n,c13,(0:Int)<=c15/\c15.toNat<m,-c10<=c4/\c4<c10,(0:Int)<=c4/\c4.toNat<m,c13,bn (fun i=>rat (s.ku i) 2000) s.a 2000,bn (fun i=>rat (s.kv i) 2000) s.b 2000,dG (fun i=>aZ (s.f i) s.m 2000) s.n 2000,bh c12 (rat (aE c12) 2000),bh c11 (rat (aE c11) 2000),bh c7 (rat (aE c7) 2000),bh c8 (rat (aE c8) 2000),∃s,eO s/\TW s c6,cO (aE c12),cO (aE c11),cO (aE c7),cO (aE c8),c13] (aj [c13,(1:Nat)*5<=2^24,(q+1)*((88:Nat)+1)*2<=2^47] (aj [-c10<=c4/\c4<c10] (leaf normal ([c18,own 139266 5 0 (q+1),c17,c16,c20,c21,c21,int i64 c14,int i64 c4],(139266,au.mk true true 5 (q+1) fun i=>if i<q then bu (g i) 2000 2000 else nth [agg [int i64 c1.u,int i64 c1.v,ak 3 c1.a fun i=>rat (c1.ku i) 2000,ak 3 c1.b fun i=>rat (c1.kv i) 2000,ak 1 c1.n fun i=>aZ (c1.f i) c1.m 2000]] (agg [int i64 0,int i64 0,nil,nil,nil]) (i-q+0))::c2))))) (leaf (exit 2) ([c18,own 1 5 0 q,c17,c16,c20,c21,c21,int i64 c14,int i64 c15],(1,au.mk true true 5 q fun q=>agg [int i64 (g q).u,int i64 (g q).v,ak 3 (g q).a fun i=>rat ((g q).ku i) 2000,ak 3 (g q).b fun i=>rat ((g q).kv i) 2000,ak 1 (g q).n fun i=>ak 12 (g q).m fun i_1=>bJ ((g q).f i i_1) 2000])::c2))):=ah
theorem agM {s:Sf} {F G:Nat->Rat} {n m i q j:Nat} {g:Nat->Sf}:aH T s7 [] 60 rZ (behind xA [1,1]++[part zf [1,1,1]]) ⟨aA wJ (DN F G n m i q j),pq s g q,2⟩=
  let c1:Int:=(↑i:Int)+1;some (aj [-(2:Int)^63<=c1/\c1<2^63] (leaf normal ([ptr 0 0 5 0 [],own 1 5 0 q,ak 3 n fun i=>rat (F i) 2000,ak 3 m fun i=>rat (G i) 2000,int i64 (↑(n-1):Int),int i64 c1],[(1,au.mk true true 5 q fun q=>agg [int i64 (g q).u,int i64 (g q).v,ak 3 (g q).a fun i=>rat ((g q).ku i) 2000,ak 3 (g q).b fun i=>rat ((g q).kv i) 2000,ak 1 (g q).n fun i=>ak 12 (g q).m fun i_1=>bJ ((g q).f i i_1) 2000]),(0,au.mk false true 5 1 fun x=>bu s 2000 2000)]))):=ah
theorem acp {s:Sf} {F G:Nat->Rat} {n m i q:Nat} {g:Nat->Sf}:cy T s7 [] 60 f15 [part xH [1,1,1,1,1]] ⟨aA rZ (Ba F G n m i q),pq s g q,2⟩=
  some (leaf ret [ak 5 q fun i=>agg [int i64 (g (i+0)).u,int i64 (g (i+0)).v,ak 3 (g (i+0)).a fun i_1=>rat ((g (i+0)).ku i_1) 2000,ak 3 (g (i+0)).b fun i_1=>rat ((g (i+0)).kv i_1) 2000,ak 1 (g (i+0)).n fun i_1=>ak 12 (g (i+0)).m fun i_2=>agg [agg [rat ((g (i+0)).f i_1 i_2).n.x 2000,rat ((g (i+0)).f i_1 i_2).n.y 2000,rat ((g (i+0)).f i_1 i_2).n.z 2000],rat ((g (i+0)).f i_1 i_2).d 2000]]]):=ah
theorem ae9:bq P Iw:=aI (jn hT (kW qM) hm (aT func69) _ _) bB
theorem LW:bq P s7:=cz (aI EI (aI U6 (aI NZ ae9)))
theorem mB {C:Rat->Prop} {n p:Nat} {k:Nat->Rat} (hk:Kn n p k) (h:∀i,C (k i)) {i:Nat} (hi:i<aP k n):C (br k n i):=by
 have hl:=hk.len
 by_cases e:i+1<aP k n
 ·obtain⟨s,_,h2,_⟩:=BT hk.sorted e
  rw[<-h2];exact h s
 ·obtain⟨m,hm2⟩:∃m,n=m+1:=⟨n-1,aa⟩
  rw[hm2]at hi e ⊢
  obtain⟨_,_,e3⟩:=oo (k:=k) (n:=m)
  rw[show i=aP k (m+1)-1 by omega,e3]
  exact h m
theorem BH {n p:Nat} {k:Nat->Rat} (hk:Kn n p k) {i:Nat} (hi:i+1<aP k n):fJ (br k n i) (br k n (i+1))=br k n i/\ff (br k n i) (br k n (i+1))=br k n (i+1)/\kJ (br k n i) (br k n (i+1)) (k 0) (k (n-1))=true:=by
 obtain⟨s,h1,h2,h3⟩:=BT hk.sorted hi
 have hw:=h1.wide
 have hl:=h1.lt
 rw[<-h2,<-h3]
 exact⟨by unfold fJ;grind,by unfold ff;grind,decide_eq_true ⟨hw,hk.mono (Nat.zero_le _) aa,hk.mono (show s+1<=n-1 by omega) aa⟩⟩
set_option maxHeartbeats 1000000 in
theorem agN {s:Sf} (hs:eO s) (K:Nat):aS P 15 K [bu s 2000 2000] [] (aJ (.ak 5 ((aP s.ku s.a-1)*(aP s.kv s.b-1)) fun q=>bu (fe s q) 2000 2000) []):=by
 have h:=hs.self
 obtain⟨c1,c2,c3,c4,c5,c6⟩:=h.cnt hs
 have hok:=hs.d.ok
 have hN:=mX (k:=s.ku) (n:=s.a)
 have hM:=mX (k:=s.kv) (n:=s.b)
 obtain⟨N,hN0⟩:∃N,N=aP s.ku s.a:=⟨_,rfl⟩
 obtain⟨M,hM0⟩:∃M,M=aP s.kv s.b:=⟨_,rfl⟩
 have hN1:1<=N:=by
  have:=h.ku.len
  obtain⟨m,hm2⟩:∃m,s.a=m+1:=⟨s.a-1,aa⟩
  rw[hN0,hm2];exact oo.1
 have hM1:1<=M:=by
  have:=h.kv.len
  obtain⟨m,hm2⟩:∃m,s.b=m+1:=⟨s.b-1,aa⟩
  rw[hM0,hm2];exact oo.1
 have n0:(0:Nat)<1:=Nat.zero_lt_one
 have hP:∀i,i<N-1->(M-1)*i<=400:=fun i hi=>by
  have:=Nat.mul_le_mul (show M-1<=20 by omega) (show i<=20 by omega)
  omega
 refine fX (r:=aJ (.ak 5 ((aP s.ku s.a-1)*(aP s.kv s.b-1)) fun q=>bu (fe s q) 2000 2000) []) hT MS rfl aV rfl (fun _ cx h00=>?_) K []
 have hk:=jk h00
 rw[<-hN0,<-hM0]
 have re:∀{q:Nat},jN 2 [(0,0),(1,1)] (pq s (fe s) q) (pq s (fe s) q):=fun {q}=>dQ (aM trivial)
 refine ax.r6 hT LW hm (x:=xH) [1,1,1,1,0,1] (i:=0) (y:=zf) (z:=part xH [1,1,1,1,1]) ah ah ah MS.dst [1,1,0] (j:=1) (x1:=xA) (zb:=part zf [1,1,1]) ah ah ah [1,1] (i2:=2) (y2:=part xA [1,1,0,0]) ah ah rfl
  hk (f1:=[200012]) (f2:=[23]) (f3:=[]) (f4:=[29]) (f5:=[]) 60 rZ wJ 2 2 (fun i:Nat=>Ba (br s.ku s.a) (br s.kv s.b) N M i ((M-1)*i)) (fun i=>pq s (fe s) ((M-1)*i)) (fun i=>i<=N-1) (fun i=>i=N-1) (fun i=>N-1-i) (fun i=>i<N-1) (fun _=>False) (fun _=>False)
  (fun i (j:Nat)=>DN (br s.ku s.a) (br s.kv s.b) N M i ((M-1)*i+j) j) (fun i j=>pq s (fe s) ((M-1)*i+j)) (fun _ j=>j<=M-1) (fun _ j=>j=M-1) (fun _ j=>M-1-j) ⟨_,Sx,?_⟩ (fun i hi=>⟨_,aeR,?_⟩) (fun i hi hg=>⟨_,Y7,?_⟩) (fun i hi hg j hj=>⟨_,aiR,?_⟩) (fun i hi hg j hj=>⟨_,agM,?_⟩) (fun i hi=>?_) (fun _ _ h=>h.elim) (fun _ _ h=>h.elim)
 ·simp only[ag.all,az,Ms]
  refine⟨⟨n0,bI (by decide),bI (by decide),fc (by decide),hok⟩,rfl,⟨n0,bI (by decide),aa,fun i hi=>(mB h.ku h.mu hi).sz.more (by decide),n0,bI (by decide),aa,fun i hi=>(mB h.kv h.mv hi).sz.more (by decide)⟩,?_,0,Nat.zero_le _,[(0,0)],rfl,?_,rfl,?_⟩
  ·show-2^63<=(aP s.ku s.a:Int)-1/\(aP s.ku s.a:Int)-1<2^63
   omega
  ·show _=List.map (nB [(0,0)]) [.ptr 0 0 5 0 [],.own 1 5 0 0,bD (br s.ku s.a) N 2000,bD (br s.kv s.b) M 2000,.int .i64 ((N-1:Nat):Int),.int .i64 ((0:Nat):Int)]
   rw[show((N-1:Nat):Int)=(N:Int)-1 by omega,hN0,hM0];rfl
  ·exact ko rfl aa aa (aM trivial)
 ·simp only[ag.all,az,bk,bt]
  exact⟨fun g=>⟨aa,[(0,0),(1,1)],rfl,rfl,rfl,re⟩,fun g=>⟨rfl,i,aa,[(0,0),(1,1)],rfl,rfl,rfl,re⟩⟩
 ·simp only[ag.all,az]
  refine⟨aa,0,Nat.zero_le _,[(0,0),(1,1)],rfl,?_,rfl,re⟩
  rw[show(M:Int)-1=((M-1:Nat):Int) by omega];rfl
 ·have hj:j<=M-1:=hj
  have hg:i<N-1:=hg
  have h400:=hP i hg
  simp only[ag.all,az,bk,bt,Nat.max_self,bf]
  refine⟨fun g=>?_,fun g=>⟨rfl,j,aa,[(0,0),(1,1)],rfl,rfl,rfl,re⟩⟩
  have ei:((i:Int)+1).toNat=i+1:=aa
  have ej:((j:Int)+1).toNat=j+1:=aa
  obtain⟨u1,u2,u3⟩:=BH h.ku (i:=i) (by rw[<-hN0];omega)
  obtain⟨v1,v2,v3⟩:=BH h.kv (i:=j) (by rw[<-hM0];omega)
  have vr:∀{r:Rat},aE (rat r 2000)=r:=rfl
  simp only[ei,ej,u1,u2,v1,v2,vr]
  have he:ic s (br s.ku s.a i) (br s.ku s.a (i+1)) (br s.kv s.b j) (br s.kv s.b (j+1))=0:=if_pos (by rw[u3,v3];rfl)
  have hz:ki s (br s.ku s.a i) (br s.ku s.a (i+1)) (br s.kv s.b j) (br s.kv s.b (j+1))=fe s ((M-1)*i+j):=by
   refine(if_pos he).trans ?_
   unfold fe
   rw[<-hM0,Nat.mul_add_div aa,Nat.div_eq_of_lt aa,Nat.mul_add_mod,Nat.mod_eq_of_lt aa]
   rfl
  refine⟨⟨n0,aa,aa,aa,aa,aa,aa,aa,aa,bI (by decide),bI (by decide),fc (by decide),.refl _,.refl _,.refl _,.refl _,⟨s,hs,h⟩,mB h.ku h.mu aa,mB h.ku h.mu aa,mB h.kv h.mv aa,mB h.kv h.mv aa,n0⟩,⟨n0,aa,aa⟩,aa,j+1,aa,by dsimp only;omega,[(0,0),(1,139266)],rfl,rfl,rfl,b7 rfl rfl rfl (fun u hu=>qS (g:=fun q=>bu (fe s q) 2000 2000) (fun _ _=>⟨rfl,rfl⟩) rfl ?_ hu) (aM trivial)⟩
  rw[<-hz]
  exact .refl _
 ·subst hj
  simp only[ag.all,az]
  exact⟨aa,i+1,aa,by dsimp only;omega,[(0,0),(1,1)],rfl,rfl,rfl,re⟩
 ·have hi:i=N-1:=hi
  subst hi
  refine ax.gZ ((aG.fin hT LW hm 60 acp ah ?_).mono fun _ _ h=>.inl h)
  simp only[ag.all,az]
  rw[Nat.mul_comm (N-1)]
  exact .refl _
theorem ajt:aU P HX 15:=ct fun⟨s,_⟩ K hn=>agN (show eO s from hn) K
theorem Tj:aW 130 f130:=aT func130
theorem Sw:aW 131 f131:=aT func131
theorem aeO {q r:Rat} {n m:Nat}:bU T rV [8] 60 f130 (aF f130) ⟨aQ 0 [.rat q n,.rat r m],[],0⟩=
  let c1:Prop:=0<1;some (aj [c1,c1,m<2^41,n<2^41] (fork (decide (ep r q<0)) (aj [c1,c1] (aj [c1] (leaf ret [rat r m]))) (aj [c1,c1] (aj [c1] (leaf ret [rat q n]))))):=ah
theorem aiY {q r:Rat} {n m:Nat}:bU T rV [8] 60 f131 (aF f131) ⟨aQ 0 [.rat q n,.rat r m],[],0⟩=
  let c1:Prop:=0<1;some (aj [c1,c1,m<2^41,n<2^41] (fork (decide (ep r q>0)) (aj [c1,c1] (aj [c1] (leaf ret [rat r m]))) (aj [c1,c1] (aj [c1] (leaf ret [rat q n]))))):=ah
theorem aiE {q r:Rat}:decide (ep q r<0)=decide (q<r):=by unfold ep;by_cases h:q<r<;>by_cases h':r<q<;>simp[h,h']
theorem aba {q r:Rat}:decide (ep q r>0)=decide (r<q):=by
 unfold ep
 by_cases h:q<r
 ·have:¬r<q:=by grind
  simp[h,this]
 ·by_cases h':r<q<;>simp[h,h']
theorem aev {q r:Rat} {n m:Nat} (hn:n<2^41) (hm':m<2^41) (K:Nat):aS P 130 K [.rat q n,.rat r m] [] (aJ (.rat (fJ q r) (max n m)) []):=by
 refine bX hT vu hm Tj rfl aV rfl 60 aeO (fun _=>?_) K []
 rw[aiE]
 simp only[ag.all,az,bk,bt]
 (repeat' with_reducible first|refine And.intro ?_ ?_|intro _)
 all_goals first|omega|skip
 ·rename_i h;unfold fJ;rw[if_pos h];exact ey (Nat.le_max_right _ _)
 ·rename_i h;unfold fJ;rw[if_neg h];exact ey (Nat.le_max_left _ _)
theorem Tk {q r:Rat} {n m:Nat} (hn:n<2^41) (hm':m<2^41) (K:Nat):aS P 131 K [.rat q n,.rat r m] [] (aJ (.rat (ff q r) (max n m)) []):=by
 refine bX hT vu hm Sw rfl aV rfl 60 aiY (fun _=>?_) K []
 rw[aba]
 simp only[ag.all,az,bk,bt]
 (repeat' with_reducible first|refine And.intro ?_ ?_|intro _)
 all_goals first|omega|skip
 ·rename_i h;unfold ff;rw[if_pos h];exact ey (Nat.le_max_right _ _)
 ·rename_i h;unfold ff;rw[if_neg h];exact ey (Nat.le_max_left _ _)
def LC:aX:=[(130,jS dR dR Qe (b2 41)),(131,jS dR dR Kv (b2 41))]
theorem Vp:bq P LC:=aI (kK fun _ _ K hn=>aev (ga hn).1 (ga hn).2 K) (aI (kK fun _ _ K hn=>Tk (ga hn).1 (ga hn).2 K) bB)
end Go.Am.B
