/- Curves of drawn ones by insertions: valid, and their numbers are short. -/
import Derived.Test.YtnniljlepppdpaaGreatY39
import Derived.Test.YtnniljlepppdpaaGreatZ2
import Derived.Test.YtnniljlepppdpaaGreatY38
import Derived.Test.YtnniljlepppdpaaGreatY37
set_option linter.unusedVariables false
noncomputable section
namespace Go.Am.B
open Go Go.Am.N AV ag ak IntKind
structure gO (c:Cu) (s:Nat):Prop where
 kn:dz c
 pos:∀i,0<(c.f i).d
 kd:∀i,fH (c.k i)
 sx:∀i,Sz (b9 (c.f i)).n.x s
 sy:∀i,Sz (b9 (c.f i)).n.y s
 sz:∀i,Sz (b9 (c.f i)).n.z s
 sd:∀i,Sz (c.f i).d s
theorem I5 {h:Pl} (hd:h.d≠0):b9 (fu h)=h:=by
 obtain⟨⟨x,y,z⟩,d⟩:=h
 have key:∀x:Rat,d*(x/d)=x:=fun x=>by rw[Rat.div_def,Rat.mul_comm d,Rat.mul_assoc,Rat.inv_mul_cancel _ hd,Rat.mul_one]
 unfold fu b9
 dsimp only
 rw[key,key,key]
theorem Pc {c:Cu} {t:Rat} {a i:Nat} (hc:dz c) (hp:∀i,0<(c.f i).d) (h0:c.k 0<t) (h1:t<c.k (c.n-1)) (hlo:c.k a<=t) (hhi:t<c.k (a+1)) (ha:a+1<c.n):0<(nj c t a i).d:=by
 obtain⟨g1,g2⟩:=hc.1.oy h0 h1 hlo hhi ha
 exact agQ (n:=c.n) hc.1.sorted hlo hhi aa fun i=>hp i
theorem oJ {x:Rat} (h:0<x):x≠0:=fun e=>by rw[e]at h;exact absurd h Rat.lt_irrefl
theorem gO.ins {c:Cu} {s:Nat} {t:Rat} (h:gO c s) (ht:fH t) (he:fN c t=0):gO (jM c t) (2*s+61):=by
 obtain⟨e1,e2,e3,e4⟩:=A8 he
 obtain⟨k1,k2,k3,k4,k5⟩:=id h.kn
 obtain⟨a1,a2,a3⟩:=oZ k1 e1 e2
 obtain⟨g1,g2⟩:=k1.oy e1 e2 a1 a2 a3
 rw[show jM c t=vl c t (bL c.n c.k t)from if_pos he]
 have hpos:∀i,0<(nj c t (bL c.n c.k t) i).d:=fun i=>Pc h.kn h.pos e1 e2 a1 a2 a3
 have hl:∀i,b9 (fu (nj c t (bL c.n c.k t) i))=nj c t (bL c.n c.k t) i:=fun i=>I5 (oJ (hpos i))
 refine⟨⟨k1.dx e1 e2 a1 a2 a3 e3,k2,k3,show c.n+1<=c.p.toNat+41 by omega,show((c.m+1:Nat):Int)=((c.n+1:Nat):Int)-c.p-1 by omega⟩,hpos,Pq h.kd ht,fun i=>?_,fun i=>?_,fun i=>?_,fun i=>?_⟩
 ·show Sz (b9 (fu (nj c t (bL c.n c.k t) i))).n.x _
  rw[hl];exact B4 (n:=c.n) k1.sorted a1 a2 aa h.kd ht h.sx
 ·show Sz (b9 (fu (nj c t (bL c.n c.k t) i))).n.y _
  rw[hl];exact B4 (n:=c.n) k1.sorted a1 a2 aa h.kd ht h.sy
 ·show Sz (b9 (fu (nj c t (bL c.n c.k t) i))).n.z _
  rw[hl];exact B4 (n:=c.n) k1.sorted a1 a2 aa h.kd ht h.sz
 ·exact B4 (n:=c.n) k1.sorted a1 a2 aa h.kd ht h.sd
theorem gO.Rk {c:Cu} {s r:Nat} (h:gO c s):bV (fun i=>.rat (c.k i) r) c.n 2000:=fun i _=>cV rfl ((h.kd i).sz.more (by decide))
theorem gO.x {c:Cu} {s:Nat} (h:gO c s) (i:Nat):Sz (c.f i).n.x (s+s)/\Sz (c.f i).n.y (s+s)/\Sz (c.f i).n.z (s+s):=by
 have e:=FD (oJ (h.pos i))
 have d:(b9 (c.f i)).d=(c.f i).d:=rfl
 refine⟨?_,?_,?_⟩
 ·rw[<-e];exact(h.sx i).div (d▸h.sd i)
 ·rw[<-e];exact(h.sy i).div (d▸h.sd i)
 ·rw[<-e];exact(h.sz i).div (d▸h.sd i)
theorem gO.YG {c:Cu} {s r:Nat} (h:gO c s) (hs:s<=1000):fI (fun i=>bU (c.f i) r) c.m 2000:=fun i _=>by
 obtain⟨a,b,d⟩:=h.x i
 exact cu ⟨cu ⟨cV rfl (a.more aa),cV rfl (b.more aa),cV rfl (d.more aa),trivial⟩,cV rfl ((h.sd i).more aa),trivial⟩
def ue (c:Cu) (t:Nat->Rat):Nat->Cu
 |0=>c
 |r+1=>jM (ue c t r) (t r)
def nu (c:Cu) (t:Nat->Rat):Nat->Int
 |0=>0
 |r+1=>if nu c t r=0 then fN (ue c t r) (t r)else nu c t r
def Ju:Nat->Nat
 |0=>5
 |r+1=>2*Ju r+61
theorem abV {c:Cu} {t:Nat->Rat} {r:Nat} (h:nu c t (r+1)=0):nu c t r=0/\fN (ue c t r) (t r)=0:=by
 unfold nu at h
 split at h
 ·rename_i g;exact⟨g,h⟩
 ·rename_i g;exact absurd h g
theorem O5 {c:Cu} {t:Nat->Rat} (hc:gO c 5) (ht:∀i,fH (t i)):∀{r:Nat},nu c t r=0->gO (ue c t r) (Ju r)
 |0,_=>hc
 |r+1,h=>by
  obtain⟨h1,h2⟩:=abV h
  exact(O5 hc ht h1).ins (ht r) h2
theorem O8 {c:Cu} {t:Nat->Rat} {r:Nat} (h:nu c t r=0) (he:fN (ue c t r) (t r)=0):nu c t (r+1)=0:=(if_pos h:nu c t (r+1)=_).trans he
def fL (g:Nat->Bool):Nat->Nat
 |0=>0
 |n+1=>if fL g n<n then fL g n else if g n then n else n+1
theorem CK {g:Nat->Bool}:∀{n:Nat},(∀j,j<n->g j=false)->fL g n=n
 |0,_=>rfl
 |n+1,h=>by
  rw[fL,CK fun j hj=>h j (by omega),if_neg (by omega),h n (by omega)];rfl
theorem xh {g:Nat->Bool} {i:Nat} (hi:g i=true) (hb:∀j,j<i->g j=false):∀{n:Nat},i<n->fL g n=i
 |0,h=>by omega
 |n+1,h=>by
  by_cases c:i=n
  ·subst c
   rw[fL,CK hb,if_neg (by omega),if_pos hi]
  ·rw[fL,xh hi hb (n:=n) (by omega),if_pos (by omega)]
theorem Kn.split {N p a:Nat} {K:Nat->Rat} {t:Rat} (h:Kn N p K) (h0:K 0<t) (h1:t<K (N-1)) (hlo:K a<=t) (hhi:t<K (a+1)) (ha:a+1<N) (ht:bF K t N=p):
  (∀i,i<=a->a<i+p->K i=t)/\(∀i,i+p<=a->K i<t)/\p+p<=a:=by
 obtain⟨g1,g2⟩:=h.oy h0 h1 hlo hhi ha
 have hp:=h.p1
 have run:∀i,i<=a->a<i+p->K i=t:=fun i hi h2=>JG h.sorted hhi ha hlo hi (by rw[ht];exact h2)
 refine⟨run,fun i hi=>?_,?_⟩
 ·have m:=h.mono (show i<=a by omega) (by omega)
  by_cases e:K i=t
  ·exfalso
   have hb:∀j,i<=j->j<i+(p+1)->K j=t:=fun j hj1 hj2=>by
    have a1:=h.mono hj1 (by omega)
    have a2:=h.mono (show j<=a by omega) (by omega)
    grind
   have b1:=Iq hb
   have b2:=F4 (k:=K) (t:=t) (n:=i+(p+1)) (m:=N-(i+(p+1)))
   rw[show i+(p+1)+(N-(i+(p+1)))=N by omega]at b2
   omega
  ·grind
 ·by_cases c:p+p<=a
  ·exact c
  ·have e:=run p g1 (by omega)
   rw[h.first p (Nat.le_refl _)]at e
   rw[e]at h0
   exact absurd h0 Rat.lt_irrefl
theorem Gd {k:Nat->Rat} {t:Rat} {q:Nat}:∀{m:Nat},bF (dx k t q) t (q+1+m)=bF k t (q+m)+1
 |0=>by
  have pre:∀i,i<=q->bF (dx k t q) t i=bF k t i:=fun i=>by
   induction i with
   |zero=>intro _;rfl
   |succ i ih=>intro h;rw[jV,jV,ih aa,iq aa]
  show bF (dx k t q) t (q+1)=bF k t q+1
  rw[jV,pre q bp,nD,if_pos rfl]
 |m+1=>by
  rw[<-Nat.add_assoc,jV,Gd (m:=m),gX aa,<-Nat.add_assoc,jV,show q+1+m-1=q+m by omega];omega
theorem Kn.My {n p:Nat} {k:Nat->Rat} {t:Rat} (h:Kn n p k) (h0:k 0<t) (h1:t<k (n-1)):bF k t n<=p:=by
 obtain⟨a1,a2,a3⟩:=oZ h h0 h1
 obtain⟨g1,g2⟩:=h.oy h0 h1 a1 a2 a3
 have hp:=h.p1
 generalize bL n k t=a at*
 have:=DP (k:=k) (t:=t) (lo:=a+1-p) (hi:=a+1) aa (n:=n) fun j hj hjt=>by
  constructor
  ·by_cases c:a+1-p<=j
   ·exact c
   ·exfalso
    have hj0:1<=j:=by
     by_cases c2:1<=j
     ·exact c2
     ·rw[show j=0 by omega]at hjt;rw[hjt]at h0;exact absurd h0 Rat.lt_irrefl
    have m:=h.mult j hj0 aa
    have m2:=h.mono (show j+p<=a by omega) aa
    grind
  ·by_cases c:j<a+1
   ·exact c
   ·have:=h.mono (show a+1<=j by omega) hj
    grind
 omega
abbrev cX (c:Cu) (t:Rat):Nat->Cu:=ue c fun _=>t
structure rV (c:Cu) (t:Rat) (r:Nat):Prop where
 e:nu c (fun _=>t) r=0
 p:(cX c t r).p=c.p
 n:(cX c t r).n=c.n+r
 m:(cX c t r).m=c.m+r
 s:bF (cX c t r).k t (cX c t r).n=bF c.k t c.n+r
 k0:(cX c t r).k 0=c.k 0
 k1:(cX c t r).k ((cX c t r).n-1)=c.k (c.n-1)
theorem I6 {c:Cu} {t:Rat} (h0:c.k 0<t) (h1:t<c.k (c.n-1)) (h2:(bF c.k t c.n:Int)<c.p) (h3:c.m<40):fN c t=0:=by
 unfold fN;rw[if_neg (fun g=>g ⟨h0,h1⟩),if_neg aa,if_neg aa]
theorem K8 {d:Cu} {t:Rat} (hd:dz d) (hE:fN d t=0):(jM d t).p=d.p/\(jM d t).n=d.n+1/\(jM d t).m=d.m+1/\bF (jM d t).k t (jM d t).n=bF d.k t d.n+1/\(jM d t).k 0=d.k 0/\(jM d t).k ((jM d t).n-1)=d.k (d.n-1):=by
 obtain⟨b1,b2,b3,b4⟩:=A8 hE
 obtain⟨i1,i2,i3⟩:=oZ hd.1 b1 b2
 rw[show jM d t=vl d t (bL d.n d.k t)from if_pos hE]
 generalize bL d.n d.k t=a at*
 have:=Gd (k:=d.k) (t:=t) (q:=a+1) (m:=d.n-(a+1))
 rw[show a+1+1+(d.n-(a+1))=d.n+1 by omega,show a+1+(d.n-(a+1))=d.n by omega]at this
 refine⟨rfl,rfl,rfl,this,(show dx d.k t (a+1) 0=_ from iq aa),?_⟩
 show dx d.k t (a+1) (d.n+1-1)=_
 rw[gX aa];rfl
theorem rV.go {c:Cu} {t:Rat} {r:Nat} (h:rV c t r) (hc:gO c 5) (ht:fH t) (h0:c.k 0<t) (h1:t<c.k (c.n-1)) (h2:((bF c.k t c.n+r:Nat):Int)<c.p) (h3:c.m+r<40):fN (cX c t r) t=0/\rV c t (r+1):=by
 obtain⟨a1,a2,a3,a4,a5,a6,a7⟩:=h
 have hE:fN (cX c t r) t=0:=I6 (by rw[a6];exact h0) (by rw[a7];exact h1) (by rw[a5,a2];exact h2) (by rw[a4];exact h3)
 have hd:=O5 hc (fun _=>ht) a1
 obtain⟨b1,b2,b3,b4,b5,b6⟩:=K8 hd.kn hE
 exact⟨hE,O8 a1 hE,b1.trans a2,by rw[show(cX c t (r+1)).n=(cX c t r).n+1 from b2,a3];rfl,by rw[show(cX c t (r+1)).m=(cX c t r).m+1 from b3,a4];rfl,b4.trans (by rw[a5];rfl),b5.trans a6,b6.trans a7⟩
theorem rV.all {c:Cu} {t:Rat} (hc:gO c 5) (ht:fH t) (h0:c.k 0<t) (h1:t<c.k (c.n-1)) (h40:c.m+c.p.toNat<=40):∀{r:Nat},((bF c.k t c.n+r:Nat):Int)<=c.p->rV c t r
 |0,_=>⟨rfl,rfl,rfl,rfl,rfl,rfl,rfl⟩
 |r+1,h=>((rV.all hc ht h0 h1 h40 (r:=r) aa).go hc ht h0 h1 aa aa).2
def mH (d:Cu) (t:Rat) (a:Nat):Cu:=⟨d.p,a+1+1,fun i=>if i<a+1 then d.k i else t,a+1-d.p.toNat,d.f⟩
def gi (d:Cu) (t:Rat) (a:Nat):Cu:=⟨d.p,1+(d.n-(a+1-d.p.toNat)),fun i=>if i<1 then t else d.k (a+1-d.p.toNat+(i-1)),d.m-(a-d.p.toNat),fun i=>d.f (a-d.p.toNat+i)⟩
def kO (c:Cu) (t:Rat):Cu:=cX c t (c.p.toNat-bF c.k t c.n)
def Nb (c:Cu) (t:Rat):Cu:=if c.k 0<t/\t<c.k (c.n-1)then mH (kO c t) t (bL (kO c t).n (kO c t).k t)else tX
def JD (c:Cu) (t:Rat):Cu:=if c.k 0<t/\t<c.k (c.n-1)then gi (kO c t) t (bL (kO c t).n (kO c t).k t)else tX
def Jv (c:Cu) (t:Rat):Int:=if c.k 0<t/\t<c.k (c.n-1)then 0 else 7
theorem abn:aU P rT BR (az BR):=aT Proofs.Tryz.func200 ah ah ah
theorem acy:aU P sA DU (az DU):=aT Proofs.Tryz.func201 ah ah ah
theorem Nm:aU P nR pY (az pY):=aT Proofs.Tryz.func193 ah ah ah
theorem KA {u v:AV} (h:bD u v):bD (.bw u) (.bw v):=by
 refine⟨rfl,fun M w cs hc=>?_⟩
 cases hc with
 |bw h1 h2 h3=>cases h3;exact .bw (h.2 _ _ _ h1) h2 .nil
theorem UM {f:FuncId} {us vs:List AV} (h:eL us vs) (hv:(vs.all fun v=>!v.isAgg&&!v.isTuple)=true):bD (.func f us) (.func f vs):=by
 refine⟨rfl,fun M w cs hc=>?_⟩
 cases hc with
 |func h1 h2 h3=>cases h3;exact .func (FG h h1) hv .nil
def MD {α:Type} (k:Kind α):Kind α:=⟨fun v=>match v with
 |.bw v=>k.read v
 |_=>none,fun a=>.bw (k.make a),fun {v a q} h hq=>by
  split at h
  ·exact KA (k.ok h hq)
  ·simp at h⟩
def Md {α:Type} (g:FuncId) (k:Kind α):Kind α:=⟨fun v=>match v with
 |.func f [.bw v]=>match Nat.beq f g with
  |true=>k.read v
  |false=>none
 |_=>none,fun a=>.func g [.bw (k.make a)],fun {v a q} h hq=>by
  split at h
  ·split at h
   ·rename_i hc
    have hc:=Nat.eq_of_beq_eq_true hc
    subst hc
    exact UM ⟨KA (k.ok h hq),trivial⟩ rfl
   ·simp at h
  ·simp at h⟩
def Nf:Spec:=dj (kC (gz 2000) (kC (MD (gz 2000)) kN)) (fun a=>.bool (decide (a.2.1<a.1))) fun _=>[]
def N9:Spec:=dj (kC (gz 2000) (kC (MD (gz 2000)) kN)) (fun a=>.bool (decide (a.2.1<=a.1))) fun _=>[]
def y8:aV:=nG::(rT,Nf)::(sA,N9)::[]
abbrev o6:List Nat:=[4,0,1,7,8]
abbrev yQ (n i:Nat) (k:Nat->Rat) (g:FuncId) (x:Rat):List AV:=[.int .i64 0,bN k n 2000,.func g [.bw (.rat x 2000)],.int .i64 n,.int .i64 i]
abbrev pR:Code:=az pY
def kM (x:Rat) (k:Nat->Rat) (i:Nat):Bool:=decide (x<k i)
def ko (x:Rat) (k:Nat->Rat) (i:Nat):Bool:=decide (x<=k i)
def M0:Spec:=dj (kC (kL 2000) (kC (Md rT (gz 2000)) kN)) (fun a=>.int .i64 (fL (kM a.2.1 a.1.2) a.1.1:Nat)) fun a=>[a.1.1<2^40,fL (kM a.2.1 a.1.2) a.1.1<a.1.1]
def LU:Spec:=dj (kC (kL 2000) (kC (Md sA (gz 2000)) kN)) (fun a=>.int .i64 (fL (ko a.2.1 a.1.2) a.1.1:Nat)) fun a=>[a.1.1<2^40,fL (ko a.2.1 a.1.2) a.1.1<a.1.1]
def Ev:Spec:=fun K args pre=>match M0 K args pre with
 |some r=>some r
 |none=>LU K args pre
theorem UX {x y:Rat}:bP T (nG::fK) [] 60 BR (az BR) ⟨aQ 0 [.rat x 2000,.bw (.rat y 2000)],[],0⟩=
  let c1:Prop:=2000<2^42;some (aj [(0:Nat)<1,c1,c1] (leaf ret [AV.bool (decide (ek x y>(0:Int)))])):=ah
theorem abj {x y:Rat}:bP T (nG::fK) [] 60 DU (az DU) ⟨aQ 0 [.rat x 2000,.bw (.rat y 2000)],[],0⟩=
  let c1:Prop:=2000<2^42;some (aj [(0:Nat)<1,c1,c1] (leaf ret [AV.bool (decide (ek x y>=(0:Int)))])):=ah
theorem NS {n:Nat} {k:Nat->Rat} {g:FuncId} {x:Rat}:aJ T y8 [] 60 o6 (before pR [1,0,1]) ⟨aQ 0 [bN k n 2000,.func g [.bw (.rat x 2000)]],[],0⟩=
  some (leaf normal ([int i64 0,aq 3 n fun i=>rat (k i) 2000,func g [(rat x 2000).bw],int i64 (↑n:Int),int i64 0],[])):=ah
theorem Wz {n i:Nat} {k:Nat->Rat} {x:Rat}:aJ T y8 [9,16] 60 o6 [part pR [1,0,1,0,0]] ⟨aF o6 (yQ n i k rT x),[],0⟩=
  let c7:Int:=(↑n:Int);let c5:Prop:=2000<=2000;let c4:AV:=func rT [(rat x 2000).bw];let c3:AV:=aq 3 n fun i=>rat (k i) 2000;let c2:Int:=(↑i:Int);let c6:Int:=c2+(1:Int);let c1:List AV:=[c3,c4,int i64 c7,int i64 c2];some (fork (decide (c2<c7)) (aj [(0:Int)<=c2/\c2.toNat<n,c5,c5] (fork (decide (x<k c2.toNat)) (leaf ret (int i64 c2::c1,[])) (aj [-(2:Int)^63<=c6/\c6<(2:Int)^63] (leaf normal ([int i64 0,c3,c4,int i64 c7,int i64 c6],[]))))) (leaf (exit 0) (int i64 0::c1,[]))):=ah
theorem Y0 {n i:Nat} {k:Nat->Rat} {x:Rat}:aJ T y8 [9,16] 60 o6 [part pR [1,0,1,0,0]] ⟨aF o6 (yQ n i k sA x),[],0⟩=
  let c7:Int:=(↑n:Int);let c5:Prop:=2000<=2000;let c4:AV:=func sA [(rat x 2000).bw];let c3:AV:=aq 3 n fun i=>rat (k i) 2000;let c2:Int:=(↑i:Int);let c6:Int:=c2+(1:Int);let c1:List AV:=[c3,c4,int i64 c7,int i64 c2];some (fork (decide (c2<c7)) (aj [(0:Int)<=c2/\c2.toNat<n,c5,c5] (fork (decide (x<=k c2.toNat)) (leaf ret (int i64 c2::c1,[])) (aj [-(2:Int)^63<=c6/\c6<(2:Int)^63] (leaf normal ([int i64 0,c3,c4,int i64 c7,int i64 c6],[]))))) (leaf (exit 0) (int i64 0::c1,[]))):=ah
theorem Lg {n i:Nat} {k:Nat->Rat} {g:FuncId} {x:Rat}:cJ T y8 [] 60 pY [part pR [1,1]] ⟨aF o6 (yQ n i k g x),[],0⟩=
  some (leaf ret [int i64 (-1:Int)]):=ah
theorem ai0:∀K args pre r,Nf K args pre=some r->aD P rT K args pre r:=cY fun⟨x,y,_⟩ K _=>by
 refine bW (r:=aL (.bool (decide (y<x))) []) hT (dB fZ) hm abn rfl aW rfl 60 UX (fun _=>?_) K []
 simp only[ag.all,aA]
 exact⟨⟨aa,aa,aa⟩,fR (decide_eq_decide.2 sS)⟩
theorem VN:∀K args pre r,N9 K args pre=some r->aD P sA K args pre r:=cY fun⟨x,y,_⟩ K _=>by
 refine bW (r:=aL (.bool (decide (y<=x))) []) hT (dB fZ) hm acy rfl aW rfl 60 abj (fun _=>?_) K []
 simp only[ag.all,aA]
 exact⟨⟨aa,aa,aa⟩,fR (decide_eq_decide.2 DV)⟩
theorem LM:bn P y8:=dB (aI ai0 (aI VN bE))
theorem T6:∀K args pre r,M0 K args pre=some r->aD P nR K args pre r:=cY fun⟨⟨n,k⟩,x,_⟩ K hn=>by
 have n1:n<2^40:=hn.1
 have n2:fL (kM x k) n<n:=hn.2
 refine g8 (r:=aL (.int .i64 (fL (kM x k) n:Nat)) []) hT LM hm Nm rfl aW rfl [1,0,1] (i:=0) (y:=part pR [1,0,1,0,0]) (z:=part pR [1,1]) ah ah ah (f1:=[]) (f2:=[9,16]) (f3:=[]) 60 o6 0
  (fun i:Nat=>yQ n i k rT x) (fun _=>[]) (fun i=>i<=n/\∀j,j<i->kM x k j=false) (fun i=>i=n/\∀j,j<i->kM x k j=false) (fun i=>n-i) (fun _=>⟨⟨_,NS,?_⟩,fun i ⟨h1,h2⟩=>⟨_,Wz,?_⟩,fun i ⟨h1,h2⟩=>⟨_,Lg,?_⟩⟩) K []
 ·exact⟨0,⟨Nat.zero_le _,fun j hj=>aa⟩,.vals rfl⟩
 ·simp only[ag.all,aA,bf,bt,aX]
  refine⟨fun h=>⟨aa,fun hb=>⟨[.int .i64 i],ah,?_⟩,fun hb=>⟨aa,i+1,⟨aa,fun j hj=>?_⟩,by dsimp only;omega,.vals rfl⟩⟩,fun h=>⟨rfl,i,⟨aa,h2⟩,.vals rfl⟩⟩
  ·exact bJ (by rw[xh (g:=kM x k) (i:=i) (decide_eq_true hb) h2 (n:=n) aa])
  ·by_cases hji:j=i
   ·subst hji;exact decide_eq_false hb
   ·exact h2 j aa
 ·subst h1
  rw[CK h2]at n2
  omega
theorem Su:∀K args pre r,LU K args pre=some r->aD P nR K args pre r:=cY fun⟨⟨n,k⟩,x,_⟩ K hn=>by
 have n1:n<2^40:=hn.1
 have n2:fL (ko x k) n<n:=hn.2
 refine g8 (r:=aL (.int .i64 (fL (ko x k) n:Nat)) []) hT LM hm Nm rfl aW rfl [1,0,1] (i:=0) (y:=part pR [1,0,1,0,0]) (z:=part pR [1,1]) ah ah ah (f1:=[]) (f2:=[9,16]) (f3:=[]) 60 o6 0
  (fun i:Nat=>yQ n i k sA x) (fun _=>[]) (fun i=>i<=n/\∀j,j<i->ko x k j=false) (fun i=>i=n/\∀j,j<i->ko x k j=false) (fun i=>n-i) (fun _=>⟨⟨_,NS,?_⟩,fun i ⟨h1,h2⟩=>⟨_,Y0,?_⟩,fun i ⟨h1,h2⟩=>⟨_,Lg,?_⟩⟩) K []
 ·exact⟨0,⟨Nat.zero_le _,fun j hj=>aa⟩,.vals rfl⟩
 ·simp only[ag.all,aA,bf,bt,aX]
  refine⟨fun h=>⟨aa,fun hb=>⟨[.int .i64 i],ah,?_⟩,fun hb=>⟨aa,i+1,⟨aa,fun j hj=>?_⟩,by dsimp only;omega,.vals rfl⟩⟩,fun h=>⟨rfl,i,⟨aa,h2⟩,.vals rfl⟩⟩
  ·exact bJ (by rw[xh (g:=ko x k) (i:=i) (decide_eq_true hb) h2 (n:=n) aa])
  ·by_cases hji:j=i
   ·subst hji;exact decide_eq_false hb
   ·exact h2 j aa
 ·subst h1
  rw[CK h2]at n2
  omega
theorem W2:∀K args pre r,Ev K args pre=some r->aD P nR K args pre r:=by
 intro K args pre r h
 unfold Ev at h
 split at h
 ·rename_i g
  simp only[au]at h
  subst h
  exact T6 _ _ _ _ g
 ·exact Su _ _ _ _ h
theorem JV:aU P vG pJ (az pJ):=aT Proofs.Tryz.func99 ah ah ah
def fj (k:Nat->Rat) (n:Nat) (t:Rat):Nat->Nat->Rat
 |0=>k
 |r+1=>dx (fj k n t r) t (bL (n+r) (fj k n t r) t+1)
def Kk:Spec:=dj (kC (kL 2000) (kC (gz 2000) kN)) (fun a=>bN (gu a.1.2 a.2.1 (fC a.1.2 a.2.1 a.1.1)) (a.1.1+1) 2000) fun a=>[a.1.1<2^40,∀i,i<a.1.1+1->Sz (gu a.1.2 a.2.1 (fC a.1.2 a.2.1 a.1.1) i) 2000]
def kK:aV:=nG::(tA,A3)::(s5,Kk)::(xO,F9)::(nR,Ev)::fK
abbrev uT:Code:=az pJ
abbrev Bo:Code:=part uT [1]
abbrev v5:Code:=part Bo [1,0,1,0,0]
abbrev xj:Code:=part v5 [1,1,0,0]
abbrev sM:Code:=part uT [1,1,1]
abbrev qE:Code:=part sM [1,1,1,1,1,1]
abbrev vT:ax:=⟨false,true,3,1,fun _=>.agg [.int .i64 0,.nil,.nil]⟩
abbrev wC (c:Cu):ax:=⟨false,true,3,1,fun _=>dL c 2000 4000⟩
abbrev Ct:List Nat:=[3,4,5,6]
abbrev WH (a b:Rat):List AV:=[.ptr 0 0 3 0 [],.bw (.rat a 2000),.bw (.rat b 2000),.ptr 3 0 3 0 []]
abbrev Yl (c:Cu) (a b:Rat):aE:=[(3,vT),(2,⟨false,false,3,1,fun _=>.rat b 2000⟩),(1,⟨false,false,3,1,fun _=>.rat a 2000⟩),(0,wC c)]
abbrev nK:List Nat:=[3,4,5,6,7,19,20]
abbrev pH (a b:Rat) (n:Nat) (k:Nat->Rat) (j:Nat):List AV:=[.ptr 0 0 3 0 [],.bw (.rat a 2000),.bw (.rat b 2000),.ptr 1 0 3 0 [],bN k n 2000,.agg [.rat a 2000,.rat b 2000],.int .i64 j]
abbrev ql (c:Cu):aE:=[(1,vT),(0,wC c)]
abbrev uy:List Nat:=[3,4,5,6,7,19,20,9,10]
abbrev vp (a b:Rat) (n:Nat) (k:Nat->Rat) (j:Nat) (e:Bool):List AV:=[.ptr 0 0 3 0 [],.bw (.rat a 2000),.bw (.rat b 2000),.ptr 1 0 3 0 [],bN k n 2000,.agg [.rat a 2000,.rat b 2000],.int .i64 j,.ptr 2 0 3 0 [],.bool e]
abbrev xF (c:Cu) (x:Rat):aE:=[(2,⟨false,true,3,1,fun _=>.rat x 2000⟩),(1,vT),(0,wC c)]
abbrev yL:List Nat:=[3,4,5,6,7,11,12,13,14,67,68]
abbrev HI (p:Int) (a b:Rat) (n:Nat) (k:Nat->Rat) (f l i:Nat):List AV:=[.ptr 0 0 3 0 [],.bw (.rat a 2000),.bw (.rat b 2000),.ptr 1 0 3 0 [],bN k n 2000,.ptr 2 0 3 0 [],.ptr 3 0 3 0 [],.int .i64 ((f:Int)-1),.int .i64 l,.int .i64 (p+1),.int .i64 i]
abbrev ud (c D:Cu) (x:Nat->Rat) (i:Nat):aE:=[(4,kW 2000 i x),(3,⟨false,true,3,1,fun _=>.agg [.int .i64 c.p,.own 4 3 0 i,.nil]⟩),(2,⟨false,true,3,1,fun _=>dL D sK sB⟩),(1,vT),(0,wC c)]
abbrev xT:List Nat:=[3,5,6,11,12,13,14,88,89]
abbrev F5 (p:Int) (b:Rat) (f l i:Nat):List AV:=[.ptr 0 0 3 0 [],.bw (.rat b 2000),.ptr 1 0 3 0 [],.ptr 2 0 3 0 [],.ptr 3 0 3 0 [],.int .i64 ((f:Int)-1),.int .i64 l,.int .i64 (p+1),.int .i64 i]
def oE (p:Nat) (a b:Rat) (k:Nat->Rat) (f l q:Nat):Rat:=if q<p+1 then a else if q<p+1+(l-f)then k (f+(q-(p+1)))else b
def zm (D:Cu) (a b:Rat) (f l:Nat):Cu:=⟨D.p,D.p.toNat+1+(l-f)+(D.p.toNat+1),oE D.p.toNat a b D.k f l,l-(f-1-D.p.toNat),fun q=>D.f (f-1-D.p.toNat+q)⟩
theorem aij {c:Cu} {a b:Rat}:aJ T kK [] 60 Ct (before uT [1]) ⟨aQ 0 [dL c 2000 4000,.rat a 2000,.rat b 2000],[],0⟩=
  let c3:AV:=rat b 2000;let c2:AV:=rat a 2000;let c1:Nat:=(bA (dL c 2000 4000)).size;some (leaf normal ([ptr 0 0 c1 0 [],ptr 4096 0 (bA c2).size 0 [],ptr 8192 0 (bA c3).size 0 [],ptr 12288 0 3 0 []],[((12288:Nat),bg fun x=>agg [int i64 0,nil,nil]),(8192,ax.mk false true (bA c3).size 1 fun x=>c3),(4096,ax.mk false true (bA c2).size 1 fun x=>c2),(0,ax.mk false true c1 1 fun x=>agg [int i64 c.p,aq 3 c.n fun i=>rat (c.k i) 2000,aq 12 c.m fun i=>cy (c.f i) 4000])])):=ah
theorem aay {c:Cu} {a b:Rat}:aJ T kK [] 60 nK (before Bo [1,0,1]) ⟨aF Ct (WH a b),Yl c a b,4⟩=
  let c1:AV:=aq 3 c.n fun i=>rat (c.k i) 2000;some (aj [(0:Nat)<1] (leaf normal ([ptr 0 0 3 0 [],(rat a 2000).bw,(rat b 2000).bw,ptr 3 0 3 0 [],c1,agg [rat a 2000,rat b 2000],int i64 0],[((3:Nat),bg fun x=>agg [int i64 0,nil,nil]),((0:Nat),bg fun x=>agg [int i64 c.p,c1,aq 12 c.m fun i=>cy (c.f i) 4000])]))):=ah
theorem aji {c:Cu} {a b:Rat} {n j:Nat} {k:Nat->Rat}:aJ T kK [21] 60 nK (before v5 [1,1,0]) ⟨aF nK (pH a b n k j),ql c,2⟩=
  let c1:List AV×aE:=([ptr 0 0 3 0 [],(rat a 2000).bw,(rat b 2000).bw,ptr 1 0 3 0 [],aq 3 n fun i=>rat (k i) 2000,agg [rat a 2000,rat b 2000],int i64 (↑j:Int)],[((1:Nat),bg fun x=>agg [int i64 0,nil,nil]),((0:Nat),bg fun x=>agg [int i64 c.p,aq 3 c.n fun i=>rat (c.k i) 2000,aq 12 c.m fun i=>cy (c.f i) 4000])]);some (fork (decide ((↑j:Int)<(2:Int))) (leaf normal c1) (leaf (exit 0) c1)):=ah
theorem RY {c:Cu} {a b:Rat} {n:Nat} {k:Nat->Rat}:aJ T kK [28] 60 uy (before xj [1,1]) ⟨aF nK (pH a b n k 0),ql c,2⟩=
  let c12:AV:=int i64 0;let c11:AV:=ptr 1 0 3 0 [];let c10:AV:=aq 3 n fun i=>rat (k i) 2000;let c9:AV:=ptr 0 0 3 0 [];let c8:AV:=rat b 2000;let c7:AV:=ptr 4098 0 3 0 [];let c6:Prop:=0<1;let c5:AV:=rat a 2000;let c4:Int:=(↑n:Int)-(1:Int);let c3:Nat:=Int.toNat (0:Int);let c2:Prop:=2000<2^42;let c14:Prop:=(0:Int)<=(0:Int)/\c3<n;let c13:Bool:=decide (a=k c3);let c1:List (Nat×ax):=[((4098:Nat),bg fun j=>if(j==0)=true then bA c5 else rat 0 1),((1:Nat),bg fun x=>agg [c12,nil,nil]),((0:Nat),bg fun x=>agg [int i64 c.p,aq 3 c.n fun i=>rat (c.k i) 2000,aq 12 c.m fun i=>cy (c.f i) 4000])];some (aj [(0:Int)<=(↑(0:Nat):Int)/\(↑(0:Nat):Int)<(↑(2:Nat):Int),c6] (fork c13 (aj [c6,c14,c2,c2,c13=true] (leaf normal ([c9,c5.bw,c8.bw,c11,c10,agg [c5,c8],c12,c7,AV.bool true],c1))) (aj [c6,c14,c2,c2,c13=false,c6,-(2:Int)^63<=c4/\c4<(2:Int)^63,(0:Int)<=c4/\c4.toNat<n,c2,c2] (leaf normal ([c9,c5.bw,c8.bw,c11,c10,agg [c5,c8],c12,c7,AV.bool (bif false then true else decide (a=k c4.toNat))],c1))))):=ah
theorem agP {c:Cu} {a b:Rat} {n:Nat} {k:Nat->Rat}:aJ T kK [28] 60 uy (before xj [1,1]) ⟨aF nK (pH a b n k 1),ql c,2⟩=
  let c11:AV:=ptr 1 0 3 0 [];let c10:AV:=aq 3 n fun i=>rat (k i) 2000;let c9:AV:=ptr 0 0 3 0 [];let c8:AV:=rat a 2000;let c7:AV:=ptr 4098 0 3 0 [];let c6:Prop:=0<1;let c5:AV:=rat b 2000;let c4:Int:=(↑n:Int)-(1:Int);let c3:Nat:=Int.toNat (0:Int);let c2:Prop:=2000<2^42;let c13:Prop:=(0:Int)<=(0:Int)/\c3<n;let c12:Bool:=decide (b=k c3);let c1:List (Nat×ax):=[((4098:Nat),bg fun j=>if(j==0)=true then bA c5 else rat 0 1),((1:Nat),bg fun x=>agg [int i64 0,nil,nil]),((0:Nat),bg fun x=>agg [int i64 c.p,aq 3 c.n fun i=>rat (c.k i) 2000,aq 12 c.m fun i=>cy (c.f i) 4000])];some (aj [(0:Int)<=(↑(1:Nat):Int)/\(↑(1:Nat):Int)<(↑(2:Nat):Int),c6] (fork c12 (aj [c6,c13,c2,c2,c12=true] (leaf normal ([c9,c8.bw,c5.bw,c11,c10,agg [c8,c5],int i64 1,c7,AV.bool true],c1))) (aj [c6,c13,c2,c2,c12=false,c6,-(2:Int)^63<=c4/\c4<(2:Int)^63,(0:Int)<=c4/\c4.toNat<n,c2,c2] (leaf normal ([c9,c8.bw,c5.bw,c11,c10,agg [c8,c5],int i64 1,c7,AV.bool (bif false then true else decide (b=k c4.toNat))],c1))))):=ah
theorem SL {c:Cu} {a b x:Rat} {n j:Nat} {k:Nat->Rat} {e:Bool}:aJ T kK [40,47] 60 uy [part xj [1,1,0,0]] ⟨aF uy (vp a b n k j e),xF c x,3⟩=
  let c11:Prop:=n<2^40;let c10:AV:=rat a 2000;let c9:AV:=rat b 2000;let c8:Prop:=0<1;let c7:AV:=ptr 1 0 3 0 [];let c6:AV:=ptr 0 0 3 0 [];let c5:Int:=(↑(bF (fun i=>aZ (rat (k i) 2000)) x n):Int);let c1:List (Nat×ax):=[((2:Nat),bg fun x_1=>rat x 2000),((1:Nat),bg fun x=>agg [int i64 0,nil,nil]),((0:Nat),bg fun x=>agg [int i64 c.p,aq 3 c.n fun i=>rat (c.k i) 2000,aq 12 c.m fun i=>cy (c.f i) 4000])];let c4:List AV:=[agg [c10,c9],int i64 (↑j:Int),ptr 2 0 3 0 [],AV.bool e];let c3:ag (List AV×aE):=leaf (exit 2) (c6::c10.bw::c9.bw::c7::(aq 3 n fun i=>rat (k i) 2000)::c4,c1);let c2:ag (List AV×aE):=aj [c8,bV (fun i=>rat (k i) 2000) n 2000,(2000:Nat)<=2000,c11,∀(i:Nat),i<n+1->Sz (gu (fun i=>aZ (rat (k i) 2000)) x (fC (fun i=>aZ (rat (k i) 2000)) x n) i) 2000] (leaf normal (c6::c10.bw::c9.bw::c7::(aq 3 (n+1) fun i=>rat (gu (fun i=>aZ (rat (k i) 2000)) x (fC (fun i=>aZ (rat (k i) 2000)) x n) i) 2000)::c4,c1));some (fork (!e) (aj [(!e)=true,c8,bV (fun i=>rat (k i) 2000) n sK,(2000:Nat)<=sK,c11,c8] (fork (bif true then decide (c5<c.p)else false) c2 c3)) (aj [(!e)=false] (fork false c2 c3))):=ah
theorem XG {c:Cu} {a b x:Rat} {n j:Nat} {k:Nat->Rat} {e:Bool}:aJ T kK [] 60 nK [part v5 [1,1,1]] ⟨aF uy (vp a b n k j e),xF c x,3⟩=
  let c1:Int:=(↑j:Int)+(1:Int);some (aj [-(2:Int)^63<=c1/\c1<(2:Int)^63] (leaf normal ([ptr 0 0 3 0 [],(rat a 2000).bw,(rat b 2000).bw,ptr 1 0 3 0 [],aq 3 n fun i=>rat (k i) 2000,agg [rat a 2000,rat b 2000],int i64 c1],[((1:Nat),bg fun x=>agg [int i64 0,nil,nil]),((0:Nat),bg fun x=>agg [int i64 c.p,aq 3 c.n fun i=>rat (c.k i) 2000,aq 12 c.m fun i=>cy (c.f i) 4000])]))):=ah
theorem aiO {c:Cu} {a b:Rat} {n j:Nat} {k:Nat->Rat}:aJ T kK [] 60 yL (before sM [1,1,1,1,1,0,1]) ⟨aF nK (pH a b n k j),ql c,2⟩=
  let c10:Prop:=2000<=2000;let c9:Int:=c.p+(1:Int);let c7:Nat:=fL (ko b fun i=>aZ (rat (k i) 2000)) n;let c6:Prop:=bV (fun i=>rat (k i) 2000) n 2000;let c5:Nat:=2^40;let c4:Int:=(2:Int)^63;let c3:Prop:=0<1;let c2:AV:=agg [int i64 0,nil,nil];let c1:Nat:=fL (kM a fun i=>aZ (rat (k i) 2000)) n;let c8:Int:=(↑c1:Int)-(1:Int);some (aj [c3,bV (fun i=>rat (c.k i) 2000) c.n sK,mo (fun i=>cy (c.f i) 4000) c.m sK,bV (fun i=>rat (k i) 2000) n sK,Kn c.n c.p.toNat fun i=>aZ (rat (c.k i) 2000),(1:Int)<=c.p,c.p<=(6:Int),c.n<c5,c.m<c5,n<2^29,c9<=(↑n:Int),c3] (aj [c3,c3] (aj [c6,c10,n<c5,c1<n,-c4<=c8/\c8<c4] (aj [c6,c10,n<c5,c7<n] (aj [c3,-c4<=c9/\c9<c4] (leaf normal ([ptr 0 0 3 0 [],(rat a 2000).bw,(rat b 2000).bw,ptr 1 0 3 0 [],aq 3 n fun i=>rat (k i) 2000,ptr 12290 0 3 0 [],ptr 20482 0 3 0 [],int i64 c8,int i64 (↑c7:Int),int i64 c9,int i64 0],[((20482:Nat),bg fun j=>if(j==0)=true then agg (c2.kids.set 0 (bA (int i64 c.p)))else c2),((12290:Nat),bg fun j=>if(j==0)=true then bA (dL (kq (Cu.mk c.p c.n (fun i=>aZ (rat (c.k i) 2000)) c.m fun i=>pB (cy (c.f i) 4000)) n fun i=>aZ (rat (k i) 2000)) sK sB)else c2),((1:Nat),bg fun x=>c2),((0:Nat),bg fun x=>agg [int i64 c.p,aq 3 c.n fun i=>rat (c.k i) 2000,aq 12 c.m fun i=>cy (c.f i) 4000])]))))))):=ah
theorem Va {c D:Cu} {a b:Rat} {n f l i:Nat} {k x:Nat->Rat}:aJ T kK [69] 60 yL [part sM [1,1,1,1,1,0,1,0,0]] ⟨aF yL (HI c.p a b n k f l i),ud c D x i,5⟩=
  let c13:Int:=(↑i:Int);let c12:AV:=(rat b 2000).bw;let c11:AV:=int i64 ((↑f:Int)-(1:Int));let c10:AV:=rat a 2000;let c9:Int:=c.p+(1:Int);let c7:AV:=ptr 2 0 3 0 [];let c6:AV:=ptr 3 0 3 0 [];let c5:AV:=ptr 1 0 3 0 [];let c4:AV:=aq 3 n fun i=>rat (k i) 2000;let c3:AV:=ptr 0 0 3 0 [];let c2:AV:=agg [int i64 c.p,own 4 3 0 i,nil];let c1:List (Nat×ax):=[((2:Nat),bg fun x=>agg [int i64 D.p,aq 3 D.n fun i=>rat (D.k i) 4096,aq 12 D.m fun i=>cy (D.f i) 536870912]),((1:Nat),bg fun x=>agg [int i64 0,nil,nil]),((0:Nat),bg fun x=>agg [int i64 c.p,aq 3 c.n fun i=>rat (c.k i) 2000,aq 12 c.m fun i=>cy (c.f i) 4000])];let c8:Int:=c13+(1:Int);some (fork (decide (c13<c9)) (aj [(0:Nat)<1,(1:Nat)*3<=2^24,(i+1)*((56:Nat)+1)*2<=2^47,(0:Nat)<1] (aj [-(2:Int)^63<=c8/\c8<(2:Int)^63] (leaf normal ([c3,c10.bw,c12,c5,c4,c7,c6,c11,int i64 (↑l:Int),int i64 c9,int i64 c8],(20485,ax.mk true true 3 (i+1) fun i_1=>if i_1<i then rat (x i_1) 2000 else nth [c10] (rat 0 1) (i_1-i+0))::((3:Nat),bg fun j=>if(j==0)=true then agg (c2.kids.set 1 (bA (own (nat_lit 20484+1) 3 0 (i+1))))else c2)::c1)))) (leaf (exit 4) ([c3,c10.bw,c12,c5,c4,c7,c6,c11,int i64 (↑l:Int),int i64 c9,int i64 c13],(4,ax.mk true true 3 i fun i=>rat (x i) 2000)::((3:Nat),bg fun x=>c2)::c1))):=ah
theorem YU {c D:Cu} {a b:Rat} {n f l i:Nat} {k x:Nat->Rat}:aJ T kK [] 60 xT (before qE [1,0,1]) ⟨aF yL (HI c.p a b n k f l i),ud c D x i,5⟩=
  let c7:Int:=c.p+(1:Int);let c6:Prop:=0<1;let c5:Int:=(↑l:Int);let c4:AV:=agg [int i64 c.p,own 4 3 0 i,nil];let c3:Int:=(2:Int)^63;let c1:Int:=(↑f:Int)-(1:Int)+(1:Int);let c2:Nat:=i+(c5.toNat-c1.toNat);some (aj [c6,-c3<=c1/\c1<c3,(0:Int)<=c1/\c1<=c5/\c5<=c5/\c5<=(↑n:Int),c2*((56:Nat)+1)*2<=2^47,c6] (aj [c6,-c3<=c7/\c7<c3] (leaf normal ([ptr 0 0 3 0 [],(rat b 2000).bw,ptr 1 0 3 0 [],ptr 2 0 3 0 [],ptr 3 0 3 0 [],int i64 ((↑f:Int)-(1:Int)),int i64 c5,int i64 c7,int i64 0],[(28677,ax.mk true true 3 c2 fun i_1=>if i_1<i then rat (x i_1) 2000 else rat (k (i_1-i+c1.toNat)) 2000),((3:Nat),bg fun j=>if(j==0)=true then agg (c4.kids.set 1 (bA (own (nat_lit 28676+1) 3 0 c2)))else c4),((2:Nat),bg fun x=>agg [int i64 D.p,aq 3 D.n fun i=>rat (D.k i) 4096,aq 12 D.m fun i=>cy (D.f i) 536870912]),((1:Nat),bg fun x=>agg [int i64 0,nil,nil]),((0:Nat),bg fun x=>agg [int i64 c.p,aq 3 c.n fun i=>rat (c.k i) 2000,aq 12 c.m fun i=>cy (c.f i) 4000])])))):=ah
theorem adk {c D:Cu} {b:Rat} {f l i m:Nat} {x:Nat->Rat}:aJ T kK [90] 60 xT [part qE [1,0,1,0,0]] ⟨aF xT (F5 c.p b f l i),ud c D x m,5⟩=
  let c11:Int:=(↑i:Int);let c10:AV:=int i64 ((↑f:Int)-(1:Int));let c9:AV:=rat b 2000;let c8:Int:=c.p+(1:Int);let c6:AV:=ptr 2 0 3 0 [];let c5:AV:=ptr 3 0 3 0 [];let c4:AV:=ptr 1 0 3 0 [];let c3:AV:=ptr 0 0 3 0 [];let c2:AV:=agg [int i64 c.p,own 4 3 0 m,nil];let c1:List (Nat×ax):=[((2:Nat),bg fun x=>agg [int i64 D.p,aq 3 D.n fun i=>rat (D.k i) 4096,aq 12 D.m fun i=>cy (D.f i) 536870912]),((1:Nat),bg fun x=>agg [int i64 0,nil,nil]),((0:Nat),bg fun x=>agg [int i64 c.p,aq 3 c.n fun i=>rat (c.k i) 2000,aq 12 c.m fun i=>cy (c.f i) 4000])];let c7:Int:=c11+(1:Int);some (fork (decide (c11<c8)) (aj [(0:Nat)<1,(1:Nat)*3<=2^24,(m+1)*((56:Nat)+1)*2<=2^47,(0:Nat)<1] (aj [-(2:Int)^63<=c7/\c7<(2:Int)^63] (leaf normal ([c3,c9.bw,c4,c6,c5,c10,int i64 (↑l:Int),int i64 c8,int i64 c7],(20485,ax.mk true true 3 (m+1) fun i=>if i<m then rat (x i) 2000 else nth [c9] (rat 0 1) (i-m+0))::((3:Nat),bg fun j=>if(j==0)=true then agg (c2.kids.set 1 (bA (own (nat_lit 20484+1) 3 0 (m+1))))else c2)::c1)))) (leaf (exit 6) ([c3,c9.bw,c4,c6,c5,c10,int i64 (↑l:Int),int i64 c8,int i64 c11],(4,ax.mk true true 3 m fun i=>rat (x i) 2000)::((3:Nat),bg fun x=>c2)::c1))):=ah
theorem aeH {c D:Cu} {b:Rat} {f l i m:Nat} {x:Nat->Rat}:cJ T kK [] 60 pJ [part qE [1,1]] ⟨aF xT (F5 c.p b f l i),ud c D x m,5⟩=
  let c3:Int:=(↑l:Int);let c2:Prop:=0<1;let c1:Int:=(↑f:Int)-(1:Int)-c.p;some (aj [c2,c2,-(2:Int)^63<=c1/\c1<(2:Int)^63,(0:Int)<=c1/\c1<=c3/\c3<=c3/\c3<=(↑D.m:Int),c2] (aj [c2,c2] (aj [c2] (leaf ret [agg [int i64 c.p,aq 3 m fun i=>rat (x (i+0)) 2000,aq 12 (c3.toNat-c1.toNat) fun i=>cy (D.f (i+c1.toNat)) 536870912]])))):=ah
theorem Sr:∀K args pre r,Kk K args pre=some r->aD P s5 K args pre r:=cY fun⟨⟨n,k⟩,t,_⟩ K hn=>by
 have h1:n<2^40:=hn.1
 have h2:∀i,i<n+1->Sz (gu k t (fC k t n) i) 2000:=hn.2
 exact rL (u:=bN (gu k t (fC k t n)) (n+1) 2002) (l:=[]) (NL bp bp (by decide) h1 K) (fun h=>trivial) rfl rfl (gm fun i hi=>cV rfl (h2 i hi))
theorem y5:bn P kK:=dB (aI EU (aI Sr (aI PY (aI W2 fZ))))
structure vS (n p:Nat) (k:Nat->Rat) (t:Rat) (r:Nat):Prop where
 kn:Kn (n+r) p (fj k n t r)
 tm:bF (fj k n t r) t (n+r)=bF k t n+r
 f0:fj k n t r 0=k 0
 fl:fj k n t r (n+r-1)=k (n-1)
 sd:∀i,fH (fj k n t r i)
theorem Nd {n p:Nat} {k:Nat->Rat} {t:Rat} (h:Kn n p k) (h0:k 0<t) (h1:t<k (n-1)) (kd:∀i,fH (k i)) (ht:fH t):∀{r:Nat},bF k t n+r<=p->vS n p k t r
 |0,_=>⟨h,rfl,rfl,rfl,kd⟩
 |r+1,hr=>by
  obtain⟨a1,a2,a3,a4,a5⟩:=Nd h h0 h1 kd ht (r:=r) aa
  have g0:fj k n t r 0<t:=by rw[a3];exact h0
  have g1:t<fj k n t r (n+r-1):=by rw[a4];exact h1
  obtain⟨i1,i2,i3⟩:=oZ a1 g0 g1
  have e:fj k n t (r+1)=dx (fj k n t r) t (bL (n+r) (fj k n t r) t+1):=rfl
  generalize bL (n+r) (fj k n t r) t=a at*
  generalize fj k n t r=K at*
  have tm:=Gd (k:=K) (t:=t) (q:=a+1) (m:=n+r-(a+1))
  rw[show a+1+1+(n+r-(a+1))=n+(r+1) by omega,show a+1+(n+r-(a+1))=n+r by omega]at tm
  have hK:=a1.dx g0 g1 i1 i2 i3 aa
  refine⟨?_,?_,?_,?_,?_⟩
  ·rw[e];exact hK
  ·rw[e,tm,a2];rfl
  ·rw[e,iq aa,a3]
  ·rw[e,show n+(r+1)-1=n+r by omega,gX aa,a4]
  ·rw[e];exact Pq a5 ht
theorem vS.next {n p r:Nat} {k:Nat->Rat} {t:Rat} (h:vS n p k t r) (h0:k 0<t) (h1:t<k (n-1)):gu (fj k n t r) t (fC (fj k n t r) t (n+r))=fj k n t (r+1):=by
 obtain⟨a1,a2,a3,a4,a5⟩:=h
 obtain⟨i1,i2,i3⟩:=oZ a1 (by rw[a3];exact h0) (by rw[a4];exact h1)
 rw[aak a1.sorted i1 i2 i3];rfl
theorem Ta {c:Cu} {a b:Rat} {n f l j:Nat} {k:Nat->Rat} {cx:Ctx} {Q:ak->aH->Prop} (hk:Kept [] cx) (hc:Kn c.n c.p.toNat c.k) (hp1:1<=c.p) (hp6:c.p<=6) (hcn:c.n<2^28) (hcm:c.m<2^28) (hn:n<2^28) (hpn:c.p+1<=n) (hf:fL (kM a k) n=f) (hl:fL (ko b k) n=l) (h1:c.p.toNat+1<=f) (h2:f<=l) (h3:l+c.p.toNat+1<=n)
  (hQ:∀e s',dX cx (Fin T pJ (dL (zm (kq c n k) a b f l) sK sB)) e s'->Q e s'):ay P cx pJ.ntmps sM ⟨aF nK (pH a b n k j),ql c,2⟩ Q:=by
 have hv:∀{rl:List (Nat×Nat)} {k x y y':Nat},aY rl k=some x->y=y'->gA rl (.agg [.int .i64 c.p,.own x 3 0 y,.nil]) (.agg [.int .i64 c.p,.own k 3 0 y',.nil]):=fun h e=>l9 ⟨⟨rfl,aK rfl⟩,⟨rfl,cP h rfl e⟩,⟨rfl,aK rfl⟩,trivial⟩
 refine ay.jx hT y5 hm (x:=sM) [1,1,1,1,1,0,1] (i:=4) (y:=part sM [1,1,1,1,1,0,1,0,0]) (z:=qE) ah ah ah ah hk (f1:=[]) (f2:=[69]) 60 yL 5
  (fun i:Nat=>HI c.p a b n k f l i) (fun i=>ud c (kq c n k) (fun _=>a) i) (fun i=>i<=c.p.toNat+1) (fun i=>i=c.p.toNat+1) (fun i=>c.p.toNat+1-i) (fun _=>False) ⟨_,aiO,?_⟩ (fun i hi=>⟨_,Va,?_⟩) (fun i hi=>?_) (fun _ _ h=>h.elim)
 ·have e1:fL (kM a fun i=>aZ (rat (k i) 2000)) n=f:=hf
  have e2:fL (ko b fun i=>aZ (rat (k i) 2000)) n=l:=hl
  simp only[ag.all,aA,e1,e2]
  refine⟨⟨aa,cI (by decide),wH (by decide),cI (by decide),hc,hp1,hp6,aa,aa,aa,hpn,aa⟩,⟨aa,aa⟩,⟨cI bp,aa,aa,aa,aa⟩,⟨cI bp,aa,aa,aa⟩,⟨aa,aa⟩,0,Nat.zero_le _,[(0,0),(1,1),(2,12290),(3,20482)],rfl,rfl,rfl,qL rfl aa aa (dF rfl rfl (l9 ⟨⟨rfl,aK rfl⟩,⟨rfl,r9 aa⟩,⟨rfl,aK rfl⟩,trivial⟩) (aO (aO (aO trivial))))⟩
 ·simp only[ag.all,aA,bf,bt,aX]
  refine⟨fun h=>⟨⟨aa,aa,aa,aa⟩,aa,i+1,aa,by dsimp only;omega,[(0,0),(1,1),(2,2),(3,3),(4,20485)],rfl,rfl,rfl,bO rfl rfl rfl (fun q hq=>pG (y:=fun _=>a) (fun _ _=>rfl) rfl bp bp hq) (dF rfl rfl (hv rfl rfl) (aO (aO (aO trivial))))⟩,fun h=>⟨rfl,i,aa,[(0,0),(1,1),(2,2),(3,3),(4,4)],rfl,rfl,rfl,g9 (dF rfl rfl (hv rfl rfl) (aO (aO (aO trivial))))⟩⟩
 ·subst hi
  refine ay.jx hT y5 hm (x:=qE) [1,0,1] (i:=6) (y:=part qE [1,0,1,0,0]) (z:=part qE [1,1]) ah ah ah ah hk (f1:=[]) (f2:=[90]) 60 xT 5
   (fun i:Nat=>F5 c.p b f l i) (fun i=>ud c (kq c n k) (oE c.p.toNat a b k f l) (c.p.toNat+1+(l-f)+i)) (fun i=>i<=c.p.toNat+1) (fun i=>i=c.p.toNat+1) (fun i=>c.p.toNat+1-i) (fun _=>False) ⟨_,YU,?_⟩ (fun i hi=>⟨_,adk,?_⟩) (fun i hi=>?_) (fun _ _ h=>h.elim)
  ·simp only[ag.all,aA,aX]
   have e1:((f:Int)-1+1).toNat=f:=aa
   simp only[e1]
   refine⟨⟨aa,aa,aa,aa,aa⟩,⟨aa,aa⟩,0,Nat.zero_le _,[(0,0),(1,1),(2,2),(3,3),(4,28677)],rfl,rfl,rfl,bO rfl rfl rfl (fun q hq=>cB (xy rfl rfl) ?_) (dF rfl rfl (hv rfl rfl) (aO (aO (aO trivial))))⟩
   have hq:q<c.p.toNat+1+(l-f)+0:=hq
   unfold oE
   by_cases c1:q<c.p.toNat+1
   ·rw[if_pos c1,if_pos c1]
   ·rw[if_neg c1,if_neg c1,if_pos aa,Nat.add_comm]
  ·simp only[ag.all,aA,bf,bt,aX]
   refine⟨fun h=>⟨⟨aa,aa,aa,aa⟩,aa,i+1,aa,by dsimp only;omega,[(0,0),(1,1),(2,2),(3,3),(4,20485)],rfl,rfl,rfl,bO rfl rfl rfl (fun q hq=>pG (y:=oE c.p.toNat a b k f l) (fun _ _=>rfl) ?_ bp bp hq) (dF rfl rfl (hv rfl rfl) (aO (aO (aO trivial))))⟩,fun h=>⟨rfl,i,aa,[(0,0),(1,1),(2,2),(3,3),(4,4)],rfl,rfl,rfl,g9 (dF rfl rfl (hv rfl rfl) (aO (aO (aO trivial))))⟩⟩
   unfold oE
   rw[if_neg aa,if_neg aa]
  ·subst hi
   refine ay.mC ((aG.fin hT y5 hm 60 aeH ah ?_).mono fun _ _ h=>hQ _ _ (.inl h))
   simp only[ag.all,aA,aX]
   have e1:((f:Int)-1-c.p).toNat=f-1-c.p.toNat:=aa
   have e2:(kq c n k).m=n-c.p.toNat-1:=rfl
   simp only[e1,e2]
   refine⟨⟨aa,aa,aa,aa,aa⟩,⟨aa,aa⟩,aa,cu ⟨.refl _,gm fun i hi=>bQ rfl (by decide),rU rfl fun i _=>?_,trivial⟩⟩
   show cy (pO c n k (i+(f-1-c.p.toNat))) sB=cy (pO c n k (f-1-c.p.toNat+i)) sB
   rw[Nat.add_comm]
abbrev zz (z:Nat->Int):Nat->AV:=fun i=>.int .i64 (z i)
def gk (k:Nat->Rat) (n:Nat):Nat->Nat
 |0=>0
 |i+1=>gk k n i+if i+1=n\/k i≠k (i+1)then 1 else 0
def qU (k:Nat->Rat) (n:Nat):Nat->Nat->Rat
 |0,_=>0
 |i+1,q=>if q<i+gk k n i then qU k n i q else k i
section
variable {k:Nat->Rat} {n:Nat}
theorem ahb {i:Nat} (h:i+1=n\/k i≠k (i+1)):gk k n (i+1)=gk k n i+1:=by rw[gk,if_pos h]
theorem aby {i:Nat} (h:¬(i+1=n\/k i≠k (i+1))):gk k n (i+1)=gk k n i:=by rw[gk,if_neg h];rfl
theorem E4 {i:Nat}:gk k n i<=gk k n (i+1)/\gk k n (i+1)<=gk k n i+1:=by
 rw[gk];split<;>omega
theorem Nl {i:Nat}:∀{j:Nat},i<=j->gk k n i<=gk k n j
 |0,h=>by rw[show i=0 by omega];exact Nat.le_refl _
 |j+1,h=>by
  by_cases e:i=j+1
  ·rw[e];exact Nat.le_refl _
  ·exact Nat.le_trans (Nl (j:=j) (by omega)) E4.1
theorem BU {i q:Nat}:∀{m:Nat},i<m->i+gk k n i<=q->q<i+1+gk k n (i+1)->qU k n m q=k i
 |0,h,_,_=>by omega
 |m+1,h,h1,h2=>by
  by_cases e:i=m
  ·subst e;rw[qU,if_neg (by omega)]
  ·have:=Nl (k:=k) (n:=n) (show i+1<=m by omega)
   rw[qU,if_pos (by omega),BU (m:=m) (by omega) h1 h2]
end
end Go.Am.B
namespace Go.Am.B
open Go Go.Am.N AV ag ak IntKind
def tC (c:Cu) (a b:Rat):Rat:=if a=c.k 0 then b else a
def IQ (c:Cu) (a b:Rat):Nat:=c.n+(c.p.toNat-bF c.k (tC c a b) c.n)
def OD (c:Cu) (a b:Rat):Nat->Rat:=fj c.k c.n (tC c a b) (c.p.toNat-bF c.k (tC c a b) c.n)
def QX (c:Cu) (a b:Rat):Nat:=fL (kM a (OD c a b)) (IQ c a b)
def LS (c:Cu) (a b:Rat):Nat:=fL (ko b (OD c a b)) (IQ c a b)
structure CutOK (c:Cu) (a b:Rat):Prop where
 kn:Kn c.n c.p.toNat c.k
 p1:1<=c.p
 p6:c.p<=6
 n:c.n<2^27
 m:c.m<2^28
 kd:∀i,fH (c.k i)
 td:fH (tC c a b)
 t0:c.k 0<tC c a b
 t1:tC c a b<c.k (c.n-1)
 ab:a=c.k 0\/b=c.k (c.n-1)
 f1:c.p.toNat+1<=QX c a b
 f2:QX c a b<=LS c a b
 f3:LS c a b+c.p.toNat+1<=IQ c a b
abbrev cr (c:Cu):Cu:=⟨c.p,c.n,c.k,c.m,fun i=>b9 (c.f i)⟩
abbrev oR (c:Cu):Cu:=⟨c.p,c.n,c.k,c.m,fun i=>fu (c.f i)⟩
theorem Ux {c:Cu} {P j e:Nat} {K:Nat->Rat} (hc:Kn c.n c.p.toNat c.k) (hp1:1<=c.p) (hm2:(c.m:Int)=(c.n:Int)-c.p-1) (hA:At c.n c.k P):
  iB c (P:Nat) c.p.toNat (fun i=>K (i+(j+1))) e=dy c.k c.p.toNat (fun i=>cR (c.f i) e) P (bB K (j+1) c.p.toNat):=by
 obtain⟨w1,w2⟩:=hc.wide hA
 have hw:=hA.wide
 have hE:iL c.n c.k c.p.toNat c.m c.p.toNat (P:Nat)=0:=OZ aa rfl (by
  rw[aX]
  rintro(h|h|h)
  ·omega
  ·omega
  ·exact absurd h (Rat.not_le.2 hw))
 unfold iB mV
 rw[if_pos hE,aX,MP]
 have e1:bB (fun i=>K (i+(j+1))) 0 c.p.toNat=bB K (j+1) c.p.toNat:=by
  have:=G4 (k:=K) (c:=j+1) (l:=c.p.toNat) (a:=0)
  rw[Nat.add_zero]at this
  rw[<-this]
  exact xJ fun i _ _=>by rw[Nat.add_comm i (j+1)]
 rw[e1];rfl
def IC (s:Nat):Kind Mp:=⟨fun v=>match Cg v with
 |some (a,q)=>some (a.1,(a.2<=s)::q)
 |none=>none,fun a=>mP a s,fun {v a q} h hq=>by
  split at h
  ·rename_i a q h1
   simp only[au,Prod.mk.injEq]at h
   obtain⟨rfl,rfl⟩:=h
   obtain⟨q1,q2⟩:=(dn (a:=[_]) (b:=q)).1 hq
   exact(adg h1 q2).trans (ai7 rfl q1)
  ·simp at h⟩
def iM (r v:V3) (t:Rat):Rat:=0+r.x*v.x+r.y*v.y+r.z*v.z+t
def ZT (m:Mp) (v:V3):V3:=⟨iM m.m.a v m.t.x,iM m.m.b v m.t.y,iM m.m.c v m.t.z⟩
def wF (m:Mp) (p:Pl):Pl:=⟨ZT m p.n,p.d⟩
structure CuEq (c d:Cu):Prop where
 p:c.p=d.p
 n:c.n=d.n
 k:∀i,i<c.n->c.k i=d.k i
 m:c.m=d.m
 f:∀i,i<c.m->c.f i=d.f i
structure SfEq (s t:Sf):Prop where
 u:s.u=t.u
 v:s.v=t.v
 a:s.a=t.a
 ku:∀i,i<s.a->s.ku i=t.ku i
 b:s.b=t.b
 kv:∀i,i<s.b->s.kv i=t.kv i
 n:s.n=t.n
 m:s.m=t.m
 f:∀i j,i<s.n->j<s.m->s.f i j=t.f i j
theorem SM {x y z d x' y' z' d':Rat} {s1 s2 s3 s4 s:Nat} (h1:x=x') (h2:y=y') (h3:z=z') (h4:d=d') (k1:s1<=s) (k2:s2<=s) (k3:s3<=s) (k4:s4<=s):bD (.agg [.agg [.rat x s1,.rat y s2,.rat z s3],.rat d s4]) (bU ⟨⟨x',y',z'⟩,d'⟩ s):=
 cu ⟨cu ⟨bQ h1 k1,bQ h2 k2,bQ h3 k3,trivial⟩,bQ h4 k4,trivial⟩
theorem MJ:aU P BO Ga (az Ga):=aT Proofs.Tryz.func105 ah ah ah
def Hy:aV:=[(NH,gT T fK [] 60 Js),(aaU,gT T fK [] 60 UT)]
def Ks:aV:=[(OR,gT T Hy [] 60 Ox),(aho,gT T Hy [] 60 ahE)]
def J8:aV:=[(afT,gT T Ks [] 60 ajh)]
abbrev xZ:List Nat:=[3,4,5,15,16,17]
abbrev Is (c:Cu) (r i:Nat):List AV:=[.ptr 1 0 36 0 [],.ptr 2 0 3 0 [],.ptr 3 0 3 0 [],mE c.f c.m r,.int .i64 c.m,.int .i64 i]
abbrev wM:Code:=az Ga
theorem Mq:bn P Hy:=aI (ig hT fZ hm (aT Proofs.Tryz.func261 ah ah ah) _ _) (aI (ig hT fZ hm (aT Proofs.Tryz.func283 ah ah ah) _ _) bE)
theorem S0:bn P Ks:=aI (ig hT Mq hm (aT Proofs.Tryz.func207 ah ah ah) _ _) (aI (ig hT Mq hm (aT Proofs.Tryz.func246 ah ah ah) _ _) bE)
theorem adz:bn P J8:=aI (ig hT S0 hm (aT Proofs.Tryz.func176 ah ah ah) _ _) bE
theorem aiK (m:Mp) (s:Nat):(bA (mP m s)).size=36:=ah
def L7:aV:=[(NH,gT T (sG::fK) [] 60 Js)]
def Nv:aV:=[(OR,gT T (sG::L7) [] 60 Ox)]
def Qv:aV:=[(XH,gT T (sG::(Nv++fK)) [] 60 XX)]
theorem W5:bn P L7:=aI (ig hT (ke fZ) hm (aT Proofs.Tryz.func261 ah ah ah) _ _) bE
theorem afG:bn P Nv:=aI (ig hT (ke W5) hm (aT Proofs.Tryz.func207 ah ah ah) _ _) bE
theorem RM:bn P Qv:=aI (ig hT (ke (oF afG fZ)) hm (aT Proofs.Tryz.func112 ah ah ah) _ _) bE
theorem LW (c:Cu) (s r:Nat):(bA (bT c s r)).size=3:=ah
theorem Zc {d:Int}:0<=j8 d/\j8 d<=1:=by
 unfold j8
 have h1:1<=oU d:=by
  unfold oU
  have:=Int.emod_nonneg (i64.wrap (d.tdiv 17)) (show(12:Int)≠0 by omega)
  omega
 generalize oU d=m at*
 have h2:=Int.emod_nonneg d (show m+1≠0 by omega)
 have h3:=Int.emod_lt_of_pos d (show 0<m+1 by omega)
 generalize d%(m+1)=x at*
 have e1:(0:Rat)<=(x:Rat):=by exact_mod_cast h2
 have e2:(x:Rat)<=(m:Rat):=by exact_mod_cast (show x<=m by omega)
 have e3:(0:Rat)<(m:Rat):=by exact_mod_cast (show 0<m by omega)
 have e4:(x:Rat)/(m:Rat)*(m:Rat)=(x:Rat):=Rat.div_mul_cancel (by intro h;rw[h]at e3;exact absurd e3 (by decide))
 generalize (x:Rat)/(m:Rat)=q at*
 generalize (x:Rat)=u at*
 generalize (m:Rat)=v at*
 refine⟨?_,?_⟩
 ·rcases Rat.le_total (a:=0) (b:=q)with h|h
  ·exact h
  ·by_cases hq:q=0
   ·rw[hq];exact Rat.le_refl
   ·have:=Rat.mul_pos (a:=-q) (b:=v) (by grind) e3
    grind
 ·rcases Rat.le_total (a:=q) (b:=1)with h|h
  ·exact h
  ·by_cases hq:q=1
   ·rw[hq];exact Rat.le_refl
   ·have:=Rat.mul_pos (a:=q-1) (b:=v) (by grind) e3
    grind
theorem R3 {a b:Rat} {d:Int} (h:a<=b):a<=a+j8 d*(b-a)/\a+j8 d*(b-a)<=b:=by
 obtain⟨h1,h2⟩:=Zc (d:=d)
 generalize j8 d=q at*
 have e1:=Rat.mul_nonneg h1 (show 0<=b-a by grind)
 have e2:=Rat.mul_nonneg (show 0<=1-q by grind) (show 0<=b-a by grind)
 constructor<;>grind
theorem Kn.Ti {n p:Nat} {k:Nat->Rat} (h:Kn n p k) {d:Int}:¬cT n k (k 0+j8 d*(k (n-1)-k 0)):=by
 have hl:=h.len
 obtain⟨h1,h2⟩:=R3 (d:=d) (h.mono (show 0<=n-1 by omega) (show n-1<n by omega))
 rintro(h3|h3)<;>grind
theorem Kn.Hq {n p:Nat} {k:Nat->Rat} (h:Kn n p k) {t:Rat} (hin:¬cT n k t):zG n k t (bL n k t):=by
 have h1:¬t<k 0:=fun h=>hin (.inl h)
 have h2:¬k (n-1)<t:=fun h=>hin (.inr h)
 exact(h.xd (by grind) (by grind)).1
theorem Kn.ends {n p:Nat} {k:Nat->Rat} (h:Kn n p k):k 0<k (n-1):=by
 have h1:=h.p1
 have hl:=h.len
 have:=h.mult 1 aa aa
 have e1:=h.mono (show 0<=1 by omega) (show 1<n by omega)
 have e2:=h.mono (show 1+p<=n-1 by omega) (show n-1<n by omega)
 grind
theorem B5 {n:Nat} {k:Nat->Rat} {a b:Rat} {i:Nat}:nF n k a b i=a+(k i-k 0)*((k (n-1)-k 0)⁻¹*(b-a)):=by
 unfold nF;rw[Rat.div_def];grind
theorem Kn.adv {n p:Nat} {k:Nat->Rat} {a b:Rat} (h:Kn n p k) (hab:a<b):Kn n p (nF n k a b):=by
 have he:=h.ends
 have hp:0<(k (n-1)-k 0)⁻¹*(b-a):=Rat.mul_pos (Rat.inv_pos.2 (by grind)) (by grind)
 have key:∀i j,k i<=k j->nF n k a b i<=nF n k a b j:=fun i j hij=>by
  rw[B5,B5]
  have:=Rat.mul_le_mul_of_nonneg_right (show k i-k 0<=k j-k 0 by grind) (Rat.le_of_lt hp)
  grind
 have keyL:∀i j,k i<k j->nF n k a b i<nF n k a b j:=fun i j hij=>by
  rw[B5,B5]
  have:=Rat.mul_lt_mul_of_pos_right (show k i-k 0<k j-k 0 by grind) hp
  grind
 have keyE:∀i j,k i=k j->nF n k a b i=nF n k a b j:=fun i j hij=>by unfold nF;rw[hij]
 exact⟨h.p1,h.len,fun i hi=>key _ _ (h.sorted i hi),fun i hi=>keyE _ _ (h.first i hi),fun i h2 h3=>keyE _ _ (h.last i h2 h3),fun i h2 h3=>keyL _ _ (h.mult i h2 h3)⟩
def Rh:aV:=[(Xq,gT T (sG::tw) [] 100 T4)]
theorem ael:bn P Rh:=aI (ig hT (ke yY) hm (aT Proofs.Tryz.func106 ah ah ah) _ _) bE
theorem IE:((1:Int):Rat)=1:=rfl
theorem Wj {v:V3}:iM ⟨((1:Int):Rat),0,0⟩ v 0=v.x:=by unfold iM;rw[IE];dsimp only;grind
theorem VY {v:V3}:iM ⟨0,((1:Int):Rat),0⟩ v 0=v.y:=by unfold iM;rw[IE];dsimp only;grind
theorem YR {v:V3}:iM ⟨0,0,((1:Int):Rat)⟩ v 0=v.z:=by unfold iM;rw[IE];dsimp only;grind
theorem Up {c:Cu} {s r:Nat} (hp:c.p=0) (hn:c.n=0) (hm2:c.m=0):bD (.agg [.int .i64 0,.nil,.nil]) (bT c s r):=by
 obtain⟨p,n,k,m,f⟩:=c
 dsimp only at hp hn hm2
 subst hp hn hm2
 exact cu ⟨.refl _,jI (by decide),jI (by decide),trivial⟩
theorem Sb {x y f:Rat} (hx:0<x) (hy:0<y) (h0:0<=f) (h1:f<=1):0<x+f*(y-x):=by
 by_cases c:x<=y
 ·have:=Rat.mul_nonneg h0 (show 0<=y-x by grind)
  grind
 ·have:=Rat.mul_nonneg (show 0<=1-f by grind) (show 0<=x-y by grind)
  grind
theorem IW {n p P:Nat} {k x:Nat->Rat} (hA:At n k P) (w1:p<=P) (w2:P+p+1<n) (hx:∀j,0<x j):∀{E:List Rat} {a c:Nat},E.length+(a+c)=p->(∀d∈E,k (P-a)<=d/\d<=k (P+c+1))->0<dy k p x P (E++bB k (P+1-a) (a+c))
 |[],a,c,hl,_=>by
  have hl:a+c=p:=by simpa using hl
  have:dy k p x P (bB k (P-a+1) p)=x (P-a):=tT hA w1 (by omega) (by omega) (by omega)
  rw[List.nil_append,hl,show P+1-a=P-a+1 by omega,this]
  exact hx _
 |d::E,a,c,hl,hb=>by
  have hl:E.length+1+(a+c)=p:=by simpa using hl
  have hA':At n k (P-p+p):=by rwa [show P-p+p=P by omega]
  obtain⟨b1,b2⟩:=hb d (List.mem_cons_self ..)
  have hlt:k (P-a)<k (P+c+1):=hA.around (by omega) (by omega) (by omega)
  have m1:k (P-(a+1))<=k (P-a):=fF hA.sorted (by omega) (by omega)
  have m2:k (P+c+1)<=k (P+(c+1)+1):=fF hA.sorted (by omega) (by omega)
  have i1:=IW hA w1 w2 hx (E:=E) (a:=a+1) (c:=c) (by omega) fun e he=>⟨Rat.le_trans m1 (hb e (List.mem_cons_of_mem _ he)).1,(hb e (List.mem_cons_of_mem _ he)).2⟩
  have i2:=IW hA w1 w2 hx (E:=E) (a:=a) (c:=c+1) (by omega) fun e he=>⟨(hb e (List.mem_cons_of_mem _ he)).1,Rat.le_trans (hb e (List.mem_cons_of_mem _ he)).2 m2⟩
  have hlen:(E++bB k (P+1-a) (a+c)).length+1=p:=by rw[List.length_append,jB];omega
  have p1:(k (P-a)::(E++bB k (P+1-a) (a+c))).Perm (E++bB k (P+1-(a+1)) (a+1+c)):=by
   rw[show P+1-(a+1)=P-a by omega,show a+1+c=a+c+1 by omega,show bB k (P-a) (a+c+1)=k (P-a)::bB k (P-a+1) (a+c)from rfl,show P-a+1=P+1-a by omega]
   exact List.perm_middle.symm
  have p2:(k (P+c+1)::(E++bB k (P+1-a) (a+c))).Perm (E++bB k (P+1-a) (a+(c+1))):=by
   rw[show a+(c+1)=a+c+1 by omega,th,show P+1-a+(a+c)=P+c+1 by omega,<-List.append_assoc]
   exact List.perm_append_comm (l₁:=[k (P+c+1)])
  have q1:dy k p x P (k (P-a)::(E++bB k (P+1-a) (a+c)))=_:=qR hA' (by omega) p1 (by rw[List.length_cons];omega)
  have q2:dy k p x P (k (P+c+1)::(E++bB k (P+1-a) (a+c)))=_:=qR hA' (by omega) p2 (by rw[List.length_cons];omega)
  have key:=IA (k:=k) (b:=P-p) (x:=fun q=>x (P-p+q)) (u:=k (P-a)) (v:=k (P+c+1)) (f:=fr (k (P-a)) (k (P+c+1)) d) hlen
  rw[Bp hlt]at key
  show 0<dy k p x P (d::(E++bB k (P+1-a) (a+c)))
  have key:dy k p x P (d::(E++bB k (P+1-a) (a+c)))=dy k p x P (k (P-a)::(E++bB k (P+1-a) (a+c)))+fr (k (P-a)) (k (P+c+1)) d*(dy k p x P (k (P+c+1)::(E++bB k (P+1-a) (a+c)))-dy k p x P (k (P-a)::(E++bB k (P+1-a) (a+c)))):=key
  rw[key,q1,q2]
  exact Sb i1 i2 (Li hlt b1) (Ln hlt b2)
inductive me (k:Nat->Rat) (P:Nat):List Rat->Nat->Prop
 |nil:me k P [] 0
 |blk {l:List Rat} {c:Nat}:me k P l c->me k P (k (P+c+1)::l) (c+1)
 |dup {l:List Rat} {c:Nat} {d:Rat}:me k P l c->k P<=d->d<=k (P+c+1)->me k P (d::l) c
theorem me.le {k:Nat->Rat} {P c:Nat} {l:List Rat} (h:me k P l c):c<=l.length:=by
 induction h with
 |nil=>exact Nat.le_refl _
 |blk _ ih=>rw[List.length_cons];omega
 |dup _ _ _ ih=>rw[List.length_cons];omega
theorem me.split {n P:Nat} {k:Nat->Rat} (hs:∀i,i+1<n->k i<=k (i+1)) {l:List Rat} {c:Nat} (h:me k P l c):P+l.length+1<n->∃E:List Rat,l.Perm (E++bB k (P+1) c)/\∀d∈E,k P<=d/\d<=k (P+c+1):=by
 induction h with
 |nil=>exact fun _=>⟨[],.refl _,fun d hd=>by simp at hd⟩
 |@blk l c hl ih=>
  intro hn
  rw[List.length_cons]at hn
  have:=hl.le
  obtain⟨E,h1,h2⟩:=ih (by omega)
  refine⟨E,?_,fun d hd=>⟨(h2 d hd).1,Rat.le_trans (h2 d hd).2 (fF hs (by omega) (by omega))⟩⟩
  rw[th,show P+1+c=P+c+1 by omega,<-List.append_assoc]
  exact(h1.cons _).trans (List.perm_append_comm (l₁:=[k (P+c+1)]))
 |@dup l c d hl d1 d2 ih=>
  intro hn
  rw[List.length_cons]at hn
  obtain⟨E,h1,h2⟩:=ih (by omega)
  refine⟨d::E,h1.cons _,fun e he=>?_⟩
  rcases List.mem_cons.1 he with rfl|he
  ·exact⟨d1,d2⟩
  ·exact h2 e he
theorem me.pos {n p P c:Nat} {k x:Nat->Rat} {l:List Rat} (hA:At n k P) (w1:p<=P) (w2:P+p+1<n) (hx:∀j,0<x j) (h:me k P l c) (hl:l.length=p):0<dy k p x P l:=by
 obtain⟨E,h1,h2⟩:=h.split hA.sorted (by omega)
 have hA':At n k (P-p+p):=by rwa [show P-p+p=P by omega]
 have e:dy k p x P l=dy k p x P (E++bB k (P+1) c):=qR hA' (by omega) h1 (by omega)
 have hlen:=h1.length_eq
 rw[List.length_append,jB]at hlen
 have:=IW hA w1 w2 hx (E:=E) (a:=0) (c:=c) (by omega) h2
 rw[e]
 rwa [Nat.zero_add]at this
def Src (k:Nat->Rat) (n Q i:Nat):Prop:=i<n/\i+gk k n i<=Q/\Q<i+1+gk k n (i+1)
theorem Src.val {k:Nat->Rat} {n Q i:Nat} (h:Src k n Q i):qU k n n Q=k i:=BU h.1 h.2.1 h.2.2
theorem Src.next {k:Nat->Rat} {n Q i:Nat} (h:Src k n Q i) (hQ:Q+1<n+gk k n n):Src k n (Q+1) i\/(Src k n (Q+1) (i+1)/\Q+1=i+1+gk k n (i+1)):=by
 obtain⟨h1,h2,h3⟩:=h
 by_cases c:Q+1<i+1+gk k n (i+1)
 ·exact .inl ⟨h1,by omega,c⟩
 ·have hlt:i+1<n:=by
   by_cases e:i+1<n
   ·exact e
   ·have:i+1=n:=by omega
    rw[this]at c
    omega
  have:=(E4 (k:=k) (n:=n) (i:=i+1)).1
  exact .inr ⟨⟨hlt,by omega,by omega⟩,by omega⟩
theorem Src.last {k:Nat->Rat} {n Q i:Nat} (h:Src k n Q i) (hQ:Q+2<n+gk k n n) (hw:qU k n n (Q+1)≠qU k n n (Q+2)):Src k n (Q+1) i:=by
 rcases h.next (by omega)with h|⟨h,e⟩
 ·exact h
 ·exfalso
  have hv:=h.val
  obtain⟨h1,h2,h3⟩:=id h
  by_cases c:i+1+1=n\/k (i+1)≠k (i+1+1)
  ·have:=ahb (k:=k) c
   exact hw (by rw[hv];exact(BU (k:=k) h1 (by omega) (by omega)).symm)
  ·have hg:=aby (k:=k) c
   have h4:k (i+1)=k (i+1+1):=Classical.not_not.1 fun g=>c (.inr g)
   have:=(E4 (k:=k) (n:=n) (i:=i+1+1)).1
   exact hw (by rw[hv,h4];exact(BU (k:=k) (i:=i+1+1) (by omega) (by omega) (by omega)).symm)
section
variable {k:Nat->Rat} {b p:Nat}
end
end Go.Am.B
namespace Go.Am.B
open Go Go.Am.N AV ag ak IntKind
theorem ajm:aU P IB zT (az zT):=aT Proofs.Tryz.func169 ah ah ah
theorem Qk:aU P z9 BQ (az BQ):=aT Proofs.Tryz.func76 ah ah ah
def RE:aV:=[(r7,iS uu),(Hv,iS HY),(o5,ye)]
def rm (n:Nat) (f:Nat->AV) (a:Int) (b:Bool):Pl:=⟨⟨gB n f a,gB n f (gl n f a),if b=true then 0 else gB n f (gl n f (gl n f a))⟩,((1+dg n f (jK n f a) 3:Int):Rat)⟩
def FR (n:Nat) (f:Nat->AV) (a:Int):Int:=bK n (jK n f a)
def FI (n:Nat) (f:Nat->AV) (a:Int) (l:List AV):Option (AV×Int×List Prop):=match l with
 |[.bool b]=>some (bU (rm n f a b) 64,FR n f a,[])
 |_=>none
def CS:aV:=nG::(r7,iS uu)::(zA,iS HF)::(IB,iS FI)::[]
abbrev x8:List Nat:=[0,3,8,9,10]
abbrev I3 (b:Bool) (i:Nat):List AV:=[.ptr 0 0 2 0 [],.bool b,.ptr 1 0 3 0 [],.ptr 2 0 3 0 [],.int .i64 i]
abbrev E5 (n:Nat) (z:Nat->Int) (a p:Int) (N:Nat) (k:Nat->Rat) (f:Nat->Pl) (j:Nat):aE:=
 [(3,⟨true,true,12,j,fun i=>bU (f i) 64⟩),(2,⟨false,true,3,1,fun _=>.agg [.int .i64 p,bN k N 64,.own 3 12 0 j]⟩),(1,⟨false,true,3,1,fun _=>.agg [.int .i64 0,.nil,.nil]⟩),(0,lp n z a)]
abbrev w8:Code:=az BQ
theorem ahk {n:Nat} {z:Nat->Int} {a:Int} {b:Bool}:uj T RE [8] 60 zT (az zT) ⟨aQ 0 [.ptr 0 0 2 0 [],.bool b],[(0,lp n z a)],1⟩=
  let c9:Int:=gl n (fun i=>int i64 (z i)) a;let c8:AV:=rat (gB n (fun i=>int i64 (z i)) a) 64;let c6:Int:=jK n (fun i=>int i64 (z i)) a;let c4:Prop:=0<1;let c5:AV:=rat (gB n (fun i=>int i64 (z i)) c9) 64;let c3:Option ax:=some (ax.mk false true 2 1 fun x=>agg [aq 1 n fun i=>int i64 (z i),int i64 (bK n c6)]);let c1:Int:=i64.wrap ((1:Int)+(dg n (fun i=>int i64 (z i)) c6 (3:Int)).tmod (3:Int));let c7:AV:=rat (↑c1:Rat) (Max.max 1 (bG c1.natAbs));let c2:List Prop:=[c4,cW n (fun i=>int i64 (z i)) c6,(0:Int)<(3:Int),(3:Int)<(2:Int)^62,(3:Int)≠(0:Int),-(2:Int)^63<=c1,c1<(2:Int)^63,c4];some (aj [cW n (fun i=>int i64 (z i)) a,c4] (fork b (aj [(0:Int)<=(2:Int)/\(2:Int)<(↑(3:Nat):Int),c4] (aj c2 (aj [c4] (leaf ret ([agg [agg [c8,c5,agg [AV.bool false,mag 0,mag 0]],c7]],c3))))) (aj c2 (aj [c4] (leaf ret ([agg [agg [c8,c5,rat (gB n (fun i=>int i64 (z i)) (gl n (fun i=>int i64 (z i)) c9)) 64],c7]],c3)))))):=ah
theorem Sx {n:Nat} {z:Nat->Int} {a p m:Int} {b:Bool}:aJ T CS [] 60 x8 (before w8 [1,1,1,0,1]) ⟨aQ 0 [.ptr 0 0 2 0 [],.int .i64 p,.int .i64 m,.bool b],[(0,lp n z a)],1⟩=
  let c4:Prop:=0<1;let c2:AV:=agg [int i64 0,nil,nil];let c1:Int:=(1:Int)+dg n (fun i=>int i64 (z i)) a p;let c3:AV:=bA (agg (c2.kids.set 0 (bA (int i64 c1))));some (aj [cW n (fun i=>int i64 (z i)) a,(0:Int)<p,p<(2:Int)^62,-(2:Int)^63<=c1/\c1<(2:Int)^63,c4] (aj [c4,cW n (fun i=>int i64 (z i)) (bK n a),(1:Int)<=c1,c1<(1000:Int),(0:Int)<=m,m<(1000:Int),c4] (leaf normal ([ptr 0 0 2 0 [],AV.bool b,ptr 1 0 3 0 [],ptr 24577 0 3 0 [],int i64 0],[((24577:Nat),bg fun j=>if(j==0)=true then agg ((if((0:Nat)==0)=true then c3 else c2).kids.set 1 (bA (bN (sr n (fun i=>int i64 (z i)) (bK n a) c1.toNat m.toNat) (pI n (fun i=>int i64 (z i)) (bK n a) c1.toNat m.toNat) 64)))else if(j==0)=true then c3 else c2),((1:Nat),bg fun x=>c2),(0,ax.mk false true 2 1 fun x=>agg [aq 1 n fun i=>int i64 (z i),int i64 (sI n (fun i=>int i64 (z i)) (bK n a) c1.toNat m.toNat)])])))):=ah
theorem aje {n N j:Nat} {z:Nat->Int} {a p:Int} {k:Nat->Rat} {f:Nat->Pl} {b:Bool}:aJ T CS [30] 60 x8 [part w8 [1,1,1,0,1,0,0]] ⟨aF x8 (I3 b j),E5 n z a p N k f j,4⟩=
  let c15:Int:=(↑j:Int);let c14:Int:=(↑N:Int)-p;let c13:Int:=gl n (fun i=>int i64 (z i)) a;let c12:AV:=own 3 12 0 j;let c11:AV:=aq 1 n fun i=>int i64 (z i);let c9:AV:=ptr 2 0 3 0 [];let c8:AV:=ptr 1 0 3 0 [];let c7:AV:=ptr 0 0 2 0 [];let c6:Prop:=0<1;let c5:AV:=rat 0 1;let c2:Nat×ax:=((1:Nat),bg fun x=>agg [int i64 0,nil,nil]);let c1:Int:=(2:Int)^63;let c10:Int:=c15+(1:Int);let c4:Int:=c14-(1:Int);let c3:AV:=agg [int i64 p,bN k N 64,c12];some (aj [c6,c6,-c1<=c14/\c14<c1,-c1<=c4/\c4<c1] (fork (decide (c15<c4)) (aj [c6,cW n (fun i=>int i64 (z i)) a,(1:Nat)*12<=2^24,(j+1)*((224:Nat)+1)*2<=2^47,c6] (aj [-c1<=c10/\c10<c1] (leaf normal ([c7,AV.bool b,c8,c9,int i64 c10],[(61444,ax.mk true true 12 (j+1) fun i=>if i<j then bU (f i) 64 else nth [agg [agg [rat (gB n (fun i=>int i64 (z i)) a) 64,rat (gB n (fun i=>int i64 (z i)) c13) 64,rat (if b=true then 0 else gB n (fun i=>int i64 (z i)) (gl n (fun i=>int i64 (z i)) c13)) 64],rat (↑((1:Int)+dg n (fun i=>int i64 (z i)) (jK n (fun i=>int i64 (z i)) a) (3:Int)):Rat) 64]] (agg [agg [c5,c5,c5],c5]) (i-j+0)),((2:Nat),bg fun j_1=>if(j_1==0)=true then agg (c3.kids.set 2 (bA (own (nat_lit 61443+1) 12 0 (j+1))))else c3),c2,(0,ax.mk false true 2 1 fun x=>agg [c11,int i64 (FR n (fun i=>int i64 (z i)) a)])])))) (leaf (exit 0) ([c7,AV.bool b,c8,c9,int i64 c15],[(3,ax.mk true true 12 j fun i=>agg [agg [rat (f i).n.x 64,rat (f i).n.y 64,rat (f i).n.z 64],rat (f i).d 64]),((2:Nat),bg fun x=>agg [int i64 p,aq 3 N fun i=>rat (k i) 64,c12]),c2,(0,ax.mk false true 2 1 fun x=>agg [c11,int i64 a])])))):=ah
theorem agd {n N j:Nat} {z:Nat->Int} {a p:Int} {k:Nat->Rat} {f:Nat->Pl} {b:Bool}:zX T CS [] 60 BQ [part w8 [1,1,1,1]] ⟨aF x8 (I3 b j),E5 n z a p N k f j,4⟩=
  let c1:Prop:=0<1;some (aj [c1,c1] (aj [c1] (leaf ret ([agg [int i64 p,aq 3 N fun i=>rat (k i) 64,aq 12 j fun i=>agg [agg [rat (f (i+0)).n.x 64,rat (f (i+0)).n.y 64,rat (f (i+0)).n.z 64],rat (f (i+0)).d 64]]],some (ax.mk false true 2 1 fun x=>agg [aq 1 n fun i=>int i64 (z i),int i64 a]))))):=ah
theorem Yn:bn P RE:=aI Au (aI ae5 (aI BY bE))
theorem afy:∀K args pre r,iS FI K args pre=some r->aD P IB K args pre r:=by
 refine uG fun {k n z a l v b q o} K hg ho hd hq=>?_
 unfold FI at hg
 split at hg
 ·rename_i b
  simp only[au,Prod.mk.injEq]at hg
  obtain⟨rfl,rfl,rfl⟩:=hg
  refine Dm hT Yn hm ajm rfl rfl aW ho 60 ahk (fun _=>?_) K
  have a1:=iE (n:=n) (f:=fun i=>.int .i64 (z i)) (a:=jK n (fun i=>.int .i64 (z i)) a) (m:=3) aa
  have a2:=iP (n:=n) (f:=fun i=>.int .i64 (z i)) (a:=jK n (fun i=>.int .i64 (z i)) a) (m:=3) aa
  unfold rm
  generalize dg n (fun i=>.int .i64 (z i)) (jK n (fun i=>.int .i64 (z i)) a) 3=x at*
  have e1:x.tmod 3=x:=by rw[Int.tmod_eq_of_lt a1 a2]
  have e2:i64.wrap (1+x)=1+x:=wrap_i64 aa aa
  simp only[ag.all,aA,e1,e2]
  have hw:bD (.rat ((1+x:Int):Rat) (max 1 (bG (1+x).natAbs))) (.rat ((1+x:Int):Rat) 64):=cV rfl (Ns (y:=0) aa aa)
  refine⟨⟨hd,aa⟩,fun hb=>⟨aa,⟨aa,hd.FN,aa,aa,aa,aa,aa,aa⟩,aa,?_,_,rfl,rfl,nU rfl rfl⟩,fun hb=>⟨⟨aa,hd.FN,aa,aa,aa,aa,aa,aa⟩,aa,?_,_,rfl,rfl,nU rfl rfl⟩⟩
  ·rw[if_pos hb]
   exact cu ⟨cu ⟨.refl _,.refl _,rE (q:=(0:Rat)) ⟨by decide,by decide⟩ rfl rfl rfl,trivial⟩,hw,trivial⟩
  ·rw[if_neg (by rw[hb];decide)]
   exact cu ⟨.refl _,hw,trivial⟩
 ·simp at hg
theorem Q7:bn P CS:=dB (aI Au (aI W7 (aI afy bE)))
def jA (n:Nat) (f:Nat->AV) (a:Int):Nat->Int
 |0=>a
 |j+1=>FR n f (jA n f a j)
theorem cW.xE {n:Nat} {f:Nat->AV} {a:Int} (h:cW n f a):∀j,cW n f (jA n f a j)
 |0=>h
 |j+1=>(h.xE j).FN.next
theorem cW.fo {n:Nat} {f:Nat->AV} {a:Int} {p m:Nat} (h:cW n f a) (hp:1<=p):cW n f (sI n f a p m):=(vN h hp _).2
def kX (n:Nat) (f:Nat->AV) (a d:Int):Nat:=(1+dg n f a d).toNat
def lX (n:Nat) (f:Nat->AV) (a d:Int) (m:Nat):Int:=sI n f (bK n a) (kX n f a d) m
def gp (n:Nat) (f:Nat->AV) (a d:Int) (m:Nat) (b:Bool):Cu:=
 ⟨(kX n f a d:Nat),pI n f (bK n a) (kX n f a d) m,sr n f (bK n a) (kX n f a d) m,kX n f a d+1+jS n f (bK n a) m,fun i=>rm n f (jA n f (lX n f a d m) i) b⟩
def Gs (n:Nat) (f:Nat->AV) (a d:Int) (m:Nat):Int:=jA n f (lX n f a d m) (kX n f a d+1+jS n f (bK n a) m)
def HX (n:Nat) (f:Nat->AV) (a:Int) (l:List AV):Option (AV×Int×List Prop):=match l with
 |[.int .i64 d,.int .i64 m,.bool b]=>some (bT (gp n f a d m.toNat b) 64 64,Gs n f a d m.toNat,[1<=d,d<900,0<=m,m<900])
 |_=>none
theorem IY {n:Nat} {f:Nat->AV} {a:Int} {m:Nat}:jS n f a m<=m:=by
 have h1:=iE (n:=n) (f:=f) (a:=bK n a) (m:=m+1) aa
 have h2:=iP (n:=n) (f:=f) (a:=bK n a) (m:=m+1) aa
 unfold jS;omega
theorem W8 {k n m:Nat} {z:Nat->Int} {a d:Int} {b:Bool} {o:ax} (ho:∀ρ,cM ρ o (lp n z a)) (h:cW n (fun i=>.int .i64 (z i)) a) (hd1:1<=d) (hd2:d<900) (hm2:m<900) (K:Nat):
  aD P z9 K [.ptr k 0 2 0 [],.int .i64 d,.int .i64 m,.bool b] [(k,o)] ⟨bT (gp n (fun i=>.int .i64 (z i)) a d m b) 64 64,[(k,lp n z (Gs n (fun i=>.int .i64 (z i)) a d m))],[]⟩:=by
 refine OG hT Qk rfl rfl aW ho (fun _ c hk=>?_) K
 have a1:=iE (n:=n) (f:=fun i=>.int .i64 (z i)) (a:=a) (m:=d) aa
 have a2:=iP (n:=n) (f:=fun i=>.int .i64 (z i)) (a:=a) (m:=d) aa
 have hJ:=IY (n:=n) (f:=fun i=>.int .i64 (z i)) (a:=bK n a) (m:=m)
 unfold gp Gs lX kX
 obtain⟨p,hp⟩:∃p,p=(1+dg n (fun i=>.int .i64 (z i)) a d).toNat:=⟨_,rfl⟩
 have hp2:1+dg n (fun i=>.int .i64 (z i)) a d=(p:Int):=aa
 rw[<-hp]
 have hB:=(h.next.fo (p:=p) (m:=m) aa)
 obtain⟨N,hN⟩:∃N,N=pI n (fun i=>.int .i64 (z i)) (bK n a) p m:=⟨_,rfl⟩
 obtain⟨kk,hkk⟩:∃kk,kk=sr n (fun i=>.int .i64 (z i)) (bK n a) p m:=⟨_,rfl⟩
 obtain⟨B,hB2⟩:∃B,B=sI n (fun i=>.int .i64 (z i)) (bK n a) p m:=⟨_,rfl⟩
 have hN2:N=2*p+2+jS n (fun i=>.int .i64 (z i)) (bK n a) m:=hN
 rw[<-hN,<-hkk,<-hB2]
 rw[<-hB2]at hB
 generalize jS n (fun i=>.int .i64 (z i)) (bK n a) m=J at*
 refine ay.jx hT Q7 hm [1,1,1,0,1] (i:=0) (y:=part w8 [1,1,1,0,1,0,0]) (z:=part w8 [1,1,1,1]) ah ah ah Qk.dst hk (f1:=[]) (f2:=[30]) 60 x8 4 (fun j:Nat=>I3 b j)
  (fun j=>E5 n z (jA n (fun i=>.int .i64 (z i)) B j) p N kk (fun i=>rm n (fun i=>.int .i64 (z i)) (jA n (fun i=>.int .i64 (z i)) B i) b) j) (fun j=>j<=p+1+J) (fun j=>j=p+1+J) (fun j=>p+1+J-j) (fun _=>False) ⟨_,Sx,?_⟩ (fun j hj=>⟨_,aje,?_⟩) (fun j hj=>?_) (fun _ _ h=>h.elim)
 ·simp only[ag.all,aA,hp2,aX]
  rw[<-hN,<-hkk,<-hB2]
  exact⟨⟨h,aa,aa,aa,aa⟩,⟨aa,h.next,aa,aa,aa,aa,aa⟩,0,Nat.zero_le _,[(0,0),(1,1),(2,24577)],rfl,rfl,rfl,
   qL rfl aa aa (dF rfl rfl (l9 ⟨⟨rfl,aK rfl⟩,⟨rfl,aK rfl⟩,⟨rfl,r9 aa⟩,trivial⟩) (aO (aO trivial)))⟩
 ·simp only[ag.all,aA,bf,bt]
  have hv:∀{rl:List (Nat×Nat)} {a l:Nat},aY rl 3=some a->gA rl (.agg [.int .i64 p,bN kk N 64,.own a 12 0 l]) (.agg [.int .i64 p,bN kk N 64,.own 3 12 0 l]):=fun h=>l9 ⟨⟨rfl,aK rfl⟩,⟨rfl,aK rfl⟩,⟨rfl,cP h rfl rfl⟩,trivial⟩
  refine⟨⟨aa,aa,aa,aa⟩,fun h=>⟨⟨aa,hB.xE j,aa,aa,aa⟩,aa,j+1,aa,by dsimp only;omega,[(0,0),(1,1),(2,2),(3,61444)],rfl,rfl,rfl,
   bO rfl rfl rfl (fun i hi=>Im (y:=fun i=>rm n (fun i=>.int .i64 (z i)) (jA n (fun i=>.int .i64 (z i)) B i) b) (fun _ _=>rfl) (.refl _) rfl bp bp hi) (dF rfl rfl (hv rfl) (aO (aO trivial)))⟩,
   fun h=>⟨rfl,j,aa,[(0,0),(1,1),(2,2),(3,3)],rfl,rfl,rfl,g9 (dF rfl rfl (hv rfl) (aO (aO trivial)))⟩⟩
 ·subst hj
  refine ay.mC (aG.Nz hT Q7 hm 60 agd ah ?_)
  simp only[ag.all,aA]
  exact⟨aa,aa,.refl _,_,rfl,rfl,nU rfl rfl⟩
theorem ai4:∀K args pre r,iS HX K args pre=some r->aD P z9 K args pre r:=by
 refine uG fun {k n z a l v b q o} K hg ho hd hq=>?_
 unfold HX at hg
 split at hg
 ·rename_i d m b
  simp only[au,Prod.mk.injEq]at hg
  obtain⟨rfl,rfl,rfl⟩:=hg
  obtain⟨h1,h2,h3,h4⟩:=hq
  have h4:m<900:=h4
  have:=W8 (k:=k) (m:=m.toNat) (b:=b) ho hd h1 h2 aa K
  rw[Int.toNat_of_nonneg h3]at this
  exact this
 ·simp at hg
theorem Kg {n m:Nat} {f:Nat->AV} {a d:Int} {b:Bool} (h:cW n f a) (hd:1<=d):Kn (gp n f a d m b).n (gp n f a d m b).p.toNat (gp n f a d m b).k/\1<=(gp n f a d m b).p/\(gp n f a d m b).p<=d/\((gp n f a d m b).m:Int)=((gp n f a d m b).n:Int)-(gp n f a d m b).p-1/\
  (gp n f a d m b).m<=(gp n f a d m b).p.toNat+1+m/\∀i,1<=((gp n f a d m b).f i).d/\((gp n f a d m b).f i).d<=3:=by
 have a1:=iE (n:=n) (f:=f) (a:=a) (m:=d) aa
 have a2:=iP (n:=n) (f:=f) (a:=a) (m:=d) aa
 have hJ:=IY (n:=n) (f:=f) (a:=bK n a) (m:=m)
 unfold gp
 obtain⟨p,hp⟩:∃p,p=kX n f a d:=⟨_,rfl⟩
 have hp2:1+dg n f a d=(p:Int):=by rw[hp];unfold kX;omega
 rw[<-hp]
 dsimp only
 refine⟨?_,aa,aa,?_,aa,fun i=>?_⟩
 ·rw[aX]
  exact(vN h.next aa _).1.done
 ·have:pI n f (bK n a) p m=2*p+2+jS n f (bK n a) m:=rfl
  omega
 ·have c1:=iE (n:=n) (f:=f) (a:=jK n f (jA n f (lX n f a d m) i)) (m:=3) aa
  have c2:=iP (n:=n) (f:=f) (a:=jK n f (jA n f (lX n f a d m) i)) (m:=3) aa
  unfold rm
  dsimp only
  generalize dg n f (jK n f (jA n f (lX n f a d m) i)) 3=x at*
  exact⟨by exact_mod_cast (show 1<=1+x by omega),by exact_mod_cast (show 1+x<=3 by omega)⟩
def oM (x:Rat):Prop:=∃z:Int,x=(z:Rat)/2/\-4<=z/\z<=28
theorem DI {z:Int}:(z:Rat)/2*55440=((27720*z:Int):Rat):=by
 rw[Rat.intCast_mul,Rat.div_def,show((27720:Int):Rat)=(2:Rat)⁻¹*55440 by decide+kernel];grind
theorem oM.isD {x:Rat} (h:oM x):fH x:=by
 obtain⟨z,e,h1,h2⟩:=h
 exact⟨27720*z,by rw[e,DI],aa,aa⟩
theorem Oi {n m:Nat} {f:Nat->AV} {a d:Int} {b:Bool} (h:cW n f a) (hd:1<=d) (hm4:m<=4) (i:Nat):oM ((gp n f a d m b).k i):=by
 have a1:=iE (n:=n) (f:=f) (a:=a) (m:=d) aa
 have hJ:=IY (n:=n) (f:=f) (a:=bK n a) (m:=m)
 have hp:1<=kX n f a d:=by unfold kX;omega
 obtain⟨z,e,h1,h2⟩:=(vN (p:=kX n f a d) h.next hp (jS n f (bK n a) m)).1.JZ i
 exact⟨z,e,h1,aa⟩
theorem Uk {x y:Int} {k:Nat} (hx:x.natAbs<2^k) (hy:y≠0) (hy2:y.natAbs<2^k):Sz ((x:Rat)/(y:Rat)) k:=by
 rw[<-IS hy];exact Cl aa hx hy2
theorem EZ {n:Nat} {f:Nat->AV} {a:Int}:Sz (gB n f a) 3:=by
 have a1:=iE (n:=n) (f:=f) (a:=a) (m:=13) aa
 have a2:=iP (n:=n) (f:=f) (a:=a) (m:=13) aa
 have b1:=iE (n:=n) (f:=f) (a:=bK n (bK n a)) (m:=4) aa
 have b2:=iP (n:=n) (f:=f) (a:=bK n (bK n a)) (m:=4) aa
 unfold gB
 split
 ·exact Uk aa aa aa
 ·exact l8 aa (by decide)
theorem T8 {n m:Nat} {f:Nat->AV} {a d:Int} (h:cW n f a) (hd:1<=d) (hd6:d<=6) (hm4:m<=4):gO (gp n f a d m false) 5:=by
 obtain⟨k1,k2,k3,k4,k5,k6⟩:=Kg (m:=m) (b:=false) h hd
 have hw:∀i,Sz ((gp n f a d m false).f i).d 2:=fun i=>by
  have b1:=iE (n:=n) (f:=f) (a:=jK n f (jA n f (lX n f a d m) i)) (m:=3) aa
  have b2:=iP (n:=n) (f:=f) (a:=jK n f (jA n f (lX n f a d m) i)) (m:=3) aa
  exact l8 (x:=1+dg n f (jK n f (jA n f (lX n f a d m) i)) 3) (n:=2) aa (by decide)
 refine⟨⟨k1,k2,aa,aa,k4⟩,fun i=>?_,fun i=>(Oi h hd hm4 i).isD,fun i=>?_,fun i=>?_,fun i=>?_,fun i=>(hw i).more (by decide)⟩
 ·have:=(k6 i).1
  grind
 ·exact(hw i).mul EZ
 ·exact(hw i).mul EZ
 ·have hz:((gp n f a d m false).f i).n.z=gB n f (gl n f (gl n f (jA n f (lX n f a d m) i))):=rfl
  show Sz (((gp n f a d m false).f i).d*((gp n f a d m false).f i).n.z) 5
  rw[hz]
  exact(hw i).mul EZ
theorem ahF {d:Int}:∃q:Int,j8 d*27720=(q:Rat)/\0<=q/\q<=27720:=by
 have hv0:=Int.emod_nonneg (i64.wrap (d.tdiv 17)) (show(12:Int)≠0 by omega)
 have hv1:=Int.emod_lt_of_pos (i64.wrap (d.tdiv 17)) (show(0:Int)<12 by omega)
 obtain⟨v,hv⟩:∃v,v=oU d:=⟨_,rfl⟩
 have hv2:1<=v/\v<=12:=by rw[hv];unfold oU;omega
 have hu0:=Int.emod_nonneg d (show v+1≠0 by omega)
 have hu1:=Int.emod_lt_of_pos d (show 0<v+1 by omega)
 unfold j8
 rw[<-hv]
 generalize d%(v+1)=u at*
 obtain⟨w,hw⟩:∃w:Int,v*w=27720:=by
  rcases(show v=1\/v=2\/v=3\/v=4\/v=5\/v=6\/v=7\/v=8\/v=9\/v=10\/v=11\/v=12 by omega)with h|h|h|h|h|h|h|h|h|h|h|h<;>subst h
  ·exact⟨27720,rfl⟩
  ·exact⟨13860,rfl⟩
  ·exact⟨9240,rfl⟩
  ·exact⟨6930,rfl⟩
  ·exact⟨5544,rfl⟩
  ·exact⟨4620,rfl⟩
  ·exact⟨3960,rfl⟩
  ·exact⟨3465,rfl⟩
  ·exact⟨3080,rfl⟩
  ·exact⟨2772,rfl⟩
  ·exact⟨2520,rfl⟩
  ·exact⟨2310,rfl⟩
 have hw0:0<=w:=by
  by_cases c:0<=w
  ·exact c
  ·have:=Int.mul_le_mul_of_nonneg_left (show w<=-1 by omega) (show 0<=v by omega)
   omega
 refine⟨u*w,?_,Int.mul_nonneg hu0 hw0,?_⟩
 ·have hvr:(v:Rat)≠0:=by
   intro e
   have:v=0:=Rat.intCast_inj.1 (e:(v:Rat)=((0:Int):Rat))
   omega
  have e:(27720:Rat)=(v:Rat)*(w:Rat):=by rw[<-Rat.intCast_mul,hw];rfl
  rw[e,Rat.intCast_mul,Rat.div_def]
  have:(u:Rat)*(v:Rat)⁻¹*((v:Rat)*(w:Rat))=(u:Rat)*(((v:Rat)*(v:Rat)⁻¹)*(w:Rat)):=by grind
  rw[this,Rat.mul_inv_cancel _ hvr,Rat.one_mul]
 ·have:=Int.mul_le_mul_of_nonneg_right (show u<=v by omega) hw0
  omega
theorem ahp {x y:Rat} {d:Int} (hx:oM x) (hy:oM y) (hxy:x<=y):fH (x+j8 d*(y-x)):=by
 obtain⟨z0,e0,a1,a2⟩:=hx
 obtain⟨z1,e1,b1,b2⟩:=hy
 obtain⟨q,hq,q1,q2⟩:=ahF (d:=d)
 have o:27720*z0<=27720*z1:=fH.order (by rw[<-DI,e0]) (by rw[<-DI,e1]) hxy
 have n1:=Int.mul_nonneg q1 (show 0<=z1-z0 by omega)
 have n2:=Int.mul_le_mul_of_nonneg_right q2 (show 0<=z1-z0 by omega)
 refine⟨27720*z0+q*(z1-z0),?_,aa,aa⟩
 rw[Rat.intCast_add,Rat.intCast_mul q,Rat.intCast_sub,<-hq,<-DI,e0,e1]
 have e2:(z0:Rat)/2=(z0:Rat)*(1/2):=by rw[Rat.div_def,show((2:Rat)⁻¹)=1/2 by decide+kernel]
 have e3:(z1:Rat)/2=(z1:Rat)*(1/2):=by rw[Rat.div_def,show((2:Rat)⁻¹)=1/2 by decide+kernel]
 rw[e2,e3]
 grind
open Go
def LQ:Int:=144403552893600
theorem adr:∀v:Nat,v<33->v≠0->v∣144403552893600:=by decide
theorem EV {v:Int} (h:v.natAbs<33) (h0:v≠0):∃w:Int,LQ=v*w/\w.natAbs<=144403552893600:=by
 obtain⟨w,e⟩:=adr v.natAbs h aa
 have hw:w<=144403552893600:=by
  rw[e];exact Nat.le_mul_of_pos_left _ aa
 rcases Int.natAbs_eq v with g|g
 ·refine⟨w,?_,by simpa using hw⟩
  rw[g]
  show(144403552893600:Int)=((v.natAbs:Nat):Int)*((w:Nat):Int)
  rw[<-Int.natCast_mul,<-e];rfl
 ·refine⟨-(w:Int),?_,by simpa using hw⟩
  rw[g]
  show(144403552893600:Int)=-((v.natAbs:Nat):Int)*(-((w:Nat):Int))
  rw[Int.neg_mul_neg,<-Int.natCast_mul,<-e];rfl
def iQ (t:Rat):Prop:=∃z:Int,t=(z:Rat)/2/\-4<=z/\z<=28
def eV (r:Nat) (x:Rat):Prop:=∃z:Int,(z:Rat)=x*((LQ^(r+1):Int):Rat)/\z.natAbs<=2^(53+54*r)
theorem V6 {r:Nat}:((LQ^r:Int):Rat)≠0:=fun h=>by
 have h:((LQ^r:Int):Rat)=((0:Int):Rat):=h
 have:=Rat.intCast_inj.1 h
 exact absurd this (Int.pow_ne_zero (by decide))
theorem eV.sz {r:Nat} {x:Rat} (h:eV r x):Sz x (102+102*r):=by
 obtain⟨z,e,b⟩:=h
 have hx:x=(z:Rat)/((LQ^(r+1):Int):Rat):=by rw[e,Rat.div_def,Rat.mul_assoc,Rat.mul_inv_cancel _ V6,Rat.mul_one]
 rw[hx]
 have s1:Sz (z:Rat) (54+54*r):=l8 (Nat.lt_of_le_of_lt b (Nat.pow_lt_pow_right (by decide) aa)) aa
 have s2:Sz ((LQ^(r+1):Int):Rat) (48*(r+1)):=l8 (by
  rw[Int.natAbs_pow,Nat.pow_mul]
  exact Nat.pow_lt_pow_left (by decide) aa) aa
 exact(s1.div s2).more aa
theorem eV.up {r:Nat} {x:Rat} (h:eV r x):eV (r+1) x:=by
 obtain⟨z,e,b⟩:=h
 refine⟨z*LQ,?_,?_⟩
 ·rw[Rat.intCast_mul,e,Int.pow_succ LQ (r+1),Rat.intCast_mul,Rat.mul_assoc]
 ·rw[Int.natAbs_mul,show 53+54*(r+1)=(53+54*r)+54 by omega,Nat.pow_add]
  exact Nat.mul_le_mul b (by decide)
theorem eV.DG {x:Rat} (h:Sz x 5):eV 0 x:=by
 obtain⟨h1,h2⟩:=h
 obtain⟨w,e,hw⟩:=EV (v:=(x.den:Int)) (by simpa using by omega) (by have:=x.den_nz;omega)
 refine⟨x.num*w,?_,?_⟩
 ·rw[show LQ^(0+1)=(x.den:Int)*w by rw[<-e];rfl,Rat.intCast_mul,Rat.intCast_mul,<-Rat.mul_assoc]
  congr 1
  have hd:((x.den:Int):Rat)≠0:=by exact_mod_cast x.den_nz
  have hx:x=(x.num:Rat)/((x.den:Int):Rat):=by rw[<-Rat.divInt_eq_div,Rat.num_divInt_den]
  have key:x*((x.den:Int):Rat)=(x.num:Rat):=by
   conv=>lhs;lhs;rw[hx]
   exact Rat.div_mul_cancel hd
  exact key.symm
 ·rw[Int.natAbs_mul]
  exact Nat.le_trans (Nat.mul_le_mul (show x.num.natAbs<=32 by omega) hw) (by decide)
theorem eV.mix {r:Nat} {x y a b t:Rat} (ha:iQ a) (hb:iQ b) (ht:iQ t) (hx:eV r x) (hy:eV r y):eV (r+1) (x+fr a b t*(y-x)):=by
 obtain⟨za,a1,a2,a3⟩:=ha
 obtain⟨zb,b1,b2,b3⟩:=hb
 obtain⟨zt,t1,t2,t3⟩:=ht
 have e1:b-a=((zb-za:Int):Rat)/2:=by rw[a1,b1,Rat.intCast_sub,Rat.div_def,Rat.div_def,Rat.div_def];grind
 have e2:t-a=((zt-za:Int):Rat)/2:=by rw[a1,t1,Rat.intCast_sub,Rat.div_def,Rat.div_def,Rat.div_def];grind
 by_cases hv:zb-za=0
 ·have:fr a b t=0:=by
   unfold fr
   rw[e1,hv,Rat.div_def,show((0:Int):Rat)/2=0 by decide+kernel,Rat.inv_zero,Rat.mul_zero]
  rw[this,Rat.zero_mul,Rat.add_zero]
  exact hx.up
 ·have hvq:((zb-za:Int):Rat)≠0:=fun h=>hv (Rat.intCast_inj.1 (show((zb-za:Int):Rat)=((0:Int):Rat)from h))
  have hf:fr a b t*((zb-za:Int):Rat)=((zt-za:Int):Rat):=by
   unfold fr
   have hn:b-a≠0:=by
    rw[e1]
    intro h
    apply hvq
    have:((zb-za:Int):Rat)=((zb-za:Int):Rat)/2*2:=by rw[Rat.div_mul_cancel (by decide)]
    rw[this,h,Rat.zero_mul]
   have h2:((zb-za:Int):Rat)=(b-a)*2:=by rw[e1,Rat.div_mul_cancel (by decide)]
   have h3:((zt-za:Int):Rat)=(t-a)*2:=by rw[e2,Rat.div_mul_cancel (by decide)]
   rw[h2,h3,<-Rat.mul_assoc,Rat.div_mul_cancel hn]
  obtain⟨w,hw,wb⟩:=EV (v:=zb-za) aa hv
  obtain⟨zx,x1,x2⟩:=hx
  obtain⟨zy,y1,y2⟩:=hy
  refine⟨zx*LQ+(zt-za)*w*(zy-zx),?_,?_⟩
  ·have hL:fr a b t*(LQ:Rat)=(((zt-za)*w:Int):Rat):=by
    rw[hw,Rat.intCast_mul,Rat.intCast_mul,<-Rat.mul_assoc,hf]
   rw[Rat.intCast_add,Rat.intCast_mul,Rat.intCast_mul ((zt-za)*w),<-hL,Rat.intCast_sub,x1,y1,Int.pow_succ LQ (r+1),Rat.intCast_mul]
   generalize ((LQ^(r+1):Int):Rat)=m
   generalize (LQ:Rat)=l
   generalize fr a b t=f
   grind
  ·have c1:(zy-zx).natAbs<=2^(53+54*r)+2^(53+54*r):=aa
   have c2:((zt-za)*w).natAbs<=32*144403552893600:=by
    rw[Int.natAbs_mul];exact Nat.mul_le_mul aa wb
   have c3:((zt-za)*w*(zy-zx)).natAbs<=32*144403552893600*(2^(53+54*r)+2^(53+54*r)):=by
    rw[Int.natAbs_mul];exact Nat.mul_le_mul c2 c1
   have c4:(zx*LQ).natAbs<=2^(53+54*r)*144403552893600:=by
    rw[Int.natAbs_mul];exact Nat.mul_le_mul x2 bp
   have c5:=Int.natAbs_add_le (zx*LQ) ((zt-za)*w*(zy-zx))
   rw[show 53+54*(r+1)=(53+54*r)+54 by omega,Nat.pow_add]
   generalize 2^(53+54*r)=B at*
   omega
theorem Jz {k:Nat->Rat} {b p:Nat} (hk:∀i,iQ (k i)):∀{l:List Rat} {r s:Nat} {x:Nat->Rat},(∀t∈l,iQ t)->(∀j,eV s (x j))->∀j,eV (s+l.length) (bl k b p r x l j)
 |[],_,_,_,_,hx,j=>hx j
 |t::l,r,s,x,hl,hx,j=>by
  rw[bl,List.length_cons,show s+(l.length+1)=s+1+l.length by omega]
  refine Jz hk (fun u hu=>hl u (List.mem_cons_of_mem _ hu)) (fun q=>?_) j
  unfold fT
  split
  ·exact(hx _).mix (hk _) (hk _) (hl t (List.mem_cons_self ..)) (hx _)
  ·exact(hx _).up
theorem LN {k x:Nat->Rat} {p P:Nat} {l:List Rat} (hk:∀i,iQ (k i)) (hl:∀t∈l,iQ t) (hx:∀j,eV 0 (x j)):eV l.length (dy k p x P l):=by
 have:=Jz (b:=P-p) (p:=p) (r:=0) hk hl (fun j=>hx (P-p+j)) p
 rwa [Nat.zero_add]at this
theorem Nn {f:Nat->Rat} {C:Rat->Prop} (h:∀i,C (f i)):∀{l a:Nat},∀t∈bB f a l,C t
 |0,_,t,ht=>by simp[bB]at ht
 |l+1,a,t,ht=>by
  rw[bB,List.mem_cons]at ht
  rcases ht with rfl|ht
  ·exact h a
  ·exact Nn h t ht
def qG (r n:Nat) (x:Rat):Prop:=∃z:Int,(z:Rat)=x*((LQ^(r+2):Int):Rat)/\z.natAbs<=n*(2^48*2^(53+54*r))
theorem qG.zero {r:Nat}:qG r 0 0:=⟨0,by rw[Rat.zero_mul];rfl,by simp⟩
theorem qG.next {r n:Nat} {x y:Rat} {q:Int} (hq:1<=q) (hq7:q<=7) (h:qG r n x) (hy:eV r y):qG r (n+1) (x+((1:Int):Rat)/(q:Rat)*y):=by
 obtain⟨zx,x1,x2⟩:=h
 obtain⟨zy,y1,y2⟩:=hy
 obtain⟨w,hw,wb⟩:=EV (v:=q) aa aa
 have hqq:(q:Rat)≠0:=fun h=>by
  have:=Rat.intCast_inj.1 (show(q:Rat)=((0:Int):Rat)from h)
  omega
 refine⟨zx+w*zy,?_,?_⟩
 ·have hL:((1:Int):Rat)/(q:Rat)*(LQ:Rat)=(w:Rat):=by
   rw[hw,Rat.intCast_mul,<-Rat.mul_assoc,Rat.div_mul_cancel hqq]
   exact Rat.one_mul _
  rw[Rat.intCast_add,Rat.intCast_mul,<-hL,x1,y1,Int.pow_succ LQ (r+1),Rat.intCast_mul]
  generalize ((LQ^(r+1):Int):Rat)=m
  generalize (LQ:Rat)=l
  generalize ((1:Int):Rat)/(q:Rat)=f
  grind
 ·have c1:(w*zy).natAbs<=2^48*2^(53+54*r):=by
   rw[Int.natAbs_mul];exact Nat.mul_le_mul (Nat.le_trans wb (by decide)) y2
  have c2:=Int.natAbs_add_le zx (w*zy)
  rw[Nat.succ_mul]
  omega
theorem qG.is {r n:Nat} {x:Rat} (h:qG r n x) (hn:n<=7):eV (r+1) x:=by
 obtain⟨z,e,b⟩:=h
 refine⟨z,e,Nat.le_trans b ?_⟩
 have h:n*(2^48*2^(53+54*r))<=7*(2^48*2^(53+54*r)):=Nat.mul_le_mul hn bp
 refine Nat.le_trans h ?_
 rw[show 53+54*(r+1)=(53+54*r)+54 by omega,Nat.pow_add 2 (53+54*r) 54,<-Nat.mul_assoc,Nat.mul_comm (2^(53+54*r))]
 exact Nat.mul_le_mul (by decide) bp
open Go Go.Am.N AV ag ak IntKind
theorem rF {t:Rat} (h:oM t):iQ t:=h
theorem gO.Ka {c:Cu} (h:gO c 5) (e:Nat) (i:Nat):eV 0 (cR (b9 (c.f i)) e):=by
 match e with
 |0=>exact eV.DG (h.sx i)
 |1=>exact eV.DG (h.sy i)
 |2=>exact eV.DG (h.sz i)
 |e+3=>exact eV.DG (h.sd i)
theorem rR {t:Rat} (h:iQ t):Sz t 2000:=by
 obtain⟨z,e,h1,h2⟩:=h
 rw[e]
 exact((l8 (x:=z) (n:=5) aa (by decide)).div (l8 (x:=2) (n:=2) (by decide) (by decide))).more (by decide)
theorem aeF {P:Program} {f:FuncId} {K:Nat} {args us vs:List AV} {l l':List Prop} (hf:aD P f K args [] ⟨.tuple us,[],l⟩) (hl:aA l'->aA l) (hk:bu us=[]) (hle:eL us vs):aD P f K args [] ⟨.tuple vs,[],l'⟩:=by
 intro need
 obtain⟨h1,h2⟩:=hf (hl need)
 refine⟨fun k o ho=>by simp[look]at ho,fun c D D' β w vs hw0 hMw hrel hD hK hv=>(h2 c D D' β w vs hw0 hMw hrel hD hK hv).mono ?_⟩
 rintro x w' ⟨β',g1,g2,xs,rfl,g3⟩
 exact⟨β',g1,g2,xs,rfl,(yS hle (g3.br hk)).mono (fun b o h1 h2=>⟨h2,h1⟩) (β':=β') fun k x hx=>by simp[br]at hx⟩
structure eZ (c:Cu):Prop where
 d:gO c 5
 h:∀i,oM (c.k i)
structure eR (c d:Cu):Prop where
 kn:dz d
 p:d.p=c.p
 pos:∀i,0<(d.f i).d
 sub:k7 c.p.toNat c.n c.k (fun e i=>cR (b9 (c.f i)) e) d.n d.k (fun e i=>cR (b9 (d.f i)) e)
 kc:∀q,q<d.n->∃r,r<c.n/\d.k q=c.k r
theorem eZ.self {c:Cu} (h:eZ c):eR c c:=⟨h.d.kn,rfl,h.d.pos,k7.refl,fun q hq=>⟨q,hq,rfl⟩⟩
theorem Q2 {f:Nat->Rat} {C:Rat->Prop}:∀{l a:Nat},(∀i,a<=i->i<a+l->C (f i))->∀t∈bB f a l,C t
 |0,_,_,t,ht=>by simp[bB]at ht
 |l+1,a,h,t,ht=>by
  rw[bB,List.mem_cons]at ht
  rcases ht with rfl|ht
  ·exact h a bp aa
  ·exact Q2 (fun i h1 h2=>h i aa aa) t ht
theorem eR.hf {c d:Cu} (h:eR c d) (hb:eZ c) {q:Nat} (hq:q<d.n):iQ (d.k q):=by
 obtain⟨r,_,e⟩:=h.kc q hq
 rw[e];exact rF (hb.h r)
theorem eR.q {c d:Cu} (h:eR c d) (hb:eZ c) {j:Nat} (hj:j<d.m) (e:Nat):eV 6 (cR (b9 (d.f j)) e):=by
 obtain⟨k1,k2,k3,k4,k5⟩:=id h.kn
 have hp:=h.p
 rw[hp]at k1 k5
 rw[hp]at k2 k3
 obtain⟨Q,_,g1,g2,g3,g4,g5⟩:=k1.piece (j:=j) aa
 obtain⟨P,hP,_,hE⟩:=h.sub.Iz k1 ⟨aa,k1.sorted,g3⟩ g1 g2
 have:=LN (k:=c.k) (x:=fun i=>cR (b9 (c.f i)) e) (p:=c.p.toNat) (P:=P) (l:=bB d.k (j+1) c.p.toNat) (fun i=>rF (hb.h i)) (Q2 fun i h1 h2=>h.hf hb aa) (fun j=>hb.d.Ka e j)
 rw[jB,hE e]at this
 have up:∀{r s:Nat} {x:Rat},eV r x->eV (r+s) x:=fun {r s x} h=>by
  induction s with
  |zero=>exact h
  |succ s ih=>exact ih.up
 have:=up (s:=6-c.p.toNat) this
 rwa [show c.p.toNat+(6-c.p.toNat)=6 by omega]at this
theorem tK {x y:Rat} (hx:eV 6 x) (hy:eV 6 y):Sz (x/y) 2000:=(hx.sz.div hy.sz).more (by decide)
theorem eR.Rk {c d:Cu} {r:Nat} (h:eR c d) (hb:eZ c):bV (fun i=>.rat (d.k i) r) d.n 2000:=fun _ hi=>cV rfl (rR (h.hf hb hi))
theorem eR.pl {c d:Cu} {r i:Nat} (h:eR c d) (hb:eZ c) (hi:i<d.m):bD (bU (d.f i) r) (bU (d.f i) 2000):=by
 have e:=FD (oJ (h.pos i))
 have q:=h.q hb hi
 have x1:Sz (d.f i).n.x 2000:=by rw[<-e];exact tK (q 0) (q 3)
 have x2:Sz (d.f i).n.y 2000:=by rw[<-e];exact tK (q 1) (q 3)
 have x3:Sz (d.f i).n.z 2000:=by rw[<-e];exact tK (q 2) (q 3)
 have x4:Sz (d.f i).d 2000:=(q 3).sz.more (by decide)
 exact cu ⟨cu ⟨cV rfl x1,cV rfl x2,cV rfl x3,trivial⟩,cV rfl x4,trivial⟩
theorem eR.YG {c d:Cu} {r:Nat} (h:eR c d) (hb:eZ c):fI (fun i=>bU (d.f i) r) d.m 2000:=fun _ hi=>h.pl hb hi
theorem eR.up {c d:Cu} {x y:Nat} (h:eR c d) (hb:eZ c) (hy:y<=sE):bD (bT d x y) (bT d 2000 sE):=
 cu ⟨.refl _,gm fun i hi=>h.Rk hb i hi,gm fun i _=>cu ⟨cu ⟨bQ rfl hy,bQ rfl hy,bQ rfl hy,trivial⟩,bQ rfl hy,trivial⟩,trivial⟩
theorem eR.ins {c d:Cu} {t:Rat} (h:eR c d) (ht:∃r,r<c.n/\t=c.k r) (he:fN d t=0):eR c (jM d t):=by
 obtain⟨e1,e2,e3,e4⟩:=A8 he
 obtain⟨k1,k2,k3,k4,k5⟩:=id h.kn
 obtain⟨i1,i2,i3⟩:=oZ k1 e1 e2
 have hp:=h.p
 rw[show jM d t=vl d t (bL d.n d.k t)from if_pos he]
 have hpos:∀i,0<(nj d t (bL d.n d.k t) i).d:=fun i=>Pc h.kn h.pos e1 e2 i1 i2 i3
 refine⟨⟨k1.dx e1 e2 i1 i2 i3 e3,k2,k3,show d.n+1<=d.p.toNat+41 by omega,show((d.m+1:Nat):Int)=((d.n+1:Nat):Int)-d.p-1 by omega⟩,hp,hpos,?_,fun q hq=>?_⟩
 ·have key:=k7.ins (t:=t) h.sub (by rw[<-hp];exact k1) e1 e2 i1 i2 i3 (by rw[<-hp];exact e3)
  have ef:(fun e i=>cR (b9 ((vl d t (bL d.n d.k t)).f i)) e)=fun e=>k8 d.k c.p.toNat (fun i=>cR (b9 (d.f i)) e) t (bL d.n d.k t):=by
   funext e i
   show cR (b9 (fu (nj d t (bL d.n d.k t) i))) e=_
   rw[I5 (oJ (hpos i)),<-hp]
   match e with
   |0=>rfl
   |1=>rfl
   |2=>rfl
   |e+3=>rfl
  rw[ef]
  exact key
 ·have hq:q<d.n+1:=hq
  show∃r,r<c.n/\dx d.k t (bL d.n d.k t+1) q=c.k r
  unfold dx
  split
  ·exact h.kc q aa
  ·split
   ·exact ht
   ·exact h.kc (q-1) aa
theorem CJ {c d:Cu} {t:Rat} (hq:eR c d) (ht:∃r,r<c.n/\t=c.k r) (h0:d.k 0<t) (h1:t<d.k (d.n-1)) (h40:d.m+d.p.toNat<=40):∀{r:Nat},((bF d.k t d.n+r:Nat):Int)<=d.p->rV d t r/\eR c (cX d t r)
 |0,_=>⟨⟨rfl,rfl,rfl,rfl,rfl,rfl,rfl⟩,hq⟩
 |r+1,h=>by
  obtain⟨⟨a1,a2,a3,a4,a5,a6,a7⟩,hr⟩:=CJ hq ht h0 h1 h40 (r:=r) aa
  have hE:fN (cX d t r) t=0:=I6 (by rw[a6];exact h0) (by rw[a7];exact h1) (by rw[a5,a2];omega) (by rw[a4];omega)
  obtain⟨b1,b2,b3,b4,b5,b6⟩:=K8 hr.kn hE
  exact⟨⟨O8 a1 hE,b1.trans a2,by rw[show(cX d t (r+1)).n=(cX d t r).n+1 from b2,a3];rfl,by rw[show(cX d t (r+1)).m=(cX d t r).m+1 from b3,a4];rfl,b4.trans (by rw[a5];rfl),b5.trans a6,b6.trans a7⟩,hr.ins ht hE⟩
theorem A4 {k k':Nat->Rat} {b b' p:Nat} (h:∀i,1<=i->k' (b'+i)=k (b+i)):∀{l:List Rat} {r:Nat} {x:Nat->Rat},bl k' b' p r x l=bl k b p r x l
 |[],_,_=>rfl
 |t::l,r,x=>by
  rw[bl,bl,A4 h (l:=l)]
  congr 1
  funext j
  unfold fT
  split
  ·rw[h j aa,Nat.add_assoc,h (j+(p-r)) aa,Nat.add_assoc]
  ·rfl
theorem eR.right {c d:Cu} {t:Rat} {a:Nat} (h:eR c d) (h0:d.k 0<t) (h1:t<d.k (d.n-1)) (hlo:d.k a<=t) (hhi:t<d.k (a+1)) (ha:a+1<d.n) (ht:bF d.k t d.n=d.p.toNat):eR c (gi d t a):=by
 obtain⟨k1,k2,k3,k4,k5⟩:=id h.kn
 obtain⟨r1,r2,r3⟩:=k1.split h0 h1 hlo hhi ha ht
 obtain⟨g1,g2⟩:=k1.oy h0 h1 hlo hhi ha
 have hp:=h.p
 have hl:=k1.len
 have hp1:=k1.p1
 have hK:∀i,1<=i->(gi d t a).k i=d.k (a-d.p.toNat+i):=fun i hi=>by
  show(if i<1 then t else d.k (a+1-d.p.toNat+(i-1)))=_
  rw[if_neg aa];congr 1;omega
 have hK0:(gi d t a).k 0=t:=(if_pos aa:(if 0<1 then t else d.k (a+1-d.p.toNat+(0-1)))=t)
 have hN:(gi d t a).n=d.n-(a-d.p.toNat):=by show 1+(d.n-(a+1-d.p.toNat))=_;omega
 have hS:∀i,1<=i->i<=d.p.toNat->d.k (a-d.p.toNat+i)=t:=fun i h1 h2=>r1 _ aa aa
 have hkn:Kn (gi d t a).n d.p.toNat (gi d t a).k:=by
  rw[hN]
  refine⟨hp1,aa,fun i hi=>?_,fun i hi=>?_,fun i h1 h2=>?_,fun i h1 h2=>?_⟩
  ·by_cases e:i=0
   ·subst e
    rw[hK0,hK _ aa,hS _ aa aa];exact Rat.le_refl
   ·rw[hK _ aa,hK _ aa];exact k1.sorted _ aa
  ·by_cases e:i=0
   ·subst e;rfl
   ·rw[hK _ aa,hK0,hS _ aa hi]
  ·rw[hK _ aa,hK _ aa,k1.last _ aa aa,k1.last (a-d.p.toNat+(d.n-(a-d.p.toNat)-1)) aa aa]
  ·rw[hK _ aa,hK _ aa,<-Nat.add_assoc];exact k1.mult _ aa aa
 refine⟨⟨hkn,k2,k3,show(gi d t a).n<=d.p.toNat+41 by omega,show((d.m-(a-d.p.toNat):Nat):Int)=((gi d t a).n:Int)-d.p-1 by omega⟩,hp,fun i=>h.pos _,fun Q hQ=>?_,fun q hq=>?_⟩
 ·obtain⟨v1,v2⟩:=hkn.ji hQ
  have hw:=hQ.wide
  rw[hK _ aa,hK _ aa]at hw
  obtain⟨P,p1,p2,p3,p4⟩:=h.sub (a-d.p.toNat+Q) ⟨aa,k1.sorted,hw⟩
  refine⟨P,p1,by rw[hK _ aa];exact p2,by rw[hK _ aa];exact p3,fun e l hl=>?_⟩
  rw[<-p4 e l hl,<-hp]
  show bl (gi d t a).k (Q-d.p.toNat) d.p.toNat 0 (fun q=>cR (b9 (d.f (a-d.p.toNat+(Q-d.p.toNat+q)))) e) l d.p.toNat=bl d.k (a-d.p.toNat+Q-d.p.toNat) d.p.toNat 0 (fun q=>cR (b9 (d.f (a-d.p.toNat+Q-d.p.toNat+q))) e) l d.p.toNat
  rw[A4 (k:=d.k) (b:=a-d.p.toNat+Q-d.p.toNat) fun i hi=>by rw[hK _ aa];congr 1;omega]
  congr 1
  funext q
  rw[show a-d.p.toNat+(Q-d.p.toNat+q)=a-d.p.toNat+Q-d.p.toNat+q by omega]
 ·by_cases e:q=0
  ·subst e
   rw[hK0,<-hS 1 aa aa];exact h.kc _ aa
  ·rw[hK _ aa];exact h.kc _ aa
theorem B6 {k:Nat->Rat} {v:Rat}:∀{l a:Nat},(∀i,a<=i->i<a+l->k i=v)->bB k a l=List.replicate l v
 |0,_,_=>rfl
 |l+1,a,h=>by
  rw[bB,h a (Nat.le_refl _) (by omega),B6 fun i h1 h2=>h i (by omega) (by omega)];rfl
theorem Oc {f g:Nat->Rat}:∀{l a b:Nat},(∀i,i<l->f (a+i)=g (b+i))->bB f a l=bB g b l
 |0,_,_,_=>rfl
 |l+1,a,b,h=>by
  rw[bB,bB,Oc (l:=l) (a:=a+1) (b:=b+1) fun i hi=>by
   have:=h (i+1) (by omega)
   rw[show a+1+i=a+(i+1) by omega,show b+1+i=b+(i+1) by omega];exact this]
  have:=h 0 (by omega)
  rw[Nat.add_zero,Nat.add_zero]at this
  rw[this]
section
variable {p:Nat} {G:List Rat->Rat} (hsym:∀{l m:List Rat},l.Perm m->l.length=p->G l=G m)
include hsym
end
end Go.Am.B
namespace Go.Am.B
theorem XY {a b t α β:Rat} (hα:α≠0):fr (α*a+β) (α*b+β) (α*t+β)=fr a b t:=by
 unfold fr
 rw[show α*t+β-(α*a+β)=α*(t-a) by grind,show α*b+β-(α*a+β)=α*(b-a) by grind]
 by_cases h:b-a=0
 ·rw[h,Rat.mul_zero,Rat.div_def,Rat.div_def,Rat.inv_zero,Rat.mul_zero,Rat.mul_zero]
 ·have hne:α*(b-a)≠0:=fun e=>(Rat.mul_eq_zero.1 e).elim hα h
  have e1:α*(t-a)/(α*(b-a))*(α*(b-a))=α*(t-a):=Rat.div_mul_cancel hne
  have e2:(t-a)/(b-a)*(b-a)=t-a:=Rat.div_mul_cancel h
  generalize α*(t-a)/(α*(b-a))=q at*
  generalize (t-a)/(b-a)=r at*
  have:(q-r)*(α*(b-a))=0:=by grind
  rcases Rat.mul_eq_zero.1 this with g|g
  ·grind
  ·exact absurd g hne
theorem Ma {k k':Nat->Rat} {α β:Rat} (hα:α≠0) {b p:Nat} (hk:∀i,b<i->i<=b+p+p->k' i=α*k i+β):∀{l:List Rat} {r:Nat} {x y:Nat->Rat},r+l.length=p->(∀j,r<=j->j<=p->x j=y j)->bl k' b p r x (l.map fun t=>α*t+β) p=bl k b p r y l p
 |[],r,x,y,hl,h=>h p (by simp at hl;omega) (Nat.le_refl _)
 |t::l,r,x,y,hl,h=>by
  rw[List.map_cons,bl,bl]
  rw[List.length_cons]at hl
  refine Ma hα hk (by omega) fun j h1 h2=>?_
  unfold fT
  rw[if_pos (by omega),if_pos (by omega),hk _ (by omega) (by omega),hk _ (by omega) (by omega),XY hα,h j (by omega) h2,h (j-1) (by omega) (by omega)]
theorem SE {k k' x:Nat->Rat} {α β:Rat} {p P:Nat} (hα:α≠0) (w1:p<=P) (hk:∀i,P<i+p->i<=P+p->k' i=α*k i+β) {l:List Rat} (hl:l.length=p):dy k' p x P (l.map fun t=>α*t+β)=dy k p x P l:=
 Ma hα (fun i h1 h2=>hk i (by omega) (by omega)) (by omega) fun _ _ _=>rfl
open Go Go.Am.N AV ag ak IntKind
theorem Wo {k x y:Nat->Rat} {p P:Nat} {l:List Rat} (hl:l.length=p) (h:∀q,q<=p->x (P-p+q)=y (P-p+q)):dy k p x P l=dy k p y P l:=
 Cj aa fun j _ hj=>h j hj
theorem w7 {f g:Nat->Rat}:∀{n:Nat},(∀j,j<n->f j=g j)->cD n f=cD n g
 |0,_=>rfl
 |n+1,h=>by rw[cD,cD,w7 fun j hj=>h j aa,h n aa]
theorem Hj {k x:Nat->Rat} {p P:Nat} {t:Rat} (w1:p<=P):dy k p x P (List.replicate p t)=cD (p+1) fun j=>x (P-p+j)*vB k P t p j:=by
 have e:=Uu (k:=k) (b:=P-p) (p:=p) P aa t (x:=fun q=>x (P-p+q))
 rw[MP,B6 fun _ _ _=>rfl]at e
 exact e
theorem On {n p P:Nat} {k x:Nat->Rat} {t:Rat} (h:Kn n p k) (hA:At n k P) (h0:k P<=t) (h1:t<=k (P+1)) (hin:¬cT n k t):dy k p x P (List.replicate p t)=dy k p x (bL n k t) (List.replicate p t):=by
 obtain⟨w1,w2⟩:=h.ji hA
 have hi:=h.Hq hin
 have hv:=h.uo hin
 rw[Hj w1,Hj hv.1]
 exact Z9 h w1 w2 hA.wide h0 h1 hi hv.1 hv.2
theorem QB {c:Cu} {t:Rat} (h:Kn c.n c.p.toNat c.k) (hin:¬cT c.n c.k t) (e:Nat):cR (jf c t) e=dy c.k c.p.toNat (fun i=>cR (b9 (c.f i)) e) (bL c.n c.k t) (List.replicate c.p.toNat t):=by
 have hv:=h.uo hin
 rw[Hj hv.1]
 match e with
 |0=>exact w7 fun j _=>Rat.mul_comm _ _
 |1=>exact w7 fun j _=>Rat.mul_comm _ _
 |2=>exact w7 fun j _=>Rat.mul_comm _ _
 |e+3=>exact w7 fun j _=>Rat.mul_comm _ _
theorem Xy {c d:Cu} {t u:Rat} (hc:¬cT c.n c.k t) (hd:¬cT d.n d.k u) (h:∀e,cR (jf d u) e=cR (jf c t) e):fY d u=fY c t:=by
 have e1:fY d u=DY (jf d u):=if_neg hd
 have e2:fY c t=DY (jf c t):=if_neg hc
 have e3:jf d u=jf c t:=by
  show(⟨⟨cR (jf d u) 0,cR (jf d u) 1,cR (jf d u) 2⟩,cR (jf d u) 3⟩:Pl)=⟨⟨cR (jf c t) 0,cR (jf c t) 1,cR (jf c t) 2⟩,cR (jf c t) 3⟩
  rw[h 0,h 1,h 2,h 3]
 rw[e1,e2,e3]
theorem VR {c d:Cu} {t:Rat} (hc:Kn c.n c.p.toNat c.k) (hd:Kn d.n c.p.toNat d.k) (hp:d.p=c.p) (hs:k7 c.p.toNat c.n c.k (fun e i=>cR (b9 (c.f i)) e) d.n d.k (fun e i=>cR (b9 (d.f i)) e)) (h1:¬cT c.n c.k t) (h2:¬cT d.n d.k t):fY d t=fY c t:=by
 refine Xy h1 h2 fun e=>?_
 have hd':Kn d.n d.p.toNat d.k:=by rw[hp];exact hd
 rw[QB hc h1,QB hd' h2,hp]
 have hi:=hd.Hq h2
 obtain⟨P,p1,p2,p3,p4⟩:=hs _ hi.at_
 rw[p4 e _ List.length_replicate]
 exact On hc p1 (Rat.le_trans p2 hi.lo) (Rat.le_trans hi.hi p3) h1
theorem V7 {n p:Nat} {k:Nat->Rat} (h:Kn n p k) {t:Rat} (hin:¬cT n k t):k 0<=t/\t<=k (n-1):=by
 unfold cT at hin
 constructor
 ·exact Rat.not_lt.1 fun h=>hin (.inl h)
 ·exact Rat.not_lt.1 fun h=>hin (.inr h)
theorem E3 {n:Nat} {k:Nat->Rat} {t:Rat} (h0:k 0<=t) (h1:t<=k (n-1)):¬cT n k t:=fun h=>h.elim (fun g=>absurd h0 (Rat.not_le.2 g)) fun g=>absurd h1 (Rat.not_le.2 g)
structure jT (c d:Cu):Prop where
 kn:dz d
 p:d.p=c.p
 pos:∀i,0<(d.f i).d
 sub:k7 c.p.toNat c.n c.k (fun e i=>cR (b9 (c.f i)) e) d.n d.k (fun e i=>cR (b9 (d.f i)) e)
theorem NO {k k' x:Nat->Rat} {p P:Nat} (w1:p<=P) (hk:∀i,P<i+p->i<=P+p->k' i=k i) {l:List Rat} (hl:l.length=p):dy k' p x P l=dy k p x P l:=by
 have:=SE (k:=k) (k':=k') (x:=x) (α:=1) (β:=0) (by decide) w1 (fun i h1 h2=>by rw[hk i h1 h2];grind) hl
 rwa [show(l.map fun t=>(1:Rat)*t+0)=l by
  conv=>rhs;rw[<-List.map_id l]
  exact List.map_congr_left fun t _=>by show(1:Rat)*t+0=t;grind]at this
theorem jT.right {c d:Cu} {t:Rat} {a:Nat} (h:jT c d) (h0:d.k 0<t) (h1:t<d.k (d.n-1)) (hlo:d.k a<=t) (hhi:t<d.k (a+1)) (ha:a+1<d.n) (ht:bF d.k t d.n=d.p.toNat):jT c (gi d t a)/\(gi d t a).k 0=t/\(gi d t a).k ((gi d t a).n-1)=d.k (d.n-1):=by
 obtain⟨k1,k2,k3,k4,k5⟩:=id h.kn
 obtain⟨r1,r2,r3⟩:=k1.split h0 h1 hlo hhi ha ht
 obtain⟨g1,g2⟩:=k1.oy h0 h1 hlo hhi ha
 have hp:=h.p
 have hl:=k1.len
 have hp1:=k1.p1
 have hK:∀i,1<=i->(gi d t a).k i=d.k (a-d.p.toNat+i):=fun i hi=>by
  show(if i<1 then t else d.k (a+1-d.p.toNat+(i-1)))=_
  rw[if_neg aa];congr 1;omega
 have hK0:(gi d t a).k 0=t:=(if_pos aa:(if 0<1 then t else d.k (a+1-d.p.toNat+(0-1)))=t)
 have hN:(gi d t a).n=d.n-(a-d.p.toNat):=by show 1+(d.n-(a+1-d.p.toNat))=_;omega
 have hS:∀i,1<=i->i<=d.p.toNat->d.k (a-d.p.toNat+i)=t:=fun i h1 h2=>r1 _ aa aa
 have hkn:Kn (gi d t a).n d.p.toNat (gi d t a).k:=by
  rw[hN]
  refine⟨hp1,aa,fun i hi=>?_,fun i hi=>?_,fun i h1 h2=>?_,fun i h1 h2=>?_⟩
  ·by_cases e:i=0
   ·subst e
    rw[hK0,hK _ aa,hS _ aa aa];exact Rat.le_refl
   ·rw[hK _ aa,hK _ aa];exact k1.sorted _ aa
  ·by_cases e:i=0
   ·subst e;rfl
   ·rw[hK _ aa,hK0,hS _ aa hi]
  ·rw[hK _ aa,hK _ aa,k1.last _ aa aa,k1.last (a-d.p.toNat+(d.n-(a-d.p.toNat)-1)) aa aa]
  ·rw[hK _ aa,hK _ aa,<-Nat.add_assoc];exact k1.mult _ aa aa
 refine⟨⟨⟨hkn,k2,k3,show(gi d t a).n<=d.p.toNat+41 by omega,show((d.m-(a-d.p.toNat):Nat):Int)=((gi d t a).n:Int)-d.p-1 by omega⟩,hp,fun i=>h.pos _,fun Q hQ=>?_⟩,hK0,?_⟩
 ·obtain⟨v1,v2⟩:=hkn.ji hQ
  have hw:=hQ.wide
  rw[hK _ aa,hK _ aa]at hw
  obtain⟨P,p1,p2,p3,p4⟩:=h.sub (a-d.p.toNat+Q) ⟨aa,k1.sorted,hw⟩
  refine⟨P,p1,by rw[hK _ aa];exact p2,by rw[hK _ aa];exact p3,fun e l hl=>?_⟩
  rw[<-p4 e l hl,<-hp]
  show bl (gi d t a).k (Q-d.p.toNat) d.p.toNat 0 (fun q=>cR (b9 (d.f (a-d.p.toNat+(Q-d.p.toNat+q)))) e) l d.p.toNat=bl d.k (a-d.p.toNat+Q-d.p.toNat) d.p.toNat 0 (fun q=>cR (b9 (d.f (a-d.p.toNat+Q-d.p.toNat+q))) e) l d.p.toNat
  rw[A4 (k:=d.k) (b:=a-d.p.toNat+Q-d.p.toNat) fun i hi=>by rw[hK _ aa];congr 1;omega]
  congr 1
  funext q
  rw[show a-d.p.toNat+(Q-d.p.toNat+q)=a-d.p.toNat+Q-d.p.toNat+q by omega]
 ·rw[hN,hK _ aa];congr 1;omega
theorem jT.left {c d:Cu} {t:Rat} {a:Nat} (h:jT c d) (h0:d.k 0<t) (h1:t<d.k (d.n-1)) (hlo:d.k a<=t) (hhi:t<d.k (a+1)) (ha:a+1<d.n) (ht:bF d.k t d.n=d.p.toNat):jT c (mH d t a)/\(mH d t a).k 0=d.k 0/\(mH d t a).k ((mH d t a).n-1)=t:=by
 obtain⟨k1,k2,k3,k4,k5⟩:=id h.kn
 obtain⟨r1,r2,r3⟩:=k1.split h0 h1 hlo hhi ha ht
 obtain⟨g1,g2⟩:=k1.oy h0 h1 hlo hhi ha
 have hp:=h.p
 have hl:=k1.len
 have hp1:=k1.p1
 have hK:∀i,i<a+1->(mH d t a).k i=d.k i:=fun i hi=>if_pos hi
 have hK1:(mH d t a).k (a+1)=t:=if_neg (Nat.lt_irrefl (a+1))
 have hN:(mH d t a).n=a+1+1:=rfl
 have hkn:Kn (mH d t a).n d.p.toNat (mH d t a).k:=by
  rw[hN]
  refine⟨hp1,aa,fun i hi=>?_,fun i hi=>?_,fun i h1 h2=>?_,fun i h1 h2=>?_⟩
  ·by_cases e:i+1<a+1
   ·rw[hK _ aa,hK _ e];exact k1.sorted _ aa
   ·rw[hK _ aa,show i+1=a+1 by omega,hK1,show i=a by omega];exact hlo
  ·rw[hK _ aa,hK _ aa];exact k1.first i hi
  ·rw[show a+1+1-1=a+1 by omega,hK1]
   by_cases e:i<a+1
   ·rw[hK _ e];exact r1 i aa aa
   ·rw[show i=a+1 by omega,hK1]
  ·rw[hK _ aa,hK _ aa];exact k1.mult i h1 aa
 refine⟨⟨⟨hkn,k2,k3,show a+1+1<=d.p.toNat+41 by omega,show((a+1-d.p.toNat:Nat):Int)=((a+1+1:Nat):Int)-d.p-1 by omega⟩,hp,h.pos,fun Q hQ=>?_⟩,hK 0 aa,hK1⟩
 obtain⟨v1,v2⟩:=hkn.ji hQ
 rw[hN]at v2
 have hw:=hQ.wide
 rw[hK _ aa,hK _ aa]at hw
 obtain⟨P,p1,p2,p3,p4⟩:=h.sub Q ⟨aa,k1.sorted,hw⟩
 refine⟨P,p1,by rw[hK _ aa];exact p2,by rw[hK _ aa];exact p3,fun e l hl=>?_⟩
 rw[<-p4 e l hl,<-hp]
 exact NO v1 (fun i _ h2=>hK i aa) (by rw[hl,hp])
theorem jT.ev {c d:Cu} {t:Rat} (hc:dz c) (h:jT c d) (h1:¬cT c.n c.k t) (h2:¬cT d.n d.k t):fY d t=fY c t:=
 VR hc.1 (by rw[<-h.p];exact h.kn.1) h.p h.sub h1 h2
def Q1 (p n:Nat) (k:Nat->Rat) (x:Rat) (R:Nat):Prop:=k 0<x/\x<k (n-1)/\bF k x n+R=p/\∀r,r<=R->vS n p k x r
def Ih (n:Nat) (k:Nat->Rat) (x:Rat) (R:Nat):Prop:=(x=k 0\/x=k (n-1))/\R=0
def s8 (p n:Nat) (k:Nat->Rat) (x:Rat) (R:Nat):Prop:=Q1 p n k x R\/Ih n k x R
theorem s8.OL {p n:Nat} {k:Nat->Rat} {x:Rat} {R:Nat} (h:s8 p n k x R) (g:x=k 0):Ih n k x R:=by
 rcases h with h|h
 ·have:=h.1
  rw[<-g]at this
  exact absurd this Rat.lt_irrefl
 ·exact h
set_option maxHeartbeats 1000000 in
theorem afF {c:Cu} {a b:Rat} {f l:Nat} {ns rs:Nat->Nat} {ks:Nat->Nat->Rat} (hc:Kn c.n c.p.toNat c.k) (hp1:1<=c.p) (hp6:c.p<=6) (hcn:c.n<2^27) (hcm:c.m<2^28) (n0:ns 0=c.n) (k0:ks 0=c.k) (hns:∀j,j<=2->c.n<=ns j/\ns j<2^28) (hs:∀j,j<2->ns (j+1)=ns j+rs j/\ks (j+1)=fj (ks j) (ns j) (if j=0 then a else b) (rs j)) (hJ:∀j,j<2->s8 c.p.toNat (ns j) (ks j) (if j=0 then a else b) (rs j))
  (hf:fL (kM a (ks 2)) (ns 2)=f) (hl:fL (ko b (ks 2)) (ns 2)=l) (g1:c.p.toNat+1<=f) (g2:f<=l) (g3:l+c.p.toNat+1<=ns 2) (K:Nat):
  aD P vG K [dL c 2000 4000,.rat a 2000,.rat b 2000] [] (aL (dL (zm (kq c (ns 2) (ks 2)) a b f l) sK sB) []):=by
 refine iy (r:=aL (dL (zm (kq c (ns 2) (ks 2)) a b f l) sK sB) []) hT JV rfl aW rfl (fun _ cx h00=>?_) K []
 have hk:=sL h00
 have hl4:=hc.len
 refine ay.hole [1] ah (aG.bz hT y5 hm 60 Ct aij (nW JV.dst) ?_)
 intro s' hs'
 show ay _ _ _ (part uT [1]) s' _
 rw[show behind uT [1]=[]from by kernel_rfl]
 refine ay.lT (s2:=⟨aF Ct [.ptr 0 0 3 0 [],.ptr 1 0 3 0 [],.ptr 2 0 3 0 [],.ptr 3 0 3 0 []],[(3,vT),(2,tP b 2000),(1,tP a 2000),(0,wC c)],4⟩) (eu.le ⟨[(0,0),(1,4096),(2,8192),(3,12288)],rfl,rfl,rfl,aO (aO (aO (aO trivial)))⟩ hs' hk)
  ((?_:ay P cx pJ.ntmps (part uT [1]) _ (dX cx (Fin T pJ (dL (zm (kq c (ns 2) (ks 2)) a b f l) sK sB)))).mono fun e s' h=>by cases e<;>exact h)
 refine ay.Qf (t:=4) (k:=1) rfl rfl rfl rfl rfl ?_
 refine ay.Qf (t:=5) (k:=2) rfl rfl rfl rfl rfl ?_
 refine ay.S4 hT y5 hm (x:=Bo) (y:=v5) (x1:=xj) (zb:=part v5 [1,1,1]) (y2:=part xj [1,1,0,0]) [1,0,1] (i:=0) ah ah ah [1,1,0] (j:=1) ah ah ah [1,1] (i2:=2) ah ah rfl hk (f1:=[]) (f2:=[21]) (f3:=[28]) (f4:=[40,47]) (f5:=[]) 60 nK uy 2 3
  (fun j:Nat=>pH a b (ns j) (ks j) j) (fun _=>ql c) (fun j=>j<=2) (fun j=>j=2) (fun j=>2-j) (fun j=>j<2) (fun _=>False) (fun _=>False)
  (fun j (q:Nat×Bool)=>vp a b (ns j+q.1) (fj (ks j) (ns j) (if j=0 then a else b) q.1) j q.2) (fun j _=>xF c (if j=0 then a else b)) (fun j q=>q.2=false/\Q1 c.p.toNat (ns j) (ks j) (if j=0 then a else b) (rs j)/\q.1<=rs j\/q.2=true/\Ih (ns j) (ks j) (if j=0 then a else b) (rs j)/\q.1=0) (fun j q=>q.1=rs j) (fun j q=>rs j-q.1)
  ⟨_,aay,?_⟩ (fun j hj=>⟨_,aji,?_⟩) (fun j hj hG=>?_) (fun j hj hG q hq=>⟨_,SL,?_⟩) (fun j hj hG q hq=>⟨_,XG,?_⟩) (fun j s' hj hle=>?_) (fun _ _ h=>h.elim) (fun _ _ h=>h.elim)
 ·simp only[ag.all,aA]
  refine⟨aa,0,Nat.zero_le _,?_⟩
  show eu [] _ (pH a b (ns 0) (ks 0) 0) (ql c) 2
  rw[n0,k0]
  exact⟨[(0,0),(1,3)],rfl,rfl,rfl,aO (aO trivial)⟩
 ·simp only[ag.all,aA,bf,bt]
  exact⟨fun h=>⟨aa,[(0,0),(1,1)],rfl,rfl,rfl,aO (aO trivial)⟩,fun h=>⟨rfl,j,aa,[(0,0),(1,1)],rfl,rfl,rfl,aO (aO trivial)⟩⟩
 ·have hG:j<2:=hG
  rcases(show j=0\/j=1 by omega)with rfl|rfl
  ·refine⟨_,RY,?_⟩
   have hl0:=hns 0 aa
   have e1:((ns 0:Nat)-1:Int).toNat=ns 0-1:=aa
   have hc0:s8 c.p.toNat (ns 0) (ks 0) a (rs 0):=hJ 0 aa
   simp only[ag.all,aA,bf,bt,cond_false,Int.toNat_zero,e1]
   refine⟨⟨aa,aa⟩,fun g=>⟨⟨aa,aa,aa,aa,g⟩,(0,true),.inr ⟨rfl,hc0.OL g,rfl⟩,[(0,0),(1,1),(2,4098)],rfl,rfl,rfl,aO (aO (aO trivial))⟩,fun g=>⟨⟨aa,aa,aa,aa,g,aa,aa,aa,aa,aa⟩,?_⟩⟩
   rcases hc0 with hc1|hc1
   ·have e2:decide (a=ks 0 (ns 0-1))=false:=decide_eq_false fun g2=>by
     have:=hc1.2.1
     rw[<-g2]at this
     exact Rat.lt_irrefl this
    rw[e2]
    exact⟨(0,false),.inl ⟨rfl,hc1,Nat.zero_le _⟩,[(0,0),(1,1),(2,4098)],rfl,rfl,rfl,aO (aO (aO trivial))⟩
   ·have e2:decide (a=ks 0 (ns 0-1))=true:=decide_eq_true (hc1.1.resolve_left g)
    rw[e2]
    exact⟨(0,true),.inr ⟨rfl,hc1,rfl⟩,[(0,0),(1,1),(2,4098)],rfl,rfl,rfl,aO (aO (aO trivial))⟩
  ·refine⟨_,agP,?_⟩
   have hl0:=hns 1 aa
   have e1:((ns 1:Nat)-1:Int).toNat=ns 1-1:=aa
   have hc0:s8 c.p.toNat (ns 1) (ks 1) b (rs 1):=hJ 1 aa
   simp only[ag.all,aA,bf,bt,cond_false,Int.toNat_zero,e1]
   refine⟨⟨aa,aa⟩,fun g=>⟨⟨aa,aa,aa,aa,g⟩,(0,true),.inr ⟨rfl,hc0.OL g,rfl⟩,[(0,0),(1,1),(2,4098)],rfl,rfl,rfl,aO (aO (aO trivial))⟩,fun g=>⟨⟨aa,aa,aa,aa,g,aa,aa,aa,aa,aa⟩,?_⟩⟩
   rcases hc0 with hc1|hc1
   ·have e2:decide (b=ks 1 (ns 1-1))=false:=decide_eq_false fun g2=>by
     have:=hc1.2.1
     rw[<-g2]at this
     exact Rat.lt_irrefl this
    rw[e2]
    exact⟨(0,false),.inl ⟨rfl,hc1,Nat.zero_le _⟩,[(0,0),(1,1),(2,4098)],rfl,rfl,rfl,aO (aO (aO trivial))⟩
   ·have e2:decide (b=ks 1 (ns 1-1))=true:=decide_eq_true (hc1.1.resolve_left g)
    rw[e2]
    exact⟨(0,true),.inr ⟨rfl,hc1,rfl⟩,[(0,0),(1,1),(2,4098)],rfl,rfl,rfl,aO (aO (aO trivial))⟩
 ·obtain⟨r,e⟩:=q
  have hG:j<2:=hG
  have hl0:=hns j aa
  obtain⟨x,hx⟩:∃x,x=if j=0 then a else b:=⟨_,rfl⟩
  simp only[<-hx]at hq ⊢
  have same:eu [] (vp a b (ns j+r) (fj (ks j) (ns j) x r) j e,xF c x) (vp a b (ns j+r) (fj (ks j) (ns j) x r) j e) (xF c x) 3:=⟨[(0,0),(1,1),(2,2)],rfl,rfl,rfl,aO (aO (aO trivial))⟩
  simp only[ag.all,aA,cond_true,bf,bt]
  rcases hq with⟨he,⟨w1,w2,w3,w4⟩,hr⟩|⟨he,hw,hr⟩
  ·have he:e=false:=he
   have hr:r<=rs j:=hr
   have hq2:=hns (j+1) aa
   have hsj:=(hs j hG).1
   subst he
   have h:=w4 r hr
   have e1:(bF (fun i=>aZ (rat (fj (ks j) (ns j) x r i) 2000)) x (ns j+r):Int)=((bF (ks j) x (ns j)+r:Nat):Int):=congrArg Nat.cast h.tm
   have e2:gu (fun i=>aZ (rat (fj (ks j) (ns j) x r i) 2000)) x (fC (fun i=>aZ (rat (fj (ks j) (ns j) x r i) 2000)) x (ns j+r))=fj (ks j) (ns j) x (r+1):=h.next w1 w2
   simp only[e1,e2]
   refine⟨fun _=>⟨⟨rfl,aa,cI (by decide),by decide,aa,aa⟩,fun g=>⟨⟨aa,cI bp,aa,aa,fun i _=>((w4 (r+1) aa).sd i).sz.more (by decide)⟩,(r+1,false),.inl ⟨rfl,⟨w1,w2,w3,w4⟩,show r+1<=rs j by omega⟩,show rs j-(r+1)<rs j-r by omega,[(0,0),(1,1),(2,2)],rfl,rfl,rfl,dF rfl rfl (cB rfl ?_) (aO (aO trivial))⟩,fun g=>⟨rfl,(r,false),?_,?_⟩⟩,fun g=>absurd g (by decide)⟩
   ·rfl
   ·have g:¬((bF (ks j) x (ns j)+r:Nat):Int)<c.p:=g
    show r=rs j
    omega
   ·exact same
  ·have he:e=true:=he
   have hr:r=0:=hr
   subst he
   exact⟨fun g=>absurd g (by decide),fun _=>⟨rfl,fun g=>absurd g (by decide),fun _=>⟨rfl,(r,true),hr.trans hw.2.symm,same⟩⟩⟩
 ·have hG:j<2:=hG
  obtain⟨r,e⟩:=q
  have hq:r=rs j:=hq
  subst hq
  simp only[ag.all,aA]
  refine⟨aa,j+1,aa,by dsimp only;omega,?_⟩
  show eu [] _ (pH a b (ns (j+1)) (ks (j+1)) ((j+1:Nat))) (ql c) 2
  rw[(hs j hG).1,(hs j hG).2]
  exact⟨[(0,0),(1,1)],rfl,rfl,rfl,aO (aO trivial)⟩
 ·subst hj
  rw[show behind Bo [1,0,1]=[sM]from by kernel_rfl]
  have h2:=hns 2 aa
  exact aG.weak rfl hle (aG.one (Ta hk hc hp1 hp6 aa hcm aa aa hf hl g1 g2 g3 fun _ _ h=>h))
end Go.Am.B
