/- law06.product. -/
import Derived.Test.YtolopdkjjlfgjaaGreatY39
import Derived.Test.YtolopdkjjlfgjaaGreatY37
import Derived.Test.YtolopdkjjlfgjaaGreatZ2
import Derived.Test.YtolopdkjjlfgjaaGreatY38
import Derived.Test.YtolopdkjjlfgjaaGreatB33
set_option linter.unusedVariables false
noncomputable section
namespace Go.Am.B
open Go Go.Am.N AV af aq IntKind Proofs.Tryz
def Ip:Spec:=bR fun l=>match l with
 |[.ak 1 n f]=>some (aJ (aZ (ec n (dQ fun i=>intOf (f i))) n ah) [1<=n,n<=41,∀i,i<n->f i=.int .i64 (intOf (f i)),∀i,i<n->-2^62<=intOf (f i)/\intOf (f i)<2^62,iT n (dQ fun i=>intOf (f i))])
 |_=>none
def nN:bg:=nG::(44,kW ur)::(28,kW ze)::(55,Ip)::(51,Fy)::(52,yL)::(31,JS)::ki
abbrev ry:Code:=aG f13
abbrev pL:Code:=part ry [1,1,0,1,0,0]
abbrev oM:Code:=part pL [1,0,0]
abbrev kU:List Nat:=[0,3,4]
abbrev pX (p:PP) (t:Int):List AV:=[.ptr 0 0 2 0 [],aP p,.int .i64 t]
abbrev iM (n:Nat) (z:Nat->Int) (a:Int):aE:=[(0,nB n z a)]
abbrev ng:List Nat:=[0,3,4,5,7]
abbrev nY (p q:PP) (t r:Int):List AV:=[.ptr 0 0 2 0 [],aP p,.int .i64 t,aP q,.int .i64 r]
def fD (n:Nat) (f:Nat->AV) (b:Int) (i:Nat):Int:=if i=0 then-cz n f b 4 else if i=1 then 0 else 1+cz n f (bA n b) 5
def qD (n:Nat) (f:Nat->AV) (a:Int):PP:=if cz n f a 4=0 then(mI n f (bA n a) 2,oA n f (bA n a))else if cz n f a 4=1 then(3,ec 3 (dQ (fD n f (bA n a))))else
 (2,fun i=>if i=0 then-kG (cz n f (bA n a) 400)else 1-kG (cz n f (bA n a) 400))
def jr (n:Nat) (f:Nat->AV) (a:Int):Int:=if cz n f a 4=0 then p6 n f (bA n a) 2 else if cz n f a 4=1 then bA n (bA n (bA n a))else bA n (bA n a)
def oT (n:Nat) (f:Nat->AV) (a:Int):Nat:=1+(cz n f (jr n f a) 3).toNat/2
def nF (n:Nat) (f:Nat->AV) (a:Int):Int:=bA n (jr n f a)
def eI (n:Nat) (f:Nat->AV) (a:Int):Nat->PP×Int
 |0=>((1,fun _=>1),bA n a)
 |i+1=>(iH (eI n f a i).1 (qD n f (eI n f a i).2) (oT n f (eI n f a i).2),nF n f (eI n f a i).2)
def pJ (n:Nat) (f:Nat->AV) (a:Int):Nat:=(cz n f a 4).toNat
def sN (n:Nat) (f:Nat->AV) (a:Int):PP:=(eI n f a (pJ n f a)).1
def js (n:Nat) (f:Nat->AV) (a:Int):Int:=(eI n f a (pJ n f a)).2
def qS (p q:PP):Prop:=1<=p.1/\1<=q.1/\p.1+q.1<=42/\yg (p.1-1) (q.1-1) p.2 q.2
def vh (n:Nat) (f:Nat->AV) (a:Int):Prop:=∀i,i<pJ n f a->(cz n f (eI n f a i).2 4=1->iT 3 (dQ (fD n f (bA n (eI n f a i).2))))/\∀j,j<oT n f (eI n f a i).2->qS (iH (eI n f a i).1 (qD n f (eI n f a i).2) j) (qD n f (eI n f a i).2)
def Bq (n:Nat) (f:Nat->AV) (a:Int) (l:List AV):Option (AV×Int×List Prop):=match l with
 |[]=>some (aP (sN n f a),js n f a,[vh n f a])
 |_=>none
theorem Ga:aX 13 f13:=aY func13
theorem TK {n:Nat} {z:Nat->Int} {a:Int}:aH T nN [] 60 [0,3] (before ry [1,1]) ⟨aS 0 [.ptr 0 0 2 0 []],iM n z a,1⟩=
  some (aj [-(2:Int)^63<=(1:Int),(1:Int)<2^63,(1:Nat)*3<=2^24] (leaf normal ([ptr 0 0 2 0 [],own 8193 3 0 1],[(8193,ay.mk true true 3 1 fun i=>nth [rat (↑(1:Int):Rat) (Max.max 1 (bI (Int.natAbs (1:Int))))] (rat 0 1) i),(0,ay.mk false true 2 1 fun x=>agg [ak 1 n fun i=>int i64 (z i),int i64 a])]))):=ag
theorem PC {n:Nat} {z:Nat->Int} {a t r:Int} {p q:PP}:aH T nN [] 60 ng (before (part oM [1,1,1]) []) ⟨aD ng (nY p q t r),iM n z a,1⟩=
  some (leaf normal ([ptr 0 0 2 0 [],ak 3 p.fst fun i=>rat (p.snd i) ah,int i64 t,ak 3 q.fst fun i=>rat (q.snd i) ah,int i64 r],[(0,ay.mk false true 2 1 fun x=>agg [ak 1 n fun i=>int i64 (z i),int i64 a])])):=ag
theorem TP {n:Nat} {z:Nat->Int} {a:Int} {p:PP}:aH T nN [] 60 kU (before (part ry [1,1]) [0,1]) ⟨aD [0,3] [.ptr 0 0 2 0 [],aP p],iM n z a,1⟩=
  some (aj [cL n (fun i=>int i64 (z i)) a,(0:Int)<4,(4:Int)<2^62] (leaf normal ([ptr 0 0 2 0 [],ak 3 p.fst fun i=>rat (p.snd i) ah,int i64 (cz n (fun i=>int i64 (z i)) a (4:Int))],[(0,ay.mk false true 2 1 fun x=>agg [ak 1 n fun i=>int i64 (z i),int i64 (bA n a)])]))):=ag
theorem acI {n:Nat} {z:Nat->Int} {a t:Int} {p:PP}:aH T nN [13] 60 kU (before pL [1,0]) ⟨aD kU (pX p t),iM n z a,1⟩=
  let c1:List AV×aE:=([ptr 0 0 2 0 [],ak 3 p.fst fun i=>rat (p.snd i) ah,int i64 t],[(0,ay.mk false true 2 1 fun x=>agg [ak 1 n fun i=>int i64 (z i),int i64 a])]);some (fork (decide (t>0)) (leaf normal c1) (leaf (exit 0) c1)):=ag
theorem Zg {n:Nat} {z:Nat->Int} {a t:Int} {p:PP}:aH T nN [27,31] 60 ng (before oM [1,1,1]) ⟨aD kU (pX p t),iM n z a,1⟩=
  let c22:AV:=int i64 0;let c20:Prop:=(0:Int)<3;let c19:Prop:=0<1;let c18:Prop:=(2:Int)≠(0:Int);let c17:Int:=bA n a;let c16:Int:=cz n (fun i=>int i64 (z i)) a (4:Int);let c15:Nat:=Max.max 1 (bI (Int.natAbs (1:Int)));let c13:AV:=ak 1 n fun i=>int i64 (z i);let c11:AV:=ptr 0 0 2 0 [];let c8:Int:=(2:Int)^62;let c7:AV:=ak 3 p.fst fun i=>rat (p.snd i) ah;let c4:Int:=(2:Int)^63;let c24:Prop:=(3:Int)<c8;let c14:Rat:=kG (cz n (fun i=>int i64 (z i)) c17 (400:Int));let c12:Prop:=cL n (fun i=>int i64 (z i)) c17;let c10:Int:=p6 n (fun i=>int i64 (z i)) c17 (2:Int);let c2:Int:=bA n c17;let c23:Int:=bA n c2;let c21:Prop:=cL n (fun i=>int i64 (z i)) c2;let c9:Int:=(1:Int)+cz n (fun i=>int i64 (z i)) c2 (5:Int);let c6:Int:=(1:Int)+i64.wrap ((cz n (fun i=>int i64 (z i)) c2 (3:Int)).tdiv (2:Int));let c1:Int:=(1:Int)+i64.wrap ((cz n (fun i=>int i64 (z i)) c10 (3:Int)).tdiv (2:Int));let c5:List AV:=[int i64 (i64.wrap ((0:Int)-cz n (fun i=>int i64 (z i)) c17 (4:Int))),c22,int i64 c9];let c3:Int:=(1:Int)+i64.wrap ((cz n (fun i=>int i64 (z i)) c23 (3:Int)).tdiv (2:Int));some (aj [cL n (fun i=>int i64 (z i)) a,(0:Int)<4,(4:Int)<c8] (fork (c16==0) (aj [c12,(0:Int)<=2,(2:Int)<900] (aj [cL n (fun i=>int i64 (z i)) c10,c20,c24,c18,-c4<=c1/\c1<c4] (leaf normal ([c11,c7,int i64 t,ak 3 (mI n (fun i=>int i64 (z i)) c17 (2:Int)) fun i=>rat (oA n (fun i=>int i64 (z i)) c17 i) 64,int i64 c1],[(0,ay.mk false true 2 1 fun x=>agg [c13,int i64 (bA n c10)])])))) (fork (c16==1) (aj [c12,(0:Int)<4,(4:Int)<c8,c21,(0:Int)<5,(5:Int)<c8,-c4<=c9/\c9<c4,(3:Nat)*1<=2^24,(1:Nat)<=3,(3:Nat)<=41,∀(i:Nat),i<3->nth c5 c22 (i+0)=int i64 (intOf (nth c5 c22 (i+0))),∀(i:Nat),i<3->-c8<=intOf (nth c5 c22 (i+0))/\intOf (nth c5 c22 (i+0))<c8,iT 3 (dQ fun i=>intOf (nth c5 c22 (i+0)))] (aj [cL n (fun i=>int i64 (z i)) c23,c20,c24,c18,-c4<=c3/\c3<c4] (leaf normal ([c11,c7,int i64 t,ak 3 3 fun i=>rat (ec 3 (dQ fun i=>intOf (nth c5 c22 (i+0))) i) ah,int i64 c3],[(0,ay.mk false true 2 1 fun x=>agg [c13,int i64 (bA n c23)])])))) (aj [c12,(0:Int)<400,(400:Int)<c8,c19] (aj [c19,-c4<=1,(1:Int)<c4,c19,c15<2^41,(64:Nat)<2^41,(2:Nat)*3<=2^24] (aj [c21,c20,c24,c18,-c4<=c6/\c6<c4] (leaf normal ([c11,c7,int i64 t,own 69633 3 0 2,int i64 c6],[(69633,ay.mk true true 3 2 fun i=>nth [rat (-c14) 64,rat ((↑(1:Int):Rat)-c14) (c15+64+1)] (rat 0 1) i),(0,ay.mk false true 2 1 fun x=>agg [c13,int i64 c23])])))))))):=ag
theorem aaA {n:Nat} {z:Nat->Int} {a t r:Int} {p q:PP}:aH T nN [46] 60 ng [part oM [1,1,1,0,0]] ⟨aD ng (nY p q t r),iM n z a,1⟩=
  let c5:Nat:=q.fst-1;let c4:Nat:=p.fst-1;let c3:AV:=ptr 0 0 2 0 [];let c2:AV:=ak 3 q.fst fun i=>rat (q.snd i) ah;let c1:Nat×ay:=(0,ay.mk false true 2 1 fun x=>agg [ak 1 n fun i=>int i64 (z i),int i64 a]);some (fork (decide (r>0)) (aj [dc (fun i=>rat (p.snd i) ah) p.fst ah,dc (fun i=>rat (q.snd i) ah) q.fst ah,(1:Nat)<=p.fst,(1:Nat)<=q.fst,p.fst+q.fst<=42,yg c4 c5 (fun i=>aU (rat (p.snd i) ah)) fun i=>aU (rat (q.snd i) ah)] (aj [-(2:Int)^63<=r-1/\r-1<(2:Int)^63] (leaf normal ([c3,ak 3 (c4+c5+1) fun i=>rat (jD c4 c5 (fun i=>aU (rat (p.snd i) ah)) (fun i=>aU (rat (q.snd i) ah)) i) ah,int i64 t,c2,int i64 (r-1)],[c1])))) (leaf (exit 3) ([c3,ak 3 p.fst fun i=>rat (p.snd i) ah,int i64 t,c2,int i64 r],[c1]))):=ag
theorem adP {n:Nat} {z:Nat->Int} {a t r:Int} {p q:PP}:aH T nN [] 60 kU [part pL [1,1]] ⟨aD ng (nY p q t r),iM n z a,1⟩=
  some (aj [-(2:Int)^63<=t-1/\t-1<(2:Int)^63] (leaf normal ([ptr 0 0 2 0 [],ak 3 p.fst fun i=>rat (p.snd i) ah,int i64 (t-1)],[(0,ay.mk false true 2 1 fun x=>agg [ak 1 n fun i=>int i64 (z i),int i64 a])]))):=ag
theorem ZU {n:Nat} {z:Nat->Int} {a t:Int} {p:PP}:yW T nN [] 60 f13 [part ry [1,1,1]] ⟨aD kU (pX p t),iM n z a,1⟩=
  some (leaf ret ([ak 3 p.fst fun i=>rat (p.snd i) ah],some (ay.mk false true 2 1 fun x=>agg [ak 1 n fun i=>int i64 (z i),int i64 a]))):=ag
theorem YL:bf P Ip 55:=by
 refine cE fun K args r hk hs _=>?_
 split at hs
 ·rename_i n f
  simp only[ax]at hs
  subst hs
  intro need
  obtain⟨h1,h2,h3,h4,h5⟩:=need
  exact gC (En h1 h2 h4 h5 K) hk ⟨r8 rfl h3,trivial⟩ [] trivial
 ·simp at hs
theorem rH:bK P nN:=gW (aK CP (aK LG (aK YL (aK Oo (aK C4 (aK ZI kO))))))
theorem cL.poly {n:Nat} {f:Nat->AV} {a d:Int} (h:cL n f a):cL n f (p6 n f a d):=h.next.numbers _
theorem cL.jr {n:Nat} {f:Nat->AV} {a:Int} (h:cL n f a):cL n f (jr n f a):=by
 unfold Go.Am.B.jr
 split
 ·exact h.next.poly
 ·split
  ·exact h.next.next.next
  ·exact h.next.next
theorem cL.eI {n:Nat} {f:Nat->AV} {a:Int} (h:cL n f a):∀i,cL n f (eI n f a i).2
 |0=>h.next
 |i+1=>(h.eI i).jr.next
theorem DK {n i:Nat} {c d:Nat->Rat}:∀{k:Nat},(∀j,j<k->c j=d j)->jo n c i k=jo n d i k
 |0,_=>rfl
 |k+1,h=>by
  show jo n c i k+_*c k=jo n d i k+_*d k
  rw[DK fun j hj=>h j aa,h k aa]
theorem aa9 {n i:Nat} {c d:Nat->Rat} (hi:i<n) (h:∀j,j<n->c j=d j):ec n c i=ec n d i:=DK fun j hj=>h j aa
theorem iT.congr {n:Nat} {c d:Nat->Rat} (hz:iT n c) (h:∀j,j<n->c j=d j):iT n d:=fun i k hi hk=>by rw[<-DK (c:=c) fun j hj=>h j aa];exact hz i k hi hk
theorem Ez {x:Int} (h1:0<=x) (h2:x<3):i64.wrap (x.tdiv 2)=x/2:=by
 rw[Int.tdiv_eq_ediv_of_nonneg h1]
 exact wrap_i64 aa aa
theorem Nq {k n:Nat} {z:Nat->Int} {a:Int} {o:ay} (ho:∀ρ,cW ρ o (nB n z a)) (h:cL n (fun i=>.int .i64 (z i)) a) (hz:vh n (fun i=>.int .i64 (z i)) a) (K:Nat):
  aO P 13 K [.ptr k 0 2 0 []] [(k,o)] ⟨aP (sN n (fun i=>.int .i64 (z i)) a),[(k,nB n z (js n (fun i=>.int .i64 (z i)) a))],[]⟩:=by
 have hW:=dg
 refine E2 hT Ga rfl rfl aW ho (fun _ c hk=>?_) K
 obtain⟨f,hf⟩:∃f:Nat->AV,f=fun i=>.int .i64 (z i):=⟨_,rfl⟩
 rw[<-hf]at h hz ⊢
 refine au.HH hT rH hm (x:=ry) [1,1] ag ag Ga.dst (f1:=[]) 60 [0,3] ⟨_,TK,?_⟩
 simp only[af.all,az]
 refine⟨aa,fun s1 hv1=>?_⟩
 refine au.sL (kp:=[0]) hk (vs:=[.ptr 0 0 2 0 [],.own 1 3 0 1]) (ps:=[(1,⟨true,true,3,1,fun _=>.rat ((1:Int):Rat) (max 1 (bI (Int.natAbs 1)))⟩),(0,nB n z a)]) (nx:=2) [(0,0),(1,8193)] hv1 rfl ⟨⟨rfl,gF rfl⟩,⟨rfl,dK rfl rfl rfl⟩,trivial⟩ (bw rfl rfl rfl (fun i hi=>by obtain rfl:i=0:=aa;exact bP rfl rfl) (dU trivial)) ?_
 refine au.cQ (t:=3) (k:=1) rfl rfl rfl rfl ?_
 refine au.sL (kp:=[0]) hk (L:=[0,3]) (vs:=[.ptr 0 0 2 0 [],aP (eI n f a 0).1]) (ps:=iM n z a) (nx:=1) [(0,0)] rfl rfl ⟨⟨rfl,gF rfl⟩,⟨rfl,iI rfl (gi fun i hi=>cY rfl (by rw[hW];decide))⟩,trivial⟩ (dU trivial) ?_
 obtain⟨N,hN⟩:∃N,N=pJ n f a:=⟨_,rfl⟩
 have a1:=iY (n:=n) (f:=f) (a:=a) (m:=4) aa
 have a2:=ja (n:=n) (f:=f) (a:=a) (m:=4) aa
 have hN2:cz n f a 4=(N:Int)-((0:Nat):Int):=by rw[hN];unfold pJ;omega
 have hN3:N<=3:=aa
 refine au.ZJ hT rH hm (x:=part ry [1,1]) [0,1] (i:=0) (y:=pL) (z:=part ry [1,1,1]) ag ag ag ag hk (f1:=[]) 60 kU 1 (fun i:Nat=>pX (eI n f a i).1 ((N:Int)-i)) (fun i=>iM n z (eI n f a i).2) (fun i=>i<=N) (fun i=>i=N) (fun i=>N-i) (fun _=>False)
  ⟨_,TP,?_⟩ (fun i hi=>?_) (fun i hi=>?_) (fun _ _ h=>h.elim)
 ·have hN4:cz n (fun i=>.int .i64 (z i)) a 4=(N:Int)-((0:Nat):Int):=by rw[<-hf];exact hN2
  simp only[af.all,az,hN4]
  exact⟨⟨hf▸h,aa,aa⟩,0,Nat.zero_le _,[(0,0)],rfl,rfl,rfl,dU trivial⟩
 ·have hS:=h.eI i
  obtain⟨b,hb⟩:∃b,b=(eI n f a i).2:=⟨_,rfl⟩
  obtain⟨p,hp⟩:∃p,p=(eI n f a i).1:=⟨_,rfl⟩
  rw[<-hb]at hS
  refine au.El hT rH hm (y:=pL) [1,0] (j:=1) (x1:=oM) (zb:=part pL [1,1]) ag ag ag ag hk (f1:=[13]) 60 kU 1 (fun _:Unit=>pX p ((N:Int)-i)) (fun _=>iM n z b) (fun _=>i<N) ⟨_,acI,?_⟩ (fun _ hG=>?_)
  ·simp only[af.all,bz,bE]
   rw[hp,hb]
   refine⟨fun h2=>⟨(),aa,[(0,0)],rfl,rfl,rfl,dU trivial⟩,fun h2 s' hv=>⟨rfl,i,aa,eW.le ⟨[(0,0)],rfl,rfl,rfl,dU trivial⟩ hv hk⟩⟩
  ·obtain⟨z1,z2⟩:=hz i aa
   rw[<-hb,<-hp]at z2
   rw[<-hb]at z1
   obtain⟨q,hq⟩:∃q,q=qD n f b:=⟨_,rfl⟩
   obtain⟨r,hr⟩:∃r,r=oT n f b:=⟨_,rfl⟩
   rw[<-hq,<-hr]at z2
   have b1:=iY (n:=n) (f:=f) (a:=jr n f b) (m:=3) aa
   have b2:=ja (n:=n) (f:=f) (a:=jr n f b) (m:=3) aa
   have hr2:(r:Int)=1+cz n f (jr n f b) 3/2:=by rw[hr];unfold oT;omega
   have key:au P c f13.ntmps (part oM [1,1,1]) ⟨aD ng (nY p q ((N:Int)-i) r),iM n z (nF n f b),1⟩ (inBlock 1 (eR (fun s'=>au P c f13.ntmps (part pL [1,1]) s' (rq c kU (fun i:Nat=>pX (eI n f a i).1 ((N:Int)-i)) (fun i=>iM n z (eI n f a i).2) 1 (fun i=>i<=N) (fun i=>i=N) (fun i=>N-i) 0 (fun s'=>∃v,False/\bk kU s'=some v) i)) (rq c kU (fun i:Nat=>pX (eI n f a i).1 ((N:Int)-i)) (fun i=>iM n z (eI n f a i).2) 1 (fun i=>i<=N) (fun i=>i=N) (fun i=>N-i) 0 (fun s'=>∃v,False/\bk kU s'=some v) i))):=by
    refine au.zT hT rH hm (x:=part oM [1,1,1]) [] (i:=3) (y:=part oM [1,1,1,0,0]) ag ag ag hk (f1:=[]) (f2:=[46]) 60 ng 1 (fun j:Nat=>nY (iH p q j) q ((N:Int)-i) ((r:Int)-j)) (fun _=>iM n z (nF n f b)) (fun j=>j<=r) (fun j=>j=r) (fun j=>r-j) (fun _=>False) ⟨_,PC,?_⟩ (fun j hj=>⟨_,aaA,?_⟩) (fun j s' hj hle=>?_) (fun _ _ h=>h.elim)
    ·simp only[af.all]
     exact⟨0,Nat.zero_le _,[(0,0)],rfl,by show _=List.map (kr [(0,0)]) (nY p q ((N:Int)-i) ((r:Int)-((0:Nat):Int)));rw[show(r:Int)-((0:Nat):Int)=r by omega];rfl,rfl,dU trivial⟩
    ·simp only[af.all,az,bz,bE]
     refine⟨fun h2=>⟨⟨cZ aQ,cZ aQ,z2 j aa⟩,aa,j+1,aa,by dsimp only;omega,[(0,0)],rfl,?_,rfl,dU trivial⟩,fun h2=>⟨rfl,j,aa,[(0,0)],rfl,rfl,rfl,dU trivial⟩⟩
     rw[show(r:Int)-(j:Int)-1=(r:Int)-((j+1:Nat):Int) by omega];rfl
    ·subst hj
     show au P c _ (part pL [1,1]) s' _
     refine au.lX hle (au.bF hT rH hm 60 kU adP ag ?_)
     have e1:(eI n f a (i+1)).1=iH p q j:=by show iH (eI n f a i).1 (qD n f (eI n f a i).2) (oT n f (eI n f a i).2)=_;rw[<-hb,<-hp,<-hq,<-hr]
     have e2:(eI n f a (i+1)).2=nF n f b:=by show nF n f (eI n f a i).2=_;rw[<-hb]
     simp only[af.all,az]
     refine⟨aa,fun s'' hv=>⟨i+1,hG,by dsimp only;omega,eW.le ⟨[(0,0)],rfl,?_,rfl,?_⟩ hv hk⟩⟩
     ·show _=List.map (kr [(0,0)]) (pX (eI n f a (i+1)).1 ((N:Int)-((i+1:Nat):Int)))
      rw[e1,show(N:Int)-(i:Int)-1=(N:Int)-((i+1:Nat):Int) by omega];rfl
     ·show jE 1 [(0,0)] _ (iM n z (eI n f a (i+1)).2)
      rw[e2];exact dU trivial
   subst hf
   refine au.HH hT rH hm (x:=oM) [1,1,1] ag ag ag (f1:=[27,31]) 60 ng ⟨_,Zg,?_⟩
   simp only[af.all,az,beq_iff_eq,beq_eq_false_iff_ne,ne_eq]
   refine⟨⟨hS,aa,aa⟩,fun k0=>?_,fun k0=>⟨fun k1=>?_,fun k1=>?_⟩⟩
   ·have eB:p6 n (fun i=>.int .i64 (z i)) (bA n b) 2=jr n (fun i=>.int .i64 (z i)) b:=(if_pos k0).symm
    have eq:q=(mI n (fun i=>.int .i64 (z i)) (bA n b) 2,oA n (fun i=>.int .i64 (z i)) (bA n b)):=by rw[hq];exact if_pos k0
    simp only[eB,Ez b1 b2,<-hr2]
    refine⟨⟨hS.next,aa,aa⟩,⟨hS.jr,aa,aa,aa,aa⟩,fun s' hv=>?_⟩
    refine au.sL (kp:=[0]) hk (vs:=nY p q ((N:Int)-i) r) (ps:=iM n z (nF n (fun i=>.int .i64 (z i)) b)) (nx:=1) [(0,0)] hv rfl ⟨⟨rfl,gF rfl⟩,aN,aN,⟨rfl,iI rfl ?_⟩,aN,trivial⟩ (dU trivial) key
    rw[eq];exact gi fun i hi=>cY rfl aa
   ·have eB:bA n (bA n (bA n b))=jr n (fun i=>.int .i64 (z i)) b:=((if_neg k0).trans (if_pos k1)).symm
    have eq:q=(3,ec 3 (dQ (fD n (fun i=>.int .i64 (z i)) (bA n b)))):=by rw[hq];exact(if_neg k0).trans (if_pos k1)
    have u1:=iY (n:=n) (f:=fun i=>.int .i64 (z i)) (a:=bA n b) (m:=4) aa
    have u2:=ja (n:=n) (f:=fun i=>.int .i64 (z i)) (a:=bA n b) (m:=4) aa
    have v1:=iY (n:=n) (f:=fun i=>.int .i64 (z i)) (a:=bA n (bA n b)) (m:=5) aa
    have v2:=ja (n:=n) (f:=fun i=>.int .i64 (z i)) (a:=bA n (bA n b)) (m:=5) aa
    have zz:∀j,j<3->intOf (nth [.int .i64 (0-cz n (fun i=>.int .i64 (z i)) (bA n b) 4),.int .i64 0,.int .i64 (1+cz n (fun i=>.int .i64 (z i)) (bA n (bA n b)) 5)] (.int .i64 0) (j+0))=fD n (fun i=>.int .i64 (z i)) (bA n b) j:=fun j hj=>by
     rcases(show j=0\/j=1\/j=2 by omega)with rfl|rfl|rfl
     ·show 0-_=-_;omega
     ·rfl
     ·rfl
    have zb:∀j,-2^62<=fD n (fun i=>.int .i64 (z i)) (bA n b) j/\fD n (fun i=>.int .i64 (z i)) (bA n b) j<2^62:=fun j=>by
     unfold fD;split
     ·omega
     ·split<;>omega
    have zc:∀j,j<3->dQ (fD n (fun i=>.int .i64 (z i)) (bA n b)) j=dQ (fun j=>intOf (nth [.int .i64 (0-cz n (fun i=>.int .i64 (z i)) (bA n b) 4),.int .i64 0,.int .i64 (1+cz n (fun i=>.int .i64 (z i)) (bA n (bA n b)) 5)] (.int .i64 0) (j+0))) j:=fun j hj=>by
     show((fD n _ (bA n b) j:Int):Rat)=((intOf _:Int):Rat)
     rw[zz j hj]
    simp only[eB,Ez b1 b2,<-hr2,wrap_i64 (show-2^63<=0-cz n (fun i=>.int .i64 (z i)) (bA n b) 4 by omega) aa]
    refine⟨⟨hS.next,aa,aa,hS.next.next,aa,aa,aa,aa,aa,aa,fun j hj=>?_,fun j hj=>by rw[zz j hj];exact zb j,(z1 k1).congr zc⟩,⟨hS.jr,aa,aa,aa,aa⟩,fun s' hv=>?_⟩
    ·rcases(show j=0\/j=1\/j=2 by omega)with rfl|rfl|rfl<;>rfl
    ·refine au.sL (kp:=[0]) hk (vs:=nY p q ((N:Int)-i) r) (ps:=iM n z (nF n (fun i=>.int .i64 (z i)) b)) (nx:=1) [(0,0)] hv rfl ⟨⟨rfl,gF rfl⟩,aN,aN,⟨rfl,iI rfl ?_⟩,aN,trivial⟩ (dU trivial) key
     rw[eq];exact gi fun j hj=>cY (aa9 hj zc).symm aQ
   ·have eB:bA n (bA n b)=jr n (fun i=>.int .i64 (z i)) b:=((if_neg k0).trans (if_neg k1)).symm
    have eq:q=(2,fun i=>if i=0 then-kG (cz n (fun i=>.int .i64 (z i)) (bA n b) 400)else 1-kG (cz n (fun i=>.int .i64 (z i)) (bA n b) 400)):=by rw[hq];exact(if_neg k0).trans (if_neg k1)
    have hb1:bI (Int.natAbs 1)=1:=by decide
    simp only[eB,Ez b1 b2,<-hr2]
    refine⟨⟨hS.next,aa,aa,aa⟩,⟨aa,aa,aa,aa,by rw[hb1];omega,aa,aa⟩,⟨hS.jr,aa,aa,aa,aa⟩,fun s' hv=>?_⟩
    refine au.sL (kp:=[0]) hk (vs:=[.ptr 0 0 2 0 [],aP p,.int .i64 ((N:Int)-i),.own 1 3 0 2,.int .i64 r]) (ps:=[(1,⟨true,true,3,2,fun j=>.rat (q.2 j) ah⟩),(0,nB n z (nF n (fun i=>.int .i64 (z i)) b))]) (nx:=2) [(0,0),(1,69633)] hv rfl ⟨⟨rfl,gF rfl⟩,aN,aN,⟨rfl,dK rfl rfl rfl⟩,aN,trivial⟩ (bw rfl rfl rfl (fun j hj=>?_) (dU trivial)) ?_
    ·rw[eq]
     rcases(show j=0\/j=1 by omega)with rfl|rfl
     ·exact .inr ⟨rfl,cY rfl aa⟩
     ·exact .inr ⟨rfl,cY rfl (by rw[hb1,hW];decide)⟩
    ·refine au.cQ (t:=5) (k:=1) rfl rfl rfl rfl ?_
     refine au.sL (kp:=[0]) hk (L:=ng) (vs:=nY p q ((N:Int)-i) r) (ps:=iM n z (nF n (fun i=>.int .i64 (z i)) b)) (nx:=1) [(0,0)] rfl rfl ⟨⟨rfl,gF rfl⟩,aN,aN,⟨rfl,iI rfl ?_⟩,aN,trivial⟩ (dU trivial) key
     have e1:q.1=2:=by rw[eq]
     show bB (.ak 3 2 fun j=>.rat (q.2 (j+0)) ah) (.ak 3 q.1 fun j=>.rat (q.2 j) ah)
     rw[e1];exact gi fun j hj=>.refl _
 ·subst hi
  refine au.lU (aF.Gb hT rH hm 60 ZU ag ?_)
  simp only[af.all,az]
  exact⟨by unfold sN;rw[<-hN];exact .refl _,_,rfl,rfl,sw rfl (by unfold js;rw[<-hN])⟩
theorem aea:bf P (kW Bq) 13:=by
 refine zS fun {k n z a l v b q o} K hg ho hd hq=>?_
 unfold Bq at hg
 split at hg
 ·simp only[ax,Prod.mk.injEq]at hg
  obtain⟨rfl,rfl,rfl⟩:=hg
  exact Nq ho hd hq K
 ·simp at hg
theorem Qc {n:Nat} {f:Nat->AV} {a:Int}:bX 12 7 (rC n f a):=by
 have x1:=iY (n:=n) (f:=f) (a:=a) (m:=13) aa
 have x2:=ja (n:=n) (f:=f) (a:=a) (m:=13) aa
 unfold rC
 generalize cz n f a 13=x at*
 split
 ·have w1:=iY (n:=n) (f:=f) (a:=bA n (bA n a)) (m:=4) aa
  have w2:=ja (n:=n) (f:=f) (a:=bA n (bA n a)) (m:=4) aa
  generalize cz n f (bA n (bA n a)) 4=w at*
  rcases(show w=0\/w=1\/w=2\/w=3 by omega)with rfl|rfl|rfl|rfl
  ·refine⟨(x-6)*12,?_,aa⟩
   rw[Rat.intCast_mul,Rat.div_def,Rat.mul_assoc,show(((1+0:Int):Rat)⁻¹*((12:Int):Rat))=((12:Int):Rat) by decide+kernel]
  ·refine⟨(x-6)*6,?_,aa⟩
   rw[Rat.intCast_mul,Rat.div_def,Rat.mul_assoc,show(((1+1:Int):Rat)⁻¹*((12:Int):Rat))=((6:Int):Rat) by decide+kernel]
  ·refine⟨(x-6)*4,?_,aa⟩
   rw[Rat.intCast_mul,Rat.div_def,Rat.mul_assoc,show(((1+2:Int):Rat)⁻¹*((12:Int):Rat))=((4:Int):Rat) by decide+kernel]
  ·refine⟨(x-6)*3,?_,aa⟩
   rw[Rat.intCast_mul,Rat.div_def,Rat.mul_assoc,show(((1+3:Int):Rat)⁻¹*((12:Int):Rat))=((3:Int):Rat) by decide+kernel]
 ·exact⟨(x-6)*12,by rw[Rat.intCast_mul],aa⟩
theorem Lm {n:Nat} {f:Nat->AV} {a:Int} {m:Nat}:cq m (oA n f a) 7:=⟨12,by decide,by decide,fun _ _=>Qc⟩
theorem EY {n:Nat} {f:Nat->AV} {b:Int} (i:Nat):-5<=fD n f b i/\fD n f b i<=5:=by
 have u1:=iY (n:=n) (f:=f) (a:=b) (m:=4) aa
 have u2:=ja (n:=n) (f:=f) (a:=b) (m:=4) aa
 have v1:=iY (n:=n) (f:=f) (a:=bA n b) (m:=5) aa
 have v2:=ja (n:=n) (f:=f) (a:=bA n b) (m:=5) aa
 unfold fD
 split
 ·omega
 ·split<;>omega
theorem O5 {n:Nat} {f:Nat->AV} {b:Int} {m:Nat}:cq m (dQ (fD n f b)) 3:=⟨1,by decide,by decide,fun i _=>bX.int (by have:=EY (n:=n) (f:=f) (b:=b) i;omega)⟩
theorem aa0 {n:Nat} {f:Nat->AV} {b:Int}:iT 3 (dQ (fD n f b)):=fun i k hi hk=>(A8 O5 hi aa).more (by have:=dg;omega)
theorem VG {n:Nat} {f:Nat->AV} {b:Int}:cq 3 (ec 3 (dQ (fD n f b))) 7:=by
 have h1:fD n f b 1=0:=rfl
 have e0:ec 3 (dQ (fD n f b)) 0=((fD n f b 0:Int):Rat):=by
  show 0+bq 0 0/bq 2 0*dQ (fD n f b) 0=_
  rw[show bq 0 0/bq 2 0=1 by decide+kernel];unfold dQ;grind
 have e1:ec 3 (dQ (fD n f b)) 1=((fD n f b 0:Int):Rat):=by
  show 0+bq 1 0/bq 2 0*dQ (fD n f b) 0+bq 1 1/bq 2 1*dQ (fD n f b) 1=_
  rw[show bq 1 0/bq 2 0=1 by decide+kernel,show dQ (fD n f b) 1=0 from by unfold dQ;rw[h1];rfl];unfold dQ;grind
 have e2:ec 3 (dQ (fD n f b)) 2=((fD n f b 0+fD n f b 2:Int):Rat):=by
  show 0+bq 2 0/bq 2 0*dQ (fD n f b) 0+bq 2 1/bq 2 1*dQ (fD n f b) 1+bq 2 2/bq 2 2*dQ (fD n f b) 2=_
  rw[show bq 2 0/bq 2 0=1 by decide+kernel,show bq 2 2/bq 2 2=1 by decide+kernel,show dQ (fD n f b) 1=0 from by unfold dQ;rw[h1];rfl,Rat.intCast_add];unfold dQ;grind
 have z0:=EY (n:=n) (f:=f) (b:=b) 0
 have z2:=EY (n:=n) (f:=f) (b:=b) 2
 refine⟨1,by decide,by decide,fun i hi=>?_⟩
 rcases(show i=0\/i=1\/i=2 by omega)with rfl|rfl|rfl
 ·rw[e0];exact bX.int aa
 ·rw[e1];exact bX.int aa
 ·rw[e2];exact bX.int aa
theorem VD {d:Int}:1<=iw d/\iw d<=12/\0<=d%(iw d+1)/\d%(iw d+1)<=iw d:=by
 have h1:0<=i64.wrap (d.tdiv 17)%12:=Int.emod_nonneg _ aa
 have h2:i64.wrap (d.tdiv 17)%12<12:=Int.emod_lt_of_pos _ aa
 have hM:iw d=1+i64.wrap (d.tdiv 17)%12:=rfl
 have h3:0<=d%(iw d+1):=Int.emod_nonneg _ aa
 have h4:d%(iw d+1)<iw d+1:=Int.emod_lt_of_pos _ aa
 omega
theorem RQ {d:Int}:cq 2 (fun i=>if i=0 then-kG d else 1-kG d) 7:=by
 obtain⟨p1,p2,p3,p4⟩:=VD (d:=d)
 have hne:((iw d:Int):Rat)≠0:=wH aa
 have e:kG d*((iw d:Int):Rat)=((d%(iw d+1):Int):Rat):=by
  unfold kG
  rw[Rat.div_def,Rat.mul_assoc,Rat.mul_comm _ ((iw d:Int):Rat),Rat.mul_inv_cancel _ hne,Rat.mul_one]
 refine⟨iw d,aa,aa,fun i hi=>?_⟩
 rcases(show i=0\/i=1 by omega)with rfl|rfl
 ·refine⟨-(d%(iw d+1)),?_,aa⟩
  show _=-kG d*_
  rw[Rat.intCast_neg,Rat.neg_mul,e]
 ·refine⟨iw d-d%(iw d+1),?_,aa⟩
  show _=(1-kG d)*_
  rw[Rat.intCast_sub,Rat.sub_eq_add_neg,Rat.sub_eq_add_neg,Rat.add_mul,Rat.one_mul,Rat.neg_mul,e]
theorem Ax {n:Nat} {f:Nat->AV} {a:Int}:mB (qD n f a):=by
 unfold qD
 split
 ·have u1:=iY (n:=n) (f:=f) (a:=bA n a) (m:=2+1) aa
  have u2:=ja (n:=n) (f:=f) (a:=bA n a) (m:=2+1) aa
  exact⟨Nat.succ_pos _,by show(cz n f (bA n a) (2+1)).toNat+1<=3;omega,Lm⟩
 ·split
  ·exact⟨by show 1<=3;omega,aQ,VG⟩
  ·exact⟨by show 1<=2;omega,by show 2<=3;omega,RQ⟩
theorem HR {n:Nat} {f:Nat->AV} {a:Int}:1<=oT n f a/\oT n f a<=2:=by
 have u1:=iY (n:=n) (f:=f) (a:=jr n f a) (m:=3) aa
 have u2:=ja (n:=n) (f:=f) (a:=jr n f a) (m:=3) aa
 unfold oT
 omega
theorem EF {n:Nat} {f:Nat->AV} {a:Int}:∀i,i<=3->nX i (eI n f a i).1
 |0,_=>nX.one
 |i+1,h=>(EF i aa).step Ax aa HR
theorem Jr {n:Nat} {f:Nat->AV} {a:Int}:pJ n f a<=3:=by
 have u1:=iY (n:=n) (f:=f) (a:=a) (m:=4) aa
 have u2:=ja (n:=n) (f:=f) (a:=a) (m:=4) aa
 unfold pJ;omega
theorem ZB {p q:PP} {s:Nat} (hp:1<=p.1) (lp:p.1<=11) (hb:Bd p s) (hs:s<=1400) (hq:mB q):qS p q:=by
 have hW:=dg
 have h1:=hq.lo
 have h2:=hq.hi
 have hb2:cq (p.1-1+1) p.2 s:=by rw[show p.1-1+1=p.1 by omega];exact hb
 have hb3:cq (q.1-1+1) q.2 7:=by rw[show q.1-1+1=q.1 by omega];exact hq.bd
 have h5:p.1-1+(q.1-1)<=12:=aa
 have h6:(p.1-1+(q.1-1)+1)*(p.1-1+(q.1-1))<=13*12:=Nat.mul_le_mul aa h5
 exact⟨hp,h1,aa,fun i j k hi hj hk=>(LO aa hb2 hb3 hi hj).more aa,fun k hk=>((Bo aa hb2 hb3).sz hk).more aa⟩
theorem M7 {n:Nat} {f:Nat->AV} {a:Int}:vh n f a:=fun i hi=>by
 have hN:=Jr (n:=n) (f:=f) (a:=a)
 refine⟨fun _=>aa0,fun j hj=>?_⟩
 have h:=EF (n:=n) (f:=f) (a:=a) i aa
 have hr:=HR (n:=n) (f:=f) (a:=(eI n f a i).2)
 have h1:=h.hi
 have hl:=zh h.lo (Ax (n:=n) (f:=f) (a:=(eI n f a i).2)) j
 exact ZB hl.1 aa (Dc h.lo Ax h.bd j aa) aa Ax
structure iR (p:PP):Prop where
 lo:1<=p.1
 hi:p.1<=13
 bd:Bd p 1200
 gd:jl (aC p)
theorem Jx {n:Nat} {f:Nat->AV} {a:Int}:iR (sN n f a):=by
 have hN:=Jr (n:=n) (f:=f) (a:=a)
 have h:=EF (n:=n) (f:=f) (a:=a) (pJ n f a) hN
 have h1:=h.hi
 exact⟨h.lo,Nat.le_trans h1 aa,Bd.more h.bd aa,h.gd hN⟩
theorem iR.of {p:PP} (h:iR p):ej p:=by
 have hW:=dg
 have h1:=h.hi
 refine⟨h.lo,aa,fun k i hi=>?_,kI (zn h.bd) aa⟩
 obtain⟨D,d1,d2,d3⟩:=h.bd
 exact((uN d3 k i hi).sz d1 d2).more aa
theorem iR.pos {p:PP} (_h:iR p) (h0:(aC p).1≠0):0<(aC p).1:=Nat.pos_of_ne_zero h0
theorem iR.cnt {p:PP} (h:iR p) {a b:Rat} {A B:Int} (ha:bX A 63 a) (hA:A.natAbs<=2^63) (hA0:A≠0) (hb:bX B 63 b) (hB:B.natAbs<=2^63) (hB0:B≠0):ya p a b/\Ox p a b:=by
 refine⟨⟨h.of,fun h0=>?_⟩,⟨h.of,fun h0=>?_⟩⟩
 ·have hp:=h.pos h0
  have hl:=ym h.gd hp
  exact⟨(yZ h.gd hp).1,aa,tJ h.gd hp ha hA hA0 aa,tJ h.gd hp hb hB hB0 aa⟩
 ·have hp:=h.pos h0
  have hl:=ym h.gd hp
  exact⟨(yZ h.gd hp).2,aa,tJ h.gd hp ha hA hA0 aa,tJ h.gd hp hb hB hB0 aa⟩
def zF:bg:=[sG,(156,DM)]
theorem TX:bK P zF:=xF (aK Hq bU)
theorem Kn.congr {n p:Nat} {k k':Nat->Rat} (h:Kn n p k) (e:∀i,i<n->k i=k' i):Kn n p k':=by
 have hp:=h.p1
 have hl:=h.len
 refine⟨h.p1,h.len,fun i hi=>?_,fun i hi=>?_,fun i h1 h2=>?_,fun i h1 h2=>?_⟩
 ·rw[<-e i aa,<-e (i+1) hi];exact h.sorted i hi
 ·rw[<-e i aa,<-e 0 aa];exact h.first i hi
 ·rw[<-e i h2,<-e (n-1) aa];exact h.last i h1 h2
 ·rw[<-e i aa,<-e (i+p) aa];exact h.mult i h1 h2
def zA (i:Nat):Int:=if i=1 then 1 else if i=2 then-4 else if i=3 then 4 else 0
def pA:PP:=(4,ec 4 (dQ zA))
def uX (i:Nat):Int:=if i=0 then-2 else if i=2 then 1 else 0
def pB:PP:=(3,ec 3 (dQ uX))
def H8:Spec:=bR fun l=>match l with
 |[.mag 0]=>some (aJ (.str [48]) [])
 |[.mag 1]=>some (aJ (.str [49]) [])
 |_=>none
def zR:bg:=[sG,(113,H8)]
def JJ (q:Rat):List UInt8:=if q=0 then [48]else [49]
def Hh:Spec:=bR fun l=>match l with
 |[.rat q _]=>some (aJ (.str (JJ q)) [q=0\/q=1])
 |_=>none
def Lv:Spec:=dL (kC (kL ah) (kC (gb ah) (kC (gb ah) kN))) (fun a=>.tuple [.int .i64 (s7 a.1 a.2.1 a.2.2.1),.int .i64 (nU a.1 a.2.1 a.2.2.1)]) fun a=>[ya a.1 a.2.1 a.2.2.1]
def Kr:Spec:=bR fun l=>match l with
 |[.ak 1 4 f]=>some (aJ (aP pA) [f 0=.int .i64 0,f 1=.int .i64 1,f 2=.int .i64 (-4),f 3=.int .i64 4])
 |[.ak 1 3 f]=>some (aJ (aP pB) [f 0=.int .i64 (-2),f 1=.int .i64 0,f 2=.int .i64 1])
 |_=>none
def FG:bg:=nG::(55,Kr)::(18,Gm 1)::(16,Lv)::(56,Hh)::ki
theorem Sg:aX 12 f12:=aY func12
theorem acR:bT T zF [] 60 f113 (aG f113) ⟨aS 0 [.mag 0],[],0⟩=
  some (leaf ret [str [(48:UInt8)]]):=ag
theorem Ou:bT T zF [] 60 f113 (aG f113) ⟨aS 0 [.mag 1],[],0⟩=
  let c1:Int:=(↑(1:Nat):Int);some (aj [nl 1<2^40,(0:Int)<1000000000,(1000000000:Int)<2^32] (aj [(10:Int)≠(0:Int),(0:Nat)<1/\1*((1:Nat)+1)*2<=2^47] (aj [(10:Int)≠(0:Int)] (aj [(0:Int)<=c1/\c1<=c1/\c1<=2^47/\c1*c1<=2^47] (leaf ret [str [UInt8.ofNat (u8.wrap (u32.wrap ((48:Int)+(↑((1:Nat)%Int.toNat (1000000000:Int)):Int).tmod (10:Int)))).toNat]]))))):=ag
theorem RB:bT T zR [] 60 f56 (aG f56) ⟨aS 0 [.agg [.bool false,.mag 0,.mag 0]],[],0⟩=
  some (leaf ret [str [(48:UInt8)]]):=ag
theorem NP:bT T zR [] 60 f56 (aG f56) ⟨aS 0 [.agg [.bool false,.mag 1,.mag 0]],[],0⟩=
  some (leaf ret [str [(49:UInt8)]]):=ag
theorem US:bT T FG [100021,100025,100029,100034,100041,100048,100057] 200 f12 (aG f12) ⟨aS 0 [],[],0⟩=
  let c14:Rat:=jw 0 1;let c13:Rat:=(↑(2:Int):Rat);let c12:Rat:=jz 0 1;let c11:AV:=int i64 1;let c9:Int:=(-2:Int);let c8:Int:=(2:Int)^63;let c7:Nat:=bO (fy 4 fun i=>aU (rat (ec 4 (dQ zA) i) ah)) 4;let c5:Nat×(Nat->Rat):=((3:Nat),fun i=>aU (rat (ec 3 (dQ uX) i) ah));let c3:AV:=int i64 0;let c1:Nat×(Nat->Rat):=((4:Nat),fun i=>aU (rat (ec 4 (dQ zA) i) ah));let c10:Nat:=(jh 1 c1).length;let c6:List AV:=[int i64 c9,c3,c11];let c2:List AV:=[c3,c11,int i64 (-4:Int),int i64 4];let c4:Prop:=(0:Int)<=1/\Int.toNat (1:Int)<c10;some (aj [(4:Nat)*1<=2^24,nth c2 c3 ((0:Nat)+0)=c3,nth c2 c3 ((1:Nat)+0)=c11,nth c2 c3 ((2:Nat)+0)=int i64 (-4:Int),nth c2 c3 ((3:Nat)+0)=int i64 4,dc (fun i=>rat (ec 4 (dQ zA) i) ah) 4 ah,yG 1 c1] (aj [(3:Nat)*1<=2^24,nth c6 c3 ((0:Nat)+0)=int i64 c9,nth c6 c3 ((1:Nat)+0)=c3,nth c6 c3 ((2:Nat)+0)=c11,-c8<=c9,c9<c8,-c8<=2,(2:Int)<c8,dc (fun i=>rat (ec 3 (dQ uX) i) ah) 3 ah,Max.max 1 (bI c9.natAbs)<=ah,Max.max 1 (bI (Int.natAbs (2:Int)))<=ah,ya c5 (↑c9:Rat) c13] (aj [((if c7=0 then(3:Int)else(0:Int))==0)=true,(bif true then nU c5 (↑c9:Rat) c13==0 else false)=true,(bif true then s7 c5 (↑c9:Rat) c13==2 else false)=true,(bif true then(↑c10:Int)==2 else false)=true,(0:Int)<=0/\Int.toNat (0:Int)<c10,(bif true then(↑(pU 1 c1 (Int.toNat (0:Int))):Int)==1 else false)=true,c4,(bif true then(↑(pU 1 c1 (Int.toNat (1:Int))):Int)==2 else false)=true,c4,c12=0\/c12=1,(bif true then JJ c12==[(48:UInt8)]else false)=true,c4,c14=0\/c14=1] (leaf ret [AV.bool true])))):=ag
theorem Uh:bf P H8 113:=by
 refine cE fun K args r hk hs _=>?_
 have fin:∀{N:Nat} {t:af (List AV)} {l:List UInt8},bT T zF [] 60 f113 (aG f113) ⟨aS 0 [.mag N],[],0⟩=some t->(t.all fun _ us=>fZ us (.str l))->aO P 113 K [.mag N] [] (aJ (.str l) []):=fun h1 h2=>
  bW (r:=aJ _ []) hT TX hm XU rfl aW rfl 60 h1 (fun _=>h2) K []
 split at hs<;>simp only[ax,reduceCtorEq]at hs
 all_goals subst hs
 ·exact fin acR (.refl _)
 ·exact fin Ou (by simp only[af.all,az];exact⟨by decide,by decide,by decide,by decide,.refl _⟩)
theorem acv:bK P zR:=xF (aK Uh bU)
theorem Wm:bf P Hh 56:=by
 refine cE fun K args r hk hs _=>?_
 have fin:∀{q:Rat} {n a b:Nat} {t:af (List AV)} {l:List UInt8},kids (.rat q n)=[.bool false,.mag a,.mag b]->bT T zR [] 60 f56 (aG f56) ⟨aS 0 [.agg [.bool false,.mag a,.mag b]],[],0⟩=some t->(t.all fun _ us=>fZ us (.str l))->aO P 56 K [.rat q n] [] (aJ (.str l) []):=fun h0 h1 h2=>
  gC (bW (r:=aJ _ []) hT acv hm W6 rfl aW rfl 60 h1 (fun _=>h2) K []) rfl (show gh [_] [_]from⟨by rw[<-h0];exact ID,trivial⟩) []
 split at hs
 ·rename_i q n
  simp only[ax]at hs
  subst hs
  intro need
  have need:q=0\/q=1:=need
  rcases need with rfl|rfl
  ·exact fin (l:=[48]) ag RB (.refl _) trivial
  ·exact fin (l:=[49]) ag NP (.refl _) trivial
 ·simp at hs
theorem Qh:bf P Lv 16:=dF fun⟨_,_,_,_⟩ K hn=>XR hn K
theorem Di {n s:Nat} {c:Nat->Rat} (h:cq n c s):cq n (ec n c) (s+n*n+2*n):=by
 obtain⟨D,d1,d2,d3⟩:=h
 have h2:=AP (N:=n-1) (n-1+1)
 rcases Nat.eq_zero_or_pos n with h0|h0
 ·exact⟨1,by decide,Nat.one_le_two_pow,fun i hi=>aa⟩
 have h3:(n-1+1)*(n-1)<=n*n:=Nat.mul_le_mul aa aa
 have h4:=kM d2 (show((jd (n-1) (n-1+1):Nat):Int).natAbs<=2^((n-1+1)*(n-1)) by rw[Int.natAbs_natCast];exact uD _)
 exact⟨_,Int.mul_ne_zero d1 aa,Nat.le_trans h4 (Nat.pow_le_pow_right (by decide) aa),fun i hi=>(DU d3 hi (i+1) aa).more aa⟩
theorem HK {c:PP} (t:Trim c) (hl:c.1<=7) (hb:Bd c 156):jl c:=⟨t,aa,hb,kz,c,⟨fun t=>by rw[oO,Rat.one_mul],⟨cP c,fun t=>by rw[oO,Rat.one_mul]⟩⟩,Nat.le_trans vw hl⟩
theorem Gw {p:PP} (h1:1<=p.1) (h2:p.1<=7) (hb:Bd p 100):iR p:=
 ⟨h1,aa,hb.more aa,HK lJ (Nat.le_trans eP h2) (cq.short ((zn hb).more aa) eP)⟩
theorem L6:cq 4 (dQ zA) 3:=⟨1,by decide,by decide,fun i hi=>bX.int (by
 rcases(show i=0\/i=1\/i=2\/i=3 by omega)with rfl|rfl|rfl|rfl<;>decide)⟩
theorem J2:cq 3 (dQ uX) 3:=⟨1,by decide,by decide,fun i hi=>bX.int (by
 rcases(show i=0\/i=1\/i=2 by omega)with rfl|rfl|rfl<;>decide)⟩
theorem B0:iR pA:=Gw (by show 1<=4;omega) (by show 4<=7;omega) (cq.more (n:=4) (Di L6) (by decide))
theorem UK:iR pB:=Gw (by show 1<=3;omega) (by show 3<=7;omega) (cq.more (n:=3) (Di J2) (by decide))
theorem La {n s:Nat} {c:Nat->Rat} (h:cq n c s) (hs:2*(s+n*n+2*n)+2<=ah):iT n c:=fun i k hi hk=>(A8 h hi aa).more hs
theorem aef:bf P Kr 55:=by
 have hW:=dg
 refine cE fun K args r hk hs _=>?_
 split at hs
 ·rename_i f
  simp only[ax]at hs
  subst hs
  intro need
  obtain⟨n0,n1,n2,n3⟩:=need
  refine gC (En (z:=zA) aa aa (fun i hi=>?_) (La L6 aa) K) hk ⟨r8 rfl fun i hi=>?_,trivial⟩ [] trivial
  ·rcases(show i=0\/i=1\/i=2\/i=3 by omega)with rfl|rfl|rfl|rfl<;>decide
  ·rcases(show i=0\/i=1\/i=2\/i=3 by omega)with rfl|rfl|rfl|rfl
   ·exact n0
   ·exact n1
   ·exact n2
   ·exact n3
 ·rename_i f
  simp only[ax]at hs
  subst hs
  intro need
  obtain⟨n0,n1,n2⟩:=need
  refine gC (En (z:=uX) aa aa (fun i hi=>?_) (La J2 aa) K) hk ⟨r8 rfl fun i hi=>?_,trivial⟩ [] trivial
  ·rcases(show i=0\/i=1\/i=2 by omega)with rfl|rfl|rfl<;>decide
  ·rcases(show i=0\/i=1\/i=2 by omega)with rfl|rfl|rfl
   ·exact n0
   ·exact n1
   ·exact n2
 ·simp at hs
theorem Vc {τ:Nat}:bX 1 τ 0:=.zero
theorem Xo {τ:Nat}:bX 1 τ 1:=⟨1,by decide+kernel,Nat.one_le_two_pow⟩
theorem uj {c:PP} (h:jl c) (h0:0<c.1):eA (dm c) (dz c) 0:=tJ h h0 (τ:=1) Vc (by decide) (by decide) aa
theorem Bf {c:PP} (h:jl c) (h0:0<c.1):eA (dm c) (dz c) 1:=tJ h h0 (τ:=1) Xo (by decide) (by decide) aa
theorem KZ {c:PP} (h:jl c) (h0:0<c.1):EO c:=⟨(yK h h0).1.2.2.1,((yK h h0).1.2.2.2 aa).1⟩
theorem NV:yG 1 pA:=by
 refine⟨B0.of,fun h0=>?_⟩
 have hp:=B0.pos h0
 have hg:=B0.gd
 have hl:jh 1 pA=[(0,0),(0,1)]:=by decide+kernel
 have hb:jG (dm (aC pA)) (dz (aC pA)) 0 1=1:=by decide+kernel
 have hs:=ym hg hp
 refine⟨(yZ hg hp).1,aa,uj hg hp,Bf hg hp,⟨uj hg hp,Bf hg hp,fun _ h1=>absurd hb h1⟩,by rw[hl];decide,KZ hg hp,fun j hj=>?_⟩
 have h1:∀j,(fq (aC pA) (j+1)).1<=1:=by
  intro j
  induction j with
  |zero=>decide+kernel
  |succ j ih=>exact Nat.le_trans (xG (sH lJ _)) ih
 cases j with
 |succ j=>exact absurd (h1 j) aa
 |zero=>
  have hgd:jl (fq (aC pA) 0):=HK (sH lJ 0) (by decide+kernel) ⟨2,by decide,by decide,fun i hi=>by
   have hi:i<2:=Nat.lt_of_lt_of_le hi (by decide+kernel)
   rcases(show i=0\/i=1 by omega)with rfl|rfl
   ·exact⟨-1,by decide+kernel,by decide⟩
   ·exact⟨2,by decide+kernel,by decide⟩⟩
  have hp2:0<(fq (aC pA) 0).1:=aa
  have hs2:=ym hgd hp2
  refine⟨KZ hgd hp2,(yZ hgd hp2).1,aa,fun i hi=>?_⟩
  rw[hl]at hi ⊢
  have hi:i<2:=hi
  rcases(show i=0\/i=1 by omega)with rfl|rfl
  ·exact⟨uj hgd hp2,uj hgd hp2⟩
  ·exact⟨uj hgd hp2,Bf hgd hp2⟩
theorem aeb:bK P FG:=gW (aK aef (aK (aei 1) (aK Qh (aK Wm kO))))
theorem Ua (K:Nat):aO P 12 K [] [] (aJ (.bool true) []):=by
 have hW:=dg
 refine bW (r:=aJ (.bool true) []) hT aeb hm Sg rfl aW rfl 200 US (fun _=>?_) K []
 simp only[af.all,az]
 refine⟨⟨aa,rfl,rfl,rfl,rfl,cZ aQ,NV⟩,⟨aa,rfl,rfl,rfl,aa,aa,aa,aa,cZ aQ,by rw[hW];decide,by rw[hW];decide,?_⟩,⟨by decide+kernel,by decide+kernel,by decide+kernel,by decide+kernel,by decide+kernel,by decide+kernel,by decide+kernel,by decide+kernel,by decide+kernel,by decide+kernel,by decide+kernel,by decide+kernel,by decide+kernel⟩,.refl _⟩
 exact(UK.cnt (A:=1) (B:=1) ⟨-2,by decide+kernel,by decide⟩ (by decide) (by decide) ⟨2,by decide+kernel,by decide⟩ (by decide) (by decide)).1
def MT:Spec:=bR fun l=>match l with
 |[]=>some (aJ (.bool true) [])
 |_=>none
theorem Zk:bf P MT 12:=by
 refine cE fun K args r hk hs _=>?_
 split at hs
 ·simp only[ax]at hs
  subst hs
  exact Ua K
 ·simp at hs
end Go.Am.B
