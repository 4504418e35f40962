/- What the dice make: short factors, so that all iC hold. -/
import Derived.Test.YtolopdkjjlfgjaaGreatY39
import Derived.Test.YtolopdkjjlfgjaaGreatY38
import Derived.Test.YtolopdkjjlfgjaaGreatB33
import Derived.Test.YtolopdkjjlfgjaaGreatZ2
set_option linter.unusedVariables false
namespace Go.Am.B
open Go Go.Am.N AV af ak IntKind Proofs.Tryz
theorem adg {n:Nat} {f:Nat->AV} {a:Int}:bS 12 7 (qR n f a):=by
 have x1:=jE (n:=n) (f:=f) (a:=a) (m:=13) aa
 have x2:=jF (n:=n) (f:=f) (a:=a) (m:=13) aa
 unfold qR
 generalize cJ n f a 13=x at*
 split
 ·have w1:=jE (n:=n) (f:=f) (a:=bF n (bF n a)) (m:=4) aa
  have w2:=jF (n:=n) (f:=f) (a:=bF n (bF n a)) (m:=4) aa
  generalize cJ n f (bF n (bF n a)) 4=w at*
  rcases(show w=0\/w=1\/w=2\/w=3 by omega)with rfl|rfl|rfl|rfl
  ·refine⟨(x-6)*12,?_,aa⟩
   rw[Rat.intCast_mul,Rat.div_def,Rat.mul_assoc,show(((1+0:Int):Rat)⁻¹*((12:Int):Rat))=((12:Int):Rat) by decide+kernel]
  ·refine⟨(x-6)*6,?_,aa⟩
   rw[Rat.intCast_mul,Rat.div_def,Rat.mul_assoc,show(((1+1:Int):Rat)⁻¹*((12:Int):Rat))=((6:Int):Rat) by decide+kernel]
  ·refine⟨(x-6)*4,?_,aa⟩
   rw[Rat.intCast_mul,Rat.div_def,Rat.mul_assoc,show(((1+2:Int):Rat)⁻¹*((12:Int):Rat))=((4:Int):Rat) by decide+kernel]
  ·refine⟨(x-6)*3,?_,aa⟩
   rw[Rat.intCast_mul,Rat.div_def,Rat.mul_assoc,show(((1+3:Int):Rat)⁻¹*((12:Int):Rat))=((3:Int):Rat) by decide+kernel]
 ·exact⟨(x-6)*12,by rw[Rat.intCast_mul],aa⟩
theorem acu {n:Nat} {f:Nat->AV} {a:Int} {m:Nat}:cR m (qL n f a) 7:=⟨12,by decide,by decide,fun _ _=>adg⟩
theorem C6 {n:Nat} {f:Nat->AV} {b:Int} (i:Nat):-5<=fV n f b i/\fV n f b i<=5:=by
 have u1:=jE (n:=n) (f:=f) (a:=b) (m:=4) aa
 have u2:=jF (n:=n) (f:=f) (a:=b) (m:=4) aa
 have v1:=jE (n:=n) (f:=f) (a:=bF n b) (m:=5) aa
 have v2:=jF (n:=n) (f:=f) (a:=bF n b) (m:=5) aa
 unfold fV
 split
 ·omega
 ·split<;>omega
theorem SO {n:Nat} {f:Nat->AV} {b:Int} {m:Nat}:cR m (eu (fV n f b)) 3:=⟨1,by decide,by decide,fun i _=>bS.int (by have:=C6 (n:=n) (f:=f) (b:=b) i;omega)⟩
theorem aeb {n:Nat} {f:Nat->AV} {b:Int}:jG 3 (eu (fV n f b)):=fun i k hi hk=>(Co SO hi aa).more (by have:=dI;omega)
theorem aeB {n:Nat} {f:Nat->AV} {b:Int}:cR 3 (eJ 3 (eu (fV n f b))) 7:=by
 have h1:fV n f b 1=0:=rfl
 have e0:eJ 3 (eu (fV n f b)) 0=((fV n f b 0:Int):Rat):=by
  show 0+bq 0 0/bq 2 0*eu (fV n f b) 0=_
  rw[show bq 0 0/bq 2 0=1 by decide+kernel];unfold eu;grind
 have e1:eJ 3 (eu (fV n f b)) 1=((fV n f b 0:Int):Rat):=by
  show 0+bq 1 0/bq 2 0*eu (fV n f b) 0+bq 1 1/bq 2 1*eu (fV n f b) 1=_
  rw[show bq 1 0/bq 2 0=1 by decide+kernel,show eu (fV n f b) 1=0 from by unfold eu;rw[h1];rfl];unfold eu;grind
 have e2:eJ 3 (eu (fV n f b)) 2=((fV n f b 0+fV n f b 2:Int):Rat):=by
  show 0+bq 2 0/bq 2 0*eu (fV n f b) 0+bq 2 1/bq 2 1*eu (fV n f b) 1+bq 2 2/bq 2 2*eu (fV n f b) 2=_
  rw[show bq 2 0/bq 2 0=1 by decide+kernel,show bq 2 2/bq 2 2=1 by decide+kernel,show eu (fV n f b) 1=0 from by unfold eu;rw[h1];rfl,Rat.intCast_add];unfold eu;grind
 have z0:=C6 (n:=n) (f:=f) (b:=b) 0
 have z2:=C6 (n:=n) (f:=f) (b:=b) 2
 refine⟨1,by decide,by decide,fun i hi=>?_⟩
 rcases(show i=0\/i=1\/i=2 by omega)with rfl|rfl|rfl
 ·rw[e0];exact bS.int aa
 ·rw[e1];exact bS.int aa
 ·rw[e2];exact bS.int aa
theorem ab0 {d:Int}:1<=iU d/\iU d<=12/\0<=d%(iU d+1)/\d%(iU d+1)<=iU d:=by
 have h1:0<=i64.wrap (d.tdiv 17)%12:=Int.emod_nonneg _ aa
 have h2:i64.wrap (d.tdiv 17)%12<12:=Int.emod_lt_of_pos _ aa
 have hM:iU d=1+i64.wrap (d.tdiv 17)%12:=rfl
 have h3:0<=d%(iU d+1):=Int.emod_nonneg _ aa
 have h4:d%(iU d+1)<iU d+1:=Int.emod_lt_of_pos _ aa
 omega
theorem PJ {d:Int}:cR 2 (fun i=>if i=0 then-lJ d else 1-lJ d) 7:=by
 obtain⟨p1,p2,p3,p4⟩:=ab0 (d:=d)
 have hne:((iU d:Int):Rat)≠0:=pE aa
 have e:lJ d*((iU d:Int):Rat)=((d%(iU d+1):Int):Rat):=by
  unfold lJ
  rw[Rat.div_def,Rat.mul_assoc,Rat.mul_comm _ ((iU d:Int):Rat),Rat.mul_inv_cancel _ hne,Rat.mul_one]
 refine⟨iU d,aa,aa,fun i hi=>?_⟩
 rcases(show i=0\/i=1 by omega)with rfl|rfl
 ·refine⟨-(d%(iU d+1)),?_,aa⟩
  show _=-lJ d*_
  rw[Rat.intCast_neg,Rat.neg_mul,e]
 ·refine⟨iU d-d%(iU d+1),?_,aa⟩
  show _=(1-lJ d)*_
  rw[Rat.intCast_sub,Rat.sub_eq_add_neg,Rat.sub_eq_add_neg,Rat.add_mul,Rat.one_mul,Rat.neg_mul,e]
theorem yy {n:Nat} {f:Nat->AV} {a:Int}:qf (r9 n f a):=by
 unfold r9
 split
 ·have u1:=jE (n:=n) (f:=f) (a:=bF n a) (m:=2+1) aa
  have u2:=jF (n:=n) (f:=f) (a:=bF n a) (m:=2+1) aa
  exact⟨Nat.succ_pos _,by show(cJ n f (bF n a) (2+1)).toNat+1<=3;omega,acu⟩
 ·split
  ·exact⟨by show 1<=3;omega,aS,aeB⟩
  ·exact⟨by show 1<=2;omega,by show 2<=3;omega,PJ⟩
theorem CF {n:Nat} {f:Nat->AV} {a:Int}:1<=p8 n f a/\p8 n f a<=2:=by
 have u1:=jE (n:=n) (f:=f) (a:=jB n f a) (m:=3) aa
 have u2:=jF (n:=n) (f:=f) (a:=jB n f a) (m:=3) aa
 unfold p8
 omega
theorem vF {n:Nat} {f:Nat->AV} {a:Int}:∀i,i<=3->oV i (eV n f a i).1
 |0,_=>oV.one
 |i+1,h=>(vF i aa).step yy aa CF
theorem Dr {n:Nat} {f:Nat->AV} {a:Int}:oG n f a<=3:=by
 have u1:=jE (n:=n) (f:=f) (a:=a) (m:=4) aa
 have u2:=jF (n:=n) (f:=f) (a:=a) (m:=4) aa
 unfold oG;omega
theorem Q7 {p q:PP} {s:Nat} (hp:1<=p.1) (lp:p.1<=11) (hb:Bd p s) (hs:s<=1400) (hq:qf q):IY p q:=by
 have hW:=dI
 have h1:=hq.lo
 have h2:=hq.hi
 have hb2:cR (p.1-1+1) p.2 s:=by rw[show p.1-1+1=p.1 by omega];exact hb
 have hb3:cR (q.1-1+1) q.2 7:=by rw[show q.1-1+1=q.1 by omega];exact hq.bd
 have h5:p.1-1+(q.1-1)<=12:=aa
 have h6:(p.1-1+(q.1-1)+1)*(p.1-1+(q.1-1))<=13*12:=Nat.mul_le_mul aa h5
 exact⟨hp,h1,aa,fun i j k hi hj hk=>(Zb aa hb2 hb3 hi hj).more aa,fun k hk=>((KS aa hb2 hb3).sz hk).more aa⟩
theorem Z9 {n:Nat} {f:Nat->AV} {a:Int}:zo n f a:=fun i hi=>by
 have hN:=Dr (n:=n) (f:=f) (a:=a)
 refine⟨fun _=>aeb,fun j hj=>?_⟩
 have h:=vF (n:=n) (f:=f) (a:=a) i aa
 have hr:=CF (n:=n) (f:=f) (a:=(eV n f a i).2)
 have h1:=h.hi
 have hl:=xZ h.lo (yy (n:=n) (f:=f) (a:=(eV n f a i).2)) j
 exact Q7 hl.1 aa (Dq h.lo yy h.bd j aa) aa yy
structure lT (p:PP):Prop where
 lo:1<=p.1
 hi:p.1<=13
 bd:Bd p 1200
 gd:jJ (aJ p)
theorem Lw {n:Nat} {f:Nat->AV} {a:Int}:lT (l6 n f a):=by
 have hN:=Dr (n:=n) (f:=f) (a:=a)
 have h:=vF (n:=n) (f:=f) (a:=a) (oG n f a) hN
 have h1:=h.hi
 exact⟨h.lo,Nat.le_trans h1 aa,Bd.more h.bd aa,h.gd hN⟩
theorem lT.of {p:PP} (h:lT p):mF p:=by
 have hW:=dI
 have h1:=h.hi
 refine⟨h.lo,aa,fun k i hi=>?_,kP (DL h.bd) aa⟩
 obtain⟨D,d1,d2,d3⟩:=h.bd
 exact((Ax d3 k i hi).sz d1 d2).more aa
theorem lT.pos {p:PP} (_h:lT p) (h0:(aJ p).1≠0):0<(aJ p).1:=Nat.pos_of_ne_zero h0
theorem lT.cnt {p:PP} (h:lT p) {a b:Rat} {A B:Int} (ha:bS A 63 a) (hA:A.natAbs<=2^63) (hA0:A≠0) (hb:bS B 63 b) (hB:B.natAbs<=2^63) (hB0:B≠0):xd p a b/\PF p a b:=by
 refine⟨⟨h.of,fun h0=>?_⟩,⟨h.of,fun h0=>?_⟩⟩
 ·have hp:=h.pos h0
  have hl:=AB h.gd hp
  exact⟨(Bm h.gd hp).1,aa,s9 h.gd hp ha hA hA0 aa,s9 h.gd hp hb hB hB0 aa⟩
 ·have hp:=h.pos h0
  have hl:=AB h.gd hp
  exact⟨(Bm h.gd hp).2,aa,s9 h.gd hp ha hA hA0 aa,s9 h.gd hp hb hB hB0 aa⟩
def zO:bB:=[sG,(156,DO)]
theorem aaq:bT P zO:=yM (aN Ie ct)
theorem Kn.congr {n p:Nat} {k k':Nat->Rat} (h:Kn n p k) (e:∀i,i<n->k i=k' i):Kn n p k':=by
 have hp:=h.p1
 have hl:=h.len
 refine⟨h.p1,h.len,fun i hi=>?_,fun i hi=>?_,fun i h1 h2=>?_,fun i h1 h2=>?_⟩
 ·rw[<-e i aa,<-e (i+1) hi];exact h.sorted i hi
 ·rw[<-e i aa,<-e 0 aa];exact h.first i hi
 ·rw[<-e i h2,<-e (n-1) aa];exact h.last i h1 h2
 ·rw[<-e i aa,<-e (i+p) aa];exact h.mult i h1 h2
def zA (i:Nat):Int:=if i=1 then 1 else if i=2 then-4 else if i=3 then 4 else 0
def pA:PP:=(4,eJ 4 (eu zA))
def xD (i:Nat):Int:=if i=0 then-2 else if i=2 then 1 else 0
def pB:PP:=(3,eJ 3 (eu xD))
def K5:Spec:=b7 fun l=>match l with
 |[.mag 0]=>some (aM (.str [48]) [])
 |[.mag 1]=>some (aM (.str [49]) [])
 |_=>none
def AS:bB:=[sG,(113,K5)]
def IB (q:Rat):List UInt8:=if q=0 then [48]else [49]
def G8:Spec:=b7 fun l=>match l with
 |[.rat q _]=>some (aM (.str (IB q)) [q=0\/q=1])
 |_=>none
def DZ:Spec:=fu (kC (kL ah) (kC (gE ah) (kC (gE ah) kN))) (fun a=>.tuple [.int .i64 (kQ a.1 a.2.1 a.2.2.1),.int .i64 (lH a.1 a.2.1 a.2.2.1)]) fun a=>[xd a.1 a.2.1 a.2.2.1]
def Jq:Spec:=b7 fun l=>match l with
 |[.aq 1 4 f]=>some (aM (aX pA) [f 0=.int .i64 0,f 1=.int .i64 1,f 2=.int .i64 (-4),f 3=.int .i64 4])
 |[.aq 1 3 f]=>some (aM (aX pB) [f 0=.int .i64 (-2),f 1=.int .i64 0,f 2=.int .i64 1])
 |_=>none
noncomputable def K8:bB:=nG::(55,Jq)::(18,CL 1)::(16,DZ)::(56,G8)::nr
theorem Yj:bu 12 f12:=bz func12
theorem aeH:cq T zO [] 60 f113 (aG f113) ⟨aV 0 [.mag 0],[],0⟩=
  some (leaf ret [str [(48:UInt8)]]):=ag
theorem RY:cq T zO [] 60 f113 (aG f113) ⟨aV 0 [.mag 1],[],0⟩=
  let c1:Int:=(↑(1:Nat):Int);some (aj [nl 1<2^40,(0:Int)<1000000000,(1000000000:Int)<2^32] (aj [(10:Int)≠(0:Int),(0:Nat)<1/\1*((1:Nat)+1)*2<=2^47] (aj [(10:Int)≠(0:Int)] (aj [(0:Int)<=c1/\c1<=c1/\c1<=2^47/\c1*c1<=2^47] (leaf ret [str [UInt8.ofNat (u8.wrap (u32.wrap ((48:Int)+(↑((1:Nat)%Int.toNat (1000000000:Int)):Int).tmod (10:Int)))).toNat]]))))):=ag
theorem Ub:cq T AS [] 60 f56 (aG f56) ⟨aV 0 [.agg [.bool false,.mag 0,.mag 0]],[],0⟩=
  some (leaf ret [str [(48:UInt8)]]):=ag
theorem ae1:cq T AS [] 60 f56 (aG f56) ⟨aV 0 [.agg [.bool false,.mag 1,.mag 0]],[],0⟩=
  some (leaf ret [str [(49:UInt8)]]):=ag
theorem RE:cq T K8 [100021,100025,100029,100034,100041,100048,100057] 200 f12 (aG f12) ⟨aV 0 [],[],0⟩=
  let c14:Rat:=iF 0 1;let c13:Rat:=(↑(2:Int):Rat);let c12:Rat:=iD 0 1;let c11:AV:=int i64 1;let c9:Int:=(-2:Int);let c8:Int:=(2:Int)^63;let c7:Nat:=bY (gA 4 fun i=>aW (rat (eJ 4 (eu zA) i) ah)) 4;let c5:Nat×(Nat->Rat):=((3:Nat),fun i=>aW (rat (eJ 3 (eu xD) i) ah));let c3:AV:=int i64 0;let c1:Nat×(Nat->Rat):=((4:Nat),fun i=>aW (rat (eJ 4 (eu zA) i) ah));let c10:Nat:=(bf 1 c1).length;let c6:List AV:=[int i64 c9,c3,c11];let c2:List AV:=[c3,c11,int i64 (-4:Int),int i64 4];let c4:Prop:=(0:Int)<=1/\Int.toNat (1:Int)<c10;some (aj [(4:Nat)*1<=2^24,nth c2 c3 ((0:Nat)+0)=c3,nth c2 c3 ((1:Nat)+0)=c11,nth c2 c3 ((2:Nat)+0)=int i64 (-4:Int),nth c2 c3 ((3:Nat)+0)=int i64 4,dU (fun i=>rat (eJ 4 (eu zA) i) ah) 4 ah,u5 1 c1] (aj [(3:Nat)*1<=2^24,nth c6 c3 ((0:Nat)+0)=int i64 c9,nth c6 c3 ((1:Nat)+0)=c3,nth c6 c3 ((2:Nat)+0)=c11,-c8<=c9,c9<c8,-c8<=2,(2:Int)<c8,dU (fun i=>rat (eJ 3 (eu xD) i) ah) 3 ah,Max.max 1 (bP c9.natAbs)<=ah,Max.max 1 (bP (Int.natAbs (2:Int)))<=ah,xd c5 (↑c9:Rat) c13] (aj [((if c7=0 then(3:Int)else(0:Int))==0)=true,(bif true then lH c5 (↑c9:Rat) c13==0 else false)=true,(bif true then kQ c5 (↑c9:Rat) c13==2 else false)=true,(bif true then(↑c10:Int)==2 else false)=true,(0:Int)<=0/\Int.toNat (0:Int)<c10,(bif true then(↑(fG 1 c1 (Int.toNat (0:Int))):Int)==1 else false)=true,c4,(bif true then(↑(fG 1 c1 (Int.toNat (1:Int))):Int)==2 else false)=true,c4,c12=0\/c12=1,(bif true then IB c12==[(48:UInt8)]else false)=true,c4,c14=0\/c14=1] (leaf ret [AV.bool true])))):=ag
theorem R4:bA P K5 113:=by
 refine cP fun K args r hk hs _=>?_
 have fin:∀{N:Nat} {t:af (List AV)} {l:List UInt8},cq T zO [] 60 f113 (aG f113) ⟨aV 0 [.mag N],[],0⟩=some t->(t.all fun _ us=>gG us (.str l))->aQ P 113 K [.mag N] [] (aM (.str l) []):=fun h1 h2=>
  cA (r:=aM _ []) hT aaq hm abl rfl bp rfl 60 h1 (fun _=>h2) K []
 split at hs<;>simp only[ax,reduceCtorEq]at hs
 all_goals subst hs
 ·exact fin aeH (.refl _)
 ·exact fin RY (by simp only[af.all,aA];exact⟨by decide,by decide,by decide,by decide,.refl _⟩)
theorem Zo:bT P AS:=yM (aN R4 ct)
theorem VW:bA P G8 56:=by
 refine cP fun K args r hk hs _=>?_
 have fin:∀{q:Rat} {n a b:Nat} {t:af (List AV)} {l:List UInt8},kids (.rat q n)=[.bool false,.mag a,.mag b]->cq T AS [] 60 f56 (aG f56) ⟨aV 0 [.agg [.bool false,.mag a,.mag b]],[],0⟩=some t->(t.all fun _ us=>gG us (.str l))->aQ P 56 K [.rat q n] [] (aM (.str l) []):=fun h0 h1 h2=>
  gY (cA (r:=aM _ []) hT Zo hm U8 rfl bp rfl 60 h1 (fun _=>h2) K []) rfl (show gI [_] [_]from⟨by rw[<-h0];exact KC,trivial⟩) []
 split at hs
 ·rename_i q n
  simp only[ax]at hs
  subst hs
  intro need
  have need:q=0\/q=1:=need
  rcases need with rfl|rfl
  ·exact fin (l:=[48]) ag Ub (.refl _) trivial
  ·exact fin (l:=[49]) ag ae1 (.refl _) trivial
 ·simp at hs
theorem Kp:bA P DZ 16:=fF fun⟨_,_,_,_⟩ K hn=>Wf hn K
theorem C5 {n s:Nat} {c:Nat->Rat} (h:cR n c s):cR n (eJ n c) (s+n*n+2*n):=by
 obtain⟨D,d1,d2,d3⟩:=h
 have h2:=AO (N:=n-1) (n-1+1)
 rcases Nat.eq_zero_or_pos n with h0|h0
 ·exact⟨1,by decide,Nat.one_le_two_pow,fun i hi=>aa⟩
 have h3:(n-1+1)*(n-1)<=n*n:=Nat.mul_le_mul aa aa
 have h4:=lz d2 (show((jn (n-1) (n-1+1):Nat):Int).natAbs<=2^((n-1+1)*(n-1)) by rw[Int.natAbs_natCast];exact xF _)
 exact⟨_,Int.mul_ne_zero d1 aa,Nat.le_trans h4 (Nat.pow_le_pow_right (by decide) aa),fun i hi=>(EP d3 hi (i+1) aa).more aa⟩
theorem J4 {c:PP} (t:Trim c) (hl:c.1<=7) (hb:Bd c 156):jJ c:=⟨t,aa,hb,gJ,c,⟨fun t=>by rw[jf,Rat.one_mul],⟨bL c,fun t=>by rw[jf,Rat.one_mul]⟩⟩,Nat.le_trans kT hl⟩
theorem KF {p:PP} (h1:1<=p.1) (h2:p.1<=7) (hb:Bd p 100):lT p:=
 ⟨h1,aa,hb.more aa,J4 k8 (Nat.le_trans fP h2) (cR.short ((DL hb).more aa) fP)⟩
theorem Jd:cR 4 (eu zA) 3:=⟨1,by decide,by decide,fun i hi=>bS.int (by
 rcases(show i=0\/i=1\/i=2\/i=3 by omega)with rfl|rfl|rfl|rfl<;>decide)⟩
theorem N7:cR 3 (eu xD) 3:=⟨1,by decide,by decide,fun i hi=>bS.int (by
 rcases(show i=0\/i=1\/i=2 by omega)with rfl|rfl|rfl<;>decide)⟩
theorem B1:lT pA:=KF (by show 1<=4;omega) (by show 4<=7;omega) (cR.more (n:=4) (C5 Jd) (by decide))
theorem Pj:lT pB:=KF (by show 1<=3;omega) (by show 3<=7;omega) (cR.more (n:=3) (C5 N7) (by decide))
theorem JZ {n s:Nat} {c:Nat->Rat} (h:cR n c s) (hs:2*(s+n*n+2*n)+2<=ah):jG n c:=fun i k hi hk=>(Co h hi aa).more hs
theorem abK:bA P Jq 55:=by
 have hW:=dI
 refine cP fun K args r hk hs _=>?_
 split at hs
 ·rename_i f
  simp only[ax]at hs
  subst hs
  intro need
  obtain⟨n0,n1,n2,n3⟩:=need
  refine gY (CX (z:=zA) aa aa (fun i hi=>?_) (JZ Jd aa) K) hk ⟨tA rfl fun i hi=>?_,trivial⟩ [] trivial
  ·rcases(show i=0\/i=1\/i=2\/i=3 by omega)with rfl|rfl|rfl|rfl<;>decide
  ·rcases(show i=0\/i=1\/i=2\/i=3 by omega)with rfl|rfl|rfl|rfl
   ·exact n0
   ·exact n1
   ·exact n2
   ·exact n3
 ·rename_i f
  simp only[ax]at hs
  subst hs
  intro need
  obtain⟨n0,n1,n2⟩:=need
  refine gY (CX (z:=xD) aa aa (fun i hi=>?_) (JZ N7 aa) K) hk ⟨tA rfl fun i hi=>?_,trivial⟩ [] trivial
  ·rcases(show i=0\/i=1\/i=2 by omega)with rfl|rfl|rfl<;>decide
  ·rcases(show i=0\/i=1\/i=2 by omega)with rfl|rfl|rfl
   ·exact n0
   ·exact n1
   ·exact n2
 ·simp at hs
theorem MS {τ:Nat}:bS 1 τ 0:=.zero
theorem M4 {τ:Nat}:bS 1 τ 1:=⟨1,by decide+kernel,Nat.one_le_two_pow⟩
theorem wB {c:PP} (h:jJ c) (h0:0<c.1):eI (bU c) (bN c) 0:=s9 h h0 (τ:=1) MS (by decide) (by decide) aa
theorem EZ {c:PP} (h:jJ c) (h0:0<c.1):eI (bU c) (bN c) 1:=s9 h h0 (τ:=1) M4 (by decide) (by decide) aa
theorem J8 {c:PP} (h:jJ c) (h0:0<c.1):Ap c:=⟨(tL h h0).1.2.2.1,((tL h h0).1.2.2.2 aa).1⟩
theorem abm:u5 1 pA:=by
 refine⟨B1.of,fun h0=>?_⟩
 have hp:=B1.pos h0
 have hg:=B1.gd
 have hl:bf 1 pA=[(0,0),(0,1)]:=by decide+kernel
 have hb:iM (bU (aJ pA)) (bN (aJ pA)) 0 1=1:=by decide+kernel
 have hs:=AB hg hp
 refine⟨(Bm hg hp).1,aa,wB hg hp,EZ hg hp,⟨wB hg hp,EZ hg hp,fun _ h1=>absurd hb h1⟩,by rw[hl];decide,J8 hg hp,fun j hj=>?_⟩
 have h1:∀j,(eE (aJ pA) (j+1)).1<=1:=by
  intro j
  induction j with
  |zero=>decide+kernel
  |succ j ih=>exact Nat.le_trans (AE (uY k8 _)) ih
 cases j with
 |succ j=>exact absurd (h1 j) aa
 |zero=>
  have hgd:jJ (eE (aJ pA) 0):=J4 (uY k8 0) (by decide+kernel) ⟨2,by decide,by decide,fun i hi=>by
   have hi:i<2:=Nat.lt_of_lt_of_le hi (by decide+kernel)
   rcases(show i=0\/i=1 by omega)with rfl|rfl
   ·exact⟨-1,by decide+kernel,by decide⟩
   ·exact⟨2,by decide+kernel,by decide⟩⟩
  have hp2:0<(eE (aJ pA) 0).1:=aa
  have hs2:=AB hgd hp2
  refine⟨J8 hgd hp2,(Bm hgd hp2).1,aa,fun i hi=>?_⟩
  rw[hl]at hi ⊢
  have hi:i<2:=hi
  rcases(show i=0\/i=1 by omega)with rfl|rfl
  ·exact⟨wB hgd hp2,wB hgd hp2⟩
  ·exact⟨wB hgd hp2,EZ hgd hp2⟩
theorem Wy:bT P K8:=jM (aN abK (aN (Hw 1) (aN Kp (aN VW o4))))
theorem ZI (K:Nat):aQ P 12 K [] [] (aM (.bool true) []):=by
 have hW:=dI
 refine cA (r:=aM (.bool true) []) hT Wy hm Yj rfl bp rfl 200 RE (fun _=>?_) K []
 simp only[af.all,aA]
 refine⟨⟨aa,rfl,rfl,rfl,rfl,eG aS,abm⟩,⟨aa,rfl,rfl,rfl,aa,aa,aa,aa,eG aS,by rw[hW];decide,by rw[hW];decide,?_⟩,⟨by decide+kernel,by decide+kernel,by decide+kernel,by decide+kernel,by decide+kernel,by decide+kernel,by decide+kernel,by decide+kernel,by decide+kernel,by decide+kernel,by decide+kernel,by decide+kernel,by decide+kernel⟩,.refl _⟩
 exact(Pj.cnt (A:=1) (B:=1) ⟨-2,by decide+kernel,by decide⟩ (by decide) (by decide) ⟨2,by decide+kernel,by decide⟩ (by decide) (by decide)).1
def Mz:Spec:=b7 fun l=>match l with
 |[]=>some (aM (.bool true) [])
 |_=>none
theorem Py:bA P Mz 12:=by
 refine cP fun K args r hk hs _=>?_
 split at hs
 ·simp only[ax]at hs
  subst hs
  exact ZI K
 ·simp at hs
end Go.Am.B
namespace Go.Am
def Bz (g a b:PP):Prop:=∃u v:PP,∀t,aC g t=aC u t*aC a t+aC v t*aC b t
def sr:PP:=(0,fun _=>0)
theorem Bw {t:Rat}:aC sr t=0:=rfl
theorem Bz.left (a b:PP):Bz a a b:=⟨gJ,sr,fun t=>by rw[jf,Bw];grind⟩
theorem Bz.right (a b:PP):Bz b a b:=⟨sr,gJ,fun t=>by rw[jf,Bw];grind⟩
theorem Bz.rem {x y a b:PP} (hx:Bz x a b) (hy:Bz y a b) (h0:0<y.1):Bz (fl x y) a b:=by
 obtain⟨u,v,h1⟩:=hx
 obtain⟨w,z,h2⟩:=hy
 refine⟨jv u (gQ (-1) (cj (gk x y) w)),jv v (gQ (-1) (cj (gk x y) z)),fun t=>?_⟩
 have h3:=rm (a:=x) (d:=y) h0 t
 rw[jU,jU,gx,gx,cF,cF]
 rw[h1,h2]at h3
 grind
theorem Bz.rT {x y a b:PP} (hx:Bz x a b) {r:Rat} (e:∀t,aC y t=r*aC x t):Bz y a b:=by
 obtain⟨u,v,h1⟩:=hx
 exact⟨gQ r u,gQ r v,fun t=>by rw[e,gx,gx,h1];grind⟩
theorem NB {a b:PP}:∀j,Bz (bZ (a,b) j).1 a b/\Bz (bZ (a,b) j).2 a b
 |0=>⟨.left a b,.right a b⟩
 |j+1=>by
  obtain⟨i1,i2⟩:=NB (a:=a) (b:=b) j
  show Bz (gb _).1 a b/\Bz (gb _).2 a b
  unfold gb
  by_cases h0:(bZ (a,b) j).2.1=0
  ·rw[if_pos h0];exact⟨i1,i2⟩
  ·rw[if_neg h0];exact⟨i2,(i1.rem i2 (by omega)).rT fun _=>xU⟩
theorem JW (a b:PP):Bz (bW a b) a b:=(NB (a:=a) (b:=b) _).1.rT fun _=>xU
def jY (a b:PP):Prop:=∃u v:PP,∀t,aC u t*aC a t+aC v t*aC b t=1
theorem jY.symm {a b:PP} (h:jY a b):jY b a:=by
 obtain⟨u,v,h⟩:=h
 exact⟨v,u,fun t=>by rw[Rat.add_comm];exact h t⟩
theorem jY.dv {a b c w:PP} (h:jY a b) (hd:∀t,aC b t*aC c t=aC a t*aC w t):Dv a c:=by
 obtain⟨u,v,h⟩:=h
 refine⟨jv (cj c u) (cj v w),fun t=>?_⟩
 have h1:=h t
 have h2:=hd t
 rw[jU,cF,cF]
 grind
theorem jY.zZ {a b d:PP} (h:jY a b) (hd:Dv d a):jY d b:=by
 obtain⟨u,v,h⟩:=h
 obtain⟨w,hw⟩:=hd
 exact⟨cj u w,v,fun t=>by rw[cF,<-h t,hw];grind⟩
theorem rD {a:PP} (ha:Trim a) (h:∀t,aC a t=0):a.1=0:=by
 have h1:=tK (b:=sr) ha (p6 fun t=>by rw[h];rfl)
 exact Nat.le_zero.1 h1
theorem Mn {g d:PP} (h0:0<g.1) (tg:Trim g) (h:∀t,aC g t*aC d t=0) (t:Rat):aC d t=0:=by
 rw[<-eL]
 rcases Nat.eq_zero_or_pos (b9 d).1 with h1|h1
 ·exact iO h1 t
 ·have h2:=KR h0 h1 tg fN
  refine absurd ?_ h2
  rw[p6 (b:=sr) fun t=>by rw[cF,eL,h];rfl];rfl
theorem zq {g a b:PP} (h0:0<g.1) (tg:Trim g) (h:∀t,aC g t*aC a t=aC g t*aC b t) (t:Rat):aC a t=aC b t:=by
 have h1:=Mn (d:=jv a (gQ (-1) b)) h0 tg (fun t=>by rw[jU,gx];have:=h t;grind) t
 rw[jU,gx]at h1;grind
theorem JM {a b:PP} (ta:Trim a) (tb:Trim b) (h0:0<a.1):∃a1 b1:PP,(∀t,aC a t=aC (bW a b) t*aC a1 t)/\(∀t,aC b t=aC (bW a b) t*aC b1 t)/\jY a1 b1:=by
 obtain⟨⟨a1,h1⟩,⟨b1,h2⟩⟩:=vj ta tb
 obtain⟨u,v,h3⟩:=JW a b
 refine⟨a1,b1,h1,h2,u,v,fun t=>?_⟩
 have:=zq (g:=bW a b) (a:=jv (cj u a1) (cj v b1)) (b:=gJ) (m8 h0) (jS ta tb) (fun t=>by
  rw[jU,cF,cF,jf,Rat.mul_one]
  have e1:=h1 t
  have e2:=h2 t
  have e3:=h3 t
  generalize aC (bW a b) t=G at*
  rw[e1,e2]at e3
  grind) t
 rw[jU,cF,cF,jf]at this
 exact this
theorem I5 {c:PP} (tc:Trim c) (h0:0<c.1):∃(f e:PP) (l:Rat),l≠0/\(∀t,aC c t=aC (bW c (bL c)) t*aC f t)/\(∀t,ej c t=aC (bW c (bL c)) t*aC e t)/\jY f e/\∀t,aC (aZ c) t=l*aC f t:=by
 obtain⟨f,e,h1,h2,h3⟩:=JM tc dR h0
 have hg:=m8 (b:=bL c) h0
 have tg:=jS tc (dR (a:=c))
 have hr:∀t,aC (fl c (bW c (bL c))) t=0:=fun t=>by
  have h4:=nH (a:=c) hg tg
  have h5:=(vj tc (dR (a:=c))).1.rem hg (Dv.refl _)
  rcases Nat.eq_zero_or_pos (fl c (bW c (bL c))).1 with h6|h6
  ·exact iO h6 t
  ·have:=h5.len h6 qZ tg;omega
 have hq:∀t,aC (gk c (bW c (bL c))) t=aC f t:=zq hg tg fun t=>by
  have:=rm (a:=c) hg t
  rw[hr,Rat.add_zero]at this
  rw[<-h1,this,Rat.mul_comm]
 have tq:Trim (gk c (bW c (bL c))):=vP
 have hq0:0<(gk c (bW c (bL c))).1:=by
  rcases Nat.eq_zero_or_pos (gk c (bW c (bL c))).1 with h6|h6
  ·have:=rD tc fun t=>by rw[h1,<-hq,iO h6,Rat.mul_zero]
   omega
  ·exact h6
 refine⟨f,e,_,?_,h1,fun t=>by rw[<-jx];exact h2 t,h3,fun t=>by
  unfold aZ
  rw[if_neg (by omega),xU,hq]⟩
 rcases tq with h|h
 ·omega
 ·intro hi
  have:((gk c (bW c (bL c))).2 ((gk c (bW c (bL c))).1-1))⁻¹⁻¹=0:=by rw[hi,Rat.inv_zero]
  rw[Rat.inv_inv]at this
  exact h this
def gV (d:PP):Nat->PP
 |0=>gJ
 |k+1=>cj d (gV d k)
theorem qk {d:PP} {t:Rat}:∀k,aC (gV d k) t=aC d t^k
 |0=>by rw[Rat.pow_zero];exact jf
 |k+1=>by rw[gV,cF,qk k,Rat.pow_succ,Rat.mul_comm]
theorem Sc {t:Rat}:ej gJ t=0:=by
 show 0+1*(((0:Nat):Int)*t^(0-1):Rat)=0
 rw[show(((0:Nat):Int):Rat)=0 from rfl];grind
theorem B4 {d:PP} {t:Rat}:∀k:Nat,aC d t*ej (gV d k) t=((k:Int):Rat)*(ej d t*aC d t^k)
 |0=>by rw[gV,Sc,show(((0:Nat):Int):Rat)=0 from rfl];grind
 |k+1=>by
  have h1:=B4 (d:=d) (t:=t) k
  have h2:=mS (a:=d) (b:=gV d k) (c:=gV d (k+1)) (fun t=>cF) t
  rw[h2,qk,Rat.pow_succ,show(((k+1:Nat):Int):Rat)=((k:Int):Rat)+1 by rw[Int.natCast_add,Rat.intCast_add];rfl]
  generalize ej (gV d k) t=x at*
  generalize aC d t^k=y at*
  generalize ((k:Int):Rat)=K at*
  grind
theorem F2 {d:PP} (h0:0<d.1) (td:Trim d):∀k,(b9 (gV d k)).1=k*(d.1-1)+1
 |0=>by
  show bY (fun _=>(1:Rat)) 1=_
  rw[vT (.inr (by decide))];omega
 |k+1=>by
  have ih:=F2 h0 td k
  have hp:0<(b9 (gV d (k+1))).1:=by
   rcases Nat.eq_zero_or_pos (b9 (gV d (k+1))).1 with h|h
   ·have h1:∀t,aC (b9 (gV d k)) t=0:=Mn h0 td fun t=>by
     rw[eL,<-cF,show aC (cj d (gV d k)) t=aC (b9 (gV d (k+1))) t from(eL t).symm,iO h]
    have:=rD fN h1
    omega
   ·exact h
  have:=(oI (a:=d) (b:=b9 (gV d k)) (c:=b9 (gV d (k+1))) (fun t=>by rw[eL,eL];exact cF) hp fN td fN).2.2
  rw[Nat.add_mul];omega
theorem HJ {g d:PP} (hg:0<g.1) (tg:Trim g) (td:Trim d) (h1:1<d.1) (h:∀k:Nat,∃m:PP,∀t,aC g t=aC d t^k*aC m t):False:=by
 obtain⟨m,hm⟩:=h g.1
 have hd:Dv (b9 (gV d g.1)) g:=⟨m,fun t=>by rw[hm,eL,qk]⟩
 have:=hd.len hg tg fN
 rw[F2 (by omega) td]at this
 have:=Nat.le_mul_of_pos_right g.1 (show 0<d.1-1 by omega)
 omega
theorem Ju {d a b:PP} (h0:0<d.1) (td:Trim d) (k:Nat) (h:∀t,aC d t^k*aC a t=aC d t^k*aC b t) (t:Rat):aC a t=aC b t:=
 zq (g:=b9 (gV d k)) (by rw[F2 h0 td];omega) fN (fun t=>by rw[eL,qk];exact h t) t
theorem yF {a:PP} (h0:0<a.1) (ta:Trim a):(ga a).2 (a.1-1)=1:=by
 show a.2 (a.1-1)/a.2 (a.1-1)=1
 have:a.2 (a.1-1)≠0:=by rcases ta with h|h;omega;exact h
 rw[Rat.div_def,Rat.mul_inv_cancel _ this]
theorem gcd_one {a b:PP} (ta:Trim a) (tb:Trim b) (h0:0<a.1) (h1:(bW a b).1=1) (t:Rat):aC (bW a b) t=1:=by
 have h2:=yF (a:=(bZ (a,b) b.1).1) (xx (s:=(a,b)) h0 _) (mY (s:=(a,b)) ta tb _).1
 have h3:(bZ (a,b) b.1).1.1=1:=h1
 rw[h3]at h2
 show ev (bW a b).1 (bW a b).2 t=1
 rw[h1]
 show 0+(bW a b).2 0*t^0=1
 rw[show(bW a b).2 0=1 from h2,Rat.pow_zero];grind
theorem tX {c:PP} (tc:Trim c) (h0:0<c.1):0<(aZ c).1:=by
 obtain⟨f,e,l,hl,h1,h2,h3,h4⟩:=I5 tc h0
 rcases Nat.eq_zero_or_pos (aZ c).1 with h|h
 ·have:=rD tc fun t=>by
   have h5:=h4 t
   rw[iO h]at h5
   rcases Rat.mul_eq_zero.1 h5.symm with h7|h7
   ·exact absurd h7 hl
   ·rw[h1,h7,Rat.mul_zero]
  omega
 ·exact h
theorem BF {c:PP} (tc:Trim c) (h0:0<c.1):∃G e:PP,0<G.1/\Trim G/\(∀t,aC c t=aC G t*aC (aZ c) t)/\(∀t,ej c t=aC G t*aC e t)/\jY (aZ c) e/\(∀t,aC G t=0->aC (bW c (bL c)) t=0)/\∀t,aC (bW c (bL c)) t=0->aC G t=0:=by
 obtain⟨f,e,l,hl,h1,h2,⟨u,v,h3⟩,h4⟩:=I5 tc h0
 have hl2:l⁻¹*l=1:=Rat.inv_mul_cancel _ hl
 have hli:l⁻¹≠0:=fun h=>by rw[h,Rat.zero_mul]at hl2;exact absurd hl2 (by decide)
 refine⟨gQ l⁻¹ (bW c (bL c)),gQ l e,m8 h0,xC (jS tc dR) hli,fun t=>?_,fun t=>?_,⟨gQ l⁻¹ u,gQ l⁻¹ v,fun t=>?_⟩,fun t h=>?_,fun t h=>?_⟩
 ·rw[gx,h4,h1];grind
 ·rw[gx,gx,h2];grind
 ·have:=h3 t
  rw[gx,gx,gx,h4];grind
 ·rw[gx]at h
  rcases Rat.mul_eq_zero.1 h with h|h
  ·exact absurd h hli
  ·exact h
 ·rw[gx,h,Rat.mul_zero]
theorem Qo {c:PP} (tc:Trim c) (h0:0<c.1):jY (aZ c) (bL (aZ c)):=by
 obtain⟨g,e,hg,tg,h1,h2,h3,_⟩:=BF tc h0
 have tF:Trim (aZ c):=l9
 have hF:=tX tc h0
 generalize aZ c=F at*
 have td:Trim (bW F (bL F)):=jS tF dR
 have hd0:0<(bW F (bL F)).1:=m8 hF
 obtain⟨⟨f1,e1⟩,⟨f2,e2⟩⟩:=vj tF (dR (a:=F))
 rcases Nat.lt_or_ge 1 (bW F (bL F)).1 with hd1|hd1
 ·have hcop:=h3.zZ (d:=bW F (bL F)) ⟨f1,e1⟩
  generalize bW F (bL F)=d at*
  refine(HJ hg tg td hd1 fun k=>?_).elim
  induction k with
  |zero=>exact⟨g,fun t=>by rw[Rat.pow_zero,Rat.one_mul]⟩
  |succ k ih=>
   obtain⟨m,hm⟩:=ih
   have k1:∀t,ej c t=ej g t*aC F t+aC g t*ej F t:=fun t=>mS h1 t
   have k2:∀t,ej g t=ej (gV d k) t*aC m t+aC (gV d k) t*ej m t:=fun t=>mS (fun t=>by rw[hm,qk]) t
   have k3:∀t,ej F t=ej d t*aC f1 t+aC d t*ej f1 t:=fun t=>mS e1 t
   have key:=Ju hd0 td k (a:=cj e m) (b:=cj d (jv (gQ ((k:Int):Rat) (cj m (jv f2 (gQ (-1) (bL f1))))) (jv (cj (bL m) f1) (cj m f2)))) fun t=>by
    rw[cF,cF,jU,gx,cF,jU,gx,jU,cF,cF,jx,jx]
    have a1:=k1 t
    have a2:=k2 t
    have a3:=k3 t
    have a4:=B4 (d:=d) (t:=t) k
    have a5:=h2 t
    have a6:=hm t
    have a8:=e1 t
    have a9:=e2 t
    rw[jx]at a9
    rw[qk]at a2
    generalize ej (gV d k) t=P at*
    generalize aC d t^k=D at*
    generalize ((k:Int):Rat)=K at*
    generalize aC d t=dd at*
    generalize ej d t=d' at*
    generalize aC f1 t=x1 at*
    generalize ej f1 t=y1 at*
    generalize aC f2 t=x2 at*
    generalize aC m t=mm at*
    generalize ej m t=m' at*
    generalize aC e t=ee at*
    rw[a5,a6,a2,a9,a8]at a1
    have s2:d'*x1=dd*x2-dd*y1:=by rw[a9]at a3;grind
    calc D*(ee*mm)=D*mm*ee:=by grind
     _=mm*x1*(dd*P)+D*dd*(m'*x1+mm*x2):=by rw[a1];grind
     _=mm*x1*(K*(d'*D))+D*dd*(m'*x1+mm*x2):=by rw[a4]
     _=K*mm*D*(d'*x1)+D*dd*(m'*x1+mm*x2):=by grind
     _=K*mm*D*(dd*x2-dd*y1)+D*dd*(m'*x1+mm*x2):=by rw[s2]
     _=_:=by grind
   obtain⟨w,hw⟩:=hcop.dv (c:=m) (w:=jv (gQ ((k:Int):Rat) (cj m (jv f2 (gQ (-1) (bL f1))))) (jv (cj (bL m) f1) (cj m f2))) fun t=>by rw[<-cF,key t,cF]
   exact⟨w,fun t=>by rw[hm,hw,Rat.pow_succ];grind⟩
 ·obtain⟨u,v,h5⟩:=JW F (bL F)
  exact⟨u,v,fun t=>by rw[<-h5,gcd_one tF dR hF (by omega)]⟩
def k9 (x:Rat):PP:=(2,fun i=>if i=0 then-x else 1)
theorem AA {x t:Rat}:aC (k9 x) t=t-x:=by
 show 0+(if(0:Nat)=0 then-x else 1)*t^0+(if(1:Nat)=0 then-x else 1)*t^1=_
 rw[if_pos rfl,if_neg (by decide),Rat.pow_zero,Rat.pow_succ,Rat.pow_zero];grind
theorem JV {x t:Rat}:ej (k9 x) t=1:=by
 show 0+(if(0:Nat)=0 then-x else 1)*(((0:Nat):Int)*t^(0-1):Rat)+(if(1:Nat)=0 then-x else 1)*(((1:Nat):Int)*t^(1-1):Rat)=1
 rw[if_pos rfl,if_neg (by decide),show(((0:Nat):Int):Rat)=0 from rfl,show(((1:Nat):Int):Rat)=1 from rfl,show 1-1=0 from rfl,Rat.pow_zero];grind
theorem Mv {x:Rat}:Trim (k9 x):=.inr (by show(if(1:Nat)=0 then-x else(1:Rat))≠0;rw[if_neg (by decide)];decide)
theorem Vv {m:PP} {x:Rat} (h:aC m x=0):Dv (k9 x) m:=by
 rcases Nat.eq_zero_or_pos m.1 with h0|h0
 ·exact⟨sr,fun t=>by rw[iO h0,Bw,Rat.mul_zero]⟩
 ·obtain⟨n,hn⟩:∃n,m.1=n+1:=⟨m.1-1,by omega⟩
  refine⟨(n,jH (n+1) m.2 x),fun t=>?_⟩
  have h1:=tW (k:=m.2) (c:=x) (t:=t) n
  have h2:ev (n+1) m.2 x=0:=by rw[<-hn];exact h
  rw[AA]
  show ev m.1 m.2 t=_
  rw[hn,h1,h2,Rat.add_zero];rfl
theorem aeO {c:PP} (tc:Trim c) (h0:0<c.1) {x:Rat} (hx:aC c x=0):aC (aZ c) x=0:=by
 obtain⟨g,e,hg,tg,h1,h2,h3,_⟩:=BF tc h0
 generalize aZ c=F at*
 refine Decidable.byContradiction fun hF=>?_
 refine HJ hg tg (Mv (x:=x)) (show 1<2 by decide) fun k=>?_
 induction k with
 |zero=>exact⟨g,fun t=>by rw[Rat.pow_zero,Rat.one_mul]⟩
 |succ k ih=>
  obtain⟨m,hm⟩:=ih
  have hmx:aC m x=0:=by
   rcases Nat.eq_zero_or_pos k with hk|hk
   ·subst hk
    have:=hm x
    rw[Rat.pow_zero,Rat.one_mul]at this
    rw[h1,this]at hx
    rcases Rat.mul_eq_zero.1 hx with h|h
    ·exact h
    ·exact absurd h hF
   ·have k1:∀t,ej c t=ej g t*aC F t+aC g t*ej F t:=fun t=>mS h1 t
    have k2:∀t,ej g t=ej (gV (k9 x) k) t*aC m t+aC (gV (k9 x) k) t*ej m t:=fun t=>mS (fun t=>by rw[hm,qk]) t
    have key:=Ju (show 0<2 by decide) (Mv (x:=x)) k (a:=gQ ((k:Int):Rat) (cj m F)) (b:=cj (k9 x) (jv (cj e m) (gQ (-1) (jv (cj (bL m) F) (cj m (bL F)))))) fun t=>by
     rw[gx,cF,cF,jU,cF,gx,jU,cF,cF,jx,jx]
     have a1:=k1 t
     have a2:=k2 t
     have a4:=B4 (d:=k9 x) (t:=t) k
     have a5:=h2 t
     have a6:=hm t
     rw[qk]at a2
     rw[JV]at a4
     generalize ej (gV (k9 x) k) t=P at*
     generalize aC (k9 x) t^k=D at*
     generalize ((k:Int):Rat)=K at*
     generalize aC (k9 x) t=dd at*
     generalize aC F t=ff at*
     generalize ej F t=f' at*
     generalize aC m t=mm at*
     generalize ej m t=m' at*
     generalize aC e t=ee at*
     rw[a5,a6,a2]at a1
     calc D*(K*(mm*ff))=mm*ff*(K*(1*D)):=by grind
      _=mm*ff*(dd*P):=by rw[a4]
      _=dd*(P*mm*ff):=by grind
      _=dd*(D*mm*ee-D*m'*ff-D*mm*f'):=by rw[a1];grind
      _=_:=by grind
    have h5:=key x
    rw[cF,AA,show x-x=0 by grind,Rat.zero_mul,gx,cF]at h5
    rcases Rat.mul_eq_zero.1 h5 with h|h
    ·have:((k:Int):Rat)=((0:Nat):Int):=h
     have:=NZ this
     omega
    ·rcases Rat.mul_eq_zero.1 h with h|h
     ·exact h
     ·exact absurd h hF
  obtain⟨w,hw⟩:=Vv hmx
  exact⟨w,fun t=>by rw[hm,hw,Rat.pow_succ];grind⟩
theorem WE {y:Rat} {b c:Int} (h:y*y+(b:Rat)*y+(c:Rat)=0):y.den=1:=by
 have hd:((y.den:Int):Rat)≠0:=pE (D:=(y.den:Int)) (by have:=y.den_pos;omega)
 have e1:y*((y.den:Int):Rat)=(y.num:Rat):=by
  have:=Rat.num_divInt_den y
  rw[Rat.divInt_eq_div]at this
  have h2:=Rat.div_mul_cancel (a:=(y.num:Rat)) hd
  rwa [this]at h2
 have e2:(y.num:Rat)*(y.num:Rat)+(b:Rat)*(y.num:Rat)*((y.den:Int):Rat)+(c:Rat)*((y.den:Int):Rat)*((y.den:Int):Rat)=0:=by
  rw[<-e1]
  generalize ((y.den:Int):Rat)=d at*
  have:y*d*(y*d)+(b:Rat)*(y*d)*d+(c:Rat)*d*d=d*d*(y*y+(b:Rat)*y+(c:Rat)):=by grind
  rw[this,h,Rat.mul_zero]
 have e3:y.num*y.num+b*y.num*(y.den:Int)+c*(y.den:Int)*(y.den:Int)=0:=by
  have:((y.num*y.num+b*y.num*(y.den:Int)+c*(y.den:Int)*(y.den:Int):Int):Rat)=((0:Int):Rat):=by
   rw[Rat.intCast_add,Rat.intCast_add,Rat.intCast_mul,Rat.intCast_mul,Rat.intCast_mul,Rat.intCast_mul,Rat.intCast_mul];exact e2
  exact_mod_cast this
 have e4:(y.den:Int)∣y.num*y.num:=⟨-(b*y.num+c*y.den),by grind⟩
 have e5:y.den∣y.num.natAbs*y.num.natAbs:=by
  have:=Int.natAbs_dvd_natAbs.2 e4
  rwa [Int.natAbs_mul,Int.natAbs_natCast]at this
 have e6:Nat.Coprime y.den y.num.natAbs:=Nat.Coprime.symm y.reduced
 have e7:=Nat.Coprime.dvd_of_dvd_mul_left e6 e5
 exact e6.eq_one_of_dvd e7
theorem S2:(1:Rat)⁻¹=1:=by decide+kernel
theorem FU {q d:PP} (hb:Bd q 13) (tq:Trim q) (q0:0<q.1) (lq:q.1<=3) (td:Trim d) (d0:0<d.1) (d1:d.2 (d.1-1)=1) (hd:Dv d q):Bd d 27/\d.1<=3:=by
 have hl:=hd.len q0 tq td
 refine⟨?_,aa⟩
 have one:∀s,bS 1 s 1:=fun s=>⟨1,(Rat.one_mul _).symm,Nat.one_le_two_pow⟩
 rcases(show d.1=1\/d.1=q.1\/(d.1=2/\q.1=3) by omega)with h|h|⟨h,h'⟩
 ·refine⟨1,by decide,Nat.one_le_two_pow,fun i hi=>?_⟩
  obtain rfl:i=0:=aa
  rw[h]at d1
  rw[show d.2 0=1 from d1];exact one _
 ·obtain⟨w,hw⟩:=hd
  have hw1:(b9 w).1=1:=by
   have:=(oI (b:=b9 w) (fun t=>by rw[hw,eL]) q0 tq td fN).2.2
   have:=(oI (b:=b9 w) (fun t=>by rw[hw,eL]) q0 tq td fN).2.1
   omega
  have e:∀t,aC q t=w.2 0*aC d t:=fun t=>by
   rw[hw,<-eL (a:=w)]
   show _*ev (b9 w).1 w.2 t=_
   rw[hw1]
   show _*(0+w.2 0*t^0)=_
   rw[Rat.pow_zero];grind
  have hl0:w.2 0≠0:=fun h0=>by
   have:=rD tq fun t=>by rw[e,h0,Rat.zero_mul]
   omega
  have hp:iT q (gQ (w.2 0) d):=Az tq (xC td hl0) fun t=>by rw[e,gx]
  have hs:oO q d:=⟨w.2 0,hl0,h.symm,fun i hi=>hp.2 i hi⟩
  have h2:iT (ga d) d:=⟨rfl,fun i _=>by show d.2 i/d.2 (d.1-1)=d.2 i;rw[d1,Rat.div_def,S2,Rat.mul_one]⟩
  exact((hb.cV tq).yY (hs.cV.trans h2)).more aa
 ·obtain⟨D,hD,hD2,hz⟩:=hb
  obtain⟨z0,a0,b0⟩:=hz 0 aa
  obtain⟨z1,a1,b1⟩:=hz 1 aa
  obtain⟨z2,a2,b2⟩:=hz 2 aa
  have hq2:q.2 2≠0:=by rcases tq with h3|h3;omega;rw[h']at h3;exact h3
  have hDr:=pE hD
  have hz2:z2≠0:=fun h0=>by
   rw[h0]at a2
   rcases Rat.mul_eq_zero.1 (show q.2 2*(D:Rat)=0 from a2.symm)with h3|h3
   ·exact hq2 h3
   ·exact hDr h3
  obtain⟨w,hw⟩:=hd
  have ed:∀t,aC d t=d.2 0+t:=fun t=>by
   show ev d.1 d.2 t=_
   rw[h]at d1 ⊢
   show 0+d.2 0*t^0+d.2 1*t^1=_
   rw[show d.2 1=1 from d1,Rat.pow_succ,Rat.pow_zero];grind
  have eq0:aC q (-d.2 0)=0:=by rw[hw,ed];grind
  have eq1:q.2 0+q.2 1*(-d.2 0)+q.2 2*(d.2 0*d.2 0)=0:=by
   have:ev q.1 q.2 (-d.2 0)=0:=eq0
   rw[h']at this
   have this:0+q.2 0*(-d.2 0)^0+q.2 1*(-d.2 0)^1+q.2 2*(-d.2 0)^2=0:=this
   rw[Rat.pow_succ,Rat.pow_succ,Rat.pow_succ,Rat.pow_zero]at this
   grind
  -- y = - z2 d0
  have ey:(z2:Rat)*d.2 0*((z2:Rat)*d.2 0)+((-z1:Int):Rat)*((z2:Rat)*d.2 0)+((z0*z2:Int):Rat)=0:=by
   rw[Rat.intCast_neg,Rat.intCast_mul]
   have:(z2:Rat)*d.2 0*((z2:Rat)*d.2 0)+-(z1:Rat)*((z2:Rat)*d.2 0)+(z0:Rat)*(z2:Rat)=(z2:Rat)*((z0:Rat)+(z1:Rat)*(-d.2 0)+(z2:Rat)*(d.2 0*d.2 0)):=by grind
   rw[this,a0,a1,a2]
   have:q.2 0*(D:Rat)+q.2 1*(D:Rat)*(-d.2 0)+q.2 2*(D:Rat)*(d.2 0*d.2 0)=(D:Rat)*(q.2 0+q.2 1*(-d.2 0)+q.2 2*(d.2 0*d.2 0)):=by grind
   rw[this,eq1];grind
  have hden:=WE ey
  obtain⟨y,hy⟩:∃y:Int,(y:Rat)=(z2:Rat)*d.2 0:=⟨((z2:Rat)*d.2 0).num,Rat.ext rfl (id (Eq.symm hden))⟩
  rw[<-hy]at ey
  have ez:y*(y-z1)=-(z0*z2):=by
   have:((y*y+(-z1)*y+z0*z2:Int):Rat)=((0:Int):Rat):=by
    rw[Rat.intCast_add,Rat.intCast_add,Rat.intCast_mul,Rat.intCast_mul];exact ey
   have:y*y+(-z1)*y+z0*z2=0:=by exact_mod_cast this
   grind
  have hyb:y.natAbs<=2^27:=by
   have n1:y.natAbs*(y-z1).natAbs=z0.natAbs*z2.natAbs:=by rw[<-Int.natAbs_mul,ez,Int.natAbs_neg,Int.natAbs_mul]
   have n2:z0.natAbs*z2.natAbs<=2^13*2^13:=Nat.mul_le_mul b0 b2
   refine Decidable.byContradiction fun hn=>?_
   have n3:2^26+1<=(y-z1).natAbs:=aa
   have n4:1*(2^26+1)<=y.natAbs*(y-z1).natAbs:=Nat.mul_le_mul aa n3
   omega
  refine⟨z2,hz2,Nat.le_trans b2 (by decide),fun i hi=>?_⟩
  rcases(show i=0\/i=1 by omega)with rfl|rfl
  ·exact⟨y,by rw[hy,Rat.mul_comm],hyb⟩
  ·rw[h]at d1
   rw[show d.2 1=1 from d1]
   exact⟨z2,(Rat.one_mul _).symm,Nat.le_trans b2 (by decide)⟩
def jR (i:Nat) (c:PP):Prop:=∀g:PP,Trim g->0<g.1->Dv g c->∃(l:Rat) (w h f:PP),l≠0/\(∀t,aC g t=l*aC w t)/\Bd w (120*i)/\Trim w/\jo w h f/\(b9 f).1<=2*i+1
theorem jR.of_eq {i:Nat} {c c':PP} (h:jR i c) (e:∀t,aC c t=aC c' t):jR i c':=fun g tg g0 hd=>h g tg g0 (hd.of_eq fun t=>(e t).symm)
theorem OF {s:Nat}:Bd gJ s:=⟨1,by decide,Nat.one_le_two_pow,fun i _=>⟨1,(Rat.one_mul _).symm,Nat.one_le_two_pow⟩⟩
theorem DH:Trim gJ:=.inr (by decide)
theorem jR.one:jR 0 gJ:=fun g tg g0 hd=>by
 have hl:=hd.len (show 0<1 by decide) DH tg
 have hl:g.1<=1:=hl
 have h1:g.1=1:=aa
 have e:∀t,aC g t=g.2 0:=fun t=>by
  show ev g.1 g.2 t=_
  rw[h1]
  show 0+g.2 0*t^0=_
  rw[Rat.pow_zero];grind
 refine⟨g.2 0,gJ,gJ,gJ,fun h0=>?_,fun t=>by rw[e,jf,Rat.mul_one],OF,DH,jo.one,kT⟩
 have:=rD tg fun t=>by rw[e,h0]
 omega
theorem J2 {g w:PP} {l:Rat} (tg:Trim g) (tw:Trim w) (hl:l≠0) (e:∀t,aC g t=l*aC w t):g.1=w.1:=
 (Az (b:=gQ l w) tg (xC tw hl) fun t=>by rw[e,gx]).1
theorem FG {g q c c':PP} (tg:Trim g) (g0:0<g.1) (tq:Trim q) (e:∀t,aC c' t=aC c t*aC q t) (hd:Dv g c'):
  ∃d g1:PP,Trim d/\0<d.1/\d.2 (d.1-1)=1/\Dv d q/\Trim g1/\0<g1.1/\(∀t,aC g t=aC d t*aC g1 t)/\Dv g1 c/\∀h,Dv h g->Dv h q->Dv h d:=by
 obtain⟨a1,b1,h1,h2,h3⟩:=JM tg tq g0
 obtain⟨w,hw⟩:=hd
 have td:=jS tg tq
 have d0:=m8 (b:=q) g0
 have hc:∀t,aC (cj b1 c) t=aC (cj a1 w) t:=zq d0 td fun t=>by
  have k1:=h1 t
  have k2:=h2 t
  have k3:=hw t
  have k4:=e t
  rw[cF,cF]
  generalize aC (bW g q) t=x at*
  rw[k4,k1,k2]at k3
  grind
 have hd1:Dv a1 c:=h3.dv (w:=w) fun t=>by rw[<-cF,hc,cF]
 refine⟨bW g q,b9 a1,td,d0,yF (a:=(bZ (g,q) q.1).1) (xx (s:=(g,q)) g0 _) (mY (s:=(g,q)) tg tq _).1,⟨b1,h2⟩,fN,?_,fun t=>by rw[eL];exact h1 t,hd1.imp fun w hw t=>by rw[hw,eL],fun h k1 k2=>DN k1 k2⟩
 rcases Nat.eq_zero_or_pos (b9 a1).1 with h|h
 ·have:=rD tg fun t=>by rw[h1,<-eL (a:=a1),iO h,Rat.mul_zero]
  omega
 ·exact h
theorem jR.aa6 {i:Nat} {c c' q:PP} (h:jR i c) (hc:0<(b9 c').1/\(b9 c').1<=30) (hb:Bd q 13) (tq:Trim q) (q0:0<q.1) (lq:q.1<=3) (e:∀t,aC c' t=aC c t*aC q t):jR (i+1) c':=fun g tg g0 hd=>by
 have lg:g.1<=30:=Nat.le_trans ((hd.of_eq fun t=>(eL t).symm).len hc.1 fN tg) hc.2
 obtain⟨d,g1,td,d0,d1,dq,t1,p1,e1,k1,_⟩:=FG tg g0 tq e hd
 obtain⟨bd,ld⟩:=FU hb tq q0 lq td d0 d1 dq
 obtain⟨l,w,hh,f,hl,ew,bw,tw,sq,lf⟩:=h g1 t1 p1 k1
 have lg1:=Dv.len (h:=g1) (g:=g) ⟨d,fun t=>by rw[e1,Rat.mul_comm]⟩ g0 tg t1
 have lw:=J2 t1 tw hl ew
 refine⟨l,b9 (cj w d),hh,cj f d,hl,fun t=>by rw[e1,ew,eL,cF];grind,cR.short ((tQ bw bd aa aa).more aa) kT,fN,(sq.Fl (c':=cj w d) fun t=>cF).of_eq fun t=>(eL t).symm,?_⟩
 have c1:=zS (a:=f) (b:=d)
 have c2:=kT (a:=d)
 omega
theorem jR.aa0 {i:Nat} {c c' q:PP} (h:jR i c) (hc:0<(b9 c').1/\(b9 c').1<=30) (hb:Bd q 13) (tq:Trim q) (q0:0<q.1) (lq:q.1<=3) (e:∀t,aC c' t=aC c t*aC q t*aC q t):jR (i+1) c':=fun g tg g0 hd=>by
 have lg:g.1<=30:=Nat.le_trans ((hd.of_eq fun t=>(eL t).symm).len hc.1 fN tg) hc.2
 obtain⟨d1,g1,td1,d10,d11,dq1,t1,p1,e1,k1,u1⟩:=FG (c:=cj c q) tg g0 tq (fun t=>by rw[cF,e]) hd
 obtain⟨d2,g2,td2,d20,d21,dq2,t2,p2,e2,k2,_⟩:=FG (c:=c) t1 p1 tq (fun t=>cF) k1
 have dg:Dv d2 d1:=u1 d2 ⟨cj d1 g2,fun t=>by rw[e1,e2,cF];grind⟩ dq2
 obtain⟨x,hx⟩:=dg
 have x0:0<(b9 x).1/\d1.1=d2.1-1+((b9 x).1-1)+1:=by
  have:=oI (a:=d2) (b:=b9 x) (fun t=>by rw[eL];exact hx t) d10 td1 td2 fN
  exact⟨this.2.1,this.2.2⟩
 have ll:=dq1.len q0 tq td1
 have xm:Dv (ga (b9 x)) q:=by
  obtain⟨v,hv⟩:=dq1
  refine⟨gQ ((b9 x).2 ((b9 x).1-1)) (cj d2 v),fun t=>?_⟩
  rw[hv,hx,<-eL (a:=x),Et fN,gx,cF];grind
 obtain⟨bx,lx⟩:=FU hb tq q0 lq (p9 fN) x0.1 (yF x0.1 fN) xm
 obtain⟨b2,l2⟩:=FU hb tq q0 lq td2 d20 d21 dq2
 obtain⟨l,w,hh,f,hl,ew,bw,tw,sq,lf⟩:=h g2 t2 p2 k2
 have lg2:=Dv.len (h:=g2) (g:=g) ⟨cj d1 d2,fun t=>by rw[e1,e2,cF];grind⟩ g0 tg t2
 have lw:=J2 t2 tw hl ew
 have hxl:(b9 x).2 ((b9 x).1-1)≠0:=by rcases fN (a:=x)with h|h;omega;exact h
 have lx':(ga (b9 x)).1=(b9 x).1:=rfl
 have y1:=tQ bw bx aa aa
 have y2:=tQ y1 b2 (by show w.1+(b9 x).1+1<=_;omega) aa
 have y3:=tQ y2 b2 (by show w.1+(b9 x).1+1+d2.1+1<=_;omega) aa
 refine⟨l*(b9 x).2 ((b9 x).1-1),b9 (cj (cj (cj w (ga (b9 x))) d2) d2),cj hh d2,cj (cj f (ga (b9 x))) d2,fun h0=>(Rat.mul_eq_zero.1 h0).elim hl hxl,fun t=>?_,cR.short (y3.more aa) kT,fN,((sq.Fl (c':=cj w (ga (b9 x))) fun t=>cF).NU (c':=cj (cj (cj w (ga (b9 x))) d2) d2) fun t=>by rw[cF,cF]).of_eq fun t=>(eL t).symm,?_⟩
 ·rw[e1,e2,ew,hx,<-eL (a:=x),Et fN,eL,cF,cF,cF];grind
 ·have c1:=zS (a:=cj f (ga (b9 x))) (b:=d2)
  have c2:=zS (a:=f) (b:=ga (b9 x))
  have c3:=kT (a:=d2)
  have c4:=kT (a:=ga (b9 x))
  omega
def qS (i:Nat) (p:PP):Prop:=(∃t,er p t≠0)->jR i (gB p)
theorem qS.one:qS 0 (1,fun _=>1):=fun _=>jR.one.of_eq fun t=>by rw[kV (show 1<=1 by decide),jf];rfl
theorem qS.step {i r:Nat} {p q:PP} (h:qS i p) (hp:1<=p.1) (hq:qf q) (hr:1<=r/\r<=2) (hl30:(gL p q r).1<=30):qS (i+1) (gL p q r):=fun⟨t0,h0⟩=>by
 have hl:=xZ hp hq r
 have bq:Bd (b9 (gB q)) 13:=cR.short hq.pw kT
 have lq:(b9 (gB q)).1<=3:=Nat.le_trans kT hq.hi
 have key:er p t0≠0->er q t0≠0->jR i (gB p)/\0<(b9 (gB q)).1:=fun h1 h2=>⟨h ⟨t0,h1⟩,by
  rcases Nat.eq_zero_or_pos (b9 (gB q)).1 with h3|h3
  ·exact absurd (by rw[<-kV hq.lo,<-eL,iO h3]) h2
  ·exact h3⟩
 have hc:0<(b9 (gB (gL p q r))).1/\(b9 (gB (gL p q r))).1<=30:=⟨by
  rcases Nat.eq_zero_or_pos (b9 (gB (gL p q r))).1 with h3|h3
  ·exact absurd (by rw[<-kV hl.1,<-eL,iO h3]) h0
  ·exact h3,Nat.le_trans kT hl30⟩
 rcases(show r=1\/r=2 by omega)with rfl|rfl
 ·have e:∀t,er (gL p q 1) t=er p t*er q t:=fun t=>s8 t
  rw[e]at h0
  obtain⟨k1,k2⟩:=key (fun h=>h0 (by rw[h,Rat.zero_mul])) (fun h=>h0 (by rw[h,Rat.mul_zero]))
  exact k1.aa6 hc bq fN k2 lq fun t=>by rw[kV hl.1,e,eL,kV hp,kV hq.lo]
 ·have e:∀t,er (gL p q 2) t=er p t*er q t*er q t:=fun t=>by
   show er (pT (pT p q) q) t=_
   rw[s8,s8]
  rw[e]at h0
  obtain⟨k1,k2⟩:=key (fun h=>h0 (by rw[h,Rat.zero_mul,Rat.zero_mul])) (fun h=>h0 (by rw[h,Rat.mul_zero]))
  exact k1.aa0 hc bq fN k2 lq fun t=>by rw[kV hl.1,e,eL,kV hp,kV hq.lo]
structure dL (c:PP):Prop where
 tr:Trim c
 p0:0<c.1
 len:c.1<=13
 bd:Bd c 800
 dv:∀g:PP,Trim g->0<g.1->Dv g c->Bd (ga g) 800/\∃h f:PP,jo g h f/\(b9 f).1<=7
theorem acn {g:PP} (h:g.2 (g.1-1)=1):iT (ga g) g:=⟨rfl,fun i _=>by
 show g.2 i/g.2 (g.1-1)=g.2 i
 have:(1:Rat)⁻¹=1:=by decide+kernel
 rw[h,Rat.div_def,this,Rat.mul_one]⟩
theorem dL.zZ {c g:PP} (h:dL c) (tg:Trim g) (g0:0<g.1) (hd:Dv g c) (hm:g.2 (g.1-1)=1):dL g where
 tr:=tg
 p0:=g0
 len:=Nat.le_trans (hd.len h.p0 h.tr tg) h.len
 bd:=(h.dv g tg g0 hd).1.yY (acn hm)
 dv:=fun k tk k0 kd=>h.dv k tk k0 (kd.trans hd)
theorem jR.gd {i:Nat} {c:PP} (h:jR i c) (hi:i<=6) (hf:i<=3\/c.1<=7) (tc:Trim c) (c0:0<c.1) (lc:c.1<=13) (bc:Bd c 800):dL c where
 tr:=tc
 p0:=c0
 len:=lc
 bd:=bc
 dv:=fun g tg g0 hd=>by
  obtain⟨l,w,hh,f,hl,ew,bw,tw,sq,lf⟩:=h g tg g0 hd
  have hp:iT g (gQ l w):=Az tg (xC tw hl) fun t=>by rw[ew,gx]
  have hs:oO g w:=⟨l,hl,hp.1,fun i hi=>hp.2 i hi⟩
  have bw2:Bd w 800:=bw.more aa
  refine⟨(bw2.cV tw).yY hs.cV.symm,?_⟩
  rcases hf with hf|hf
  ·refine⟨hh,gQ l f,⟨fun t=>by rw[ew,sq.eq,gx];grind,sq.dv.rT l fun t=>?_⟩,?_⟩
   ·have:=mS (a:=(1,fun _=>l)) (b:=w) (c:=g) (fun t=>by rw[ew];congr 1;show l=0+l*t^0;rw[Rat.pow_zero];grind) t
    rw[jx,jx,this]
    have z:ej (1,fun _=>l) t=0:=by
     show 0+l*(((0:Nat):Int)*t^(0-1):Rat)=0
     rw[show(((0:Nat):Int):Rat)=0 from rfl];grind
    have z2:aC (1,fun _=>l) t=l:=by show 0+l*t^0=l;rw[Rat.pow_zero];grind
    rw[z,z2];grind
   ·show bY (fun i=>l*f.2 i) f.1<=7
    rw[F6 hl]
    have:bY f.2 f.1<=2*i+1:=lf
    omega
  ·have:=hd.len c0 tc tg
   exact⟨gJ,g,⟨fun t=>by rw[jf,Rat.one_mul],⟨bL g,fun t=>by rw[jf,Rat.one_mul]⟩⟩,Nat.le_trans kT aa⟩
theorem dL.gcd {c:PP} (h:dL c):dL (bW c (bL c)):=
 h.zZ (jS h.tr dR) (m8 h.p0) (vj h.tr dR).1 (yF (a:=(bZ (c,bL c) (bL c).1).1) (xx (s:=(c,bL c)) h.p0 _) (mY (s:=(c,bL c)) h.tr dR _).1)
theorem Tr {c:PP} (tc:Trim c) (c0:0<c.1):(aZ c).2 ((aZ c).1-1)=1:=by
 have h:=tX tc c0
 unfold aZ at h ⊢
 rw[if_neg aa]at h ⊢
 exact yF h vP
theorem dL.free {c:PP} (h:dL c):dL (aZ c)/\(aZ c).1<=7:=by
 obtain⟨G,e,_,_,h1,_⟩:=BF h.tr h.p0
 obtain⟨_,hh,f,sq,lf⟩:=h.dv c h.tr h.p0 (.refl c)
 exact⟨h.zZ l9 (tX h.tr h.p0) ⟨G,fun t=>by rw[h1,Rat.mul_comm]⟩ (Tr h.tr h.p0),Nat.le_trans (OK sq h.p0 h.tr) lf⟩
def Ab (x M:Rat):Prop:=-M<=x/\x<=M
theorem Ab.add {x y M N:Rat} (h:Ab x M) (h':Ab y N):Ab (x+y) (M+N):=by
 unfold Ab at*;constructor<;>grind
theorem Ab.sub {x y M N:Rat} (h:Ab x M) (h':Ab y N):Ab (x-y) (M+N):=by
 unfold Ab at*;constructor<;>grind
theorem Ab.mul {x y M N:Rat} (h:Ab x M) (h':Ab y N):Ab (x*y) (M*N):=by
 unfold Ab at*
 have h1:=Rat.mul_nonneg (a:=M-x) (b:=N+y) (by grind) (by grind)
 have h2:=Rat.mul_nonneg (a:=M+x) (b:=N-y) (by grind) (by grind)
 have h3:=Rat.mul_nonneg (a:=M-x) (b:=N-y) (by grind) (by grind)
 have h4:=Rat.mul_nonneg (a:=M+x) (b:=N+y) (by grind) (by grind)
 constructor<;>grind
theorem Ab.more {x M N:Rat} (h:Ab x M) (hM:M<=N):Ab x N:=by
 unfold Ab at*;constructor<;>grind
theorem Ab.pos {x M:Rat} (h:Ab x M):0<=M:=by unfold Ab at*;grind
theorem Ab.zero {M:Rat} (h:0<=M):Ab 0 M:=by unfold Ab;constructor<;>grind
def T2 (n:Nat):Rat:=2^n
theorem pX (n:Nat):T2 (n+1)=2*T2 n:=by unfold T2;rw[Rat.pow_succ,Rat.mul_comm]
theorem mZ:∀n,0<T2 n
 |0=>by unfold T2;rw[Rat.pow_zero];decide
 |n+1=>by rw[pX];have:=mZ n;grind
theorem uf (m n:Nat):T2 (m+n)=T2 m*T2 n:=pow_add' 2 m n
theorem ET:∀n,1<=T2 n
 |0=>by unfold T2;rw[Rat.pow_zero];decide
 |n+1=>by rw[pX];have:=ET n;grind
theorem mq {m n:Nat} (h:m<=n):T2 m<=T2 n:=by
 obtain⟨k,rfl⟩:∃k,n=m+k:=⟨n-m,aa⟩
 rw[uf]
 have h1:=mZ m
 have h2:=ET k
 have:=Rat.mul_le_mul_of_nonneg_left (c:=T2 m) h2 (by grind)
 grind
theorem vq:∀n:Nat,T2 n=((2^n:Nat):Int)
 |0=>by unfold T2;rw[Rat.pow_zero];rfl
 |n+1=>by
  rw[pX,vq n,Nat.pow_succ,Int.natCast_mul,Rat.intCast_mul]
  show(2:Rat)*_=_*2
  rw[Rat.mul_comm]
theorem pn {a b:Int} (h:a<=b):(a:Rat)<=(b:Rat):=by exact_mod_cast h
theorem bS.ab {D:Int} {s:Nat} {x:Rat} (h:bS D s x) (hD:D≠0):Ab x (T2 s):=by
 obtain⟨z,h1,h2⟩:=h
 have z1:(z:Rat)<=T2 s:=by rw[vq];exact pn aa
 have z2:-(T2 s)<=(z:Rat):=by rw[vq,<-Rat.intCast_neg];exact pn aa
 have hT:=mZ s
 rcases(show D<=-1\/1<=D by omega)with hd|hd
 ·have d1:(D:Rat)<=-1:=pn (b:=-1) hd
  constructor
  ·refine Decidable.byContradiction fun hn=>?_
   have h3:=Rat.mul_pos (a:=-T2 s-x) (b:=T2 s) (by grind) hT
   have h4:=Rat.mul_nonneg (a:=-x) (b:=-D-1) (by grind) (by grind)
   grind
  ·refine Decidable.byContradiction fun hn=>?_
   have h4:=Rat.mul_nonneg (a:=x) (b:=-D-1) (by grind) (by grind)
   grind
 ·have d1:(1:Rat)<=(D:Rat):=pn (a:=1) hd
  constructor
  ·refine Decidable.byContradiction fun hn=>?_
   have h4:=Rat.mul_nonneg (a:=-x) (b:=D-1) (by grind) (by grind)
   grind
  ·refine Decidable.byContradiction fun hn=>?_
   have h4:=Rat.mul_nonneg (a:=x) (b:=D-1) (by grind) (by grind)
   grind
theorem bS.low {D:Int} {s e:Nat} {x:Rat} (h:bS D s x) (hD0:D≠0) (hD:D.natAbs<=2^e) (hx:x≠0):1<=x*T2 e\/x*T2 e<=-1:=by
 obtain⟨z,h1,_⟩:=h
 have hz:z≠0:=fun h0=>by
  rw[h0]at h1
  exact(Rat.mul_eq_zero.1 (show x*(D:Rat)=0 from h1.symm)).elim hx (pE hD0)
 have z1:(D:Rat)<=T2 e:=by rw[vq];exact pn aa
 have z2:-(T2 e)<=(D:Rat):=by rw[vq,<-Rat.intCast_neg];exact pn aa
 have hzz:(z:Rat)<=-1\/1<=(z:Rat):=by
  rcases(show z<=-1\/1<=z by omega)with h|h
  ·exact .inl (pn (b:=-1) h)
  ·exact .inr (pn (a:=1) h)
 rcases(show x<0\/0<x by grind)with hx|hx
 ·right
  rcases hzz with h|h
  ·have:=Rat.mul_nonneg (a:=-x) (b:=T2 e-D) (by grind) (by grind);grind
  ·have:=Rat.mul_nonneg (a:=-x) (b:=T2 e+D) (by grind) (by grind);grind
 ·left
  rcases hzz with h|h
  ·have:=Rat.mul_nonneg (a:=x) (b:=T2 e+D) (by grind) (by grind);grind
  ·have:=Rat.mul_nonneg (a:=x) (b:=T2 e-D) (by grind) (by grind);grind
theorem Ab.pow {t:Rat} {r:Nat} (h:Ab t (T2 r)):∀n:Nat,Ab (t^n) (T2 (r*n))
 |0=>by rw[Rat.pow_zero,Nat.mul_zero];exact⟨by unfold T2;rw[Rat.pow_zero];decide+kernel,by unfold T2;rw[Rat.pow_zero];decide+kernel⟩
 |n+1=>by rw[Rat.pow_succ,Nat.mul_succ,uf];exact(Ab.pow h n).mul h
def pY (n:Nat) (k:Nat->Rat) (s:Nat):Prop:=∀i,i<n->Ab (k i) (T2 s)
theorem cR.cf {n s:Nat} {k:Nat->Rat} (h:cR n k s):pY n k s:=by
 obtain⟨D,d1,d2,d3⟩:=h
 exact fun i hi=>(d3 i hi).ab d1
theorem Ak {k:Nat->Rat} {s r:Nat} {t:Rat} (ht:Ab t (T2 r)):∀n,pY n k s->Ab (ev n k t) (T2 (s+n*(r+1)))
 |0,_=>Ab.zero (by have:=mZ (s+0*(r+1));grind)
 |n+1,h=>by
  rw[IP]
  have h1:=Ak ht n fun i hi=>h i aa
  have h2:=(h n aa).mul (ht.pow n)
  rw[<-uf]at h2
  have h3:T2 (s+r*n)<=T2 (s+n*(r+1)):=mq (by rw[Nat.mul_add,Nat.mul_comm n r];omega)
  have h4:T2 (s+n*(r+1)+1)<=T2 (s+(n+1)*(r+1)):=mq (by rw[Nat.add_mul];omega)
  rw[pX]at h4
  exact(h1.add h2).more (by grind)
theorem WO {n s r m:Nat} {k:Nat->Rat} {t:Rat} (ht:Ab t (T2 r)) (h:pY n k s) (hm:m<=n):Ab (fC n k t m) (T2 (s+n*(r+1))):=by
 rw[Ft m hm]
 refine(Ak (s:=s) ht m fun i hi=>h _ aa).more (mq ?_)
 have:=Nat.mul_le_mul_right (r+1) hm
 omega
theorem KA {n s r:Nat} {k:Nat->Rat} {x:Rat} (hx:Ab x (T2 r)) (h:pY (n+1) k s):pY n (jH (n+1) k x) (s+(n+1)*(r+1)):=fun i hi=>WO hx h aa
theorem KU {s r:Nat} {k:Nat->Rat} {x y:Rat} (hx:Ab x (T2 r)) (hy:Ab y (T2 r)):∀n,pY n k s->∃q:Rat,ev n k y-ev n k x=(y-x)*q/\Ab q (T2 (s+2*(n*(r+1))))
 |0,_=>⟨0,by show(0:Rat)-0=_;grind,Ab.zero (by have:=mZ (s+2*(0*(r+1)));grind)⟩
 |n+1,h=>by
  refine⟨ev n (jH (n+1) k x) y,by rw[tW (c:=x) (t:=y)];grind,(Ak hy n (KA hx h)).more (mq ?_)⟩
  rw[Nat.add_mul];omega
theorem ad7 {k:Nat->Rat} {x:Rat} (n:Nat):ej (n+1,k) x=ev n (jH (n+1) k x) x:=by
 have e:∀t,aC (n+1,k) t=aC (k9 x) t*aC (n,jH (n+1) k x) t+ev (n+1) k x:=fun t=>by rw[AA];exact tW n
 have e2:∀t,aC (jv (n+1,k) (1,fun _=>-ev (n+1) k x)) t=aC (k9 x) t*aC (n,jH (n+1) k x) t:=fun t=>by
  rw[jU,e]
  show _+(0+-ev (n+1) k x*t^0)=_
  rw[Rat.pow_zero];grind
 have h:=mS e2 x
 rw[AA,JV,show x-x=0 by grind,Rat.zero_mul,Rat.add_zero,Rat.one_mul]at h
 rw[show ev n (jH (n+1) k x) x=aC (n,jH (n+1) k x) x from rfl,<-h]
 show _=sg (fun i=>(ef (n+1,k) i+ef (1,fun _=>-ev (n+1) k x) i)*dX x i) (max (n+1) 1)
 rw[gy (g:=fun i=>ef (n+1,k) i*dX x i+ef (1,fun _=>-ev (n+1) k x) i*dX x i) fun i _=>by grind,pN,ug (a:=(n+1,k)) (Nat.le_max_left _ _),ug (a:=(1,fun _=>-ev (n+1) k x)) (Nat.le_max_right _ _)]
 have z:ej (1,fun _=>-ev (n+1) k x) x=0:=by
  show 0+-ev (n+1) k x*(((0:Nat):Int)*x^(0-1):Rat)=0
  rw[show(((0:Nat):Int):Rat)=0 from rfl];grind
 rw[z,Rat.add_zero]
theorem Pe {a:PP} {s r:Nat} {x y:Rat} (hx:Ab x (T2 r)) (hy:Ab y (T2 r)) (h:pY a.1 a.2 s):∃q:Rat,aC a y-aC a x=(y-x)*(ej a x+(y-x)*q)/\Ab q (T2 (s+3*(a.1*(r+1)))):=by
 obtain⟨m,k⟩:=a
 cases m with
 |zero=>exact⟨0,by show(0:Rat)-0=(y-x)*(0+_);grind,Ab.zero (by have:=mZ (s+3*(0*(r+1)));grind)⟩
 |succ n=>
  obtain⟨q,h1,h2⟩:=KU hx hy n (KA hx h)
  refine⟨q,?_,h2.more (mq ?_)⟩
  ·rw[ad7]
   show ev (n+1) k y-ev (n+1) k x=_
   rw[tW (c:=x) (t:=y)]
   have:ev n (jH (n+1) k x) y=ev n (jH (n+1) k x) x+(y-x)*q:=by grind
   rw[this];grind
  ·show s+(n+1)*(r+1)+2*(n*(r+1))<=s+3*((n+1)*(r+1))
   rw[Nat.add_mul];omega
def iW (a b:Rat):Prop:=(0<a/\0<b)\/(a<0/\b<0)
theorem fO {q:Rat} (h:0<q):bC q=1:=by unfold bC;rw[if_neg (by grind),if_pos h]
theorem fQ {q:Rat} (h:q<0):bC q=-1:=by unfold bC;rw[if_pos h]
theorem l8 {q:Rat} (h:q=0):bC q=0:=by subst h;rfl
def zX (k:Nat) (a b:Nat->Rat):Prop:=∀j,j<=k->iW (a j) (b j)\/(∃i,j=i+1/\i+2<=k/\iW (a i) (b i)/\iW (a (i+2)) (b (i+2))/\¬iW (a i) (a (i+2)))\/(j=0/\1<=k/\iW (a 1) (b 1)/\((0<a 1/\a 0<b 0)\/(a 1<0/\b 0<a 0)))
def vr (a:Nat->Rat) (n:Nat):Nat:=(cC (fun i=>bC (a i)) n).2
theorem jz (s:Nat->Int) (i:Nat):cC s (i+1)=(if s i=0 then(cC s i).1 else s i,if s i*(cC s i).1<0 then(cC s i).2+1 else(cC s i).2):=rfl
theorem iW.fK {a b:Rat} (h:iW a b):(bC a=1/\bC b=1)\/(bC a=-1/\bC b=-1):=by
 rcases h with⟨h1,h2⟩|⟨h1,h2⟩
 ·exact .inl ⟨fO h1,fO h2⟩
 ·exact .inr ⟨fQ h1,fQ h2⟩
theorem sY (a:Rat):bC a=1\/bC a=-1\/bC a=0:=by
 rcases(show 0<a\/a<0\/a=0 by grind)with h|h|h
 ·exact .inl (fO h)
 ·exact .inr (.inl (fQ h))
 ·exact .inr (.inr (l8 h))
theorem Ls {s:Nat->Int} {i:Nat} (h:s i≠0):(cC s (i+1)).1=s i:=by rw[jz];exact if_neg h
theorem LL {s:Nat->Int} {j:Nat} {e:Int} (he:e=1\/e=-1) (h1:(cC s (j+1)).1=e) (h2:s (j+2)=-e) (h3:s (j+1)=1\/s (j+1)=-1\/s (j+1)=0):(cC s (j+3)).2=(cC s (j+1)).2+1:=by
 rw[jz s (j+2),jz s (j+1),h1,h2]
 generalize (cC s (j+1)).2=c
 rcases he with rfl|rfl<;>rcases h3 with h|h|h<;>rw[h]<;>simp
theorem Mr {k:Nat} {a b:Nat->Rat} (h:zX k a b):∀m j,j+m=k->iW (a j) (b j)->((cC (fun i=>bC (a i)) (k+1)).2:Int)-(cC (fun i=>bC (b i)) (k+1)).2=((cC (fun i=>bC (a i)) (j+1)).2:Int)-(cC (fun i=>bC (b i)) (j+1)).2:=by
 intro m
 induction m using Nat.strongRecOn with
 |_ m ih=>
  intro j hj hs
  cases m with
  |zero=>rw[show k=j by omega]
  |succ m=>
   have ea:(cC (fun i=>bC (a i)) (j+1)).1=bC (a j):=Ls (s:=fun i=>bC (a i)) (by rcases hs.fK with⟨h1,_⟩|⟨h1,_⟩<;>simp[h1])
   have eb:(cC (fun i=>bC (b i)) (j+1)).1=bC (b j):=Ls (s:=fun i=>bC (b i)) (by rcases hs.fK with⟨_,h1⟩|⟨_,h1⟩<;>simp[h1])
   rcases h (j+1) aa with h1|⟨i,e,h2,_,h3,h4⟩|⟨h1,_⟩
   ·rw[ih m aa (j+1) aa h1,jz (fun i=>bC (a i)) (j+1),jz (fun i=>bC (b i)) (j+1),ea,eb]
    rcases hs.fK with⟨k1,k2⟩|⟨k1,k2⟩<;>rcases h1.fK with⟨k3,k4⟩|⟨k3,k4⟩<;>simp[k1,k2,k3,k4]<;>omega
   ·obtain rfl:i=j:=aa
    rw[ih (m-1) aa (i+2) aa h3]
    have key:bC (a (i+2))=-bC (a i)/\bC (b (i+2))=-bC (b i)/\(bC (a i)=1\/bC (a i)=-1)/\(bC (b i)=1\/bC (b i)=-1):=by
     rcases hs with⟨k1,k2⟩|⟨k1,k2⟩<;>rcases h3 with⟨k3,k4⟩|⟨k3,k4⟩
     ·exact absurd (.inl ⟨k1,k3⟩) h4
     ·rw[fO k1,fO k2,fQ k3,fQ k4];simp
     ·rw[fQ k1,fQ k2,fO k3,fO k4];simp
     ·exact absurd (.inr ⟨k1,k3⟩) h4
    rw[LL key.2.2.1 ea key.1 (sY _),LL key.2.2.2 eb key.2.1 (sY _)]
    omega
   ·omega
def rS (a:Nat->Rat):Int:=if bC (a 0)=0 then bC (a 1)else bC (a 0)
theorem V0 {k:Nat} {a b:Nat->Rat} (h:zX k a b):
  (vr a (k+1)=vr b (k+1)/\b 0≠0/\(a 0=0\/iW (a 0) (b 0))/\rS b=rS a/\rS a≠0)\/(vr a (k+1)=vr b (k+1)+1/\a 0≠0/\¬iW (a 0) (b 0)/\rS b=-rS a/\rS a≠0):=by
 rcases h 0 (Nat.zero_le _)with h0|⟨i,e,_⟩|⟨_,hk,h1,hm⟩
 ·left
  have ht:=Mr h k 0 aa h0
  have e1:(cC (fun i=>bC (a i)) (0+1)).2=0:=by rw[jz];simp[cC]
  have e2:(cC (fun i=>bC (b i)) (0+1)).2=0:=by rw[jz];simp[cC]
  rw[e1,e2]at ht
  refine⟨by unfold vr;omega,by rcases h0 with⟨h1,h2⟩|⟨h1,h2⟩<;>grind,.inr h0,?_⟩
  unfold rS
  rcases h0.fK with⟨h1,h2⟩|⟨h1,h2⟩<;>simp[h1,h2]
 ·omega
 ·have ht:=Mr h (k-1) 1 aa h1
  have ea:(cC (fun i=>bC (a i)) (1+1)).2=if bC (a 1)*bC (a 0)<0 then 1 else 0:=by
   rw[jz,jz]
   rcases sY (a 0)with h|h|h<;>simp[h,cC]
  have eb:(cC (fun i=>bC (b i)) (1+1)).2=if bC (b 1)*bC (b 0)<0 then 1 else 0:=by
   rw[jz,jz]
   rcases sY (b 0)with h|h|h<;>simp[h,cC]
  rw[ea,eb]at ht
  have ev:∀x y:Nat,(x:Int)-y=0->x=y:=fun x y h=>aa
  have ev1:∀x y:Nat,(x:Int)-y=1->x=y+1:=fun x y h=>aa
  unfold vr
  rcases hm with⟨p1,p2⟩|⟨p1,p2⟩
  ·have q1:0<b 1:=by rcases h1 with⟨_,h⟩|⟨h,_⟩<;>grind
   rw[fO p1,fO q1]at ht
   rcases(show 0<a 0\/a 0<0\/a 0=0 by grind)with ha|ha|ha
   ·have hb:0<b 0:=by grind
    rw[fO ha,fO hb]at ht
    exact .inl ⟨ev _ _ (by rw[ht];decide),by grind,.inr (.inl ⟨ha,hb⟩),by unfold rS;simp[fO ha,fO hb],by unfold rS;simp[fO ha]⟩
   ·rw[fQ ha]at ht
    rcases(show 0<b 0\/b 0<0\/b 0=0 by grind)with hb|hb|hb
    ·rw[fO hb]at ht
     exact .inr ⟨ev1 _ _ (by rw[ht];decide),by grind,by unfold iW;grind,by unfold rS;simp[fQ ha,fO hb],by unfold rS;simp[fQ ha]⟩
    ·rw[fQ hb]at ht
     exact .inl ⟨ev _ _ (by rw[ht];decide),by grind,.inr (.inr ⟨ha,hb⟩),by unfold rS;simp[fQ ha,fQ hb],by unfold rS;simp[fQ ha]⟩
    ·rw[l8 hb]at ht
     exact .inr ⟨ev1 _ _ (by rw[ht];decide),by grind,by unfold iW;grind,by unfold rS;simp[fQ ha,l8 hb,fO q1],by unfold rS;simp[fQ ha]⟩
   ·have hb:0<b 0:=by grind
    rw[l8 ha,fO hb]at ht
    exact .inl ⟨ev _ _ (by rw[ht];decide),by grind,.inl ha,by unfold rS;simp[l8 ha,fO hb,fO p1],by unfold rS;simp[l8 ha,fO p1]⟩
  ·have q1:b 1<0:=by rcases h1 with⟨h,_⟩|⟨_,h⟩<;>grind
   rw[fQ p1,fQ q1]at ht
   rcases(show 0<a 0\/a 0<0\/a 0=0 by grind)with ha|ha|ha
   ·rw[fO ha]at ht
    rcases(show 0<b 0\/b 0<0\/b 0=0 by grind)with hb|hb|hb
    ·rw[fO hb]at ht
     exact .inl ⟨ev _ _ (by rw[ht];decide),by grind,.inr (.inl ⟨ha,hb⟩),by unfold rS;simp[fO ha,fO hb],by unfold rS;simp[fO ha]⟩
    ·rw[fQ hb]at ht
     exact .inr ⟨ev1 _ _ (by rw[ht];decide),by grind,by unfold iW;grind,by unfold rS;simp[fO ha,fQ hb],by unfold rS;simp[fO ha]⟩
    ·rw[l8 hb]at ht
     exact .inr ⟨ev1 _ _ (by rw[ht];decide),by grind,by unfold iW;grind,by unfold rS;simp[fO ha,l8 hb,fQ q1],by unfold rS;simp[fO ha]⟩
   ·have hb:b 0<0:=by grind
    rw[fQ ha,fQ hb]at ht
    exact .inl ⟨ev _ _ (by rw[ht];decide),by grind,.inr (.inr ⟨ha,hb⟩),by unfold rS;simp[fQ ha,fQ hb],by unfold rS;simp[fQ ha]⟩
   ·have hb:b 0<0:=by grind
    rw[l8 ha,fQ hb]at ht
    exact .inl ⟨ev _ _ (by rw[ht];decide),by grind,.inl ha,by unfold rS;simp[l8 ha,fQ hb,fQ p1],by unfold rS;simp[l8 ha,fQ p1]⟩
theorem Uu {a q:Nat->Rat} {k:Nat} {η Q P:Rat} (hr:∀j,j+2<=k->a j=q j*a (j+1)-a (j+2)) (hq:∀j,j+2<=k->Ab (q j) Q) (hQ:0<=Q) (hP:Q+1<=P) (hη:0<η) (hl:P^k*η<=a k\/a k<=-(P^k*η)) {j:Nat} (hj:j+1<=k) (h1:-η<a j) (h2:a j<η):P*η<=a (j+1)\/a (j+1)<=-(P*η):=by
 refine Decidable.byContradiction fun hn=>?_
 have hpw:∀i:Nat,1<=P^i:=fun i=>by
  induction i with
  |zero=>rw[Rat.pow_zero];decide
  |succ i ih=>rw[Rat.pow_succ];have:=Rat.mul_nonneg (a:=P^i) (b:=P-1) (by grind) (by grind);grind
 have step:∀i,j+1+i<=k->(-(P^i*η)<a (j+i)/\a (j+i)<P^i*η)/\-(P^(i+1)*η)<a (j+1+i)/\a (j+1+i)<P^(i+1)*η:=by
  intro i
  induction i with
  |zero=>
   intro _
   rw[Rat.pow_zero,Rat.pow_succ,Rat.pow_zero]
   exact⟨⟨by rw[Nat.add_zero];grind,by rw[Nat.add_zero];grind⟩,by rw[Nat.add_zero];grind,by rw[Nat.add_zero];grind⟩
  |succ i ih=>
   intro hi
   obtain⟨⟨i1,i2⟩,i3,i4⟩:=ih aa
   have e:=hr (j+i) aa
   have hqq:=hq (j+i) aa
   rw[show j+i+1=j+1+i by omega,show j+i+2=j+1+(i+1) by omega]at e
   have hX:=Rat.mul_pos (a:=P^i) (b:=η) (by have:=hpw i;grind) hη
   have hm:Ab (q (j+i)*a (j+1+i)) (Q*(P^(i+1)*η)):=hqq.mul ⟨by grind,by grind⟩
   obtain⟨m1,m2⟩:=hm
   rw[show j+(i+1)=j+1+i by omega]
   refine⟨⟨i3,i4⟩,?_⟩
   rw[Rat.pow_succ P (i+1)]
   rw[Rat.pow_succ P i]at*
   generalize P^i=X at*
   have g1:=Rat.mul_nonneg (a:=X*η) (b:=P*(P-Q-1)) (by grind) (Rat.mul_nonneg (by grind) (by grind))
   have g2:=Rat.mul_nonneg (a:=X*η) (b:=P-1) (by grind) (by grind)
   constructor<;>grind
 obtain⟨_,s1,s2⟩:=step (k-j-1) aa
 rw[show j+1+(k-j-1)=k by omega,show k-j-1+1=k-j by omega]at s1 s2
 have hle:P^(k-j)*η<=P^k*η:=by
  have e:P^k=P^(k-j)*P^j:=by rw[<-pow_add'];congr 1;omega
  rw[e]
  have g1:=Rat.mul_nonneg (a:=P^(k-j)*η) (b:=P^j-1) (Rat.mul_nonneg (by have:=hpw (k-j);grind) (by grind)) (by have:=hpw j;grind)
  grind
 rcases hl with hl|hl<;>grind
theorem Z2 {a b q:Nat->Rat} {k:Nat} {η ε Q P:Rat} (hr:∀j,j+2<=k->a j=q j*a (j+1)-a (j+2)) (hq:∀j,j+2<=k->Ab (q j) Q) (hQ:0<=Q) (hP:Q+1<=P) (hη:0<η) (hl:P^k*η<=a k\/a k<=-(P^k*η)) (hε:ε<η)
  (hL:∀j,j<=k->Ab (b j-a j) ε) (hd:1<=k->∃d w:Rat,0<d/\b 0-a 0=d*(a 1+w)/\Ab w ε):zX k a b:=by
 have big:∀j,j<=k->η<=a j\/a j<=-η->iW (a j) (b j):=fun j hj h=>by
  obtain⟨h1,h2⟩:=hL j hj
  rcases h with h|h
  ·exact .inl ⟨by grind,by grind⟩
  ·exact .inr ⟨by grind,by grind⟩
 have hPη:=Rat.mul_nonneg (a:=P-1) (b:=η) (by grind) (by grind)
 intro j hj
 rcases(show(η<=a j\/a j<=-η)\/(-η<a j/\a j<η) by grind)with h|⟨h1,h2⟩
 ·exact .inl (big j hj h)
 ·have hjk:j+1<=k:=by
   refine Decidable.byContradiction fun hn=>?_
   obtain rfl:j=k:=aa
   have hpw:1<=P^j:=by
    clear hl hj hn h1 h2 hL hr hq hd big
    induction j with
    |zero=>rw[Rat.pow_zero];decide
    |succ i ih=>rw[Rat.pow_succ];have:=Rat.mul_nonneg (a:=P^i) (b:=P-1) (by grind) (by grind);grind
   have:=Rat.mul_nonneg (a:=P^j-1) (b:=η) (by grind) (by grind)
   rcases hl with hl|hl<;>grind
  have hn:=Uu hr hq hQ hP hη hl hjk h1 h2
  have hb1:iW (a (j+1)) (b (j+1)):=big _ hjk (by rcases hn with h|h<;>grind)
  cases j with
  |zero=>
   refine .inr (.inr ⟨rfl,hjk,hb1,?_⟩)
   obtain⟨d,w,d0,e,w1,w2⟩:=hd hjk
   rcases hn with h|h
   ·have:=Rat.mul_pos (a:=d) (b:=a (0+1)+w) d0 (by grind)
    exact .inl ⟨by grind,by grind⟩
   ·have:=Rat.mul_pos (a:=d) (b:=-(a (0+1)+w)) d0 (by grind)
    exact .inr ⟨by grind,by grind⟩
  |succ i=>
   have e:=hr i aa
   obtain⟨m1,m2⟩:=(hq i aa).mul (show Ab (a (i+1)) η from⟨by grind,by grind⟩)
   have hQη:=Rat.mul_nonneg (a:=P-Q-1) (b:=η) (by grind) (by grind)
   refine .inr (.inl ⟨i,rfl,aa,big i aa ?_,hb1,?_⟩)
   ·rcases hn with h|h
    ·right;grind
    ·left;grind
   ·unfold iW
    rcases hn with h|h<;>grind
abbrev cO (c:PP) (j:Nat):PP:=(cm (dO c) j).1
abbrev cB (c:PP):Nat:=gD (dO c)
theorem l5 {c:PP}:Trim (dO c).1/\Trim (dO c).2:=⟨l9,dR⟩
theorem Fg {c:PP} (tc:Trim c) (c0:0<c.1) {j:Nat} (hj:j<=cB c):0<(cO c j).1:=by
 cases j with
 |zero=>exact tX tc c0
 |succ j=>
  have:=(nE (s:=dO c) l5.1 l5.2).2.2 j (by have:cB c=gD (dO c):=rfl;omega)
  exact Nat.pos_of_ne_zero this
theorem NQ {c:PP} (j:Nat):Trim (cO c j):=(oW l5.1 l5.2 j).1
theorem aa1 {c:PP}:(cO c (cB c+1)).1=0:=(nE (s:=dO c) l5.1 l5.2).2.1
theorem H9 {c:PP} (tc:Trim c) (c0:0<c.1) {j:Nat} (hj:j+1<=cB c) (t:Rat):aC (cO c j) t=aC (gk (cO c j) (cO c (j+1))) t*aC (cO c (j+1)) t-aC (cO c (j+2)) t:=by
 have h:=rm (a:=cO c j) (Fg tc c0 hj) t
 have e:aC (cO c (j+2)) t=((-1:Int):Rat)*aC (fl (cO c j) (cO c (j+1))) t:=uI
 rw[show((-1:Int):Rat)=-1 from rfl]at e
 rw[e]
 grind
theorem N5 {c:PP} (tc:Trim c) (c0:0<c.1):∀i,i<=cB c->Dv (cO c (cB c)) (cO c (cB c-i))/\Dv (cO c (cB c)) (cO c (cB c-i+1))
 |0,_=>⟨.refl _,sr,fun t=>by rw[Nat.sub_zero,iO aa1,Bw,Rat.mul_zero]⟩
 |i+1,hi=>by
  obtain⟨h1,h2⟩:=N5 tc c0 i aa
  have e:=fun t=>H9 tc c0 (c:=c) (j:=cB c-(i+1)) aa t
  rw[show cB c-(i+1)+1=cB c-i by omega,show cB c-(i+1)+2=cB c-i+1 by omega]at e
  refine⟨Dv.comb (u:=gk (cO c (cB c-(i+1))) (cO c (cB c-i))) (v:=gQ (-1) gJ) h1 h2 fun t=>?_,by rw[show cB c-(i+1)+1=cB c-i by omega];exact h1⟩
  rw[e,gx,jf];grind
theorem Gn {c:PP} (tc:Trim c) (c0:0<c.1):(cO c (cB c)).1=1:=by
 obtain⟨h1,h2⟩:=N5 tc c0 (cB c) aS
 rw[Nat.sub_self]at h1 h2
 obtain⟨u,v,h3⟩:=Qo tc c0
 have h4:Dv (cO c (cB c)) gJ:=Dv.comb (u:=u) (v:=v) h1 h2 fun t=>by rw[jf];exact(h3 t).symm
 have h5:=h4.len (show 0<1 by decide) DH (NQ _)
 have h6:=Fg tc c0 (Nat.le_refl (cB c))
 have h5:(cO c (cB c)).1<=1:=h5
 omega
structure j3 (c:PP) (s q:Nat):Prop where
 tr:Trim c
 p0:0<c.1
 k7:cB c<=7
 bd:∀j,j<=cB c->Bd (cO c j) s/\(cO c j).1<=7
 qu:∀j,j+1<=cB c->Bd (gk (cO c j) (cO c (j+1))) q/\(gk (cO c j) (cO c (j+1))).1<=7
theorem dL.sm {c:PP} (h:dL c):∀j,j<=cB c->∃B,B+1<=1176606/\Bd (cm (dO c) j).1 B/\Bd (cm (dO c) j).2 B/\(cm (dO c) j).1.1<=7/\(cm (dO c) j).2.1<(cm (dO c) j).1.1:=fun j hj=>by
 obtain⟨f1,f2⟩:=h.free
 have hfd:Bd (bL (aZ c)) 806:=f1.bd.dw aa
 have hdl:(bL (aZ c)).1<=(aZ c).1-1:=fP
 have hp:=f1.p0
 obtain⟨B,b1,b2,b3,b4,b5⟩:=E9 (a:=aZ c) (b:=bL (aZ c)) l9 dR f2 aa (f1.bd.more (show 800<=806 by omega)) hfd j hj
 have h3:3^(7-(cm (aZ c,bL (aZ c)) j).1.1)<=3^6:=xp aa
 have h4:=Nat.mul_le_mul_left (2*(806+1)) h3
 exact⟨B,aa,b2,b3,b4,b5⟩
theorem dL.nU {c:PP} (h:dL c):j3 c 1176605 9412848 where
 tr:=h.tr
 p0:=h.p0
 k7:=by
  obtain⟨f1,f2⟩:=h.free
  have:=(nE (s:=dO c) l5.1 l5.2).1
  have h2:(dO c).2.1<=(aZ c).1-1:=fP
  have h3:cB c=gD (dO c):=rfl
  omega
 bd:=fun j hj=>by
  obtain⟨B,b1,b2,b3,b4,b5⟩:=h.sm j hj
  exact⟨b2.more aa,b4⟩
 qu:=fun j hj=>by
  obtain⟨B,b1,b2,b3,b4,b5⟩:=h.sm j aa
  have h0:0<(cm (dO c) j).2.1:=Fg h.tr h.p0 hj
  have hr:=(b2.rem b3 h0 (oW l5.1 l5.2 j).2).2.1
  have hM:(cm (dO c) j).1.1-((cm (dO c) j).2.1-1)<=7:=aa
  have:=Nat.mul_le_mul_right (B+1) hM
  exact⟨hr.more aa,Nat.le_trans (show bY _ _<=_ from fP) hM⟩
def nN (s q r:Nat):Nat:=2*s+21*(r+1)+7*(q+7*(r+1)+1)
theorem XZ {a:PP} {s r:Nat} {t:Rat} (h:pY a.1 a.2 s) (hl:a.1<=7) (ht:Ab t (T2 r)):Ab (aC a t) (T2 (s+7*(r+1))):=
 (Ak ht _ h).more (mq (by have:=Nat.mul_le_mul_right (r+1) hl;omega))
theorem Lr (a:Nat):∀k:Nat,T2 a^k=T2 (a*k)
 |0=>by rw[Rat.pow_zero];unfold T2;rw[Nat.mul_zero,Rat.pow_zero]
 |k+1=>by rw[Rat.pow_succ,Lr a k,Nat.mul_succ,uf]
theorem j3.gp {c:PP} {s q r:Nat} (h:j3 c s q) {x y:Rat} (hx:Ab x (T2 r)) (hy:Ab y (T2 r)) (hxy:x<y) (hf:(y-x)*T2 (nN s q r)<1):
  zX (cB c) (fun j=>aC (cO c j) x) (fun j=>aC (cO c j) y):=by
 obtain⟨Q,hQ⟩:∃Q,Q=T2 (q+7*(r+1)):=⟨_,rfl⟩
 obtain⟨P,hP⟩:∃P,P=T2 (q+7*(r+1)+1):=⟨_,rfl⟩
 have hQ1:1<=Q:=hQ▸ET _
 have hPQ:P=2*Q:=by rw[hP,hQ,pX]
 have hPk:P^cB c=T2 ((q+7*(r+1)+1)*cB c):=by
  rw[hP];exact Lr _ _
 obtain⟨η,h1⟩:∃η:Rat,η=(P^cB c*T2 s)⁻¹:=⟨_,rfl⟩
 have hpos:0<P^cB c*T2 s:=by rw[hPk];exact Rat.mul_pos (mZ _) (mZ _)
 have hη:0<η:=by rw[h1];exact Rat.inv_pos.2 hpos
 have hη1:η*(P^cB c*T2 s)=1:=by rw[h1];exact Rat.inv_mul_cancel _ (by grind)
 have hd:0<y-x:=by grind
 refine Z2 (q:=fun j=>aC (gk (cO c j) (cO c (j+1))) x) (k:=cB c) (η:=η) (ε:=(y-x)*T2 (s+21*(r+1))) (Q:=Q) (P:=P) (fun j hj=>H9 h.tr h.p0 aa x) (fun j hj=>?_) (by grind) (by grind) hη ?_ ?_ (fun j hj=>?_) (fun hk=>?_)
 ·obtain⟨b1,b2⟩:=h.qu j aa
  rw[hQ];exact XZ (cR.cf b1) b2 hx
 ·have hl:=Gn h.tr h.p0
  obtain⟨⟨D,d1,d2,d3⟩,_⟩:=h.bd (cB c) aS
  have e:aC (cO c (cB c)) x=(cO c (cB c)).2 0:=by
   show ev (cO c (cB c)).1 (cO c (cB c)).2 x=_
   rw[hl]
   show 0+(cO c (cB c)).2 0*x^0=_
   rw[Rat.pow_zero];grind
  have hne:(cO c (cB c)).2 0≠0:=by
   rcases NQ (c:=c) (cB c)with h0|h0
   ·omega
   ·rw[hl]at h0;exact h0
  have hlow:=(d3 0 aa).low d1 d2 hne
  have hTs:=mZ s
  have e2:P^cB c*η*T2 s=1:=by grind
  show P^cB c*η<=aC (cO c (cB c)) x\/aC (cO c (cB c)) x<=-(P^cB c*η)
  rw[e]
  generalize (cO c (cB c)).2 0=a at*
  generalize P^cB c*η=w at*
  rcases hlow with hlow|hlow
  ·left
   refine Decidable.byContradiction fun hn=>?_
   have:=Rat.mul_pos (a:=w-a) (b:=T2 s) (by grind) hTs
   grind
  ·right
   refine Decidable.byContradiction fun hn=>?_
   have:=Rat.mul_pos (a:=w+a) (b:=T2 s) (by grind) hTs
   grind
 ·refine Decidable.byContradiction fun hn=>?_
  have g1:=Rat.mul_nonneg (a:=(y-x)*T2 (s+21*(r+1))-η) (b:=P^cB c*T2 s) (by grind) (by grind)
  have g2:(y-x)*T2 (s+21*(r+1))*(P^cB c*T2 s)<=(y-x)*T2 (nN s q r):=by
   rw[hPk,<-uf,Rat.mul_assoc,<-uf]
   have hle:T2 (s+21*(r+1)+((q+7*(r+1)+1)*cB c+s))<=T2 (nN s q r):=mq (by
    have:=Nat.mul_le_mul_left (q+7*(r+1)+1) h.k7
    unfold nN;omega)
   exact Rat.mul_le_mul_of_nonneg_left hle (by grind)
  grind
 ·obtain⟨b1,b2⟩:=h.bd j hj
  obtain⟨w,e,hw⟩:=KU hx hy (cO c j).1 (cR.cf b1)
  show Ab (ev (cO c j).1 (cO c j).2 y-ev (cO c j).1 (cO c j).2 x) _
  rw[e]
  refine Ab.mul ⟨by grind,by grind⟩ (hw.more (mq ?_))
  have:=Nat.mul_le_mul_right (r+1) b2
  omega
 ·obtain⟨b1,b2⟩:=h.bd 0 (Nat.zero_le _)
  obtain⟨w,e,hw⟩:=Pe (a:=cO c 0) hx hy (cR.cf b1)
  refine⟨y-x,(y-x)*w,hd,?_,Ab.mul ⟨by grind,by grind⟩ (hw.more (mq ?_))⟩
  ·show aC (cO c 0) y-aC (cO c 0) x=(y-x)*(aC (cO c 1) x+(y-x)*w)
   rw[e]
   have:aC (cO c 1) x=ej (cO c 0) x:=jx (a:=aZ c)
   rw[this]
  ·have:=Nat.mul_le_mul_right (r+1) b2
   omega
theorem FO (x:Rat):∃r:Nat,Ab x (T2 r):=by
 refine⟨x.num.natAbs,bS.ab (D:=(x.den:Int)) ⟨x.num,?_,Nat.le_of_lt Nat.lt_two_pow_self⟩ (by have:=x.den_pos;omega)⟩
 have hd:((x.den:Int):Rat)≠0:=pE (D:=(x.den:Int)) (by have:=x.den_pos;omega)
 have:=Rat.num_divInt_den x
 rw[Rat.divInt_eq_div]at this
 have h2:=Rat.div_mul_cancel (a:=(x.num:Rat)) hd
 rw[this]at h2
 exact h2.symm
theorem Yf (q:Rat):∃n:Nat,q<((n:Int):Rat):=by
 obtain⟨r,_,h⟩:=FO q
 refine⟨2^r+1,?_⟩
 rw[vq]at h
 have:(((2^r:Nat):Int):Rat)+1=(((2^r+1:Nat):Int):Rat):=by rw[Int.natCast_add,Rat.intCast_add];rfl
 rw[<-this];grind
theorem PC {d N T:Rat} (hd:0<d) (hN:1<=N) (hT:0<T) (h:d*T<N+1):∃t,0<t/\t<d/\t*T<1/\(d-t)*T<N:=by
 have ht:(N+1)*(N+1)⁻¹=1:=Rat.mul_inv_cancel _ (by grind)
 have hip:0<(N+1)⁻¹:=Rat.inv_pos.2 (by grind)
 generalize (N+1)⁻¹=w at*
 have e1:d*((N+1)*w)=d:=by rw[ht,Rat.mul_one]
 have e2:N*((N+1)*w)=N:=by rw[ht,Rat.mul_one]
 have e3:d*T*((N+1)*w)=d*T:=by rw[ht,Rat.mul_one]
 have hNw:0<N*w:=Rat.mul_pos (by grind) hip
 have g1:=Rat.mul_pos hd hip
 have g2:=Rat.mul_pos hd hNw
 have g3:=Rat.mul_pos (a:=N+1-d*T) (b:=w) (by grind) hip
 have g4:=Rat.mul_pos (a:=N+1-d*T) (b:=N*w) (by grind) hNw
 exact⟨d*w,g1,by grind,by grind,by grind⟩
theorem N8 {P:Rat->Rat->Prop} {E:Nat} {X Y:Rat} (base:∀x y,X<=x->y<=Y->x<y->(y-x)*T2 E<1->P x y) (step:∀x m y,X<=x->y<=Y->x<m->m<y->P x m->P m y->P x y) {x y:Rat} (hX:X<=x) (hY:y<=Y) (hxy:x<y):P x y:=by
 have key:∀(n:Nat) (x:Rat),X<=x->x<y->(y-x)*T2 E<(((n+1:Nat):Int):Rat)->P x y:=by
  intro n
  induction n with
  |zero=>intro x h1 h2 h3;exact base x y h1 hY h2 h3
  |succ n ih=>
   intro x h1 h2 h3
   have eN:(((n+1+1:Nat):Int):Rat)=(((n+1:Nat):Int):Rat)+1:=by rw[Int.natCast_add (n+1) 1,Rat.intCast_add];rfl
   rw[eN]at h3
   have hd:0<y-x:=by clear base step ih;grind
   obtain⟨t,t1,t2,t3,t4⟩:=PC hd (pn (a:=1) aa) (mZ E) h3
   have a1:x<x+t/\x+t<y/\x+t-x=t/\y-(x+t)=y-x-t/\x+t<=Y/\X<=x+t:=by
    clear base step ih t3 t4 h3 eN
    exact⟨by grind,by grind,by grind,by grind,by grind,by grind⟩
   exact step x (x+t) y h1 hY a1.1 a1.2.1 (base _ _ h1 a1.2.2.2.2.1 a1.1 (by rw[a1.2.2.1];exact t3)) (ih _ a1.2.2.2.2.2 a1.2.1 (by rw[a1.2.2.2.1];exact t4))
 obtain⟨n,hn⟩:=Yf ((y-x)*T2 E)
 refine key n x hX hxy ?_
 have:(((n+1:Nat):Int):Rat)=((n:Int):Rat)+1:=by rw[Int.natCast_add,Rat.intCast_add];rfl
 rw[this]
 clear base step key
 grind
def iN (c:PP) (x:Rat):Nat:=vr (fun j=>aC (cO c j) x) (cB c+1)
def bt (c:PP) (x y:Rat):Int:=if x>=y then 0 else(iN c x:Int)-iN c y-(if aC (aZ c) y=0 then 1 else 0)
def rC (c:PP) (x:Rat):Int:=rS fun j=>aC (cO c j) x
theorem sZ {c:PP} {x y:Rat} (h:x<y):bt c x y=(iN c x:Int)-iN c y-(if aC (aZ c) y=0 then 1 else 0):=if_neg (by grind)
def Rg (r:Nat) (x y:Rat):Prop:=-(T2 r)<=x/\y<=T2 r/\x<y
theorem Rg.ab {r:Nat} {x y:Rat} (h:Rg r x y):Ab x (T2 r)/\Ab y (T2 r):=by
 obtain⟨h1,h2,h3⟩:=h
 exact⟨⟨h1,by grind⟩,by grind,h2⟩
theorem Gx {x y:Rat} (h:x<y):∃r,Rg r x y:=by
 obtain⟨r,h1,_⟩:=FO x
 obtain⟨r',_,h2⟩:=FO y
 have a:=mq (show r<=r+r' by omega)
 have b:=mq (show r'<=r+r' by omega)
 exact⟨r+r',by grind,by grind,h⟩
theorem j3.near {c:PP} {s q r:Nat} (h:j3 c s q) {x y:Rat} (hr:Rg r x y) (hf:(y-x)*T2 (nN s q r)<1):
  (iN c x=iN c y/\aC (aZ c) y≠0/\(aC (aZ c) x=0\/iW (aC (aZ c) x) (aC (aZ c) y))/\rC c y=rC c x/\rC c x≠0)\/(iN c x=iN c y+1/\aC (aZ c) x≠0/\¬iW (aC (aZ c) x) (aC (aZ c) y)/\rC c y=-rC c x/\rC c x≠0):=
 V0 (h.gp hr.ab.1 hr.ab.2 hr.2.2 hf)
theorem j3.short {c:PP} {s q r:Nat} (h:j3 c s q) {x y:Rat} (hr:Rg r x y) (hf:(y-x)*T2 (nN s q r)<1):bt c x y=0\/bt c x y=1:=by
 rw[sZ hr.2.2]
 rcases h.near hr hf with⟨h1,h2,_⟩|⟨h1,_⟩
 ·rw[if_neg h2,h1];omega
 ·rw[h1];split<;>omega
theorem BV {c:PP} {x m y:Rat} (h1:x<m) (h2:m<y):bt c x y=bt c x m+(if aC (aZ c) m=0 then 1 else 0)+bt c m y:=by
 rw[sZ h1,sZ h2,sZ (show x<y by grind)];omega
theorem j3.vu {c:PP} {s q:Nat} (h:j3 c s q) (x y:Rat):0<=bt c x y:=by
 by_cases hxy:x<y
 ·obtain⟨r,hr⟩:=Gx hxy
  refine N8 (P:=fun x y=>0<=bt c x y) (E:=nN s q r) (X:=-(T2 r)) (Y:=T2 r) (fun x y h1 h2 h3 h4=>?_) (fun x m y _ _ h1 h2 p1 p2=>?_) hr.1 hr.2.1 hxy
  ·rcases h.short ⟨h1,h2,h3⟩ h4 with h|h<;>rw[h]<;>decide
  ·rw[BV h1 h2];split<;>omega
 ·rw[show bt c x y=0 from if_pos (by grind)];decide
theorem j3.root {c:PP} {s q:Nat} (h:j3 c s q) {x m y:Rat} (h1:x<m) (h2:m<y) (hm:aC (aZ c) m=0):1<=bt c x y:=by
 have a:=h.vu x m
 have b:=h.vu m y
 rw[BV h1 h2,if_pos hm];omega
theorem j3.aaM {c:PP} {s q:Nat} (h:j3 c s q) {x y:Rat} (hxy:x<y):((iN c x:Int)-iN c y)%2=0/\rC c y=rC c x/\rC c x≠0\/((iN c x:Int)-iN c y)%2=1/\rC c y=-rC c x/\rC c x≠0:=by
 obtain⟨r,hr⟩:=Gx hxy
 refine N8 (P:=fun x y=>((iN c x:Int)-iN c y)%2=0/\rC c y=rC c x/\rC c x≠0\/((iN c x:Int)-iN c y)%2=1/\rC c y=-rC c x/\rC c x≠0) (E:=nN s q r) (X:=-(T2 r)) (Y:=T2 r) (fun x y h1 h2 h3 h4=>?_) (fun x m y _ _ h1 h2 p1 p2=>?_) hr.1 hr.2.1 hxy
 ·rcases h.near ⟨h1,h2,h3⟩ h4 with⟨e,_,_,a,b⟩|⟨e,_,_,a,b⟩
  ·exact .inl ⟨aa,a,b⟩
  ·exact .inr ⟨aa,a,b⟩
 ·rcases p1 with⟨e1,a1,b1⟩|⟨e1,a1,b1⟩<;>rcases p2 with⟨e2,a2,b2⟩|⟨e2,a2,b2⟩
  ·exact .inl ⟨aa,aa,b1⟩
  ·exact .inr ⟨aa,aa,b1⟩
  ·exact .inr ⟨aa,aa,b1⟩
  ·exact .inl ⟨aa,aa,b1⟩
theorem Ed {c:PP} {x:Rat} (h:aC (aZ c) x≠0):rC c x=bC (aC (aZ c) x):=by
 unfold rC rS
 refine if_neg fun h0=>h ?_
 rcases sY (aC (aZ c) x)with h1|h1|h1
 ·rw[show bC (aC (cO c 0) x)=1 from h1]at h0;cases h0
 ·rw[show bC (aC (cO c 0) x)=-1 from h1]at h0;cases h0
 ·unfold bC at h1;grind
theorem j3.Zd {c:PP} {s q:Nat} (h:j3 c s q) {x y:Rat} (hxy:x<y) (h1:bt c x y=1) (hx:aC (aZ c) x≠0) (hy:aC (aZ c) y≠0):¬iW (aC (aZ c) x) (aC (aZ c) y):=by
 rw[sZ hxy,if_neg hy]at h1
 rcases h.aaM hxy with⟨e,_⟩|⟨_,a,b⟩
 ·omega
 ·intro hs
  rw[Ed hx,Ed hy]at a
  rw[Ed hx]at b
  rcases hs.fK with⟨k1,k2⟩|⟨k1,k2⟩<;>rw[k1,k2]at a<;>cases a
theorem jY.mul {a b c d:PP} (h:jY a b) (h':jY a c) (e:∀t,aC d t=aC b t*aC c t):jY a d:=by
 obtain⟨u,v,h⟩:=h
 obtain⟨w,z,h'⟩:=h'
 refine⟨jv u (cj v (cj b w)),cj v z,fun t=>?_⟩
 have h1:=h t
 have h2:=h' t
 rw[jU,cF,cF,cF,e]
 have:aC u t*aC a t+aC v t*aC b t*(aC w t*aC a t+aC z t*aC c t)=1:=by rw[h2];grind
 grind
theorem Nu (a:Nat->Rat):∀n,vr a n<=n
 |0=>aS
 |n+1=>by
  have:=Nu a n
  unfold vr at*
  rw[jz]
  dsimp only
  split<;>omega
theorem L8 {c:PP} {s q:Nat} (h:j3 c s q) (x y:Rat):bt c x y<=8:=by
 by_cases hxy:x<y
 ·rw[sZ hxy]
  have h1:iN c x<=cB c+1:=Nu _ _
  have h2:=h.k7
  split<;>omega
 ·rw[show bt c x y=0 from if_pos (by grind)];decide
end Go.Am
namespace Go.Am.B
open Go Go.Am.N AV af ak IntKind Proofs.Tryz
theorem AQ {c:PP} (h:dL c):tP c/\BC c:=by
 have hW:=dI
 have hl:=h.len
 have h0:=h.p0
 obtain⟨f1,f2⟩:=h.free
 have g1:=h.gcd
 have b1:Bd c 806:=h.bd.more aa
 have b2:Bd (bL c) 806:=h.bd.dw aa
 have hd:rj c (bW c (bL c)):=wR (M:=13) h.bd g1.bd g1.p0 g1.tr aa aa
 have hf:dj (aZ c).1 (aZ c).2:=kP f1.bd aa
 have hder:dj (c.1-1) (dw c.2):=kP (xV h.bd aa) aa
 have h13:2*((13+1)*(2*(806+1)*3^(13-1)))+2<=ah:=by rw[hW];decide
 have hdl:(bL c).1<=13:=Nat.le_trans DG aa
 refine⟨⟨aa,h.tr,hder,fun _=>⟨Bc h.tr dR hl hdl aa b1 b2 h13,hd,hf⟩⟩,⟨aa,aa,h.tr,hder,fun _=>⟨⟨kP (b1.cV h.tr) aa,kP (b2.cV dR) aa,Bc (p9 h.tr) (p9 dR) hl hdl aa (b1.cV h.tr) (b2.cV dR) h13⟩,hd,hf⟩⟩⟩
theorem LZ {c:PP} (h:dL c):wI (dO c):=fun j hj=>by
 have hW:=dI
 obtain⟨B,b1,b2,b3,b4,b5⟩:=h.sm j (by have:cB c=gD (dO c):=rfl;omega)
 have ht:=oW (s:=dO c) l9 dR j
 have hn:=(nE (s:=dO c) l9 dR).2.2 j hj
 refine⟨wR (M:=7) b2 b3 aa ht.2 aa aa,?_⟩
 exact kP ((BO (M:=7) b2 b3 aa ht.2 aa).1.neg) aa
theorem Mu {c:PP} (h:dL c):oS c/\FE c:=by
 have hW:=dI
 obtain⟨f1,f2⟩:=h.free
 have hder:dj ((aZ c).1-1) (dw (aZ c).2):=kP (xV f1.bd aa) aa
 exact⟨⟨(AQ h).1,hder,LZ h⟩,⟨(AQ h).2,hder,LZ h⟩⟩
theorem K0 {c:PP} (h:dL c):bU c<=8:=by
 have:cB c<=7:=h.nU.k7
 show cB c+1<=8
 omega
theorem aeS {c:PP} (h:dL c) {i:Nat} (hi:i<bU c):Bd (bN c i) 1176605/\(bN c i).1<=7:=h.nU.bd i (by have:bU c=cB c+1:=rfl;omega)
theorem Yl {c:PP} (h:dL c) {τ:Nat} {T:Int} {t:Rat} (ht:bS T τ t) (hT:T.natAbs<=2^τ) (hT0:T≠0) (hs:τ<=2^31):eI (bU c) (bN c) t:=fun i hi=>by
 have hW:=dI
 obtain⟨b1,b2⟩:=aeS h hi
 exact⟨aa,LV b1 ht hT hT0 b2 aa⟩
theorem KT {c:PP} (h:dL c):Ap c:=⟨(AQ h).1.2.2.1,((AQ h).1.2.2.2 (by have:=h.p0;omega)).1⟩
theorem MM {n:Nat} {f:Nat->AV} {a:Int}:∀i,i<=3->qS i (eV n f a i).1
 |0,_=>qS.one
 |i+1,hi=>by
  have h1:=vF (n:=n) (f:=f) (a:=a) i aa
  have h2:=vF (n:=n) (f:=f) (a:=a) (i+1) hi
  have h3:=h2.hi
  exact(MM i aa).step h1.lo yy CF (by show(eV n f a (i+1)).1.1<=30;omega)
theorem aaw {n:Nat} {f:Nat->AV} {a:Int} (h0:(aJ (l6 n f a)).1≠0):dL (aJ (l6 n f a)):=by
 have hN:=Dr (n:=n) (f:=f) (a:=a)
 have hp:=Lw (n:=n) (f:=f) (a:=a)
 have e:∀t,aC (gB (l6 n f a)) t=aC (aJ (l6 n f a)) t:=fun t=>qY.symm
 have hex:∃t,er (l6 n f a) t≠0:=Classical.byContradiction fun hn=>h0 (rD (show Trim (aJ (l6 n f a))from k8) fun t=>by
  rw[<-e,kV hp.lo]
  exact Classical.byContradiction fun h=>hn ⟨t,h⟩)
 exact((MM (n:=n) (f:=f) (a:=a) (oG n f a) hN hex).of_eq e).gd aa (.inl hN) k8 (Nat.pos_of_ne_zero h0) hp.gd.len (hp.gd.bd.more aa)
theorem uO {c:PP} {x y:Rat}:iM (bU c) (bN c) x y=bt c x y:=by
 have e:∀t i,dJ (bN c) t i=bC (aC (cO c i) t):=fun t i=>by
  show bC (dm (cO c i) t)=_
  rw[oL];rfl
 have e2:dm (bN c 0) y=aC (aZ c) y:=oL
 unfold iM bt iN vr
 rw[e2,show dJ (bN c) x=fun i=>bC (aC (cO c i) x)from funext (e x),show dJ (bN c) y=fun i=>bC (aC (cO c i) y)from funext (e y)]
 rfl
def aP:Nat:=68243226
theorem oR:aP=68243226:=rfl
theorem OW:nN 1176605 9412848 0=68243223:=by decide
def Dy (z:Rat):Prop:=∃j,j<=aP/\bS ((2^j:Nat):Int) j z
theorem Dy.ch {c:PP} (h:dL c) {z:Rat} (hz:Dy z):eI (bU c) (bN c) z:=by
 obtain⟨j,h1,h2⟩:=hz
 have hI:=oR
 exact Yl h h2 (by rw[Int.natAbs_natCast];exact Nat.le_refl _) (by have:=Nat.pow_pos (n:=j) (show 0<2 by decide);omega) aa
theorem MW {j:Nat} {x y:Rat} (hx:bS ((2^j:Nat):Int) j x) (hy:bS ((2^j:Nat):Int) j y):bS ((2^(j+1):Nat):Int) (j+1) (cK x y):=by
 obtain⟨z,h1,h2⟩:=hx.add hy
 refine⟨z,?_,h2⟩
 rw[h1,Nat.pow_succ,Int.natCast_mul,Rat.intCast_mul]
 unfold cK
 generalize (((2^j:Nat):Int):Rat)=D
 have:(((2:Nat):Int):Rat)=2:=rfl
 rw[this];grind
theorem Jf {j:Nat} {x:Rat} (hx:bS ((2^j:Nat):Int) j x):bS ((2^(j+1):Nat):Int) (j+1) x:=by
 have:=hx.up (E:=2) (e:=1) (by decide)
 rw[Nat.pow_succ,Int.natCast_mul]
 exact this
theorem tY {x y:Rat} (h:x<y):x<cK x y/\cK x y<y/\cK x y-x=(y-x)*(1/2)/\y-cK x y=(y-x)*(1/2):=by
 unfold cK
 exact⟨by grind,by grind,by grind,by grind⟩
theorem uN {j:Nat} {x:Rat} (hj:j<=aP) (hx:bS ((2^j:Nat):Int) j x):Dy x:=⟨j,hj,hx⟩
structure ju (j:Nat) (x y:Rat):Prop where
 nx:bS ((2^j:Nat):Int) j x
 ny:bS ((2^j:Nat):Int) j y
 w:(y-x)*T2 j=1
 lo:0<=x
 hi:y<=1
theorem ju.lt {j:Nat} {x y:Rat} (h:ju j x y):x<y:=by
 have h1:=mZ j
 have h2:=h.w
 refine Decidable.byContradiction fun hn=>?_
 have:=Rat.mul_nonneg (a:=x-y) (b:=T2 j) (by grind) (by grind)
 grind
theorem ju.IW {j:Nat} {x y:Rat} (h:ju j x y):ju (j+1) x (cK x y)/\ju (j+1) (cK x y) y:=by
 obtain⟨m1,m2,m3,m4⟩:=tY h.lt
 have hw:=h.w
 have h1:=h.lo
 have h2:=h.hi
 exact⟨⟨Jf h.nx,MW h.nx h.ny,by rw[m3,pX];grind,h1,by grind⟩,⟨MW h.nx h.ny,Jf h.ny,by rw[m4,pX];grind,by grind,h2⟩⟩
theorem ju.zero:ju 0 0 1 where
 nx:=.zero
 ny:=⟨1,by decide+kernel,aS⟩
 w:=by unfold T2;rw[Rat.pow_zero];decide+kernel
 lo:=by decide
 hi:=by decide
theorem ju.Xd {c:PP} (hc:dL c) {j:Nat} {x y:Rat} (h:ju j x y) (hj:aP-1<=j):bt c x y=0\/bt c x y=1:=by
 have hD:=oR
 have hE:=OW
 have hw:=h.w
 have hlt:=h.lt
 have t0:T2 0=1:=by unfold T2;rw[Rat.pow_zero]
 refine hc.nU.short (r:=0) ⟨by rw[t0];have:=h.lo;grind,by rw[t0];exact h.hi,hlt⟩ ?_
 have hle:T2 (nN 1176605 9412848 0+1)<=T2 j:=mq (by rw[hE];omega)
 rw[pX]at hle
 have:=Rat.mul_le_mul_of_nonneg_left (c:=y-x) hle (by grind)
 grind
theorem x5 {c:PP} (hc:dL c):∀e j x y,j+e=aP->1<=e->ju j x y->jy (bU c) (bN c) e x y
 |0,_,_,_,_,h,_=>absurd h (by decide)
 |e+1,j,x,y,hj,_,h=>by
  refine⟨(uN aa h.nx).ch hc,(uN aa h.ny).ch hc,fun h0 h1=>?_⟩
  rw[uO]at h0 h1
  rcases Nat.eq_zero_or_pos e with he|he
  ·rcases h.Xd hc aa with h2|h2
   ·exact absurd h2 h0
   ·exact absurd h2 h1
  ·obtain⟨a,b⟩:=h.IW
   have hD:=oR
   have hW:=dI
   exact⟨(a.ny.sz (by have:=Nat.pow_pos (n:=j+1) (show 0<2 by decide);omega) (e:=j+1) (by rw[Int.natAbs_natCast];exact Nat.le_refl _)).more aa,x5 hc e (j+1) _ _ aa he a,x5 hc e (j+1) _ _ aa he b⟩
theorem jy.len {c:PP} (hc:dL c):∀e {x y:Rat},x<y->jy (bU c) (bN c) e x y->((dh (bU c) (bN c) e x y).length:Int)=bt c x y
 |0,_,_,_,h=>h.elim
 |e+1,x,y,hxy,h=>by
  obtain⟨_,_,h3⟩:=h
  unfold dh
  rw[uO]at h3 ⊢
  by_cases h0:bt c x y=0
  ·rw[if_pos h0,h0];rfl
  ·rw[if_neg h0]
   by_cases h1:bt c x y=1
   ·rw[if_pos h1,h1];rfl
   ·obtain⟨_,a,b⟩:=h3 h0 h1
    obtain⟨m1,m2,_⟩:=tY hxy
    have i1:=jy.len hc e m1 a
    have i2:=jy.len hc e m2 b
    have e2:dm (bN c 0) (cK x y)=aC (aZ c) (cK x y):=oL
    rw[if_neg h1,e2,BV m1 m2,List.length_append]
    by_cases h2:aC (aZ c) (cK x y)=0
    ·rw[if_pos h2,if_pos h2,List.length_cons];omega
    ·rw[if_neg h2,if_neg h2];omega
theorem Aw {c:PP}:∀e j x y,j+e=aP->ju j x y->∀s,s∈dh (bU c) (bN c) e x y->Dy s.1/\Dy s.2
 |0,_,_,_,_,_=>fun s hs=>by cases hs
 |e+1,j,x,y,hj,h=>fun s hs=>by
  unfold dh at hs
  have hlt:=h.lt
  have kx:=uN (show j<=aP by omega) h.nx
  have ky:=uN (show j<=aP by omega) h.ny
  obtain⟨a,b⟩:=h.IW
  split at hs
  ·cases hs
  ·split at hs
   ·rw[List.mem_singleton]at hs
    subst hs
    exact⟨by show Dy (iD x y);unfold iD;split<;>assumption,by show Dy (iF x y);unfold iF;split<;>assumption⟩
   ·rcases List.mem_append.1 hs with hs|hs
    ·exact Aw e (j+1) _ _ aa a s hs
    ·split at hs
     ·rcases List.mem_cons.1 hs with hs|hs
      ·subst hs
       exact⟨uN (show j+1<=aP by omega) a.ny,uN (show j+1<=aP by omega) a.ny⟩
      ·exact Aw e (j+1) _ _ aa b s hs
     ·exact Aw e (j+1) _ _ aa b s hs
theorem Bx {c:PP} (h:dL c):∀j,dL (eE c j)
 |0=>h.gcd
 |j+1=>(Bx h j).gcd
theorem Eh:Dy 0:=⟨0,Nat.zero_le _,ju.zero.nx⟩
theorem E8:Dy 1:=⟨0,Nat.zero_le _,ju.zero.ny⟩
theorem G7 {c:PP} {s:Rat×Rat} (hs:s∈gT aP (bU c) (bN c)):Dy s.1/\Dy s.2:=by
 unfold gT at hs
 rcases List.mem_append.1 hs with hs|hs
 ·rcases List.mem_append.1 hs with hs|hs
  ·split at hs
   ·rw[List.mem_singleton]at hs;subst hs;exact⟨Eh,Eh⟩
   ·cases hs
  ·exact Aw aP 0 _ _ (Nat.zero_add _) ju.zero s hs
 ·split at hs
  ·rw[List.mem_singleton]at hs;subst hs;exact⟨E8,E8⟩
  ·cases hs
theorem B7 {l:List (Rat×Rat)} {i:Nat} (h:i<l.length):aU l i∈l:=by
 unfold aU
 rw[List.getD_eq_getElem?_getD,List.getElem?_eq_getElem h]
 exact List.getElem_mem h
theorem HA {c:PP} (hc:dL c):(gT aP (bU c) (bN c)).length<=10:=by
 have h1:=jy.len hc aP (show(0:Rat)<1 by decide) (x5 hc aP 0 0 1 (Nat.zero_add _) (by have:=oR;omega) ju.zero)
 have h2:=L8 hc.nU 0 1
 unfold gT
 rw[List.length_append,List.length_append]
 have a:(if dm (bN c 0) 0=0 then [((0:Rat),(0:Rat))]else []).length<=1:=by split<;>simp
 have b:(if dm (bN c 0) 1=0 then [((1:Rat),(1:Rat))]else []).length<=1:=by split<;>simp
 omega
theorem ac0 {p:PP} (hof:mF p) (hg:(aJ p).1≠0->dL (aJ p)):u5 aP p:=by
 refine⟨hof,fun h0=>?_⟩
 have hc:=hg h0
 have hs:=K0 hc
 have e:bf aP p=gT aP (bU (aJ p)) (bN (aJ p)):=if_neg h0
 rw[e]
 have hl:=HA hc
 refine⟨(Mu hc).1,aa,Eh.ch hc,E8.ch hc,x5 hc aP 0 0 1 (Nat.zero_add _) (by have:=oR;omega) ju.zero,aa,KT hc,fun j _=>?_⟩
 have hj:=Bx hc j
 have hs2:=K0 hj
 refine⟨KT hj,(Mu hj).1,aa,fun i hi=>?_⟩
 obtain⟨a,b⟩:=G7 (B7 hi)
 exact⟨a.ch hj,b.ch hj⟩
def lC (c:PP) (x y:Rat):Bool:=if x=y then decide (dm c x=0)else decide (iM (bU c) (bN c) x y≠0)
theorem Dy.sz {z:Rat} (hz:Dy z):Sz z ah:=by
 obtain⟨j,h1,h2⟩:=hz
 have hD:=oR
 have hW:=dI
 exact(h2.sz (by have:=Nat.pow_pos (n:=j) (show 0<2 by decide);omega) (e:=j) (by rw[Int.natAbs_natCast];exact Nat.le_refl _)).more aa
theorem Uo {a:PP} {s τ:Nat} {T:Int} {t:Rat} (h:Bd a s) (ht:bS T τ t) (hT:T.natAbs<=2^τ) (hT0:T≠0) (hl:a.1<=13) (hs:2*(s+13*(τ+1))+2<=ah):mh a t:=by
 obtain⟨D,d1,d2,d3⟩:=h
 intro m hm
 have h1:=EK d3 ht hT m hm
 have h2:=lz d2 (uA hT m)
 have h3:m*(τ+1)<=13*(τ+1):=Nat.mul_le_mul_right _ aa
 have h4:m*τ<=13*(τ+1):=Nat.mul_le_mul aa aa
 exact((h1.more (show s+m*(τ+1)<=s+13*(τ+1) by omega)).sz (Int.mul_ne_zero d1 (Int.pow_ne_zero hT0)) (Nat.le_trans h2 (Nat.pow_le_pow_right (by decide) (show s+m*τ<=s+13*(τ+1) by omega)))).more aa
theorem Dy.va {c:PP} (h:dL c) {z:Rat} (hz:Dy z):mh c z:=by
 obtain⟨j,h1,h2⟩:=hz
 have hD:=oR
 have hW:=dI
 exact Uo h.bd h2 (by rw[Int.natAbs_natCast];exact Nat.le_refl _) (by have:=Nat.pow_pos (n:=j) (show 0<2 by decide);omega) h.len aa
theorem wz {c:PP} (h:dL c) {x:Rat}:dm (bN c 0) x=0↔dm c x=0:=by
 rw[show dm (bN c 0) x=aC (aZ c) x from oL,show dm c x=aC c x from oL]
 constructor
 ·intro h0
  obtain⟨G,e,_,_,h1,_⟩:=BF h.tr h.p0
  rw[h1,h0,Rat.mul_zero]
 ·exact aeO h.tr h.p0
theorem acw {c:PP} (h:dL c) {x y:Rat}:o9 (bU c) (bN c) x y=lC c x y:=by
 unfold o9 lC
 split
 ·exact decide_eq_decide.2 (wz h)
 ·rw[uO]
  have:=h.nU.vu x y
  exact decide_eq_decide.2 ⟨fun h=>aa,fun h=>aa⟩
theorem An {c:PP} (hc:dL c):∀e {x y:Rat},x<y->∀s,s∈dh (bU c) (bN c) e x y->s.1<=s.2/\lC c s.1 s.2=true/\x<=s.1/\s.2<=y
 |0,_,_,_=>fun s hs=>by cases hs
 |e+1,x,y,hxy=>fun s hs=>by
  unfold dh at hs
  obtain⟨m1,m2,_⟩:=tY hxy
  have pt:dm (bN c 0) (cK x y)=0->lC c (cK x y) (cK x y)=true:=fun h=>by
   unfold lC;rw[if_pos rfl];exact decide_eq_true ((wz hc).1 h)
  split at hs
  ·cases hs
  ·split at hs
   ·rename_i h1
    rw[List.mem_singleton,show iD x y=x from if_neg (by grind),show iF x y=y from if_pos hxy]at hs
    subst hs
    refine⟨Rat.le_of_lt hxy,?_,Rat.le_refl,Rat.le_refl⟩
    unfold lC
    rw[if_neg (by grind),h1];rfl
   ·rcases List.mem_append.1 hs with hs|hs
    ·obtain⟨a,b,c1,d⟩:=An hc e m1 s hs
     exact⟨a,b,c1,by grind⟩
    ·split at hs
     ·rename_i h2
      rcases List.mem_cons.1 hs with hs|hs
      ·subst hs
       exact⟨Rat.le_refl,pt h2,by grind,by grind⟩
      ·obtain⟨a,b,c1,d⟩:=An hc e m2 s hs
       exact⟨a,b,by grind,d⟩
     ·obtain⟨a,b,c1,d⟩:=An hc e m2 s hs
      exact⟨a,b,by grind,d⟩
theorem Mc {c:PP} (hc:dL c) {s:Rat×Rat} (hs:s∈gT aP (bU c) (bN c)):s.1<=s.2/\lC c s.1 s.2=true:=by
 have pt:∀z,dm (bN c 0) z=0->lC c z z=true:=fun z h=>by unfold lC;rw[if_pos rfl];exact decide_eq_true ((wz hc).1 h)
 unfold gT at hs
 rcases List.mem_append.1 hs with hs|hs
 ·rcases List.mem_append.1 hs with hs|hs
  ·split at hs
   ·rename_i h;rw[List.mem_singleton]at hs;subst hs;exact⟨Rat.le_refl,pt _ h⟩
   ·cases hs
  ·have:=An hc aP (show(0:Rat)<1 by decide) s hs
   exact⟨this.1,this.2.1⟩
 ·split at hs
  ·rename_i h;rw[List.mem_singleton]at hs;subst hs;exact⟨Rat.le_refl,pt _ h⟩
  ·cases hs
end Go.Am.B
