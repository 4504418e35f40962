/- Spline.Over, Spline.Insert, curve.back. -/
import Derived.Test.YtgfjdngnneoeoaaGreatY44
import Derived.Test.YtgfjdngnneoeoaaGreatY42
import Derived.Test.YtgfjdngnneoeoaaGreatY41
import Derived.Test.YtgfjdngnneoeoaaGreatZ2
set_option linter.unusedVariables false
noncomputable section
namespace Go.Am.B
open Go Go.Am.N AV ag ak IntKind Proofs.Tryz
theorem aez:aW 189 f189:=aN func189
theorem XD:aW 156 f156:=aN func156
def o7 (c:Cu) (n:Nat) (k:Nat->Rat) (j:Nat):Pl:=pR c (kq c.n c.k (k (iy k n j))) c.p.toNat (fun q=>k (q+(j+1)))
def k8 (c:Cu) (n:Nat) (k:Nat->Rat):Cu:=⟨c.p,n,k,n-c.p.toNat-1,o7 c n k⟩
def zm:aU:=nG::(186,zR)::(201,FQ)::(202,M5)::(203,Kj)::eO
abbrev wW:List Nat:=[1,2,4,5,17,18]
abbrev Dg (n m:Nat) (k:Nat->Rat) (j:Nat):List AV:=[ls k n,.ptr 0 0 3 0 [],.ptr 1 0 3 0 [],.ptr 2 0 3 0 [],.int .i64 m,.int .i64 j]
abbrev D4 (c:Cu) (n:Nat) (k:Nat->Rat) (h:Nat->Pl) (j:Nat):aD:=[(3,⟨true,true,12,j,fun i=>cu (h i) sB⟩),(2,⟨false,true,3,1,fun _=>.agg [.int .i64 c.p,ls k n,.own 3 12 0 j]⟩),(1,⟨false,true,3,1,fun _=>.agg [.int .i64 0,.nil,.nil]⟩),(0,yB c sK)]
abbrev vg:Code:=aF f189
theorem Dk {f:Nat->Pl} {m s s':Nat} (h:s<=s'):qw (fun i=>cu (f i) s) m s':=fun _ _=>Ml rfl h
def GK:Spec:=cP (kC (zF sK sK) (kC (kL sK) kN)) (fun a=>fB (k8 a.1 a.2.1.1 a.2.1.2) sK sB) fun a=>[Kn a.1.n a.1.p.toNat a.1.k,1<=a.1.p,a.1.p<=6,a.1.n<2^40,a.1.m<2^40,a.2.1.1<2^29,a.1.p+1<=a.2.1.1]
abbrev wX:List Nat:=[2,3,13,14,15]
abbrev BD (c:Cu) (i:Nat):List AV:=[.ptr 0 0 3 0 [],.ptr 1 0 3 0 [],qR c.f c.m sB,.int .i64 c.m,.int .i64 i]
abbrev Cg (c:Cu) (i:Nat):aD:=[(2,⟨true,true,12,i,fun j=>aK (hU (c.f j)) (sB+sB)⟩),(1,⟨false,true,3,1,fun _=>.agg [.int .i64 c.p,bp c.k c.n (sK+10),.own 2 12 0 i]⟩),(0,⟨false,true,3,1,fun _=>.agg [.int .i64 0,.nil,.nil]⟩)]
abbrev wK:Code:=aF f156
def Nn:Spec:=cP (kC (TW sB) kN) (fun a=>aK (hU a.1) (sB+sB)) fun _=>[]
def xp:aU:=nG::(149,CI sK (sK+10))::(188,Nn)::[]
theorem afk {c:Cu} {n:Nat} {k:Nat->Rat}:aM T zm [] 60 wW (before vg [1,1,0,1]) ⟨aT 0 [fB c sK sK,ls k n],[],0⟩=
  let c3:Nat:=(bK (fB c sK sK)).size;let c2:Prop:=0<1;let c1:AV:=agg [int i64 0,nil,nil];some (aj [c2,c2] (aj [c2,bT (fun i=>rat (k i) sK) n sK,n<2^40,-(2:Int)^40<c.p,c.p<2^40] (leaf normal ([aq 3 n fun i=>rat (k i) 4096,ptr 0 0 c3 0 [],ptr 4096 0 3 0 [],ptr 24576 0 3 0 [],int i64 ((↑n:Int)-c.p-1),int i64 0],[((24576:Nat),bN fun j=>if(j==0)=true then bK (agg ((c1.kids.set 0 (bK (int i64 c.p))).set 1 (bK (ls k n))))else c1),((4096:Nat),bN fun x=>c1),(0,az.mk false true c3 1 fun x=>agg [int i64 c.p,aq 3 c.n fun i=>rat (c.k i) 4096,aq 12 c.m fun i=>cu (c.f i) 4096])])))):=ah
theorem Ut {c:Cu} {n m j:Nat} {k:Nat->Rat} {h:Nat->Pl}:aM T zm [19] 60 wW [part vg [1,1,0,1,0,0]] ⟨aH wW (Dg n m k j),D4 c n k h j,4⟩=
  let cH:Int:=(↑m:Int);let c18:Prop:=bT (fun i=>rat (c.k i) sK) c.n sK;let c17:AV:=ptr 2 0 3 0 [];let c16:AV:=ptr 1 0 3 0 [];let c15:AV:=ptr 0 0 3 0 [];let c14:Nat:=2^40;let c13:AV:=rat 0 1;let c12:Int:=(↑j:Int);let c10:AV:=own 3 12 0 j;let c9:AV:=aq 3 n fun i=>rat (k i) 4096;let c8:Prop:=0<1;let c6:Int:=(2:Int)^63;let c5:Cu:=Cu.mk c.p c.n (fun i=>aC (rat (c.k i) sK)) c.m fun i=>qD (cu (c.f i) sK);let c2:List (Nat×az):=[((1:Nat),bN fun x=>agg [int i64 0,nil,nil]),((0:Nat),bN fun x=>agg [int i64 c.p,aq 3 c.n fun i=>rat (c.k i) 4096,aq 12 c.m fun i=>cu (c.f i) 4096])];let c19:AV:=agg [int i64 c.p,ls k n,c10];let c7:Int:=(↑(iy (fun i=>aC (rat (k i) sK)) n c12.toNat):Int);let c4:Int:=c12+c.p+1;let c3:Int:=c12+1;let c11:Nat:=c4.toNat-c3.toNat;let c1:Int:=(↑(kq c.n (fun i=>aC (rat (c.k i) sK)) (k c7.toNat)):Int);some (fork (decide (c12<cH)) (aj [bT (fun i=>rat (k i) sK) n sK,(0:Int)<=c12,c12<=(↑n:Int),n<c14] (aj [c8,c8,(0:Int)<=c7/\c7.toNat<n,c18,sK<=sK,Kn c.n c.p.toNat fun i=>aC (rat (c.k i) sK),(0:Int)<=c.p,c.n<c14] (aj [c8,c8,-c6<=c3/\c3<c6,c8,-c6<=c12+c.p/\c12+c.p<c6,-c6<=c4/\c4<c6,(0:Int)<=c3/\c3<=c4/\c4<=c4/\c4<=(↑n:Int),c18,qw (fun i=>cu (c.f i) sK) c.m sK,bT (fun i=>rat (k (i+c3.toNat)) sK) c11 sK,(1:Int)<=c.p,c.p<=6,c.n<c14,c.m<c14,-(2:Int)^40<c1,c1<2^40,(1:Nat)*12<=2^24,(j+1)*((224:Nat)+1)*2<=2^47,c8] (aj [-c6<=c3/\c3<c6] (leaf normal ([c9,c15,c16,c17,int i64 cH,int i64 c3],(147460,az.mk true true 12 (j+1) fun i=>if i<j then cu (h i) sB else nth [agg [rat (iQ c5 c1 c11 (fun i=>aC (rat (k (i+c3.toNat)) sK)) 0) sB,rat (iQ c5 c1 c11 (fun i=>aC (rat (k (i+c3.toNat)) sK)) 1) sB,rat (iQ c5 c1 c11 (fun i=>aC (rat (k (i+c3.toNat)) sK)) 2) sB,rat (iQ c5 c1 c11 (fun i=>aC (rat (k (i+c3.toNat)) sK)) 3) sB]] (agg [c13,c13,c13,c13]) (i-j+0))::((2:Nat),bN fun j_1=>if(j_1==0)=true then agg (c19.kids.set 2 (bK (own (nat_lit 147459+1) 12 0 (j+1))))else c19)::c2)))))) (leaf (exit 0) ([c9,c15,c16,c17,int i64 cH,int i64 c12],(3,az.mk true true 12 j fun i=>cu (h i) 536870912)::((2:Nat),bN fun x=>agg [int i64 c.p,c9,c10])::c2))):=ah
theorem Sk {c:Cu} {n m j:Nat} {k:Nat->Rat} {h:Nat->Pl}:cR T zm [] 60 f189 [part vg [1,1,1]] ⟨aH wW (Dg n m k j),D4 c n k h j,4⟩=
  let c1:Prop:=0<1;some (aj [c1,c1] (aj [c1] (leaf ret [agg [int i64 c.p,aq 3 n fun i=>rat (k i) 4096,aq 12 j fun i=>cu (h (i+0)) 536870912]]))):=ah
theorem ab4 {c:Cu}:aM T xp [] 60 wX (before wK [1,1,0,1]) ⟨aT 0 [fB c sK sB],[],0⟩=
  let c3:Nat:=sK+10;let c2:Prop:=0<1;let c1:AV:=agg [int i64 0,nil,nil];some (aj [c2,c2,bT (fun i=>rat (c.k i) sK) c.n sK,c3<=c3,c3<2^40,c.n<2^40,c2] (aj [c2] (leaf normal ([ptr 4096 0 3 0 [],ptr 32768 0 3 0 [],aq 12 c.m fun i=>cu (c.f i) 536870912,int i64 (↑c.m:Int),int i64 0],[((32768:Nat),bN fun j=>if(j==0)=true then bK (agg ((c1.kids.set 0 (bK (int i64 c.p))).set 1 (bK (bp (fun i=>aC (rat (c.k i) sK)) c.n c3))))else c1),((4096:Nat),bN fun x=>c1)])))):=ah
theorem afe {c:Cu} {i:Nat}:aM T xp [16] 60 wX [part wK [1,1,0,1,0,0]] ⟨aH wX (BD c i),Cg c i,3⟩=
  let c11:Int:=(↑c.m:Int);let c10:AV:=own 2 12 0 i;let c9:AV:=ptr 1 0 3 0 [];let c8:AV:=ptr 0 0 3 0 [];let c7:Prop:=0<1;let c6:Int:=(↑i:Int);let c5:AV:=rat 0 1;let c4:Nat×az:=((0:Nat),bN fun x=>agg [int i64 0,nil,nil]);let c1:AV:=aq 12 c.m fun i=>cu (c.f i) 536870912;let c12:Int:=c6+1;let c3:AV:=agg [int i64 c.p,bp c.k c.n (sK+10),c10];let c2:Pl:=c.f c6.toNat;some (fork (decide (c6<c11)) (aj [(0:Int)<=c6/\c6.toNat<c.m,c7] (aj [c7,c7,sB<=sB,sB<=sB,sB<=sB,sB<=sB,(1:Nat)*12<=2^24,(i+1)*((224:Nat)+1)*2<=2^47,c7] (aj [-(2:Int)^63<=c12/\c12<2^63] (leaf normal ([c8,c9,c1,int i64 c11,int i64 c12],[(40963,az.mk true true 12 (i+1) fun i_1=>if i_1<i then aK (hU (c.f i_1)) (sB+sB)else nth [agg [agg [rat (c2.n.x/c2.d) (sB+sB),rat (c2.n.y/c2.d) (sB+sB),rat (c2.n.z/c2.d) (sB+sB)],rat c2.d (sB+sB)]] (agg [agg [c5,c5,c5],c5]) (i_1-i+0)),((1:Nat),bN fun j=>if(j==0)=true then agg (c3.kids.set 2 (bK (own (nat_lit 40962+1) 12 0 (i+1))))else c3),c4]))))) (leaf (exit 0) ([c8,c9,c1,int i64 c11,int i64 c6],[(2,az.mk true true 12 i fun j=>agg [agg [rat ((c.f j).n.x/(c.f j).d) 1073741824,rat ((c.f j).n.y/(c.f j).d) 1073741824,rat ((c.f j).n.z/(c.f j).d) 1073741824],rat (c.f j).d 1073741824]),((1:Nat),bN fun x=>agg [int i64 c.p,aq 3 c.n fun i=>rat (c.k i) 4106,c10]),c4]))):=ah
theorem aaY {c:Cu} {i:Nat}:cR T xp [] 60 f156 [part wK [1,1,1]] ⟨aH wX (BD c i),Cg c i,3⟩=
  let c1:Prop:=0<1;some (aj [c1,c1] (aj [c1] (leaf ret [agg [int i64 c.p,aq 3 c.n fun i=>rat (c.k i) 4106,aq 12 i fun i=>agg [agg [rat ((c.f (i+0)).n.x/(c.f (i+0)).d) 1073741824,rat ((c.f (i+0)).n.y/(c.f (i+0)).d) 1073741824,rat ((c.f (i+0)).n.z/(c.f (i+0)).d) 1073741824],rat (c.f (i+0)).d 1073741824]]]))):=ah
theorem NB {k:Nat->Rat} {n:Nat}:∀{f i:Nat},i<n->pX k n f i<n
 |0,_,h=>h
 |f+1,i,h=>by
  unfold pX
  split
  ·exact NB aa
  ·exact h
theorem W7 {k:Nat->Rat} {n i:Nat} (h:i<n):iy k n i<n:=NB h
theorem Uj {n p:Nat} {k:Nat->Rat} (h:Kn n p k) {t:Rat}:kq n k t<n:=by
 have hl:=h.len
 unfold kq
 split
 ·omega
 ·have:=h.Pt ‹_›
  omega
theorem aau:aZ P zm:=eV (aE Ay (aE Tw (aE adx (aE acD fq))))
theorem ac5 {c:Cu} {n:Nat} {k:Nat->Rat} (hk:Kn c.n c.p.toNat c.k) (hp1:1<=c.p) (hp6:c.p<=6) (hn:c.n<2^40) (hm2:c.m<2^40) (hn2:n<2^29) (hpn:c.p+1<=n) (K:Nat):aO P 189 K [fB c sK sK,ls k n] [] (aI (fB (k8 c n k) sK sB) []):=by
 obtain⟨q,hq⟩:∃q,q=c.p.toNat:=⟨_,rfl⟩
 have hqp:c.p=(q:Int):=aa
 refine iJ (r:=aI (fB (k8 c n k) sK sB) []) hT aau hm aez rfl aV rfl [1,1,0,1] (i:=0) (y:=part vg [1,1,0,1,0,0]) (z:=part vg [1,1,1]) ah ah ah (f1:=[]) (f2:=[19]) (f3:=[]) 60 wW 4
  (fun j:Nat=>Dg n (n-c.p.toNat-1) k j) (fun j=>D4 c n k (o7 c n k) j) (fun j=>j<=n-c.p.toNat-1) (fun j=>j=n-c.p.toNat-1) (fun j=>n-c.p.toNat-1-j) (fun _=>⟨⟨_,afk,?_⟩,fun j hj=>⟨_,Ut,?_⟩,fun j hj=>⟨_,Sk,?_⟩⟩) K []
 ·have e1:(n:Int)-c.p-1=((n-c.p.toNat-1:Nat):Int):=aa
  simp only[ag.all,au,e1]
  exact⟨⟨aa,aa⟩,⟨aa,dh bq,aa,aa,aa⟩,0,Nat.zero_le _,[(0,0),(1,4096),(2,24576)],rfl,rfl,rfl,lD rfl aa aa (ff rfl rfl (me ⟨aQ,aQ,⟨rfl,pE aa⟩,trivial⟩) (bf (bf trivial)))⟩
 ·have e1:((j:Int)+1).toNat=j+1:=aa
  have e2:((j:Int)+c.p+1).toNat=j+q+1:=aa
  have e3:j+q+1-(j+1)=q:=aa
  simp only[ag.all,au,bz,bF,bw,e1,e2,e3,Nat.add_zero]
  have h7:iy (fun i=>aC (rat (k i) sK)) n j=iy k n j:=rfl
  have h8:∀t,kq c.n (fun i=>aC (rat (c.k i) sK)) t=kq c.n c.k t:=fun _=>rfl
  simp only[h7,h8]
  refine⟨fun h=>?_,fun h=>⟨rfl,j,aa,[(0,0),(1,1),(2,2),(3,3)],rfl,rfl,rfl,mm (ff rfl rfl (tu rfl rfl rfl) (bf (bf trivial)))⟩⟩
  have h1:=W7 (k:=k) (n:=n) (i:=j) aa
  have h2:=Uj hk (t:=k (iy k n j))
  (repeat' with_reducible refine And.intro ?_ ?_)
  all_goals first|omega|exact dh bq|exact hk|exact fun _ _=>.refl _|skip
  refine⟨j+1,aa,by dsimp only;omega,[(0,0),(1,1),(2,2),(3,147460)],rfl,rfl,rfl,cI rfl rfl rfl (fun j' hj'=>yM (g:=fun j=>cu (o7 c n k j) sB) (fun _ _=>⟨rfl,rfl⟩) rfl ?_ hj') (ff rfl rfl (tu rfl rfl rfl) (bf (bf trivial)))⟩
  exact Ml (h:=pR c (kq c.n c.k (k (iy k n j))) q (fun q=>k (q+(j+1)))) (by unfold o7;rw[hq]) bq
 ·subst hj
  simp only[ag.all,au]
  exact⟨⟨aa,aa⟩,aa,.refl _⟩
theorem afM:aY P GK 189:=cC fun⟨c,⟨n,k⟩,_⟩ K hn=>ac5 hn.1 hn.2.1 hn.2.2.1 hn.2.2.2.1 hn.2.2.2.2.1 hn.2.2.2.2.2.1 hn.2.2.2.2.2.2 K
theorem Pb:aY P Nn 188:=cC fun⟨h,_⟩ K _=>Oj (by decide) (by decide) (by decide) K
theorem Zv:aZ P xp:=eV (aE (Gd _ _) (aE Pb bA))
theorem Y0 {c:Cu} (hn:c.n<2^40) (hm2:c.m<2^29) (K:Nat):aO P 156 K [fB c sK sB] [] (aI (bh ⟨c.p,c.n,c.k,c.m,fun i=>hU (c.f i)⟩ (sK+10) (sB+sB)) []):=by
 refine iJ (r:=aI (bh ⟨c.p,c.n,c.k,c.m,fun i=>hU (c.f i)⟩ (sK+10) (sB+sB)) []) hT Zv hm XD rfl aV rfl [1,1,0,1] (i:=0) (y:=part wK [1,1,0,1,0,0]) (z:=part wK [1,1,1]) ah ah ah (f1:=[]) (f2:=[16]) (f3:=[]) 60 wX 3
  (fun i:Nat=>BD c i) (fun i=>Cg c i) (fun i=>i<=c.m) (fun i=>i=c.m) (fun i=>c.m-i) (fun _=>⟨⟨_,ab4,?_⟩,fun i hi=>⟨_,afe,?_⟩,fun i hi=>⟨_,aaY,?_⟩⟩) K []
 ·simp only[ag.all,au]
  exact⟨⟨aa,aa,dh bq,aa,by decide,aa,aa⟩,aa,0,Nat.zero_le _,[(0,4096),(1,32768)],rfl,rfl,rfl,lD rfl aa aa (ff rfl rfl (me ⟨aQ,aQ,⟨rfl,pE aa⟩,trivial⟩) (bf trivial))⟩
 ·simp only[ag.all,au,bz,bF,bw,Nat.add_zero]
  refine⟨fun h=>?_,fun h=>⟨rfl,i,aa,[(0,0),(1,1),(2,2)],rfl,rfl,rfl,mm (ff rfl rfl (tu rfl rfl rfl) (bf trivial))⟩⟩
  (repeat' with_reducible refine And.intro ?_ ?_)
  all_goals first|omega|exact Nat.le_refl _|skip
  exact⟨i+1,aa,by dsimp only;omega,[(0,0),(1,1),(2,40963)],rfl,rfl,rfl,cI rfl rfl rfl (fun j hj=>yM (g:=fun j=>aK (hU (c.f j)) (sB+sB)) (fun _ _=>⟨rfl,rfl⟩) rfl (.refl _) hj) (ff rfl rfl (tu rfl rfl rfl) (bf trivial))⟩
 ·subst hi
  simp only[ag.all,au]
  exact⟨⟨aa,aa⟩,aa,.refl _⟩
def HH:Spec:=cP (kC (zF sK sB) kN) (fun a=>bh ⟨a.1.p,a.1.n,a.1.k,a.1.m,fun i=>hU (a.1.f i)⟩ (sK+10) (sB+sB)) fun a=>[a.1.n<2^40,a.1.m<2^29]
theorem YC:aY P HH 156:=cC fun⟨c,_⟩ K hn=>Y0 hn.1 hn.2 K
def Jk:Spec:=cP (kC (gE 2000 2000) kN) (fun a=>fB ⟨a.1.p,a.1.n,a.1.k,a.1.m,fun i=>cY (a.1.f i)⟩ 2000 4000) fun a=>[a.1.n<2^40,a.1.m<2^30]
def jI (c:Cu) (t:Rat):Int:=if¬(c.k 0<t/\t<c.k (c.n-1))then 7 else if c.p<=(bS c.k t c.n:Int)then 5 else if 40<=c.m then 2 else 0
def Zr:Cu:=⟨0,0,fun _=>0,0,fun _=>⟨⟨0,0,0⟩,0⟩⟩
theorem RF:aY P Jk 155:=cC fun⟨c,_⟩ K hn=>acr (by decide) (by decide) (by decide) hn.1 hn.2 K
def ey (k:Nat->Rat) (j:Nat):Nat->Int
 |0=>-1
 |l+1=>if k (j+l)=k (j+l+1)then ey k j l else(j+l:Nat)
theorem JO {k:Nat->Rat} {j:Nat}:∀{l:Nat},k j≠k (j+l)->∃P:Nat,ey k j l=(P:Int)/\j<=P/\P<j+l/\k P≠k (P+1)
 |0,h=>absurd rfl h
 |l+1,h=>by
  unfold ey
  by_cases he:k (j+l)=k (j+l+1)
  ·rw[if_pos he]
   obtain⟨P,h1,h2,h3,h4⟩:=JO (k:=k) (j:=j) (l:=l) (by rw[he];exact h)
   exact⟨P,h1,h2,by omega,h4⟩
  ·rw[if_neg he]
   exact⟨j+l,rfl,by omega,by omega,he⟩
theorem Kn.piece {n p:Nat} {k:Nat->Rat} (h:Kn n p k) {j:Nat} (hj:j+p+1<n):∃P:Nat,ey k j (p+1)=(P:Int)/\j<=P/\P<=j+p/\k P<k (P+1)/\p<=P/\P+p+1<n:=by
 have hp:=h.p1
 have hne:k j≠k (j+(p+1)):=by
  have hlt:k j<k (j+(p+1)):=by
   by_cases h0:j=0
   ·subst h0
    have hl:=h.len
    have a1:=h.mult 1 (by omega) (by omega)
    rw[h.first 1 (by omega),show 1+p=0+(p+1) by omega]at a1
    exact a1
   ·have a1:=h.mult j (by omega) (by omega)
    have a2:=h.mono (show j+p<=j+(p+1) by omega) (by omega)
    grind
  grind
 obtain⟨P,h1,h2,h3,h4⟩:=JO hne
 have hs:=h.sorted P (by omega)
 refine⟨P,h1,h2,by omega,by grind,?_,?_⟩
 ·rcases Nat.lt_or_ge P p with hh|hh
  ·exact absurd (by rw[h.first P (by omega),h.first (P+1) (by omega)]) h4
  ·exact hh
 ·rcases Nat.lt_or_ge (P+p+1) n with hh|hh
  ·exact hh
  ·exact absurd (by rw[h.last P (by omega) (by omega),h.last (P+1) (by omega) (by omega)]) h4
theorem Cn {k:Nat->Rat} {c:Nat}:∀{l a:Nat},b7 (fun i=>k (c+i)) a l=b7 k (c+a) l
 |0,_=>rfl
 |l+1,a=>by rw[b7,b7,Cn];rfl
theorem wm {f g:Nat->Rat}:∀{l a:Nat},(∀i,a<=i->i<a+l->f i=g i)->b7 f a l=b7 g a l
 |0,_,_=>rfl
 |l+1,a,h=>by rw[b7,b7,h a (by omega) (by omega),wm fun i h1 h2=>h i (by omega) (by omega)]
variable {k:Nat->Rat} {b p:Nat}
theorem Z8 {a c u v f:Rat}:fr a c (u+f*(v-u))=fr a c u+f*(fr a c v-fr a c u):=by
 unfold fr
 rw[Rat.div_def,Rat.div_def (u-a),Rat.div_def (v-a)]
 generalize (c-a)⁻¹=q
 grind
theorem KB {f:Rat}:∀{l:List Rat} {r:Nat} {x y:Nat->Rat} {j:Nat},bl k b p r (fun j=>x j+f*(y j-x j)) l j=bl k b p r x l j+f*(bl k b p r y l j-bl k b p r x l j)
 |[],_,_,_,_=>rfl
 |t::l,r,x,y,j=>by
  rw[bl,bl,bl,<-KB (l:=l)]
  congr 1
  funext j
  unfold gR
  split<;>grind
theorem LM {u v f:Rat} {l:List Rat} {x:Nat->Rat} (hl:l.length+1=p):bl k b p 0 x ((u+f*(v-u))::l) p=bl k b p 0 x (u::l) p+f*(bl k b p 0 x (v::l) p-bl k b p 0 x (u::l) p):=by
 rw[bl,bl,bl,<-KB]
 refine Bh (by omega) fun j h1 _=>?_
 simp only[gR]
 rw[if_pos (by omega),if_pos (by omega),if_pos (by omega),Z8];grind
theorem Cb {a c t:Rat} (h:a<c):a+fr a c t*(c-a)=t:=by rw[mF h];grind
def dB (k:Nat->Rat) (t:Rat) (q j:Nat):Rat:=if j<q then k j else if j=q then t else k (j-1)
theorem iC {t:Rat} {q j:Nat} (h:j<q):dB k t q j=k j:=if_pos h
theorem mG {t:Rat} {q:Nat}:dB k t q q=t:=by unfold dB;rw[if_neg (by omega),if_pos rfl]
theorem iI {t:Rat} {q j:Nat} (h:q<j):dB k t q j=k (j-1):=by unfold dB;rw[if_neg (by omega),if_neg (by omega)]
theorem Ec {f g:Nat->Rat}:∀{l a:Nat},(∀i,a+1<=i->i<a+1+l->f i=g (i-1))->b7 f (a+1) l=b7 g a l
 |0,_,_=>rfl
 |l+1,a,h=>by
  rw[b7,b7,h (a+1) (Nat.le_refl _) (by omega),Ec (l:=l) (a:=a+1) fun i h1 h2=>h i (by omega) (by omega)];rfl
theorem vP {n:Nat} {P J:Nat} {x:Nat->Rat} (h:At n k P) (hP:p<=P) (hP2:P+p<n) (h1:P<=J+p) (h2:J<=P):bl k (P-p) p 0 (fun q=>x (P-p+q)) (b7 k (J+1) p) p=x J:=by
 have:=Rv (k:=k) (b:=P-p) (p:=p) (n:=n) (by rwa [show P-p+p=P by omega]) (by omega) (J:=J-(P-p)) (by omega) (x:=fun q=>x (P-p+q))
 rw[show P-p+(J-(P-p))=J by omega]at this
 exact this
theorem Rs {n:Nat} {x:Nat->Rat} {t:Rat} {a j P:Nat} (hs:∀i,i+1<n->k i<=k (i+1)) (hp:1<=p) (hlo:k a<=t) (hhi:t<k (a+1)) (ha:p<=a) (h:At n k P) (hP:p<=P) (hP2:P+p<n)
  (h1:j+p<=a->j<=P/\P<=j+p) (h2:a<j->j<=P+1/\P+1<=j+p) (h3:a<j+p->j<=a->j<=P/\P+1<=j+p):
  bl k (P-p) p 0 (fun q=>x (P-p+q)) (b7 (dB k t (a+1)) (j+1) p) p=if j+p<=a then x j else if a<j then x (j-1)else x (j-1)+fr (k j) (k (j+p)) t*(x j-x (j-1)):=by
 by_cases c1:j+p<=a
 ·obtain⟨g1,g2⟩:=h1 c1
  rw[if_pos c1,wm (g:=k) fun i _ hi=>iC (by omega)]
  exact vP h hP hP2 g2 g1
 ·rw[if_neg c1]
  by_cases c2:a<j
  ·obtain⟨g1,g2⟩:=h2 c2
   rw[if_pos c2,Ec (g:=k) fun i hi _=>iI (by omega)]
   have:=vP (x:=x) (J:=j-1) h hP hP2 (by omega) (by omega)
   rwa [show j-1+1=j by omega]at this
  ·obtain⟨g1,g2⟩:=h3 (by omega) (by omega)
   rw[if_neg c2]
   have hA:At n k (P-p+p):=by rwa [show P-p+p=P by omega]
   have e1:b7 (dB k t (a+1)) (j+1) p=b7 k (j+1) (a-j)++t::b7 k (a+1) (j+p-a-1):=by
    have:=zV (t:=dB k t (a+1)) (l:=a-j) (a:=j+1) (m:=(j+p-a-1)+1)
    rw[show a-j+(j+p-a-1+1)=p by omega,show j+1+(a-j)=a+1 by omega]at this
    rw[this,wm (g:=k) (fun i _ hi=>iC (by omega)),b7,mG,Ec (g:=k) fun i hi _=>iI (by omega)]
   have e2:b7 k (j+1) (p-1)=b7 k (j+1) (a-j)++b7 k (a+1) (j+p-a-1):=by
    have:=zV (t:=k) (l:=a-j) (a:=j+1) (m:=j+p-a-1)
    rw[show a-j+(j+p-a-1)=p-1 by omega,show j+1+(a-j)=a+1 by omega]at this
    exact this
   have hw:k j<k (j+p):=by
    have m1:=gB hs (show j<=a by omega) (show a<n by omega)
    have m2:=gB hs (show a+1<=j+p by omega) (show j+p<n by omega)
    grind
   have q1:(b7 (dB k t (a+1)) (j+1) p).Perm (t::b7 k (j+1) (p-1)):=by rw[e1,e2];exact List.perm_middle
   rw[zl hA (by omega) q1 (by rw[lI];omega),<-Cb (t:=t) hw,LM (by rw[lI];omega)]
   have d1:=vP (x:=x) (J:=j-1) h hP hP2 (by omega) (by omega)
   rw[show j-1+1=j by omega,show p=p-1+1 by omega,b7]at d1
   have d2:=vP (x:=x) (J:=j) h hP hP2 (by omega) (by omega)
   have q2:(b7 k (j+1) p).Perm (k (j+p)::b7 k (j+1) (p-1)):=by
    have:=xI (t:=k) (l:=p-1) (a:=j+1)
    rw[show p-1+1=p by omega,show j+1+(p-1)=j+p by omega]at this
    rw[this];exact List.perm_append_singleton _ _
   rw[zl hA (by omega) q2 (by rw[lI];omega)]at d2
   rw[show p-1+1=p by omega]at d1
   rw[d1,d2,Cb hw]
theorem Hq {n:Nat} {G:List Rat->Rat} (hsym:∀{l m:List Rat},l.Perm m->l.length=p->G l=G m) (haff:∀{u v f:Rat} {l:List Rat},l.length+1=p->G ((u+f*(v-u))::l)=G (u::l)+f*(G (v::l)-G (u::l)))
  (h:At n k (b+p)) (hn:b+p+p<n):∀{l d:List Rat} {r:Nat} {y:Nat->Rat},d.length=r->r+l.length=p->(∀j,r<=j->j<=p->y j=G (d++b7 k (b+j+1) (p-r)))->bl k b p r y l p=G (d++l)
 |[],d,r,y,hd,hl,hy=>by
  have:=hy p (by simp at hl;omega) (Nat.le_refl _)
  rw[show p-r=0 by simp at hl;omega]at this
  exact this
 |t::l,d,r,y,hd,hl,hy=>by
  simp only[List.length_cons]at hl
  have hdt:(d++[t]).length=r+1:=by simp[hd]
  have:=Hq hsym haff h hn (l:=l) (d:=d++[t]) (r:=r+1) (y:=gR k b p r t y) hdt (by omega) fun j h1 h2=>by
   unfold gR
   rw[if_pos (by omega),hy j (by omega) h2,hy (j-1) (by omega) (by omega)]
   have hw:=h.around (a:=b+j) (b:=b+j+(p-r)) (by omega) (by omega) (by omega)
   have e1:(d++b7 k (b+(j-1)+1) (p-r)).Perm (k (b+j)::(d++b7 k (b+j+1) (p-(r+1)))):=by
    rw[show b+(j-1)+1=b+j by omega,show p-r=p-(r+1)+1 by omega,b7];exact List.perm_middle
   have e2:(d++b7 k (b+j+1) (p-r)).Perm (k (b+j+(p-r))::(d++b7 k (b+j+1) (p-(r+1)))):=by
    rw[show p-r=p-(r+1)+1 by omega,xI,show b+j+1+(p-(r+1))=b+j+(p-(r+1)+1) by omega,<-List.append_assoc];exact List.perm_append_singleton _ _
   have e3:(d++[t]++b7 k (b+j+1) (p-(r+1))).Perm (t::(d++b7 k (b+j+1) (p-(r+1)))):=by
    rw[List.append_assoc];exact List.perm_middle
   have hlen:(d++b7 k (b+j+1) (p-(r+1))).length+1=p:=by rw[List.length_append,lI,hd];omega
   rw[hsym e1 (by rw[List.length_append,lI,hd];omega),hsym e2 (by rw[List.length_append,lI,hd];omega),hsym e3 (by rw[List.length_append,lI,hdt];omega),<-haff hlen,Cb hw]
  rw[bl,this,List.append_assoc];rfl
def j4 (k:Nat->Rat) (p:Nat) (x:Nat->Rat) (P:Nat) (l:List Rat):Rat:=bl k (P-p) p 0 (fun q=>x (P-p+q)) l p
theorem NZ {n N:Nat} {K X x:Nat->Rat} {P Q:Nat} (h:At n k P) (hP:p<=P) (hP2:P+p<n) (H:At N K Q) (hQ:p<=Q) (hQ2:Q+p<N) (hx:∀J,J<=Q->Q<=J+p->X J=j4 k p x P (b7 K (J+1) p)) {l:List Rat} (hl:l.length=p):j4 K p X Q l=j4 k p x P l:=by
 have hA:At n k (P-p+p):=by rwa [show P-p+p=P by omega]
 have:=Hq (k:=K) (b:=Q-p) (p:=p) (n:=N) (G:=j4 k p x P) (fun {l m} hm hl=>zl hA (by omega) hm (by omega)) (fun {u v f l} hl=>LM hl) (by rwa [show Q-p+p=Q by omega]) (by omega) (l:=l) (d:=[]) (r:=0) (y:=fun q=>X (Q-p+q)) rfl (by omega) fun j _ h2=>by
  rw[hx (Q-p+j) (by omega) (by omega)];rfl
 exact this
def lK (k:Nat->Rat) (p:Nat) (x:Nat->Rat) (t:Rat) (a j:Nat):Rat:=if j+p<=a then x j else if a<j then x (j-1)else x (j-1)+fr (k j) (k (j+p)) t*(x j-x (j-1))
def jB (a Q:Nat):Nat:=if Q<=a then Q else Q-1
theorem age {n:Nat} {x:Nat->Rat} {t:Rat} {a j Q:Nat} (hs:∀i,i+1<n->k i<=k (i+1)) (hp:1<=p) (hlo:k a<=t) (hhi:t<k (a+1)) (ha:p<=a) (h:At n k (jB a Q)) (hP:p<=jB a Q) (hP2:jB a Q+p<n) (h1:j<=Q) (h2:Q<=j+p):
  j4 k p x (jB a Q) (b7 (dB k t (a+1)) (j+1) p)=lK k p x t a j:=by
 refine Rs hs hp hlo hhi ha h hP hP2 ?_ ?_ ?_<;>unfold jB<;>split<;>omega
theorem QH {n:Nat} {x:Nat->Rat} {t:Rat} {a Q:Nat} (hs:∀i,i+1<n->k i<=k (i+1)) (hp:1<=p) (hlo:k a<=t) (hhi:t<k (a+1)) (ha:p<=a) (h:At n k (jB a Q)) (hP:p<=jB a Q) (hP2:jB a Q+p<n) (H:At (n+1) (dB k t (a+1)) Q) (hQ:p<=Q) (hQ2:Q+p<n+1) {l:List Rat} (hl:l.length=p):
  j4 (dB k t (a+1)) p (lK k p x t a) Q l=j4 k p x (jB a Q) l:=
 NZ h hP hP2 H hQ hQ2 (fun J h1 h2=>(age hs hp hlo hhi ha h hP hP2 h1 h2).symm) hl
end Go.Am.B
namespace Go.Am.B
theorem jO {k:Nat->Rat} {t:Rat} {n:Nat}:bS k t (n+1)=bS k t n+if k n=t then 1 else 0:=rfl
theorem CR {k:Nat->Rat} {t:Rat} {n:Nat}:∀{m:Nat},bS k t n<=bS k t (n+m)
 |0=>Nat.le_refl _
 |m+1=>by
  have:=CR (k:=k) (t:=t) (n:=n) (m:=m)
  rw[<-Nat.add_assoc,jO];omega
theorem Cq {k:Nat->Rat} {t:Rat} {i:Nat}:∀{l:Nat},(∀j,i<=j->j<i+l->k j=t)->l<=bS k t (i+l)
 |0,_=>Nat.zero_le _
 |l+1,h=>by
  have:=Cq (k:=k) (t:=t) (i:=i) (l:=l) fun j h1 h2=>h j h1 (by omega)
  rw[<-Nat.add_assoc,jO,if_pos (h (i+l) (by omega) (by omega))];omega
theorem xP {k:Nat->Rat} {t:Rat} {lo hi:Nat} (hlh:lo<=hi):∀{n:Nat},(∀j,j<n->k j=t->lo<=j/\j<hi)->bS k t n<=min n hi-lo
 |0,_=>by simp[bS]
 |n+1,h=>by
  have:=xP (k:=k) (t:=t) hlh (n:=n) fun j hj=>h j (by omega)
  rw[jO]
  by_cases hn:k n=t
  ·rw[if_pos hn]
   have:=h n (by omega) hn
   omega
  ·rw[if_neg hn];omega
theorem Iw {n a i:Nat} {k:Nat->Rat} {t:Rat} (hs:∀i,i+1<n->k i<=k (i+1)) (hhi:t<k (a+1)) (ha:a+1<n) (hlo:k a<=t) (hi:i<=a) (h:a<i+bS k t n):k i=t:=by
 by_cases he:k i=t
 ·exact he
 ·have h1:=gB hs hi (by omega)
  have hlt:k i<t:=by grind
  have:=xP (k:=k) (t:=t) (lo:=i+1) (hi:=a+1) (by omega) (n:=n) fun j hj hjt=>by
   constructor
   ·by_cases c:j<=i
    ·have:=gB hs c (by omega)
     grind
    ·omega
   ·by_cases c:a+1<=j
    ·have:=gB hs c hj
     grind
    ·omega
  omega
theorem Kn.qq {n p a:Nat} {k:Nat->Rat} {t:Rat} (h:Kn n p k) (h0:k 0<t) (h1:t<k (n-1)) (hlo:k a<=t) (hhi:t<k (a+1)) (ha:a+1<n):p<=a/\a+p+1<n:=by
 have hl:=h.len
 constructor
 ·by_cases c:p<=a
  ·exact c
  ·have:=h.first (a+1) (by omega)
   grind
 ·by_cases c:a+p+1<n
  ·exact c
  ·have:=h.last a (by omega) (by omega)
   grind
theorem Kn.dB {n p a:Nat} {k:Nat->Rat} {t:Rat} (h:Kn n p k) (h0:k 0<t) (h1:t<k (n-1)) (hlo:k a<=t) (hhi:t<k (a+1)) (ha:a+1<n) (ht:bS k t n<p):Kn (n+1) p (dB k t (a+1)):=by
 obtain⟨g1,g2⟩:=h.qq h0 h1 hlo hhi ha
 have hp:=h.p1
 have hl:=h.len
 refine⟨hp,by omega,fun i hi=>?_,fun i hi=>?_,fun i h2 h3=>?_,fun i h2 h3=>?_⟩
 ·by_cases c1:i<a
  ·rw[iC (by omega),iC (by omega)];exact h.sorted i (by omega)
  ·by_cases c2:i=a
   ·subst c2;rw[iC (by omega),mG];exact hlo
   ·by_cases c3:i=a+1
    ·subst c3;rw[mG,iI (by omega)];exact Rat.le_of_lt hhi
    ·rw[iI (by omega),iI (by omega)]
     have:=h.sorted (i-1) (by omega)
     rwa [show i-1+1=i+1-1 by omega]at this
 ·rw[iC (by omega),iC (by omega)];exact h.first i hi
 ·rw[iI (by omega),iI (by omega),h.last (i-1) (by omega) (by omega),show n+1-1-1=n-1 by omega]
 ·by_cases c1:i+p<a+1
  ·rw[iC (by omega),iC (by omega)];exact h.mult i h2 (by omega)
  ·by_cases c2:i+p=a+1
   ·rw[c2,mG,iC (by omega)]
    have m:=h.mono (show i<=a by omega) (by omega)
    by_cases e:k i=t
    ·exfalso
     have hb:∀j,i<=j->j<i+p->k j=t:=fun j hj1 hj2=>by
      have a1:=h.mono hj1 (by omega)
      have a2:=h.mono (show j<=a by omega) (by omega)
      grind
     have b1:=Cq hb
     have b2:=CR (k:=k) (t:=t) (n:=i+p) (m:=n-(i+p))
     rw[show i+p+(n-(i+p))=n by omega]at b2
     omega
    ·grind
   ·by_cases c3:i<=a
    ·rw[iC (by omega),iI (by omega)]
     have m1:=h.mono c3 (by omega)
     have m2:=h.mono (show a+1<=i+p-1 by omega) (by omega)
     grind
    ·by_cases c4:i=a+1
     ·subst c4;rw[mG,iI (by omega)]
      have m2:=h.mono (show a+1<=a+1+p-1 by omega) (by omega)
      grind
     ·rw[iI (by omega),iI (by omega)]
      have:=h.mult (i-1) (by omega) (by omega)
      rwa [show i-1+p=i+p-1 by omega]at this
theorem afW {k x:Nat->Rat} {p a j:Nat} {t:Rat} {n:Nat} (hs:∀i,i+1<n->k i<=k (i+1)) (hlo:k a<=t) (hhi:t<k (a+1)) (hn:a+p<n) (hx:∀j,0<x j):0<lK k p x t a j:=by
 unfold lK
 split
 ·exact hx _
 ·split
  ·exact hx _
  ·have m1:=gB hs (show j<=a by omega) (by omega)
   have m2:=gB hs (show a+1<=j+p by omega) (by omega)
   have hw:k j<k (j+p):=by grind
   have f0:=R7 (t:=t) hw (by grind)
   have f1:=aag (t:=t) hw (by grind)
   generalize fr (k j) (k (j+p)) t=f at*
   have x0:=hx (j-1)
   have x1:=hx j
   by_cases e:f=1
   ·subst e;grind
   ·have:=Rat.mul_pos (a:=1-f) (b:=x (j-1)) (by grind) x0
    have:=Rat.mul_nonneg (a:=f) (b:=x j) f0 (by grind)
    grind
theorem Jq {n:Nat} {k:Nat->Rat} {pc:Nat->Nat->Nat} (h0:∀i,pc 0 i=i) (h1:∀f i,pc (f+1) i=if i+1<n/\k (i+1)<=k i then pc f (i+1)else i):∀{f i l:Nat},k i<k (i+l)->i+l<n->l<=f->i<=pc f i/\pc f i<i+l/\k (pc f i)<k (pc f i+1)
 |0,i,l,hk,hn,hl=>by
  have:l=0:=by omega
  subst this;exact absurd hk (by rw[Nat.add_zero];exact Rat.lt_irrefl)
 |f+1,i,l,hk,hn,hl=>by
  have hl0:l≠0:=fun e=>by subst e;rw[Nat.add_zero]at hk;exact absurd hk Rat.lt_irrefl
  rw[h1]
  by_cases c:i+1<n/\k (i+1)<=k i
  ·rw[if_pos c]
   have:=Jq h0 h1 (f:=f) (i:=i+1) (l:=l-1) (by rw[show i+1+(l-1)=i+l by omega];have:=c.2;grind) (by omega) (by omega)
   obtain⟨a1,a2,a3⟩:=this
   exact⟨by omega,by omega,a3⟩
  ·rw[if_neg c]
   exact⟨Nat.le_refl _,by omega,Rat.not_le.1 fun e=>c ⟨by omega,e⟩⟩
theorem zL {n i:Nat} {k:Nat->Rat} (h:At n k i):cS n k (k i)=i:=yR ⟨h,Rat.le_refl,Rat.le_of_lt h.wide,.inl h.wide⟩
theorem Oy {n a q:Nat} {k:Nat->Rat} {t:Rat} (hs:∀i,i+1<n->k i<=k (i+1)) (hlo:k a<=t) (hhi:t<k (a+1)) (ha:a+1<n) (hq:q+1<n+1) (hw:dB k t (a+1) q<dB k t (a+1) (q+1)):
  At n k (jB a q)/\cS n k (dB k t (a+1) q)=jB a q/\k 0<=dB k t (a+1) q/\dB k t (a+1) q<=k (n-1):=by
 have key:∀i,At n k i->k 0<=k i/\k i<=k (n-1):=fun i h=>⟨gB hs (Nat.zero_le _) (by have:=h.lt;omega),gB hs (by have:=h.lt;omega) (by omega)⟩
 by_cases c1:q<=a
 ·have e:jB a q=q:=if_pos c1
  rw[e,iC (by omega)]at*
  have hA:At n k q:=⟨by omega,hs,by
   by_cases c2:q=a
   ·subst c2;grind
   ·rwa [iC (by omega)]at hw⟩
  exact⟨hA,zL hA,key q hA⟩
 ·have e:jB a q=q-1:=if_neg c1
  rw[e]
  by_cases c2:q=a+1
  ·subst c2
   rw[mG]
   have hA:At n k a:=⟨ha,hs,by grind⟩
   have:=key a hA
   have m:=gB hs (show a+1<=n-1 by omega) (by omega)
   exact⟨hA,yR ⟨hA,hlo,Rat.le_of_lt hhi,.inl hhi⟩,by grind,by grind⟩
  ·rw[iI (by omega)]at hw ⊢
   rw[iI (by omega)]at hw
   have hA:At n k (q-1):=⟨by omega,hs,by rwa [show q-1+1=q+1-1 by omega]⟩
   exact⟨hA,zL hA,key _ hA⟩
open Go Go.Am.N AV ag ak IntKind Proofs.Tryz
theorem LU {k:Nat->Rat} {t:Rat}:∀{i:Nat},(∀j,j<i->k j<=t)->gH k t i=i
 |0,_=>rfl
 |i+1,h=>Ho (LU fun j hj=>h j aa) (h i aa)
theorem P6 {n a:Nat} {k:Nat->Rat} {t:Rat} (hs:∀i,i+1<n->k i<=k (i+1)) (hlo:k a<=t) (hhi:t<k (a+1)) (ha:a+1<n):gH k t n=a+1:=
 AN (LU fun j hj=>Rat.le_trans (gB hs (show j<=a by omega) aa) hlo) hhi aa
def mW (c:Cu) (t:Rat) (a j:Nat):Pl:=
 ⟨⟨lK c.k c.p.toNat (fun q=>(cY (c.f q)).n.x) t a j,lK c.k c.p.toNat (fun q=>(cY (c.f q)).n.y) t a j,lK c.k c.p.toNat (fun q=>(cY (c.f q)).n.z) t a j⟩,lK c.k c.p.toNat (fun q=>(cY (c.f q)).d) t a j⟩
theorem Kn.afS {n p j:Nat} {k:Nat->Rat} (h:Kn n p k) (hj:j+p+1<n):k j<k (j+(p+1)):=by
 have hp:=h.p1
 have hl:=h.len
 by_cases c:j=0
 ·subst c
  have m:=h.mult 1 aa aa
  rw[h.first 1 aa]at m
  rwa [show 0+(p+1)=1+p by omega]
 ·have m:=h.mult j aa hj
  have:=h.mono (show j+p<=j+(p+1) by omega) aa
  grind
theorem Kn.wide {n p P:Nat} {k:Nat->Rat} (h:Kn n p k) (hA:At n k P):p<=P/\P+p+1<n:=by
 have hw:=hA.wide
 have hlt:=hA.lt
 have hl:=h.len
 constructor
 ·by_cases c:p<=P
  ·exact c
  ·rw[h.first P aa,h.first (P+1) aa]at hw
   exact absurd hw Rat.lt_irrefl
 ·by_cases c:P+p+1<n
  ·exact c
  ·rw[h.last P aa aa,h.last (P+1) aa aa]at hw
   exact absurd hw Rat.lt_irrefl
theorem ZM {p:Pl} (h:p.d≠0):hU (cY p)=p:=by
 obtain⟨⟨x,y,z⟩,d⟩:=p
 have key:∀x:Rat,d*x/d=x:=fun x=>by rw[Rat.div_def,Rat.mul_comm d x,Rat.mul_assoc,Rat.mul_inv_cancel _ h,Rat.mul_one]
 unfold hU cY
 dsimp only
 rw[key,key,key]
def sP (c:Cu) (t:Rat) (a:Nat):Cu:=⟨c.p,c.n+1,dB c.k t (a+1),c.m+1,fun j=>hU (mW c t a j)⟩
def jS (c:Cu) (t:Rat):Cu:=if jI c t=0 then sP c t (cS c.n c.k t)else Zr
theorem qj {n p:Nat} {k:Nat->Rat} {t:Rat} (h:Kn n p k) (h0:k 0<t) (h1:t<k (n-1)):k (cS n k t)<=t/\t<k (cS n k t+1)/\cS n k t+1<n:=by
 obtain⟨g1,g2,g3⟩:=h.DI (Rat.le_of_lt h0) (Rat.le_of_lt h1)
 refine⟨g1.lo,?_,aa⟩
 rcases g1.Ea with e|e
 ·exact e
 ·rw[e];exact h1
theorem yh {c:Cu} {t:Rat} (h:jI c t=0):c.k 0<t/\t<c.k (c.n-1)/\bS c.k t c.n<c.p.toNat/\c.m<40:=by
 unfold jI at h
 split at h
 ·omega
 ·rename_i g1
  split at h
  ·omega
  ·split at h
   ·omega
   ·have g1:=Classical.not_not.1 g1
    exact⟨g1.1,g1.2,aa,aa⟩
open Go
theorem nR {x:Int} {n:Nat} (h:x.natAbs<2^n) (hn:1<=n):Sz (x:Rat) n:=
 ⟨by rw[Rat.num_intCast];exact h,by rw[Rat.den_intCast];exact Nat.lt_of_lt_of_le (show 1<2^1 by decide) (Nat.pow_le_pow_right (by decide) hn)⟩
def jf (x:Rat):Prop:=∃z:Int,(z:Rat)=x*55440/\-110880<=z/\z<=776160
theorem jf.sz {x:Rat} (h:jf x):Sz x 40:=by
 obtain⟨z,e,h1,h2⟩:=h
 have:x=(z:Rat)/((55440:Int):Rat):=by
  rw[e,Rat.div_def,Rat.mul_assoc,show(55440:Rat)=((55440:Int):Rat)from rfl,Rat.mul_inv_cancel _ (by decide+kernel),Rat.mul_one]
 rw[this]
 exact(nR (n:=20) aa (by decide)).div (nR (n:=20) (by decide) (by decide))
theorem jf.order {x y:Rat} {z w:Int} (h:(z:Rat)=x*55440) (h':(w:Rat)=y*55440) (hxy:x<=y):z<=w:=by
 have:(z:Rat)<=(w:Rat):=by rw[h,h'];exact Rat.mul_le_mul_of_nonneg_right hxy (by decide+kernel)
 exact Rat.intCast_le_intCast.1 this
theorem SO {x y f:Rat} {u v:Int} {s:Nat} (hf:f*(v:Rat)=(u:Rat)) (h0:0<=u) (h1:u<=v) (h2:0<v) (h3:v<2^20) (hx:Sz x s) (hy:Sz y s):Sz (x+f*(y-x)) (2*s+61):=by
 have hv:(v:Rat)≠0:=by
  intro e
  have:v=0:=by
   have e2:(v:Rat)=((0:Int):Rat):=e
   exact Rat.intCast_inj.1 e2
  omega
 have key:x+f*(y-x)=(((v-u:Int):Rat)*x+(u:Rat)*y)/(v:Rat):=by
  have e1:((v-u:Int):Rat)=(v:Rat)-(u:Rat):=by rw[Rat.intCast_sub]
  rw[e1,Rat.div_def,<-hf]
  have e2:((v:Rat)-f*(v:Rat))*x+f*(v:Rat)*y=(x+f*(y-x))*(v:Rat):=by grind
  rw[e2,Rat.mul_assoc,Rat.mul_inv_cancel _ hv,Rat.mul_one]
 rw[key]
 have a1:=(nR (x:=v-u) (n:=20) aa (by decide)).mul hx
 have a2:=(nR (x:=u) (n:=20) aa (by decide)).mul hy
 have a3:=(a1.add a2).div (nR (x:=v) (n:=20) aa (by decide))
 exact a3.more aa
theorem z7 {k x:Nat->Rat} {p a j n s:Nat} {t:Rat} (hs:∀i,i+1<n->k i<=k (i+1)) (hlo:k a<=t) (hhi:t<k (a+1)) (hn:a+p<n) (hk:∀i,jf (k i)) (ht:jf t) (hx:∀i,Sz (x i) s):Sz (lK k p x t a j) (2*s+61):=by
 unfold lK
 split
 ·exact(hx _).more aa
 ·split
  ·exact(hx _).more aa
  ·have m1:=gB hs (show j<=a by omega) aa
   have m2:=gB hs (show a+1<=j+p by omega) aa
   have hw:k j<k (j+p):=by grind
   obtain⟨z1,e1,b1,c1⟩:=hk j
   obtain⟨z2,e2,b2,c2⟩:=hk (j+p)
   obtain⟨z3,e3,b3,c3⟩:=ht
   have o1:=jf.order e1 e3 (by grind)
   have o2:=jf.order e3 e2 (by grind)
   have o3:z1<z2:=by
    have:(z1:Rat)<(z2:Rat):=by rw[e1,e2];exact Rat.mul_lt_mul_of_pos_right hw (by decide+kernel)
    exact Rat.intCast_lt_intCast.1 this
   refine SO (u:=z3-z1) (v:=z2-z1) ?_ aa aa aa aa (hx _) (hx _)
   have hf:=mF (t:=t) hw
   rw[Rat.intCast_sub,Rat.intCast_sub,e1,e2,e3]
   have:fr (k j) (k (j+p)) t*(k (j+p)*55440-k j*55440)=fr (k j) (k (j+p)) t*(k (j+p)-k j)*55440:=by grind
   rw[this,hf];grind
theorem Oe {k:Nat->Rat} {t:Rat} {q:Nat} (hk:∀i,jf (k i)) (ht:jf t) (i:Nat):jf (dB k t q i):=by
 unfold dB
 split
 ·exact hk _
 ·split
  ·exact ht
  ·exact hk _
def m8 (p n:Nat) (k:Nat->Rat) (x:Nat->Nat->Rat) (N:Nat) (K:Nat->Rat) (X:Nat->Nat->Rat):Prop:=
 ∀Q,At N K Q->∃P,At n k P/\k P<=K Q/\K (Q+1)<=k (P+1)/\∀e l,l.length=p->j4 K p (X e) Q l=j4 k p (x e) P l
theorem m8.refl {p n:Nat} {k:Nat->Rat} {x:Nat->Nat->Rat}:m8 p n k x n k x:=fun Q h=>⟨Q,h,Rat.le_refl,Rat.le_refl,fun _ _ _=>rfl⟩
theorem Kn.qJ {n p P:Nat} {k:Nat->Rat} (h:Kn n p k) (hA:At n k P):p<=P/\P+p+1<n:=by
 have hw:=hA.wide
 have hlt:=hA.lt
 have hl:=h.len
 constructor
 ·by_cases c:p<=P
  ·exact c
  ·rw[h.first P (by omega),h.first (P+1) (by omega)]at hw
   exact absurd hw Rat.lt_irrefl
 ·by_cases c:P+p+1<n
  ·exact c
  ·rw[h.last P (by omega) (by omega),h.last (P+1) (by omega) (by omega)]at hw
   exact absurd hw Rat.lt_irrefl
theorem m8.ins {p n N a:Nat} {k K:Nat->Rat} {x X:Nat->Nat->Rat} {t:Rat} (h:m8 p n k x N K X) (hK:Kn N p K) (h0:K 0<t) (h1:t<K (N-1)) (hlo:K a<=t) (hhi:t<K (a+1)) (ha:a+1<N) (ht:bS K t N<p):
  m8 p n k x (N+1) (dB K t (a+1)) fun e=>lK K p (X e) t a:=by
 intro Q hQ
 have hK':=hK.dB h0 h1 hlo hhi ha ht
 obtain⟨g1,g2⟩:=hK.qq h0 h1 hlo hhi ha
 obtain⟨hA,_,_,_⟩:=Oy hK.sorted hlo hhi ha (by have:=hQ.lt;omega) hQ.wide
 obtain⟨w1,w2⟩:=hK.qJ hA
 obtain⟨v1,v2⟩:=hK'.qJ hQ
 obtain⟨P,p1,p2,p3,p4⟩:=h _ hA
 refine⟨P,p1,?_,?_,fun e l hl=>?_⟩
 ·refine Rat.le_trans p2 ?_
  unfold jB
  by_cases c1:Q<=a
  ·rw[if_pos c1,iC (by omega)];exact Rat.le_refl
  ·rw[if_neg c1]
   by_cases c2:Q=a+1
   ·subst c2;rw[mG];exact hlo
   ·rw[iI (by omega)];exact Rat.le_refl
 ·refine Rat.le_trans ?_ p3
  unfold jB
  by_cases c1:Q<=a
  ·rw[if_pos c1]
   by_cases c2:Q=a
   ·subst c2;rw[mG];exact Rat.le_of_lt hhi
   ·rw[iC (by omega)];exact Rat.le_refl
  ·rw[if_neg c1,iI (by omega),show Q+1-1=Q-1+1 by omega];exact Rat.le_refl
 ·rw[<-p4 e l hl]
  exact QH (n:=N) hK.sorted hK.p1 hlo hhi g1 hA w1 (by omega) hQ v1 (by omega) hl
theorem m8.Df {p n N j Q:Nat} {k K:Nat->Rat} {x X:Nat->Nat->Rat} (h:m8 p n k x N K X) (hK:Kn N p K) (hQ:At N K Q) (h1:j<=Q) (h2:Q<=j+p):
  ∃P,At n k P/\cS n k (K Q)=P/\∀e,j4 k p (x e) P (b7 K (j+1) p)=X e j:=by
 obtain⟨w1,w2⟩:=hK.qJ hQ
 obtain⟨P,p1,p2,p3,p4⟩:=h Q hQ
 have hw:=hQ.wide
 refine⟨P,p1,yR ⟨p1,p2,by grind,.inl (by grind)⟩,fun e=>?_⟩
 rw[<-p4 e _ lI]
 exact vP hQ w1 (by omega) h2 h1
open Go Go.Am.N AV ag ak IntKind Proofs.Tryz
structure jW (c:Cu) (s:Nat):Prop where
 kn:qd c
 pos:∀i,0<(c.f i).d
 kd:∀i,jf (c.k i)
 sx:∀i,Sz (cY (c.f i)).n.x s
 sy:∀i,Sz (cY (c.f i)).n.y s
 sz:∀i,Sz (cY (c.f i)).n.z s
 sd:∀i,Sz (c.f i).d s
theorem K3 {h:Pl} (hd:h.d≠0):cY (hU h)=h:=by
 obtain⟨⟨x,y,z⟩,d⟩:=h
 have key:∀x:Rat,d*(x/d)=x:=fun x=>by rw[Rat.div_def,Rat.mul_comm d,Rat.mul_assoc,Rat.inv_mul_cancel _ hd,Rat.mul_one]
 unfold hU cY
 dsimp only
 rw[key,key,key]
theorem NA {c:Cu} {t:Rat} {a i:Nat} (hc:qd c) (hp:∀i,0<(c.f i).d) (h0:c.k 0<t) (h1:t<c.k (c.n-1)) (hlo:c.k a<=t) (hhi:t<c.k (a+1)) (ha:a+1<c.n):0<(mW c t a i).d:=by
 obtain⟨g1,g2⟩:=hc.1.qq h0 h1 hlo hhi ha
 exact afW (n:=c.n) hc.1.sorted hlo hhi aa fun i=>hp i
theorem AU {x:Rat} (h:0<x):x≠0:=fun e=>by rw[e]at h;exact absurd h Rat.lt_irrefl
theorem jW.ins {c:Cu} {s:Nat} {t:Rat} (h:jW c s) (ht:jf t) (he:jI c t=0):jW (jS c t) (2*s+61):=by
 obtain⟨e1,e2,e3,e4⟩:=yh he
 obtain⟨k1,k2,k3,k4,k5⟩:=id h.kn
 obtain⟨a1,a2,a3⟩:=qj k1 e1 e2
 obtain⟨g1,g2⟩:=k1.qq e1 e2 a1 a2 a3
 rw[show jS c t=sP c t (cS c.n c.k t)from if_pos he]
 have hpos:∀i,0<(mW c t (cS c.n c.k t) i).d:=fun i=>NA h.kn h.pos e1 e2 a1 a2 a3
 have hl:∀i,cY (hU (mW c t (cS c.n c.k t) i))=mW c t (cS c.n c.k t) i:=fun i=>K3 (AU (hpos i))
 refine⟨⟨k1.dB e1 e2 a1 a2 a3 e3,k2,k3,show c.n+1<=c.p.toNat+41 by omega,show((c.m+1:Nat):Int)=((c.n+1:Nat):Int)-c.p-1 by omega⟩,hpos,Oe h.kd ht,fun i=>?_,fun i=>?_,fun i=>?_,fun i=>?_⟩
 ·show Sz (cY (hU (mW c t (cS c.n c.k t) i))).n.x _
  rw[hl];exact z7 (n:=c.n) k1.sorted a1 a2 aa h.kd ht h.sx
 ·show Sz (cY (hU (mW c t (cS c.n c.k t) i))).n.y _
  rw[hl];exact z7 (n:=c.n) k1.sorted a1 a2 aa h.kd ht h.sy
 ·show Sz (cY (hU (mW c t (cS c.n c.k t) i))).n.z _
  rw[hl];exact z7 (n:=c.n) k1.sorted a1 a2 aa h.kd ht h.sz
 ·exact z7 (n:=c.n) k1.sorted a1 a2 aa h.kd ht h.sd
theorem jW.M9 {c:Cu} {s r:Nat} (h:jW c s):bT (fun i=>.rat (c.k i) r) c.n 2000:=fun i _=>er rfl ((h.kd i).sz.more (by decide))
theorem jW.x {c:Cu} {s:Nat} (h:jW c s) (i:Nat):Sz (c.f i).n.x (s+s)/\Sz (c.f i).n.y (s+s)/\Sz (c.f i).n.z (s+s):=by
 have e:=ZM (AU (h.pos i))
 have d:(cY (c.f i)).d=(c.f i).d:=rfl
 refine⟨?_,?_,?_⟩
 ·rw[<-e];exact(h.sx i).div (d▸h.sd i)
 ·rw[<-e];exact(h.sy i).div (d▸h.sd i)
 ·rw[<-e];exact(h.sz i).div (d▸h.sd i)
def rC (c:Cu) (t:Nat->Rat):Nat->Cu
 |0=>c
 |r+1=>jS (rC c t r) (t r)
def nc (c:Cu) (t:Nat->Rat):Nat->Int
 |0=>0
 |r+1=>if nc c t r=0 then jI (rC c t r) (t r)else nc c t r
def G7:Nat->Nat
 |0=>5
 |r+1=>2*G7 r+61
theorem acv {c:Cu} {t:Nat->Rat} {r:Nat} (h:nc c t (r+1)=0):nc c t r=0/\jI (rC c t r) (t r)=0:=by
 unfold nc at h
 split at h
 ·rename_i g;exact⟨g,h⟩
 ·rename_i g;exact absurd h g
theorem Ln {c:Cu} {t:Nat->Rat} (hc:jW c 5) (ht:∀i,jf (t i)):∀{r:Nat},nc c t r=0->jW (rC c t r) (G7 r)
 |0,_=>hc
 |r+1,h=>by
  obtain⟨h1,h2⟩:=acv h
  exact(Ln hc ht h1).ins (ht r) h2
theorem JY {c:Cu} {t:Nat->Rat} {r:Nat} (h:nc c t r=0) (he:jI (rC c t r) (t r)=0):nc c t (r+1)=0:=(if_pos h:nc c t (r+1)=_).trans he
def gq (g:Nat->Bool):Nat->Nat
 |0=>0
 |n+1=>if gq g n<n then gq g n else if g n then n else n+1
theorem xC {g:Nat->Bool}:∀{n:Nat},(∀j,j<n->g j=false)->gq g n=n
 |0,_=>rfl
 |n+1,h=>by
  rw[gq,xC fun j hj=>h j (by omega),if_neg (by omega),h n (by omega)];rfl
theorem vI {g:Nat->Bool} {i:Nat} (hi:g i=true) (hb:∀j,j<i->g j=false):∀{n:Nat},i<n->gq g n=i
 |0,h=>by omega
 |n+1,h=>by
  by_cases c:i=n
  ·subst c
   rw[gq,xC hb,if_neg (by omega),if_pos hi]
  ·rw[gq,vI hi hb (n:=n) (by omega),if_pos (by omega)]
theorem Kn.split {N p a:Nat} {K:Nat->Rat} {t:Rat} (h:Kn N p K) (h0:K 0<t) (h1:t<K (N-1)) (hlo:K a<=t) (hhi:t<K (a+1)) (ha:a+1<N) (ht:bS K t N=p):
  (∀i,i<=a->a<i+p->K i=t)/\(∀i,i+p<=a->K i<t)/\p+p<=a:=by
 obtain⟨g1,g2⟩:=h.qq h0 h1 hlo hhi ha
 have hp:=h.p1
 have run:∀i,i<=a->a<i+p->K i=t:=fun i hi h2=>Iw h.sorted hhi ha hlo hi (by rw[ht];exact h2)
 refine⟨run,fun i hi=>?_,?_⟩
 ·have m:=h.mono (show i<=a by omega) (by omega)
  by_cases e:K i=t
  ·exfalso
   have hb:∀j,i<=j->j<i+(p+1)->K j=t:=fun j hj1 hj2=>by
    have a1:=h.mono hj1 (by omega)
    have a2:=h.mono (show j<=a by omega) (by omega)
    grind
   have b1:=Cq hb
   have b2:=CR (k:=K) (t:=t) (n:=i+(p+1)) (m:=N-(i+(p+1)))
   rw[show i+(p+1)+(N-(i+(p+1)))=N by omega]at b2
   omega
  ·grind
 ·by_cases c:p+p<=a
  ·exact c
  ·have e:=run p g1 (by omega)
   rw[h.first p (Nat.le_refl _)]at e
   rw[e]at h0
   exact absurd h0 Rat.lt_irrefl
theorem D0 {k:Nat->Rat} {t:Rat} {q:Nat}:∀{m:Nat},bS (dB k t q) t (q+1+m)=bS k t (q+m)+1
 |0=>by
  have pre:∀i,i<=q->bS (dB k t q) t i=bS k t i:=fun i=>by
   induction i with
   |zero=>intro _;rfl
   |succ i ih=>intro h;rw[jO,jO,ih aa,iC aa]
  show bS (dB k t q) t (q+1)=bS k t q+1
  rw[jO,pre q bq,mG,if_pos rfl]
 |m+1=>by
  rw[<-Nat.add_assoc,jO,D0 (m:=m),iI aa,<-Nat.add_assoc,jO,show q+1+m-1=q+m by omega];omega
theorem Kn.abz {n p:Nat} {k:Nat->Rat} {t:Rat} (h:Kn n p k) (h0:k 0<t) (h1:t<k (n-1)):bS k t n<=p:=by
 obtain⟨a1,a2,a3⟩:=qj h h0 h1
 obtain⟨g1,g2⟩:=h.qq h0 h1 a1 a2 a3
 have hp:=h.p1
 generalize cS n k t=a at*
 have:=xP (k:=k) (t:=t) (lo:=a+1-p) (hi:=a+1) aa (n:=n) fun j hj hjt=>by
  constructor
  ·by_cases c:a+1-p<=j
   ·exact c
   ·exfalso
    have hj0:1<=j:=by
     by_cases c2:1<=j
     ·exact c2
     ·rw[show j=0 by omega]at hjt;rw[hjt]at h0;exact absurd h0 Rat.lt_irrefl
    have m:=h.mult j hj0 aa
    have m2:=h.mono (show j+p<=a by omega) aa
    grind
  ·by_cases c:j<a+1
   ·exact c
   ·have:=h.mono (show a+1<=j by omega) hj
    grind
 omega
abbrev dz (c:Cu) (t:Rat):Nat->Cu:=rC c fun _=>t
structure pO (c:Cu) (t:Rat) (r:Nat):Prop where
 e:nc c (fun _=>t) r=0
 p:(dz c t r).p=c.p
 n:(dz c t r).n=c.n+r
 m:(dz c t r).m=c.m+r
 s:bS (dz c t r).k t (dz c t r).n=bS c.k t c.n+r
 k0:(dz c t r).k 0=c.k 0
 k1:(dz c t r).k ((dz c t r).n-1)=c.k (c.n-1)
theorem A6 {c:Cu} {t:Rat} (h0:c.k 0<t) (h1:t<c.k (c.n-1)) (h2:(bS c.k t c.n:Int)<c.p) (h3:c.m<40):jI c t=0:=by
 unfold jI;rw[if_neg (fun g=>g ⟨h0,h1⟩),if_neg aa,if_neg aa]
theorem Gg {d:Cu} {t:Rat} (hd:qd d) (hE:jI d t=0):(jS d t).p=d.p/\(jS d t).n=d.n+1/\(jS d t).m=d.m+1/\bS (jS d t).k t (jS d t).n=bS d.k t d.n+1/\(jS d t).k 0=d.k 0/\(jS d t).k ((jS d t).n-1)=d.k (d.n-1):=by
 obtain⟨b1,b2,b3,b4⟩:=yh hE
 obtain⟨i1,i2,i3⟩:=qj hd.1 b1 b2
 rw[show jS d t=sP d t (cS d.n d.k t)from if_pos hE]
 generalize cS d.n d.k t=a at*
 have:=D0 (k:=d.k) (t:=t) (q:=a+1) (m:=d.n-(a+1))
 rw[show a+1+1+(d.n-(a+1))=d.n+1 by omega,show a+1+(d.n-(a+1))=d.n by omega]at this
 refine⟨rfl,rfl,rfl,this,(show dB d.k t (a+1) 0=_ from iC aa),?_⟩
 show dB d.k t (a+1) (d.n+1-1)=_
 rw[iI aa];rfl
theorem pO.go {c:Cu} {t:Rat} {r:Nat} (h:pO c t r) (hc:jW c 5) (ht:jf t) (h0:c.k 0<t) (h1:t<c.k (c.n-1)) (h2:((bS c.k t c.n+r:Nat):Int)<c.p) (h3:c.m+r<40):jI (dz c t r) t=0/\pO c t (r+1):=by
 obtain⟨a1,a2,a3,a4,a5,a6,a7⟩:=h
 have hE:jI (dz c t r) t=0:=A6 (by rw[a6];exact h0) (by rw[a7];exact h1) (by rw[a5,a2];exact h2) (by rw[a4];exact h3)
 have hd:=Ln hc (fun _=>ht) a1
 obtain⟨b1,b2,b3,b4,b5,b6⟩:=Gg hd.kn hE
 exact⟨hE,JY a1 hE,b1.trans a2,by rw[show(dz c t (r+1)).n=(dz c t r).n+1 from b2,a3];rfl,by rw[show(dz c t (r+1)).m=(dz c t r).m+1 from b3,a4];rfl,b4.trans (by rw[a5];rfl),b5.trans a6,b6.trans a7⟩
theorem pO.all {c:Cu} {t:Rat} (hc:jW c 5) (ht:jf t) (h0:c.k 0<t) (h1:t<c.k (c.n-1)) (h40:c.m+c.p.toNat<=40):∀{r:Nat},((bS c.k t c.n+r:Nat):Int)<=c.p->pO c t r
 |0,_=>⟨rfl,rfl,rfl,rfl,rfl,rfl,rfl⟩
 |r+1,h=>((pO.all hc ht h0 h1 h40 (r:=r) aa).go hc ht h0 h1 aa aa).2
def nF (d:Cu) (t:Rat) (a:Nat):Cu:=⟨d.p,1+(d.n-(a+1-d.p.toNat)),fun i=>if i<1 then t else d.k (a+1-d.p.toNat+(i-1)),d.m-(a-d.p.toNat),fun i=>d.f (a-d.p.toNat+i)⟩
def ZC:Kind FuncId:=⟨fun v=>match v with
 |.func f []=>some (f,[])
 |_=>none,fun g=>.func g [],fun {v a q} h _=>by
  split at h
  ·simp only[ax,Prod.mk.injEq]at h
   obtain⟨rfl,rfl⟩:=h
   exact .refl _
  ·simp at h⟩
theorem Xq:aW 191 f191:=aN func191
theorem YS:aW 192 f192:=aN func192
theorem I8:aW 190 f190:=aN func190
theorem FA {u v:AV} (h:bg u v):bg (.bn u) (.bn v):=by
 refine⟨rfl,fun M w cs hc=>?_⟩
 cases hc with
 |bn h1 h2 h3=>cases h3;exact .bn (h.2 _ _ _ h1) h2 .nil
theorem Sb {f:FuncId} {us vs:List AV} (h:dH us vs) (hv:(vs.all fun v=>!v.isAgg&&!v.isTuple)=true):bg (.func f us) (.func f vs):=by
 refine⟨rfl,fun M w cs hc=>?_⟩
 cases hc with
 |func h1 h2 h3=>cases h3;exact .func (CP h h1) hv .nil
def Nv {α:Type} (k:Kind α):Kind α:=⟨fun v=>match v with
 |.bn v=>k.read v
 |_=>none,fun a=>.bn (k.make a),fun {v a q} h hq=>by
  split at h
  ·exact FA (k.ok h hq)
  ·simp at h⟩
def MR {α:Type} (g:FuncId) (k:Kind α):Kind α:=⟨fun v=>match v with
 |.func f [.bn v]=>match Nat.beq f g with
  |true=>k.read v
  |false=>none
 |_=>none,fun a=>.func g [.bn (k.make a)],fun {v a q} h hq=>by
  split at h
  ·split at h
   ·rename_i hc
    have hc:=Nat.eq_of_beq_eq_true hc
    subst hc
    exact Sb ⟨FA (k.ok h hq),trivial⟩ rfl
   ·simp at h
  ·simp at h⟩
def EH:Spec:=cP (kC (eI 2000) (kC (Nv (eI 2000)) kN)) (fun a=>.bool (decide (a.2.1<a.1))) fun _=>[]
def G9:Spec:=cP (kC (eI 2000) (kC (Nv (eI 2000)) kN)) (fun a=>.bool (decide (a.2.1<=a.1))) fun _=>[]
def ug:aU:=nG::(191,EH)::(192,G9)::[]
abbrev oI:List Nat:=[4,0,1,7,8]
abbrev wU (n i:Nat) (k:Nat->Rat) (g:FuncId) (x:Rat):List AV:=[.int .i64 0,bp k n 2000,.func g [.bn (.rat x 2000)],.int .i64 n,.int .i64 i]
abbrev oY:Code:=aF f190
def k7 (x:Rat) (k:Nat->Rat) (i:Nat):Bool:=decide (x<k i)
def lJ (x:Rat) (k:Nat->Rat) (i:Nat):Bool:=decide (x<=k i)
def Fx:Spec:=cP (kC (kL 2000) (kC (MR 191 (eI 2000)) kN)) (fun a=>.int .i64 (gq (k7 a.2.1 a.1.2) a.1.1:Nat)) fun a=>[a.1.1<2^40,gq (k7 a.2.1 a.1.2) a.1.1<a.1.1]
def HO:Spec:=cP (kC (kL 2000) (kC (MR 192 (eI 2000)) kN)) (fun a=>.int .i64 (gq (lJ a.2.1 a.1.2) a.1.1:Nat)) fun a=>[a.1.1<2^40,gq (lJ a.2.1 a.1.2) a.1.1<a.1.1]
def CX:Spec:=fun K args pre=>match Fx K args pre with
 |some r=>some r
 |none=>HO K args pre
theorem aeV {x y:Rat}:bD T (nG::eO) [] 60 f191 (aF f191) ⟨aT 0 [.rat x 2000,.bn (.rat y 2000)],[],0⟩=
  let c1:Prop:=2000<2^42;some (aj [(0:Nat)<1,c1,c1] (leaf ret [AV.bool (decide (cZ x y>0))])):=ah
theorem aeA {x y:Rat}:bD T (nG::eO) [] 60 f192 (aF f192) ⟨aT 0 [.rat x 2000,.bn (.rat y 2000)],[],0⟩=
  let c1:Prop:=2000<2^42;some (aj [(0:Nat)<1,c1,c1] (leaf ret [AV.bool (decide (cZ x y>=0))])):=ah
theorem J3 {n:Nat} {k:Nat->Rat} {g:FuncId} {x:Rat}:aM T ug [] 60 oI (before oY [1,0,1]) ⟨aT 0 [bp k n 2000,.func g [.bn (.rat x 2000)]],[],0⟩=
  some (leaf normal ([int i64 0,aq 3 n fun i=>rat (k i) 2000,func g [(rat x 2000).bn],int i64 (↑n:Int),int i64 0],[])):=ah
theorem T6 {n i:Nat} {k:Nat->Rat} {x:Rat}:aM T ug [9,16] 60 oI [part oY [1,0,1,0,0]] ⟨aH oI (wU n i k 191 x),[],0⟩=
  let c7:Int:=(↑n:Int);let c5:Prop:=2000<=2000;let c4:AV:=func 191 [(rat x 2000).bn];let c3:AV:=aq 3 n fun i=>rat (k i) 2000;let c2:Int:=(↑i:Int);let c6:Int:=c2+1;let c1:List AV:=[c3,c4,int i64 c7,int i64 c2];some (fork (decide (c2<c7)) (aj [(0:Int)<=c2/\c2.toNat<n,c5,c5] (fork (decide (x<k c2.toNat)) (leaf ret (int i64 c2::c1,[])) (aj [-(2:Int)^63<=c6/\c6<2^63] (leaf normal ([int i64 0,c3,c4,int i64 c7,int i64 c6],[]))))) (leaf (exit 0) (int i64 0::c1,[]))):=ah
theorem WU {n i:Nat} {k:Nat->Rat} {x:Rat}:aM T ug [9,16] 60 oI [part oY [1,0,1,0,0]] ⟨aH oI (wU n i k 192 x),[],0⟩=
  let c7:Int:=(↑n:Int);let c5:Prop:=2000<=2000;let c4:AV:=func 192 [(rat x 2000).bn];let c3:AV:=aq 3 n fun i=>rat (k i) 2000;let c2:Int:=(↑i:Int);let c6:Int:=c2+1;let c1:List AV:=[c3,c4,int i64 c7,int i64 c2];some (fork (decide (c2<c7)) (aj [(0:Int)<=c2/\c2.toNat<n,c5,c5] (fork (decide (x<=k c2.toNat)) (leaf ret (int i64 c2::c1,[])) (aj [-(2:Int)^63<=c6/\c6<2^63] (leaf normal ([int i64 0,c3,c4,int i64 c7,int i64 c6],[]))))) (leaf (exit 0) (int i64 0::c1,[]))):=ah
theorem Ks {n i:Nat} {k:Nat->Rat} {g:FuncId} {x:Rat}:cR T ug [] 60 f190 [part oY [1,1]] ⟨aH oI (wU n i k g x),[],0⟩=
  some (leaf ret [int i64 (-1:Int)]):=ah
theorem acK:aY P EH 191:=cC fun⟨x,y,_⟩ K _=>by
 refine bJ (r:=aI (.bool (decide (y<x))) []) hT (eV fq) hm Xq rfl aV rfl 60 aeV (fun _=>?_) K []
 simp only[ag.all,au]
 exact⟨⟨aa,aa,aa⟩,gQ (decide_eq_decide.2 rS)⟩
theorem R9:aY P G9 192:=cC fun⟨x,y,_⟩ K _=>by
 refine bJ (r:=aI (.bool (decide (y<=x))) []) hT (eV fq) hm YS rfl aV rfl 60 aeA (fun _=>?_) K []
 simp only[ag.all,au]
 exact⟨⟨aa,aa,aa⟩,gQ (decide_eq_decide.2 rq)⟩
theorem GX:aZ P ug:=eV (aE acK (aE R9 bA))
theorem ag8:aY P Fx 190:=cC fun⟨⟨n,k⟩,x,_⟩ K hn=>by
 have n1:n<2^40:=hn.1
 have n2:gq (k7 x k) n<n:=hn.2
 refine iJ (r:=aI (.int .i64 (gq (k7 x k) n:Nat)) []) hT GX hm I8 rfl aV rfl [1,0,1] (i:=0) (y:=part oY [1,0,1,0,0]) (z:=part oY [1,1]) ah ah ah (f1:=[]) (f2:=[9,16]) (f3:=[]) 60 oI 0
  (fun i:Nat=>wU n i k 191 x) (fun _=>[]) (fun i=>i<=n/\∀j,j<i->k7 x k j=false) (fun i=>i=n/\∀j,j<i->k7 x k j=false) (fun i=>n-i) (fun _=>⟨⟨_,J3,?_⟩,fun i ⟨h1,h2⟩=>⟨_,T6,?_⟩,fun i ⟨h1,h2⟩=>⟨_,Ks,?_⟩⟩) K []
 ·exact⟨0,⟨Nat.zero_le _,fun j hj=>aa⟩,.vals rfl⟩
 ·simp only[ag.all,au,bz,bF,bw]
  refine⟨fun h=>⟨aa,fun hb=>⟨[.int .i64 i],ah,?_⟩,fun hb=>⟨aa,i+1,⟨aa,fun j hj=>?_⟩,by dsimp only;omega,.vals rfl⟩⟩,fun h=>⟨rfl,i,⟨aa,h2⟩,.vals rfl⟩⟩
  ·exact bU (by rw[vI (g:=k7 x k) (i:=i) (decide_eq_true hb) h2 (n:=n) aa])
  ·by_cases hji:j=i
   ·subst hji;exact decide_eq_false hb
   ·exact h2 j aa
 ·subst h1
  rw[xC h2]at n2
  omega
theorem U7:aY P HO 190:=cC fun⟨⟨n,k⟩,x,_⟩ K hn=>by
 have n1:n<2^40:=hn.1
 have n2:gq (lJ x k) n<n:=hn.2
 refine iJ (r:=aI (.int .i64 (gq (lJ x k) n:Nat)) []) hT GX hm I8 rfl aV rfl [1,0,1] (i:=0) (y:=part oY [1,0,1,0,0]) (z:=part oY [1,1]) ah ah ah (f1:=[]) (f2:=[9,16]) (f3:=[]) 60 oI 0
  (fun i:Nat=>wU n i k 192 x) (fun _=>[]) (fun i=>i<=n/\∀j,j<i->lJ x k j=false) (fun i=>i=n/\∀j,j<i->lJ x k j=false) (fun i=>n-i) (fun _=>⟨⟨_,J3,?_⟩,fun i ⟨h1,h2⟩=>⟨_,WU,?_⟩,fun i ⟨h1,h2⟩=>⟨_,Ks,?_⟩⟩) K []
 ·exact⟨0,⟨Nat.zero_le _,fun j hj=>aa⟩,.vals rfl⟩
 ·simp only[ag.all,au,bz,bF,bw]
  refine⟨fun h=>⟨aa,fun hb=>⟨[.int .i64 i],ah,?_⟩,fun hb=>⟨aa,i+1,⟨aa,fun j hj=>?_⟩,by dsimp only;omega,.vals rfl⟩⟩,fun h=>⟨rfl,i,⟨aa,h2⟩,.vals rfl⟩⟩
  ·exact bU (by rw[vI (g:=lJ x k) (i:=i) (decide_eq_true hb) h2 (n:=n) aa])
  ·by_cases hji:j=i
   ·subst hji;exact decide_eq_false hb
   ·exact h2 j aa
 ·subst h1
  rw[xC h2]at n2
  omega
theorem XX:aY P CX 190:=by
 intro K args pre r h
 unfold CX at h
 split at h
 ·rename_i g
  simp only[ax]at h
  subst h
  exact ag8 _ _ _ _ g
 ·exact U7 _ _ _ _ h
theorem K5:aW 157 f157:=aN func157
def fH (k:Nat->Rat) (n:Nat) (t:Rat):Nat->Nat->Rat
 |0=>k
 |r+1=>dB (fH k n t r) t (cS (n+r) (fH k n t r) t+1)
def FU:Spec:=cP (kC (kL 2000) (kC (eI 2000) kN)) (fun a=>bp (jg a.1.2 a.2.1 (gH a.1.2 a.2.1 a.1.1)) (a.1.1+1) 2000) fun a=>[a.1.1<2^40,∀i,i<a.1.1+1->Sz (jg a.1.2 a.2.1 (gH a.1.2 a.2.1 a.1.1) i) 2000]
def j9:aU:=nG::(113,xz)::(114,FU)::(189,GK)::(190,CX)::eO
abbrev s8:Code:=aF f157
abbrev xD:Code:=part s8 [1]
abbrev u9:Code:=part xD [1,0,1,0,0]
abbrev ud:Code:=part u9 [1,1,0,0]
abbrev qY:Code:=part s8 [1,1,1]
abbrev qI:Code:=part qY [1,1,1,1,1,1]
abbrev vi:az:=⟨false,true,3,1,fun _=>.agg [.int .i64 0,.nil,.nil]⟩
abbrev uW (c:Cu):az:=⟨false,true,3,1,fun _=>fB c 2000 4000⟩
abbrev Ab:List Nat:=[3,4,5,6]
abbrev acV (a b:Rat):List AV:=[.ptr 0 0 3 0 [],.bn (.rat a 2000),.bn (.rat b 2000),.ptr 3 0 3 0 []]
abbrev Ua (c:Cu) (a b:Rat):aD:=[(3,vi),(2,⟨false,false,3,1,fun _=>.rat b 2000⟩),(1,⟨false,false,3,1,fun _=>.rat a 2000⟩),(0,uW c)]
abbrev nS:List Nat:=[3,4,5,6,7,19,20]
abbrev oS (a b:Rat) (n:Nat) (k:Nat->Rat) (j:Nat):List AV:=[.ptr 0 0 3 0 [],.bn (.rat a 2000),.bn (.rat b 2000),.ptr 1 0 3 0 [],bp k n 2000,.agg [.rat a 2000,.rat b 2000],.int .i64 j]
abbrev oK (c:Cu):aD:=[(1,vi),(0,uW c)]
abbrev td:List Nat:=[3,4,5,6,7,19,20,9,10]
abbrev uH (a b:Rat) (n:Nat) (k:Nat->Rat) (j:Nat) (e:Bool):List AV:=[.ptr 0 0 3 0 [],.bn (.rat a 2000),.bn (.rat b 2000),.ptr 1 0 3 0 [],bp k n 2000,.agg [.rat a 2000,.rat b 2000],.int .i64 j,.ptr 2 0 3 0 [],.bool e]
abbrev wS (c:Cu) (x:Rat):aD:=[(2,⟨false,true,3,1,fun _=>.rat x 2000⟩),(1,vi),(0,uW c)]
abbrev wq:List Nat:=[3,4,5,6,7,11,12,13,14,67,68]
abbrev AB (p:Int) (a b:Rat) (n:Nat) (k:Nat->Rat) (f l i:Nat):List AV:=[.ptr 0 0 3 0 [],.bn (.rat a 2000),.bn (.rat b 2000),.ptr 1 0 3 0 [],bp k n 2000,.ptr 2 0 3 0 [],.ptr 3 0 3 0 [],.int .i64 ((f:Int)-1),.int .i64 l,.int .i64 (p+1),.int .i64 i]
abbrev tT (c D:Cu) (x:Nat->Rat) (i:Nat):aD:=[(4,zq 2000 i x),(3,⟨false,true,3,1,fun _=>.agg [.int .i64 c.p,.own 4 3 0 i,.nil]⟩),(2,⟨false,true,3,1,fun _=>fB D sK sB⟩),(1,vi),(0,uW c)]
abbrev uU:List Nat:=[3,5,6,11,12,13,14,88,89]
abbrev Dq (p:Int) (b:Rat) (f l i:Nat):List AV:=[.ptr 0 0 3 0 [],.bn (.rat b 2000),.ptr 1 0 3 0 [],.ptr 2 0 3 0 [],.ptr 3 0 3 0 [],.int .i64 ((f:Int)-1),.int .i64 l,.int .i64 (p+1),.int .i64 i]
def oJ (p:Nat) (a b:Rat) (k:Nat->Rat) (f l q:Nat):Rat:=if q<p+1 then a else if q<p+1+(l-f)then k (f+(q-(p+1)))else b
def vu (D:Cu) (a b:Rat) (f l:Nat):Cu:=⟨D.p,D.p.toNat+1+(l-f)+(D.p.toNat+1),oJ D.p.toNat a b D.k f l,l-(f-1-D.p.toNat),fun q=>D.f (f-1-D.p.toNat+q)⟩
theorem VT {c:Cu} {a b:Rat}:aM T j9 [] 60 Ab (before s8 [1]) ⟨aT 0 [fB c 2000 4000,.rat a 2000,.rat b 2000],[],0⟩=
  let c3:AV:=rat b 2000;let c2:AV:=rat a 2000;let c1:Nat:=(bK (fB c 2000 4000)).size;some (leaf normal ([ptr 0 0 c1 0 [],ptr 4096 0 (bK c2).size 0 [],ptr 8192 0 (bK c3).size 0 [],ptr 12288 0 3 0 []],[((12288:Nat),bN fun x=>agg [int i64 0,nil,nil]),(8192,az.mk false true (bK c3).size 1 fun x=>c3),(4096,az.mk false true (bK c2).size 1 fun x=>c2),(0,az.mk false true c1 1 fun x=>agg [int i64 c.p,aq 3 c.n fun i=>rat (c.k i) 2000,aq 12 c.m fun i=>cu (c.f i) 4000])])):=ah
theorem aaE {c:Cu} {a b:Rat}:aM T j9 [] 60 nS (before xD [1,0,1]) ⟨aH Ab (acV a b),Ua c a b,4⟩=
  let c1:AV:=aq 3 c.n fun i=>rat (c.k i) 2000;some (aj [(0:Nat)<1] (leaf normal ([ptr 0 0 3 0 [],(rat a 2000).bn,(rat b 2000).bn,ptr 3 0 3 0 [],c1,agg [rat a 2000,rat b 2000],int i64 0],[((3:Nat),bN fun x=>agg [int i64 0,nil,nil]),((0:Nat),bN fun x=>agg [int i64 c.p,c1,aq 12 c.m fun i=>cu (c.f i) 4000])]))):=ah
theorem ae6 {c:Cu} {a b:Rat} {n j:Nat} {k:Nat->Rat}:aM T j9 [21] 60 nS (before u9 [1,1,0]) ⟨aH nS (oS a b n k j),oK c,2⟩=
  let c1:List AV×aD:=([ptr 0 0 3 0 [],(rat a 2000).bn,(rat b 2000).bn,ptr 1 0 3 0 [],aq 3 n fun i=>rat (k i) 2000,agg [rat a 2000,rat b 2000],int i64 (↑j:Int)],[((1:Nat),bN fun x=>agg [int i64 0,nil,nil]),((0:Nat),bN fun x=>agg [int i64 c.p,aq 3 c.n fun i=>rat (c.k i) 2000,aq 12 c.m fun i=>cu (c.f i) 4000])]);some (fork (decide ((↑j:Int)<2)) (leaf normal c1) (leaf (exit 0) c1)):=ah
theorem Oo {c:Cu} {a b:Rat} {n:Nat} {k:Nat->Rat}:aM T j9 [28] 60 td (before ud [1,1]) ⟨aH nS (oS a b n k 0),oK c,2⟩=
  let c12:AV:=int i64 0;let c11:AV:=ptr 1 0 3 0 [];let c10:AV:=aq 3 n fun i=>rat (k i) 2000;let c9:AV:=ptr 0 0 3 0 [];let c8:AV:=rat b 2000;let c7:AV:=ptr 4098 0 3 0 [];let c6:Prop:=0<1;let c5:AV:=rat a 2000;let c4:Int:=(↑n:Int)-1;let c3:Nat:=Int.toNat (0:Int);let c2:Prop:=2000<2^42;let c14:Prop:=(0:Int)<=0/\c3<n;let c13:Bool:=decide (a=k c3);let c1:List (Nat×az):=[((4098:Nat),bN fun j=>if(j==0)=true then bK c5 else rat 0 1),((1:Nat),bN fun x=>agg [c12,nil,nil]),((0:Nat),bN fun x=>agg [int i64 c.p,aq 3 c.n fun i=>rat (c.k i) 2000,aq 12 c.m fun i=>cu (c.f i) 4000])];some (aj [(0:Int)<=(↑(0:Nat):Int)/\(↑(0:Nat):Int)<(↑(2:Nat):Int),c6] (fork c13 (aj [c6,c14,c2,c2,c13=true] (leaf normal ([c9,c5.bn,c8.bn,c11,c10,agg [c5,c8],c12,c7,AV.bool true],c1))) (aj [c6,c14,c2,c2,c13=false,c6,-(2:Int)^63<=c4/\c4<2^63,(0:Int)<=c4/\c4.toNat<n,c2,c2] (leaf normal ([c9,c5.bn,c8.bn,c11,c10,agg [c5,c8],c12,c7,AV.bool (bif false then true else decide (a=k c4.toNat))],c1))))):=ah
theorem Xw {c:Cu} {a b:Rat} {n:Nat} {k:Nat->Rat}:aM T j9 [28] 60 td (before ud [1,1]) ⟨aH nS (oS a b n k 1),oK c,2⟩=
  let c11:AV:=ptr 1 0 3 0 [];let c10:AV:=aq 3 n fun i=>rat (k i) 2000;let c9:AV:=ptr 0 0 3 0 [];let c8:AV:=rat a 2000;let c7:AV:=ptr 4098 0 3 0 [];let c6:Prop:=0<1;let c5:AV:=rat b 2000;let c4:Int:=(↑n:Int)-1;let c3:Nat:=Int.toNat (0:Int);let c2:Prop:=2000<2^42;let c13:Prop:=(0:Int)<=0/\c3<n;let c12:Bool:=decide (b=k c3);let c1:List (Nat×az):=[((4098:Nat),bN fun j=>if(j==0)=true then bK c5 else rat 0 1),((1:Nat),bN fun x=>agg [int i64 0,nil,nil]),((0:Nat),bN fun x=>agg [int i64 c.p,aq 3 c.n fun i=>rat (c.k i) 2000,aq 12 c.m fun i=>cu (c.f i) 4000])];some (aj [(0:Int)<=(↑(1:Nat):Int)/\(↑(1:Nat):Int)<(↑(2:Nat):Int),c6] (fork c12 (aj [c6,c13,c2,c2,c12=true] (leaf normal ([c9,c8.bn,c5.bn,c11,c10,agg [c8,c5],int i64 1,c7,AV.bool true],c1))) (aj [c6,c13,c2,c2,c12=false,c6,-(2:Int)^63<=c4/\c4<2^63,(0:Int)<=c4/\c4.toNat<n,c2,c2] (leaf normal ([c9,c8.bn,c5.bn,c11,c10,agg [c8,c5],int i64 1,c7,AV.bool (bif false then true else decide (b=k c4.toNat))],c1))))):=ah
theorem Yg {c:Cu} {a b x:Rat} {n j:Nat} {k:Nat->Rat} {e:Bool}:aM T j9 [40,47] 60 td [part ud [1,1,0,0]] ⟨aH td (uH a b n k j e),wS c x,3⟩=
  let c11:Prop:=n<2^40;let c10:AV:=rat a 2000;let c9:AV:=rat b 2000;let c8:Prop:=0<1;let c7:AV:=ptr 1 0 3 0 [];let c6:AV:=ptr 0 0 3 0 [];let c5:Int:=(↑(bS (fun i=>aC (rat (k i) 2000)) x n):Int);let c1:List (Nat×az):=[((2:Nat),bN fun x_1=>rat x 2000),((1:Nat),bN fun x=>agg [int i64 0,nil,nil]),((0:Nat),bN fun x=>agg [int i64 c.p,aq 3 c.n fun i=>rat (c.k i) 2000,aq 12 c.m fun i=>cu (c.f i) 4000])];let c4:List AV:=[agg [c10,c9],int i64 (↑j:Int),ptr 2 0 3 0 [],AV.bool e];let c3:ag (List AV×aD):=leaf (exit 2) (c6::c10.bn::c9.bn::c7::(aq 3 n fun i=>rat (k i) 2000)::c4,c1);let c2:ag (List AV×aD):=aj [c8,bT (fun i=>rat (k i) 2000) n 2000,(2000:Nat)<=2000,c11,∀(i:Nat),i<n+1->Sz (jg (fun i=>aC (rat (k i) 2000)) x (gH (fun i=>aC (rat (k i) 2000)) x n) i) 2000] (leaf normal (c6::c10.bn::c9.bn::c7::(aq 3 (n+1) fun i=>rat (jg (fun i=>aC (rat (k i) 2000)) x (gH (fun i=>aC (rat (k i) 2000)) x n) i) 2000)::c4,c1));some (fork (!e) (aj [(!e)=true,c8,bT (fun i=>rat (k i) 2000) n sK,(2000:Nat)<=sK,c11,c8] (fork (bif true then decide (c5<c.p)else false) c2 c3)) (aj [(!e)=false] (fork false c2 c3))):=ah
theorem aeX {c:Cu} {a b x:Rat} {n j:Nat} {k:Nat->Rat} {e:Bool}:aM T j9 [] 60 nS [part u9 [1,1,1]] ⟨aH td (uH a b n k j e),wS c x,3⟩=
  let c1:Int:=(↑j:Int)+1;some (aj [-(2:Int)^63<=c1/\c1<2^63] (leaf normal ([ptr 0 0 3 0 [],(rat a 2000).bn,(rat b 2000).bn,ptr 1 0 3 0 [],aq 3 n fun i=>rat (k i) 2000,agg [rat a 2000,rat b 2000],int i64 c1],[((1:Nat),bN fun x=>agg [int i64 0,nil,nil]),((0:Nat),bN fun x=>agg [int i64 c.p,aq 3 c.n fun i=>rat (c.k i) 2000,aq 12 c.m fun i=>cu (c.f i) 4000])]))):=ah
theorem VC {c:Cu} {a b:Rat} {n j:Nat} {k:Nat->Rat}:aM T j9 [] 60 wq (before qY [1,1,1,1,1,0,1]) ⟨aH nS (oS a b n k j),oK c,2⟩=
  let c10:Prop:=2000<=2000;let c9:Int:=c.p+1;let c7:Nat:=gq (lJ b fun i=>aC (rat (k i) 2000)) n;let c6:Prop:=bT (fun i=>rat (k i) 2000) n 2000;let c5:Nat:=2^40;let c4:Int:=(2:Int)^63;let c3:Prop:=0<1;let c2:AV:=agg [int i64 0,nil,nil];let c1:Nat:=gq (k7 a fun i=>aC (rat (k i) 2000)) n;let c8:Int:=(↑c1:Int)-1;some (aj [c3,bT (fun i=>rat (c.k i) 2000) c.n sK,qw (fun i=>cu (c.f i) 4000) c.m sK,bT (fun i=>rat (k i) 2000) n sK,Kn c.n c.p.toNat fun i=>aC (rat (c.k i) 2000),(1:Int)<=c.p,c.p<=6,c.n<c5,c.m<c5,n<2^29,c9<=(↑n:Int),c3] (aj [c3,c3] (aj [c6,c10,n<c5,c1<n,-c4<=c8/\c8<c4] (aj [c6,c10,n<c5,c7<n] (aj [c3,-c4<=c9/\c9<c4] (leaf normal ([ptr 0 0 3 0 [],(rat a 2000).bn,(rat b 2000).bn,ptr 1 0 3 0 [],aq 3 n fun i=>rat (k i) 2000,ptr 12290 0 3 0 [],ptr 20482 0 3 0 [],int i64 c8,int i64 (↑c7:Int),int i64 c9,int i64 0],[((20482:Nat),bN fun j=>if(j==0)=true then agg (c2.kids.set 0 (bK (int i64 c.p)))else c2),((12290:Nat),bN fun j=>if(j==0)=true then bK (fB (k8 (Cu.mk c.p c.n (fun i=>aC (rat (c.k i) 2000)) c.m fun i=>qD (cu (c.f i) 4000)) n fun i=>aC (rat (k i) 2000)) sK sB)else c2),((1:Nat),bN fun x=>c2),((0:Nat),bN fun x=>agg [int i64 c.p,aq 3 c.n fun i=>rat (c.k i) 2000,aq 12 c.m fun i=>cu (c.f i) 4000])]))))))):=ah
theorem abR {c D:Cu} {a b:Rat} {n f l i:Nat} {k x:Nat->Rat}:aM T j9 [69] 60 wq [part qY [1,1,1,1,1,0,1,0,0]] ⟨aH wq (AB c.p a b n k f l i),tT c D x i,5⟩=
  let c13:Int:=(↑i:Int);let c12:AV:=(rat b 2000).bn;let c11:AV:=int i64 ((↑f:Int)-1);let c10:AV:=rat a 2000;let c9:Int:=c.p+1;let c7:AV:=ptr 2 0 3 0 [];let c6:AV:=ptr 3 0 3 0 [];let c5:AV:=ptr 1 0 3 0 [];let c4:AV:=aq 3 n fun i=>rat (k i) 2000;let c3:AV:=ptr 0 0 3 0 [];let c2:AV:=agg [int i64 c.p,own 4 3 0 i,nil];let c1:List (Nat×az):=[((2:Nat),bN fun x=>agg [int i64 D.p,aq 3 D.n fun i=>rat (D.k i) 4096,aq 12 D.m fun i=>cu (D.f i) 536870912]),((1:Nat),bN fun x=>agg [int i64 0,nil,nil]),((0:Nat),bN fun x=>agg [int i64 c.p,aq 3 c.n fun i=>rat (c.k i) 2000,aq 12 c.m fun i=>cu (c.f i) 4000])];let c8:Int:=c13+1;some (fork (decide (c13<c9)) (aj [(0:Nat)<1,(1:Nat)*3<=2^24,(i+1)*((56:Nat)+1)*2<=2^47,(0:Nat)<1] (aj [-(2:Int)^63<=c8/\c8<2^63] (leaf normal ([c3,c10.bn,c12,c5,c4,c7,c6,c11,int i64 (↑l:Int),int i64 c9,int i64 c8],(20485,az.mk true true 3 (i+1) fun i_1=>if i_1<i then rat (x i_1) 2000 else nth [c10] (rat 0 1) (i_1-i+0))::((3:Nat),bN fun j=>if(j==0)=true then agg (c2.kids.set 1 (bK (own (nat_lit 20484+1) 3 0 (i+1))))else c2)::c1)))) (leaf (exit 4) ([c3,c10.bn,c12,c5,c4,c7,c6,c11,int i64 (↑l:Int),int i64 c9,int i64 c13],(4,az.mk true true 3 i fun i=>rat (x i) 2000)::((3:Nat),bN fun x=>c2)::c1))):=ah
theorem RC {c D:Cu} {a b:Rat} {n f l i:Nat} {k x:Nat->Rat}:aM T j9 [] 60 uU (before qI [1,0,1]) ⟨aH wq (AB c.p a b n k f l i),tT c D x i,5⟩=
  let c7:Int:=c.p+1;let c6:Prop:=0<1;let c5:Int:=(↑l:Int);let c4:AV:=agg [int i64 c.p,own 4 3 0 i,nil];let c3:Int:=(2:Int)^63;let c1:Int:=(↑f:Int)-1+(1:Int);let c2:Nat:=i+(c5.toNat-c1.toNat);some (aj [c6,-c3<=c1/\c1<c3,(0:Int)<=c1/\c1<=c5/\c5<=c5/\c5<=(↑n:Int),c2*((56:Nat)+1)*2<=2^47,c6] (aj [c6,-c3<=c7/\c7<c3] (leaf normal ([ptr 0 0 3 0 [],(rat b 2000).bn,ptr 1 0 3 0 [],ptr 2 0 3 0 [],ptr 3 0 3 0 [],int i64 ((↑f:Int)-1),int i64 c5,int i64 c7,int i64 0],[(28677,az.mk true true 3 c2 fun i_1=>if i_1<i then rat (x i_1) 2000 else rat (k (i_1-i+c1.toNat)) 2000),((3:Nat),bN fun j=>if(j==0)=true then agg (c4.kids.set 1 (bK (own (nat_lit 28676+1) 3 0 c2)))else c4),((2:Nat),bN fun x=>agg [int i64 D.p,aq 3 D.n fun i=>rat (D.k i) 4096,aq 12 D.m fun i=>cu (D.f i) 536870912]),((1:Nat),bN fun x=>agg [int i64 0,nil,nil]),((0:Nat),bN fun x=>agg [int i64 c.p,aq 3 c.n fun i=>rat (c.k i) 2000,aq 12 c.m fun i=>cu (c.f i) 4000])])))):=ah
theorem O6 {c D:Cu} {b:Rat} {f l i m:Nat} {x:Nat->Rat}:aM T j9 [90] 60 uU [part qI [1,0,1,0,0]] ⟨aH uU (Dq c.p b f l i),tT c D x m,5⟩=
  let c11:Int:=(↑i:Int);let c10:AV:=int i64 ((↑f:Int)-1);let c9:AV:=rat b 2000;let c8:Int:=c.p+1;let c6:AV:=ptr 2 0 3 0 [];let c5:AV:=ptr 3 0 3 0 [];let c4:AV:=ptr 1 0 3 0 [];let c3:AV:=ptr 0 0 3 0 [];let c2:AV:=agg [int i64 c.p,own 4 3 0 m,nil];let c1:List (Nat×az):=[((2:Nat),bN fun x=>agg [int i64 D.p,aq 3 D.n fun i=>rat (D.k i) 4096,aq 12 D.m fun i=>cu (D.f i) 536870912]),((1:Nat),bN fun x=>agg [int i64 0,nil,nil]),((0:Nat),bN fun x=>agg [int i64 c.p,aq 3 c.n fun i=>rat (c.k i) 2000,aq 12 c.m fun i=>cu (c.f i) 4000])];let c7:Int:=c11+1;some (fork (decide (c11<c8)) (aj [(0:Nat)<1,(1:Nat)*3<=2^24,(m+1)*((56:Nat)+1)*2<=2^47,(0:Nat)<1] (aj [-(2:Int)^63<=c7/\c7<2^63] (leaf normal ([c3,c9.bn,c4,c6,c5,c10,int i64 (↑l:Int),int i64 c8,int i64 c7],(20485,az.mk true true 3 (m+1) fun i=>if i<m then rat (x i) 2000 else nth [c9] (rat 0 1) (i-m+0))::((3:Nat),bN fun j=>if(j==0)=true then agg (c2.kids.set 1 (bK (own (nat_lit 20484+1) 3 0 (m+1))))else c2)::c1)))) (leaf (exit 6) ([c3,c9.bn,c4,c6,c5,c10,int i64 (↑l:Int),int i64 c8,int i64 c11],(4,az.mk true true 3 m fun i=>rat (x i) 2000)::((3:Nat),bN fun x=>c2)::c1))):=ah
theorem adi {c D:Cu} {b:Rat} {f l i m:Nat} {x:Nat->Rat}:cR T j9 [] 60 f157 [part qI [1,1]] ⟨aH uU (Dq c.p b f l i),tT c D x m,5⟩=
  let c3:Int:=(↑l:Int);let c2:Prop:=0<1;let c1:Int:=(↑f:Int)-1-c.p;some (aj [c2,c2,-(2:Int)^63<=c1/\c1<2^63,(0:Int)<=c1/\c1<=c3/\c3<=c3/\c3<=(↑D.m:Int),c2] (aj [c2,c2] (aj [c2] (leaf ret [agg [int i64 c.p,aq 3 m fun i=>rat (x (i+0)) 2000,aq 12 (c3.toNat-c1.toNat) fun i=>cu (D.f (i+c1.toNat)) 536870912]])))):=ah
theorem aeR:aY P FU 114:=cC fun⟨⟨n,k⟩,t,_⟩ K hn=>by
 have h1:n<2^40:=hn.1
 have h2:∀i,i<n+1->Sz (jg k t (gH k t n) i) 2000:=hn.2
 exact nH (u:=bp (jg k t (gH k t n)) (n+1) 2002) (l:=[]) (Xm bq bq (by decide) h1 K) (fun h=>trivial) rfl rfl (dI fun i hi=>er rfl (h2 i hi))
theorem uT:aZ P j9:=eV (aE C6 (aE aeR (aE afM (aE XX fq))))
structure u6 (n p:Nat) (k:Nat->Rat) (t:Rat) (r:Nat):Prop where
 kn:Kn (n+r) p (fH k n t r)
 tm:bS (fH k n t r) t (n+r)=bS k t n+r
 f0:fH k n t r 0=k 0
 fl:fH k n t r (n+r-1)=k (n-1)
 sd:∀i,Sz (fH k n t r i) 60
theorem Vk {k:Nat->Rat} {t:Rat} {q:Nat} (hk:∀i,Sz (k i) 60) (ht:Sz t 60) (i:Nat):Sz (dB k t q i) 60:=by
 unfold dB
 split
 ·exact hk _
 ·split
  ·exact ht
  ·exact hk _
theorem F8 {n p:Nat} {k:Nat->Rat} {t:Rat} (h:Kn n p k) (h0:k 0<t) (h1:t<k (n-1)) (kd:∀i,Sz (k i) 60) (ht:Sz t 60):∀{r:Nat},bS k t n+r<=p->u6 n p k t r
 |0,_=>⟨h,rfl,rfl,rfl,kd⟩
 |r+1,hr=>by
  obtain⟨a1,a2,a3,a4,a5⟩:=F8 h h0 h1 kd ht (r:=r) aa
  have g0:fH k n t r 0<t:=by rw[a3];exact h0
  have g1:t<fH k n t r (n+r-1):=by rw[a4];exact h1
  obtain⟨i1,i2,i3⟩:=qj a1 g0 g1
  have e:fH k n t (r+1)=dB (fH k n t r) t (cS (n+r) (fH k n t r) t+1):=rfl
  generalize cS (n+r) (fH k n t r) t=a at*
  generalize fH k n t r=K at*
  have tm:=D0 (k:=K) (t:=t) (q:=a+1) (m:=n+r-(a+1))
  rw[show a+1+1+(n+r-(a+1))=n+(r+1) by omega,show a+1+(n+r-(a+1))=n+r by omega]at tm
  have hK:=a1.dB g0 g1 i1 i2 i3 aa
  refine⟨?_,?_,?_,?_,?_⟩
  ·rw[e];exact hK
  ·rw[e,tm,a2];rfl
  ·rw[e,iC aa,a3]
  ·rw[e,show n+(r+1)-1=n+r by omega,iI aa,a4]
  ·rw[e];exact Vk a5 ht
theorem u6.next {n p r:Nat} {k:Nat->Rat} {t:Rat} (h:u6 n p k t r) (h0:k 0<t) (h1:t<k (n-1)):jg (fH k n t r) t (gH (fH k n t r) t (n+r))=fH k n t (r+1):=by
 obtain⟨a1,a2,a3,a4,a5⟩:=h
 obtain⟨i1,i2,i3⟩:=qj a1 (by rw[a3];exact h0) (by rw[a4];exact h1)
 rw[P6 a1.sorted i1 i2 i3];rfl
theorem YN {c:Cu} {a b:Rat} {n f l j:Nat} {k:Nat->Rat} {cx:Ctx} {Q:ak->aL->Prop} (hk:Kept [] cx) (hc:Kn c.n c.p.toNat c.k) (hp1:1<=c.p) (hp6:c.p<=6) (hcn:c.n<2^28) (hcm:c.m<2^28) (hn:n<2^28) (hpn:c.p+1<=n) (hf:gq (k7 a k) n=f) (hl:gq (lJ b k) n=l) (h1:c.p.toNat+1<=f) (h2:f<=l) (h3:l+c.p.toNat+1<=n)
  (hQ:∀e s',eG cx (Fin T f157 (fB (vu (k8 c n k) a b f l) sK sB)) e s'->Q e s'):ay P cx f157.ntmps qY ⟨aH nS (oS a b n k j),oK c,2⟩ Q:=by
 have hv:∀{rl:List (Nat×Nat)} {k x y y':Nat},bB rl k=some x->y=y'->iF rl (.agg [.int .i64 c.p,.own x 3 0 y,.nil]) (.agg [.int .i64 c.p,.own k 3 0 y',.nil]):=fun h e=>me ⟨aQ,⟨rfl,dw h rfl e⟩,aQ,trivial⟩
 refine ay.wv hT uT hm (x:=qY) [1,1,1,1,1,0,1] (i:=4) (y:=part qY [1,1,1,1,1,0,1,0,0]) (z:=qI) ah ah ah ah hk (f1:=[]) (f2:=[69]) 60 wq 5
  (fun i:Nat=>AB c.p a b n k f l i) (fun i=>tT c (k8 c n k) (fun _=>a) i) (fun i=>i<=c.p.toNat+1) (fun i=>i=c.p.toNat+1) (fun i=>c.p.toNat+1-i) (fun _=>False) ⟨_,VC,?_⟩ (fun i hi=>⟨_,abR,?_⟩) (fun i hi=>?_) (fun _ _ h=>h.elim)
 ·have e1:gq (k7 a fun i=>aC (rat (k i) 2000)) n=f:=hf
  have e2:gq (lJ b fun i=>aC (rat (k i) 2000)) n=l:=hl
  simp only[ag.all,au,e1,e2]
  refine⟨⟨aa,dh (by decide),Dk (by decide),dh (by decide),hc,hp1,hp6,aa,aa,aa,hpn,aa⟩,⟨aa,aa⟩,⟨dh bq,aa,aa,aa,aa⟩,⟨dh bq,aa,aa,aa⟩,⟨aa,aa⟩,0,Nat.zero_le _,[(0,0),(1,1),(2,12290),(3,20482)],rfl,rfl,rfl,lD rfl aa aa (ff rfl rfl (me ⟨aQ,⟨rfl,pE aa⟩,aQ,trivial⟩) (bf (bf (bf trivial))))⟩
 ·simp only[ag.all,au,bz,bF,bw]
  refine⟨fun h=>⟨⟨aa,aa,aa,aa⟩,aa,i+1,aa,by dsimp only;omega,[(0,0),(1,1),(2,2),(3,3),(4,20485)],rfl,rfl,rfl,cI rfl rfl rfl (fun q hq=>oz (y:=fun _=>a) (fun _ _=>rfl) rfl bq bq hq) (ff rfl rfl (hv rfl rfl) (bf (bf (bf trivial))))⟩,fun h=>⟨rfl,i,aa,[(0,0),(1,1),(2,2),(3,3),(4,4)],rfl,rfl,rfl,mm (ff rfl rfl (hv rfl rfl) (bf (bf (bf trivial))))⟩⟩
 ·subst hi
  refine ay.wv hT uT hm (x:=qI) [1,0,1] (i:=6) (y:=part qI [1,0,1,0,0]) (z:=part qI [1,1]) ah ah ah ah hk (f1:=[]) (f2:=[90]) 60 uU 5
   (fun i:Nat=>Dq c.p b f l i) (fun i=>tT c (k8 c n k) (oJ c.p.toNat a b k f l) (c.p.toNat+1+(l-f)+i)) (fun i=>i<=c.p.toNat+1) (fun i=>i=c.p.toNat+1) (fun i=>c.p.toNat+1-i) (fun _=>False) ⟨_,RC,?_⟩ (fun i hi=>⟨_,O6,?_⟩) (fun i hi=>?_) (fun _ _ h=>h.elim)
  ·simp only[ag.all,au,bw]
   have e1:((f:Int)-1+1).toNat=f:=aa
   simp only[e1]
   refine⟨⟨aa,aa,aa,aa,aa⟩,⟨aa,aa⟩,0,Nat.zero_le _,[(0,0),(1,1),(2,2),(3,3),(4,28677)],rfl,rfl,rfl,cI rfl rfl rfl (fun q hq=>eH (DE rfl rfl) ?_) (ff rfl rfl (hv rfl rfl) (bf (bf (bf trivial))))⟩
   have hq:q<c.p.toNat+1+(l-f)+0:=hq
   unfold oJ
   by_cases c1:q<c.p.toNat+1
   ·rw[if_pos c1,if_pos c1]
   ·rw[if_neg c1,if_neg c1,if_pos aa,Nat.add_comm]
  ·simp only[ag.all,au,bz,bF,bw]
   refine⟨fun h=>⟨⟨aa,aa,aa,aa⟩,aa,i+1,aa,by dsimp only;omega,[(0,0),(1,1),(2,2),(3,3),(4,20485)],rfl,rfl,rfl,cI rfl rfl rfl (fun q hq=>oz (y:=oJ c.p.toNat a b k f l) (fun _ _=>rfl) ?_ bq bq hq) (ff rfl rfl (hv rfl rfl) (bf (bf (bf trivial))))⟩,fun h=>⟨rfl,i,aa,[(0,0),(1,1),(2,2),(3,3),(4,4)],rfl,rfl,rfl,mm (ff rfl rfl (hv rfl rfl) (bf (bf (bf trivial))))⟩⟩
   unfold oJ
   rw[if_neg aa,if_neg aa]
  ·subst hi
   refine ay.rF ((aJ.fin hT uT hm 60 adi ah ?_).mono fun _ _ h=>hQ _ _ (.inl h))
   simp only[ag.all,au,bw]
   have e1:((f:Int)-1-c.p).toNat=f-1-c.p.toNat:=aa
   have e2:(k8 c n k).m=n-c.p.toNat-1:=rfl
   simp only[e1,e2]
   refine⟨⟨aa,aa,aa,aa,aa⟩,⟨aa,aa⟩,aa,cz ⟨.refl _,dI fun i hi=>bI rfl (by decide),tF rfl fun i _=>?_,trivial⟩⟩
   show cu (o7 c n k (i+(f-1-c.p.toNat))) sB=cu (o7 c n k (f-1-c.p.toNat+i)) sB
   rw[Nat.add_comm]
abbrev zz (z:Nat->Int):Nat->AV:=fun i=>.int .i64 (z i)
abbrev eF (c:Cu):Cu:=⟨c.p,c.n,c.k,c.m,fun i=>cY (c.f i)⟩
abbrev WJ (c:Cu):Cu:=⟨c.p,c.n,c.k,c.m,fun i=>hU (c.f i)⟩
theorem aaq {c:Cu} {P j e:Nat} {K:Nat->Rat} (hc:Kn c.n c.p.toNat c.k) (hp1:1<=c.p) (hm2:(c.m:Int)=(c.n:Int)-c.p-1) (hA:At c.n c.k P):
  iQ c (P:Nat) c.p.toNat (fun i=>K (i+(j+1))) e=j4 c.k c.p.toNat (fun i=>gY (c.f i) e) P (b7 K (j+1) c.p.toNat):=by
 obtain⟨w1,w2⟩:=hc.wide hA
 have hw:=hA.wide
 have hE:iP c.n c.k c.p.toNat c.m c.p.toNat (P:Nat)=0:=Nf aa rfl (by
  rw[bw]
  rintro(h|h|h)
  ·omega
  ·omega
  ·exact absurd h (Rat.not_le.2 hw))
 unfold iQ mU
 rw[if_pos hE,bw,Y8]
 have e1:b7 (fun i=>K (i+(j+1))) 0 c.p.toNat=b7 K (j+1) c.p.toNat:=by
  have:=Cn (k:=K) (c:=j+1) (l:=c.p.toNat) (a:=0)
  rw[Nat.add_zero]at this
  rw[<-this]
  exact wm fun i _ _=>by rw[Nat.add_comm i (j+1)]
 rw[e1];rfl
def wZ (x:Rat):Prop:=∃z:Int,x=(z:Rat)/2/\-4<=z/\z<=28
theorem Y2 {z:Int}:(z:Rat)/2*55440=((27720*z:Int):Rat):=by
 rw[Rat.intCast_mul,Rat.div_def,show((27720:Int):Rat)=2⁻¹*55440 by decide+kernel];grind
theorem wZ.isD {x:Rat} (h:wZ x):jf x:=by
 obtain⟨z,e,h1,h2⟩:=h
 exact⟨27720*z,by rw[e,Y2],aa,aa⟩
open Go
def LQ:Int:=144403552893600
theorem adS:∀v:Nat,v<33->v≠0->v∣144403552893600:=by decide
theorem IQ {v:Int} (h:v.natAbs<33) (h0:v≠0):∃w:Int,LQ=v*w/\w.natAbs<=144403552893600:=by
 obtain⟨w,e⟩:=adS v.natAbs h aa
 have hw:w<=144403552893600:=by
  rw[e];exact Nat.le_mul_of_pos_left _ aa
 rcases Int.natAbs_eq v with g|g
 ·refine⟨w,?_,by simpa using hw⟩
  rw[g]
  show(144403552893600:Int)=((v.natAbs:Nat):Int)*((w:Nat):Int)
  rw[<-Int.natCast_mul,<-e];rfl
 ·refine⟨-(w:Int),?_,by simpa using hw⟩
  rw[g]
  show(144403552893600:Int)=-((v.natAbs:Nat):Int)*(-((w:Nat):Int))
  rw[Int.neg_mul_neg,<-Int.natCast_mul,<-e];rfl
def lR (t:Rat):Prop:=∃z:Int,t=(z:Rat)/2/\-4<=z/\z<=28
def gI (r:Nat) (x:Rat):Prop:=∃z:Int,(z:Rat)=x*((LQ^(r+1):Int):Rat)/\z.natAbs<=2^(53+54*r)
theorem ae0 {r:Nat}:((LQ^r:Int):Rat)≠0:=fun h=>by
 have h:((LQ^r:Int):Rat)=((0:Int):Rat):=h
 have:=Rat.intCast_inj.1 h
 exact absurd this (Int.pow_ne_zero (by decide))
theorem gI.sz {r:Nat} {x:Rat} (h:gI r x):Sz x (102+102*r):=by
 obtain⟨z,e,b⟩:=h
 have hx:x=(z:Rat)/((LQ^(r+1):Int):Rat):=by rw[e,Rat.div_def,Rat.mul_assoc,Rat.mul_inv_cancel _ ae0,Rat.mul_one]
 rw[hx]
 have s1:Sz (z:Rat) (54+54*r):=nR (Nat.lt_of_le_of_lt b (Nat.pow_lt_pow_right (by decide) aa)) aa
 have s2:Sz ((LQ^(r+1):Int):Rat) (48*(r+1)):=nR (by
  rw[Int.natAbs_pow,Nat.pow_mul]
  exact Nat.pow_lt_pow_left (by decide) aa) aa
 exact(s1.div s2).more aa
theorem gI.up {r:Nat} {x:Rat} (h:gI r x):gI (r+1) x:=by
 obtain⟨z,e,b⟩:=h
 refine⟨z*LQ,?_,?_⟩
 ·rw[Rat.intCast_mul,e,Int.pow_succ LQ (r+1),Rat.intCast_mul,Rat.mul_assoc]
 ·rw[Int.natAbs_mul,show 53+54*(r+1)=(53+54*r)+54 by omega,Nat.pow_add]
  exact Nat.mul_le_mul b (by decide)
theorem gI.yF {x:Rat} (h:Sz x 5):gI 0 x:=by
 obtain⟨h1,h2⟩:=h
 obtain⟨w,e,hw⟩:=IQ (v:=(x.den:Int)) (by simpa using by omega) (by have:=x.den_nz;omega)
 refine⟨x.num*w,?_,?_⟩
 ·rw[show LQ^(0+1)=(x.den:Int)*w by rw[<-e];rfl,Rat.intCast_mul,Rat.intCast_mul,<-Rat.mul_assoc]
  congr 1
  have hd:((x.den:Int):Rat)≠0:=by exact_mod_cast x.den_nz
  have hx:x=(x.num:Rat)/((x.den:Int):Rat):=by rw[<-Rat.divInt_eq_div,Rat.num_divInt_den]
  have key:x*((x.den:Int):Rat)=(x.num:Rat):=by
   conv=>lhs;lhs;rw[hx]
   exact Rat.div_mul_cancel hd
  exact key.symm
 ·rw[Int.natAbs_mul]
  exact Nat.le_trans (Nat.mul_le_mul (show x.num.natAbs<=32 by omega) hw) (by decide)
theorem gI.mix {r:Nat} {x y a b t:Rat} (ha:lR a) (hb:lR b) (ht:lR t) (hx:gI r x) (hy:gI r y):gI (r+1) (x+fr a b t*(y-x)):=by
 obtain⟨za,a1,a2,a3⟩:=ha
 obtain⟨zb,b1,b2,b3⟩:=hb
 obtain⟨zt,t1,t2,t3⟩:=ht
 have e1:b-a=((zb-za:Int):Rat)/2:=by rw[a1,b1,Rat.intCast_sub,Rat.div_def,Rat.div_def,Rat.div_def];grind
 have e2:t-a=((zt-za:Int):Rat)/2:=by rw[a1,t1,Rat.intCast_sub,Rat.div_def,Rat.div_def,Rat.div_def];grind
 by_cases hv:zb-za=0
 ·have:fr a b t=0:=by
   unfold fr
   rw[e1,hv,Rat.div_def,show((0:Int):Rat)/2=0 by decide+kernel,Rat.inv_zero,Rat.mul_zero]
  rw[this,Rat.zero_mul,Rat.add_zero]
  exact hx.up
 ·have hvq:((zb-za:Int):Rat)≠0:=fun h=>hv (Rat.intCast_inj.1 (show((zb-za:Int):Rat)=((0:Int):Rat)from h))
  have hf:fr a b t*((zb-za:Int):Rat)=((zt-za:Int):Rat):=by
   unfold fr
   have hn:b-a≠0:=by
    rw[e1]
    intro h
    apply hvq
    have:((zb-za:Int):Rat)=((zb-za:Int):Rat)/2*2:=by rw[Rat.div_mul_cancel (by decide)]
    rw[this,h,Rat.zero_mul]
   have h2:((zb-za:Int):Rat)=(b-a)*2:=by rw[e1,Rat.div_mul_cancel (by decide)]
   have h3:((zt-za:Int):Rat)=(t-a)*2:=by rw[e2,Rat.div_mul_cancel (by decide)]
   rw[h2,h3,<-Rat.mul_assoc,Rat.div_mul_cancel hn]
  obtain⟨w,hw,wb⟩:=IQ (v:=zb-za) aa hv
  obtain⟨zx,x1,x2⟩:=hx
  obtain⟨zy,y1,y2⟩:=hy
  refine⟨zx*LQ+(zt-za)*w*(zy-zx),?_,?_⟩
  ·have hL:fr a b t*(LQ:Rat)=(((zt-za)*w:Int):Rat):=by
    rw[hw,Rat.intCast_mul,Rat.intCast_mul,<-Rat.mul_assoc,hf]
   rw[Rat.intCast_add,Rat.intCast_mul,Rat.intCast_mul ((zt-za)*w),<-hL,Rat.intCast_sub,x1,y1,Int.pow_succ LQ (r+1),Rat.intCast_mul]
   generalize ((LQ^(r+1):Int):Rat)=m
   generalize (LQ:Rat)=l
   generalize fr a b t=f
   grind
  ·have c1:(zy-zx).natAbs<=2^(53+54*r)+2^(53+54*r):=aa
   have c2:((zt-za)*w).natAbs<=32*144403552893600:=by
    rw[Int.natAbs_mul];exact Nat.mul_le_mul aa wb
   have c3:((zt-za)*w*(zy-zx)).natAbs<=32*144403552893600*(2^(53+54*r)+2^(53+54*r)):=by
    rw[Int.natAbs_mul];exact Nat.mul_le_mul c2 c1
   have c4:(zx*LQ).natAbs<=2^(53+54*r)*144403552893600:=by
    rw[Int.natAbs_mul];exact Nat.mul_le_mul x2 bq
   have c5:=Int.natAbs_add_le (zx*LQ) ((zt-za)*w*(zy-zx))
   rw[show 53+54*(r+1)=(53+54*r)+54 by omega,Nat.pow_add]
   generalize 2^(53+54*r)=B at*
   omega
theorem H8 {k:Nat->Rat} {b p:Nat} (hk:∀i,lR (k i)):∀{l:List Rat} {r s:Nat} {x:Nat->Rat},(∀t∈l,lR t)->(∀j,gI s (x j))->∀j,gI (s+l.length) (bl k b p r x l j)
 |[],_,_,_,_,hx,j=>hx j
 |t::l,r,s,x,hl,hx,j=>by
  rw[bl,List.length_cons,show s+(l.length+1)=s+1+l.length by omega]
  refine H8 hk (fun u hu=>hl u (List.mem_cons_of_mem _ hu)) (fun q=>?_) j
  unfold gR
  split
  ·exact(hx _).mix (hk _) (hk _) (hl t (List.mem_cons_self ..)) (hx _)
  ·exact(hx _).up
theorem P0 {k x:Nat->Rat} {p P:Nat} {l:List Rat} (hk:∀i,lR (k i)) (hl:∀t∈l,lR t) (hx:∀j,gI 0 (x j)):gI l.length (j4 k p x P l):=by
 have:=H8 (b:=P-p) (p:=p) (r:=0) hk hl (fun j=>hx (P-p+j)) p
 rwa [Nat.zero_add]at this
open Go Go.Am.N AV ag ak IntKind Proofs.Tryz
theorem tD {t:Rat} (h:wZ t):lR t:=h
theorem jW.aW {c:Cu} (h:jW c 5) (e:Nat) (i:Nat):gI 0 (gY (cY (c.f i)) e):=by
 match e with
 |0=>exact gI.yF (h.sx i)
 |1=>exact gI.yF (h.sy i)
 |2=>exact gI.yF (h.sz i)
 |e+3=>exact gI.yF (h.sd i)
theorem yd {t:Rat} (h:lR t):Sz t 2000:=by
 obtain⟨z,e,h1,h2⟩:=h
 rw[e]
 exact((nR (x:=z) (n:=5) aa (by decide)).div (nR (x:=2) (n:=2) (by decide) (by decide))).more (by decide)
structure jy (c:Cu):Prop where
 d:jW c 5
 h:∀i,wZ (c.k i)
structure gm (c d:Cu):Prop where
 kn:qd d
 p:d.p=c.p
 pos:∀i,0<(d.f i).d
 sub:m8 c.p.toNat c.n c.k (fun e i=>gY (cY (c.f i)) e) d.n d.k (fun e i=>gY (cY (d.f i)) e)
 kc:∀q,q<d.n->∃r,r<c.n/\d.k q=c.k r
theorem jy.self {c:Cu} (h:jy c):gm c c:=⟨h.d.kn,rfl,h.d.pos,m8.refl,fun q hq=>⟨q,hq,rfl⟩⟩
theorem Nw {f:Nat->Rat} {C:Rat->Prop}:∀{l a:Nat},(∀i,a<=i->i<a+l->C (f i))->∀t∈b7 f a l,C t
 |0,_,_,t,ht=>by simp[b7]at ht
 |l+1,a,h,t,ht=>by
  rw[b7,List.mem_cons]at ht
  rcases ht with rfl|ht
  ·exact h a bq aa
  ·exact Nw (fun i h1 h2=>h i aa aa) t ht
theorem gm.hf {c d:Cu} (h:gm c d) (hb:jy c) {q:Nat} (hq:q<d.n):lR (d.k q):=by
 obtain⟨r,_,e⟩:=h.kc q hq
 rw[e];exact tD (hb.h r)
theorem gm.q {c d:Cu} (h:gm c d) (hb:jy c) {j:Nat} (hj:j<d.m) (e:Nat):gI 6 (gY (cY (d.f j)) e):=by
 obtain⟨k1,k2,k3,k4,k5⟩:=id h.kn
 have hp:=h.p
 rw[hp]at k1 k5
 rw[hp]at k2 k3
 obtain⟨Q,_,g1,g2,g3,g4,g5⟩:=k1.piece (j:=j) aa
 obtain⟨P,hP,_,hE⟩:=h.sub.Df k1 ⟨aa,k1.sorted,g3⟩ g1 g2
 have:=P0 (k:=c.k) (x:=fun i=>gY (cY (c.f i)) e) (p:=c.p.toNat) (P:=P) (l:=b7 d.k (j+1) c.p.toNat) (fun i=>tD (hb.h i)) (Nw fun i h1 h2=>h.hf hb aa) (fun j=>hb.d.aW e j)
 rw[lI,hE e]at this
 have up:∀{r s:Nat} {x:Rat},gI r x->gI (r+s) x:=fun {r s x} h=>by
  induction s with
  |zero=>exact h
  |succ s ih=>exact ih.up
 have:=up (s:=6-c.p.toNat) this
 rwa [show c.p.toNat+(6-c.p.toNat)=6 by omega]at this
theorem gm.M9 {c d:Cu} {r:Nat} (h:gm c d) (hb:jy c):bT (fun i=>.rat (d.k i) r) d.n 2000:=fun _ hi=>er rfl (yd (h.hf hb hi))
theorem gm.up {c d:Cu} {x y:Nat} (h:gm c d) (hb:jy c) (hy:y<=sE):bg (bh d x y) (bh d 2000 sE):=
 cz ⟨.refl _,dI fun i hi=>h.M9 hb i hi,dI fun i _=>cz ⟨cz ⟨bI rfl hy,bI rfl hy,bI rfl hy,trivial⟩,bI rfl hy,trivial⟩,trivial⟩
theorem gm.ins {c d:Cu} {t:Rat} (h:gm c d) (ht:∃r,r<c.n/\t=c.k r) (he:jI d t=0):gm c (jS d t):=by
 obtain⟨e1,e2,e3,e4⟩:=yh he
 obtain⟨k1,k2,k3,k4,k5⟩:=id h.kn
 obtain⟨i1,i2,i3⟩:=qj k1 e1 e2
 have hp:=h.p
 rw[show jS d t=sP d t (cS d.n d.k t)from if_pos he]
 have hpos:∀i,0<(mW d t (cS d.n d.k t) i).d:=fun i=>NA h.kn h.pos e1 e2 i1 i2 i3
 refine⟨⟨k1.dB e1 e2 i1 i2 i3 e3,k2,k3,show d.n+1<=d.p.toNat+41 by omega,show((d.m+1:Nat):Int)=((d.n+1:Nat):Int)-d.p-1 by omega⟩,hp,hpos,?_,fun q hq=>?_⟩
 ·have key:=m8.ins (t:=t) h.sub (by rw[<-hp];exact k1) e1 e2 i1 i2 i3 (by rw[<-hp];exact e3)
  have ef:(fun e i=>gY (cY ((sP d t (cS d.n d.k t)).f i)) e)=fun e=>lK d.k c.p.toNat (fun i=>gY (cY (d.f i)) e) t (cS d.n d.k t):=by
   funext e i
   show gY (cY (hU (mW d t (cS d.n d.k t) i))) e=_
   rw[K3 (AU (hpos i)),<-hp]
   match e with
   |0=>rfl
   |1=>rfl
   |2=>rfl
   |e+3=>rfl
  rw[ef]
  exact key
 ·have hq:q<d.n+1:=hq
  show∃r,r<c.n/\dB d.k t (cS d.n d.k t+1) q=c.k r
  unfold dB
  split
  ·exact h.kc q aa
  ·split
   ·exact ht
   ·exact h.kc (q-1) aa
theorem Di {c d:Cu} {t:Rat} (hq:gm c d) (ht:∃r,r<c.n/\t=c.k r) (h0:d.k 0<t) (h1:t<d.k (d.n-1)) (h40:d.m+d.p.toNat<=40):∀{r:Nat},((bS d.k t d.n+r:Nat):Int)<=d.p->pO d t r/\gm c (dz d t r)
 |0,_=>⟨⟨rfl,rfl,rfl,rfl,rfl,rfl,rfl⟩,hq⟩
 |r+1,h=>by
  obtain⟨⟨a1,a2,a3,a4,a5,a6,a7⟩,hr⟩:=Di hq ht h0 h1 h40 (r:=r) aa
  have hE:jI (dz d t r) t=0:=A6 (by rw[a6];exact h0) (by rw[a7];exact h1) (by rw[a5,a2];omega) (by rw[a4];omega)
  obtain⟨b1,b2,b3,b4,b5,b6⟩:=Gg hr.kn hE
  exact⟨⟨JY a1 hE,b1.trans a2,by rw[show(dz d t (r+1)).n=(dz d t r).n+1 from b2,a3];rfl,by rw[show(dz d t (r+1)).m=(dz d t r).m+1 from b3,a4];rfl,b4.trans (by rw[a5];rfl),b5.trans a6,b6.trans a7⟩,hr.ins ht hE⟩
theorem Hp {k k':Nat->Rat} {b b' p:Nat} (h:∀i,1<=i->k' (b'+i)=k (b+i)):∀{l:List Rat} {r:Nat} {x:Nat->Rat},bl k' b' p r x l=bl k b p r x l
 |[],_,_=>rfl
 |t::l,r,x=>by
  rw[bl,bl,Hp h (l:=l)]
  congr 1
  funext j
  unfold gR
  split
  ·rw[h j aa,Nat.add_assoc,h (j+(p-r)) aa,Nat.add_assoc]
  ·rfl
theorem gm.right {c d:Cu} {t:Rat} {a:Nat} (h:gm c d) (h0:d.k 0<t) (h1:t<d.k (d.n-1)) (hlo:d.k a<=t) (hhi:t<d.k (a+1)) (ha:a+1<d.n) (ht:bS d.k t d.n=d.p.toNat):gm c (nF d t a):=by
 obtain⟨k1,k2,k3,k4,k5⟩:=id h.kn
 obtain⟨r1,r2,r3⟩:=k1.split h0 h1 hlo hhi ha ht
 obtain⟨g1,g2⟩:=k1.qq h0 h1 hlo hhi ha
 have hp:=h.p
 have hl:=k1.len
 have hp1:=k1.p1
 have hK:∀i,1<=i->(nF d t a).k i=d.k (a-d.p.toNat+i):=fun i hi=>by
  show(if i<1 then t else d.k (a+1-d.p.toNat+(i-1)))=_
  rw[if_neg aa];congr 1;omega
 have hK0:(nF d t a).k 0=t:=(if_pos aa:(if 0<1 then t else d.k (a+1-d.p.toNat+(0-1)))=t)
 have hN:(nF d t a).n=d.n-(a-d.p.toNat):=by show 1+(d.n-(a+1-d.p.toNat))=_;omega
 have hS:∀i,1<=i->i<=d.p.toNat->d.k (a-d.p.toNat+i)=t:=fun i h1 h2=>r1 _ aa aa
 have hkn:Kn (nF d t a).n d.p.toNat (nF d t a).k:=by
  rw[hN]
  refine⟨hp1,aa,fun i hi=>?_,fun i hi=>?_,fun i h1 h2=>?_,fun i h1 h2=>?_⟩
  ·by_cases e:i=0
   ·subst e
    rw[hK0,hK _ aa,hS _ aa aa];exact Rat.le_refl
   ·rw[hK _ aa,hK _ aa];exact k1.sorted _ aa
  ·by_cases e:i=0
   ·subst e;rfl
   ·rw[hK _ aa,hK0,hS _ aa hi]
  ·rw[hK _ aa,hK _ aa,k1.last _ aa aa,k1.last (a-d.p.toNat+(d.n-(a-d.p.toNat)-1)) aa aa]
  ·rw[hK _ aa,hK _ aa,<-Nat.add_assoc];exact k1.mult _ aa aa
 refine⟨⟨hkn,k2,k3,show(nF d t a).n<=d.p.toNat+41 by omega,show((d.m-(a-d.p.toNat):Nat):Int)=((nF d t a).n:Int)-d.p-1 by omega⟩,hp,fun i=>h.pos _,fun Q hQ=>?_,fun q hq=>?_⟩
 ·obtain⟨v1,v2⟩:=hkn.qJ hQ
  have hw:=hQ.wide
  rw[hK _ aa,hK _ aa]at hw
  obtain⟨P,p1,p2,p3,p4⟩:=h.sub (a-d.p.toNat+Q) ⟨aa,k1.sorted,hw⟩
  refine⟨P,p1,by rw[hK _ aa];exact p2,by rw[hK _ aa];exact p3,fun e l hl=>?_⟩
  rw[<-p4 e l hl,<-hp]
  show bl (nF d t a).k (Q-d.p.toNat) d.p.toNat 0 (fun q=>gY (cY (d.f (a-d.p.toNat+(Q-d.p.toNat+q)))) e) l d.p.toNat=bl d.k (a-d.p.toNat+Q-d.p.toNat) d.p.toNat 0 (fun q=>gY (cY (d.f (a-d.p.toNat+Q-d.p.toNat+q))) e) l d.p.toNat
  rw[Hp (k:=d.k) (b:=a-d.p.toNat+Q-d.p.toNat) fun i hi=>by rw[hK _ aa];congr 1;omega]
  congr 1
  funext q
  rw[show a-d.p.toNat+(Q-d.p.toNat+q)=a-d.p.toNat+Q-d.p.toNat+q by omega]
 ·by_cases e:q=0
  ·subst e
   rw[hK0,<-hS 1 aa aa];exact h.kc _ aa
  ·rw[hK _ aa];exact h.kc _ aa
def Gz (p n:Nat) (k:Nat->Rat) (x:Rat) (R:Nat):Prop:=k 0<x/\x<k (n-1)/\bS k x n+R=p/\∀r,r<=R->u6 n p k x r
def BF (n:Nat) (k:Nat->Rat) (x:Rat) (R:Nat):Prop:=(x=k 0\/x=k (n-1))/\R=0
def s6 (p n:Nat) (k:Nat->Rat) (x:Rat) (R:Nat):Prop:=Gz p n k x R\/BF n k x R
theorem s6.FK {p n:Nat} {k:Nat->Rat} {x:Rat} {R:Nat} (h:s6 p n k x R) (g:x=k 0):BF n k x R:=by
 rcases h with h|h
 ·have:=h.1
  rw[<-g]at this
  exact absurd this Rat.lt_irrefl
 ·exact h
set_option maxHeartbeats 1000000 in
theorem afF {c:Cu} {a b:Rat} {f l:Nat} {ns rs:Nat->Nat} {ks:Nat->Nat->Rat} (hc:Kn c.n c.p.toNat c.k) (hp1:1<=c.p) (hp6:c.p<=6) (hcn:c.n<2^27) (hcm:c.m<2^28) (n0:ns 0=c.n) (k0:ks 0=c.k) (hns:∀j,j<=2->c.n<=ns j/\ns j<2^28) (hs:∀j,j<2->ns (j+1)=ns j+rs j/\ks (j+1)=fH (ks j) (ns j) (if j=0 then a else b) (rs j)) (hJ:∀j,j<2->s6 c.p.toNat (ns j) (ks j) (if j=0 then a else b) (rs j))
  (hf:gq (k7 a (ks 2)) (ns 2)=f) (hl:gq (lJ b (ks 2)) (ns 2)=l) (g1:c.p.toNat+1<=f) (g2:f<=l) (g3:l+c.p.toNat+1<=ns 2) (K:Nat):
  aO P 157 K [fB c 2000 4000,.rat a 2000,.rat b 2000] [] (aI (fB (vu (k8 c (ns 2) (ks 2)) a b f l) sK sB) []):=by
 refine ji (r:=aI (fB (vu (k8 c (ns 2) (ks 2)) a b f l) sK sB) []) hT K5 rfl aV rfl (fun _ cx h00=>?_) K []
 have hk:=v5 h00
 have hl4:=hc.len
 refine ay.hole [1] ah (aJ.bE hT uT hm 60 Ab VT (nv K5.dst) ?_)
 intro s' hs'
 show ay _ _ _ (part s8 [1]) s' _
 rw[show behind s8 [1]=[]from by kernel_rfl]
 refine ay.lP (s2:=⟨aH Ab [.ptr 0 0 3 0 [],.ptr 1 0 3 0 [],.ptr 2 0 3 0 [],.ptr 3 0 3 0 []],[(3,vi),(2,tP b 2000),(1,tP a 2000),(0,uW c)],4⟩) (fm.le ⟨[(0,0),(1,4096),(2,8192),(3,12288)],rfl,rfl,rfl,bf (bf (bf (bf trivial)))⟩ hs' hk)
  ((?_:ay P cx f157.ntmps (part s8 [1]) _ (eG cx (Fin T f157 (fB (vu (k8 c (ns 2) (ks 2)) a b f l) sK sB)))).mono fun e s' h=>by cases e<;>exact h)
 refine ay.NH (t:=4) (k:=1) rfl rfl rfl rfl rfl ?_
 refine ay.NH (t:=5) (k:=2) rfl rfl rfl rfl rfl ?_
 refine ay.ac4 hT uT hm (x:=xD) (y:=u9) (x1:=ud) (zb:=part u9 [1,1,1]) (y2:=part ud [1,1,0,0]) [1,0,1] (i:=0) ah ah ah [1,1,0] (j:=1) ah ah ah [1,1] (i2:=2) ah ah rfl hk (f1:=[]) (f2:=[21]) (f3:=[28]) (f4:=[40,47]) (f5:=[]) 60 nS td 2 3
  (fun j:Nat=>oS a b (ns j) (ks j) j) (fun _=>oK c) (fun j=>j<=2) (fun j=>j=2) (fun j=>2-j) (fun j=>j<2) (fun _=>False) (fun _=>False)
  (fun j (q:Nat×Bool)=>uH a b (ns j+q.1) (fH (ks j) (ns j) (if j=0 then a else b) q.1) j q.2) (fun j _=>wS c (if j=0 then a else b)) (fun j q=>q.2=false/\Gz c.p.toNat (ns j) (ks j) (if j=0 then a else b) (rs j)/\q.1<=rs j\/q.2=true/\BF (ns j) (ks j) (if j=0 then a else b) (rs j)/\q.1=0) (fun j q=>q.1=rs j) (fun j q=>rs j-q.1)
  ⟨_,aaE,?_⟩ (fun j hj=>⟨_,ae6,?_⟩) (fun j hj hG=>?_) (fun j hj hG q hq=>⟨_,Yg,?_⟩) (fun j hj hG q hq=>⟨_,aeX,?_⟩) (fun j s' hj hle=>?_) (fun _ _ h=>h.elim) (fun _ _ h=>h.elim)
 ·simp only[ag.all,au]
  refine⟨aa,0,Nat.zero_le _,?_⟩
  show fm [] _ (oS a b (ns 0) (ks 0) 0) (oK c) 2
  rw[n0,k0]
  exact⟨[(0,0),(1,3)],rfl,rfl,rfl,bf (bf trivial)⟩
 ·simp only[ag.all,au,bz,bF]
  exact⟨fun h=>⟨aa,[(0,0),(1,1)],rfl,rfl,rfl,bf (bf trivial)⟩,fun h=>⟨rfl,j,aa,[(0,0),(1,1)],rfl,rfl,rfl,bf (bf trivial)⟩⟩
 ·have hG:j<2:=hG
  rcases(show j=0\/j=1 by omega)with rfl|rfl
  ·refine⟨_,Oo,?_⟩
   have hl0:=hns 0 aa
   have e1:((ns 0:Nat)-1:Int).toNat=ns 0-1:=aa
   have hc0:s6 c.p.toNat (ns 0) (ks 0) a (rs 0):=hJ 0 aa
   simp only[ag.all,au,bz,bF,cond_false,Int.toNat_zero,e1]
   refine⟨⟨aa,aa⟩,fun g=>⟨⟨aa,aa,aa,aa,g⟩,(0,true),.inr ⟨rfl,hc0.FK g,rfl⟩,[(0,0),(1,1),(2,4098)],rfl,rfl,rfl,bf (bf (bf trivial))⟩,fun g=>⟨⟨aa,aa,aa,aa,g,aa,aa,aa,aa,aa⟩,?_⟩⟩
   rcases hc0 with hc1|hc1
   ·have e2:decide (a=ks 0 (ns 0-1))=false:=decide_eq_false fun g2=>by
     have:=hc1.2.1
     rw[<-g2]at this
     exact Rat.lt_irrefl this
    rw[e2]
    exact⟨(0,false),.inl ⟨rfl,hc1,Nat.zero_le _⟩,[(0,0),(1,1),(2,4098)],rfl,rfl,rfl,bf (bf (bf trivial))⟩
   ·have e2:decide (a=ks 0 (ns 0-1))=true:=decide_eq_true (hc1.1.resolve_left g)
    rw[e2]
    exact⟨(0,true),.inr ⟨rfl,hc1,rfl⟩,[(0,0),(1,1),(2,4098)],rfl,rfl,rfl,bf (bf (bf trivial))⟩
  ·refine⟨_,Xw,?_⟩
   have hl0:=hns 1 aa
   have e1:((ns 1:Nat)-1:Int).toNat=ns 1-1:=aa
   have hc0:s6 c.p.toNat (ns 1) (ks 1) b (rs 1):=hJ 1 aa
   simp only[ag.all,au,bz,bF,cond_false,Int.toNat_zero,e1]
   refine⟨⟨aa,aa⟩,fun g=>⟨⟨aa,aa,aa,aa,g⟩,(0,true),.inr ⟨rfl,hc0.FK g,rfl⟩,[(0,0),(1,1),(2,4098)],rfl,rfl,rfl,bf (bf (bf trivial))⟩,fun g=>⟨⟨aa,aa,aa,aa,g,aa,aa,aa,aa,aa⟩,?_⟩⟩
   rcases hc0 with hc1|hc1
   ·have e2:decide (b=ks 1 (ns 1-1))=false:=decide_eq_false fun g2=>by
     have:=hc1.2.1
     rw[<-g2]at this
     exact Rat.lt_irrefl this
    rw[e2]
    exact⟨(0,false),.inl ⟨rfl,hc1,Nat.zero_le _⟩,[(0,0),(1,1),(2,4098)],rfl,rfl,rfl,bf (bf (bf trivial))⟩
   ·have e2:decide (b=ks 1 (ns 1-1))=true:=decide_eq_true (hc1.1.resolve_left g)
    rw[e2]
    exact⟨(0,true),.inr ⟨rfl,hc1,rfl⟩,[(0,0),(1,1),(2,4098)],rfl,rfl,rfl,bf (bf (bf trivial))⟩
 ·obtain⟨r,e⟩:=q
  have hG:j<2:=hG
  have hl0:=hns j aa
  obtain⟨x,hx⟩:∃x,x=if j=0 then a else b:=⟨_,rfl⟩
  simp only[<-hx]at hq ⊢
  have same:fm [] (uH a b (ns j+r) (fH (ks j) (ns j) x r) j e,wS c x) (uH a b (ns j+r) (fH (ks j) (ns j) x r) j e) (wS c x) 3:=⟨[(0,0),(1,1),(2,2)],rfl,rfl,rfl,bf (bf (bf trivial))⟩
  simp only[ag.all,au,cond_true,bz,bF]
  rcases hq with⟨he,⟨w1,w2,w3,w4⟩,hr⟩|⟨he,hw,hr⟩
  ·have he:e=false:=he
   have hr:r<=rs j:=hr
   have hq2:=hns (j+1) aa
   have hsj:=(hs j hG).1
   subst he
   have h:=w4 r hr
   have e1:(bS (fun i=>aC (rat (fH (ks j) (ns j) x r i) 2000)) x (ns j+r):Int)=((bS (ks j) x (ns j)+r:Nat):Int):=congrArg Nat.cast h.tm
   have e2:jg (fun i=>aC (rat (fH (ks j) (ns j) x r i) 2000)) x (gH (fun i=>aC (rat (fH (ks j) (ns j) x r i) 2000)) x (ns j+r))=fH (ks j) (ns j) x (r+1):=h.next w1 w2
   simp only[e1,e2]
   refine⟨fun _=>⟨⟨rfl,aa,dh (by decide),by decide,aa,aa⟩,fun g=>⟨⟨aa,dh bq,aa,aa,fun i _=>((w4 (r+1) aa).sd i).more (by decide)⟩,(r+1,false),.inl ⟨rfl,⟨w1,w2,w3,w4⟩,show r+1<=rs j by omega⟩,show rs j-(r+1)<rs j-r by omega,[(0,0),(1,1),(2,2)],rfl,rfl,rfl,ff rfl rfl (eH rfl ?_) (bf (bf trivial))⟩,fun g=>⟨rfl,(r,false),?_,?_⟩⟩,fun g=>absurd g (by decide)⟩
   ·rfl
   ·have g:¬((bS (ks j) x (ns j)+r:Nat):Int)<c.p:=g
    show r=rs j
    omega
   ·exact same
  ·have he:e=true:=he
   have hr:r=0:=hr
   subst he
   exact⟨fun g=>absurd g (by decide),fun _=>⟨rfl,fun g=>absurd g (by decide),fun _=>⟨rfl,(r,true),hr.trans hw.2.symm,same⟩⟩⟩
 ·have hG:j<2:=hG
  obtain⟨r,e⟩:=q
  have hq:r=rs j:=hq
  subst hq
  simp only[ag.all,au]
  refine⟨aa,j+1,aa,by dsimp only;omega,?_⟩
  show fm [] _ (oS a b (ns (j+1)) (ks (j+1)) ((j+1:Nat))) (oK c) 2
  rw[(hs j hG).1,(hs j hG).2]
  exact⟨[(0,0),(1,1)],rfl,rfl,rfl,bf (bf trivial)⟩
 ·subst hj
  rw[show behind xD [1,0,1]=[qY]from by kernel_rfl]
  have h2:=hns 2 aa
  exact aJ.weak rfl hle (aJ.one (YN hk hc hp1 hp6 aa hcm aa aa hf hl g1 g2 g3 fun _ _ h=>h))
theorem yY {k:Nat->Rat}:∀{n:Nat},(∀i,i+1<n->k i<=k (i+1))->∀{i:Nat},i+1<bL k n->∃s,At n k s/\k s=b9 k n i/\k (s+1)=b9 k n (i+1)
 |0,_,i,h=>by simp[bL]at h
 |n+1,hs,i,h=>by
  have hs':∀i,i+1<n->k i<=k (i+1):=fun i hi=>hs i (by omega)
  by_cases c:gn k n
  ·rw[bL,if_pos c]at h
   by_cases e:i+1<bL k n
   ·obtain⟨s,h1,h2,h3⟩:=yY hs' e
    refine⟨s,⟨by have:=h1.lt;omega,hs,h1.wide⟩,?_,?_⟩
    ·rw[b9,if_pos c,j0 (by omega)];exact h2
    ·rw[b9,if_pos c,j0 (by omega)];exact h3
   ·have hn0:n≠0:=fun e0=>by
     rw[e0]at h
     simp[bL]at h
    obtain⟨m,rfl⟩:∃m,n=m+1:=⟨n-1,by omega⟩
    obtain⟨_,_,e3⟩:=zW (k:=k) (n:=m)
    have hne:k (m+1)≠k m:=by
     rcases c with c|c
     ·omega
     ·exact c
    have hle:=hs m (by omega)
    refine⟨m,⟨by omega,hs,by grind⟩,?_,?_⟩
    ·rw[b9,if_pos c,j0 (by omega),show i=bL k (m+1)-1 by omega];exact e3.symm
    ·rw[b9,if_pos c,show i+1=bL k (m+1) by omega,qO]
  ·rw[bL,if_neg c,Nat.add_zero]at h
   obtain⟨s,h1,h2,h3⟩:=yY hs' h
   refine⟨s,⟨by have:=h1.lt;omega,hs,h1.wide⟩,?_,?_⟩
   ·rw[b9,if_neg c];exact h2
   ·rw[b9,if_neg c];exact h3
theorem CY {k:Nat->Rat} {t:Rat}:∀{n:Nat},bS k t n≠0->∃q,q<n/\k q=t
 |0,h=>absurd rfl h
 |n+1,h=>by
  by_cases c:k n=t
  ·exact⟨n,by omega,c⟩
  ·rw[jO,if_neg c,Nat.add_zero]at h
   obtain⟨q,h1,h2⟩:=CY h
   exact⟨q,by omega,h2⟩
theorem LD {k:Nat->Rat} {t y:Rat} {q:Nat} (hy:t≠y):∀{m:Nat},bS (dB k t q) y (q+1+m)=bS k y (q+m)
 |0=>by
  have pre:∀i,i<=q->bS (dB k t q) y i=bS k y i:=fun i=>by
   induction i with
   |zero=>intro _;rfl
   |succ i ih=>intro h;rw[jO,jO,ih (by omega),iC (by omega)]
  show bS (dB k t q) y (q+1)=bS k y q
  rw[jO,pre q (Nat.le_refl _),mG,if_neg hy];rfl
 |m+1=>by
  rw[<-Nat.add_assoc,jO,LD hy (m:=m),iI (by omega),<-Nat.add_assoc,jO,show q+1+m-1=q+m by omega]
structure Cv (n p:Nat) (k:Nat->Rat) (a b:Rat) (Q:Nat):Prop where
 at_:At n k Q
 lo:k Q=a
 hi:k (Q+1)=b
 left:∀i,i<=Q->Q<i+p->k i=a
 right:∀i,Q+1<=i->i<=Q+p->k i=b
theorem Kn.Ov {n p Q:Nat} {k:Nat->Rat} {a b:Rat} (h:Kn n p k) (hQ:At n k Q) (ea:k Q=a) (eb:k (Q+1)=b) (ha:k 0=a\/bS k a n=p) (hb:k (n-1)=b\/bS k b n=p):Cv n p k a b Q:=by
 obtain⟨w1,w2⟩:=h.qJ hQ
 have hw:=hQ.wide
 refine⟨hQ,ea,eb,fun i h1 h2=>?_,fun i h1 h2=>?_⟩
 ·rcases ha with ha|ha
  ·have m1:=h.mono (Nat.zero_le i) (by omega)
   have m2:=h.mono h1 (by omega)
   grind
  ·exact Iw h.sorted (show a<k (Q+1) by grind) hQ.lt (by rw[ea];exact Rat.le_refl) h1 (by rw[ha];exact h2)
 ·have m1:=h.mono h1 (by omega)
  rcases hb with hb|hb
  ·have m2:=h.mono (show i<=n-1 by omega) (by omega)
   grind
  ·by_cases e:k i=b
   ·exact e
   ·exfalso
    have hp:=h.p1
    have:=xP (k:=k) (t:=b) (lo:=Q+1) (hi:=i) h1 (n:=n) fun j hj hjb=>by
     constructor
     ·by_cases c:Q+1<=j
      ·exact c
      ·have:=h.mono (show j<=Q by omega) (by omega)
       grind
     ·by_cases c:j<i
      ·exact c
      ·have:=h.mono (show i<=j by omega) hj
       grind
    omega
end Go.Am.B
