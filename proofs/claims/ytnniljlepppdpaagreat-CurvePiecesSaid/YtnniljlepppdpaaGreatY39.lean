/- Spline.Over, Spline.Insert, curve.back. -/
import Derived.Test.YtnniljlepppdpaaGreatY38
import Derived.Test.YtnniljlepppdpaaGreatY37
import Derived.Test.YtnniljlepppdpaaGreatB33
import Derived.Test.YtnniljlepppdpaaGreatZ2
set_option linter.unusedVariables false
noncomputable section
namespace Go.Am.B
open Go Go.Am.N AV ag ak IntKind
theorem X8:aU P xO B9 (az B9):=aT Proofs.Tryz.func183 ah ah ah
theorem agn:aU P Ii DJ (az DJ):=aT Proofs.Tryz.func84 ah ah ah
theorem Wc:aU P vQ CU (az CU):=aT Proofs.Tryz.func82 ah ah ah
def pO (c:Cu) (n:Nat) (k:Nat->Rat) (j:Nat):Pl:=qQ c (js c.n c.k (k (gU k n j))) c.p.toNat (fun q=>k (q+(j+1)))
def kq (c:Cu) (n:Nat) (k:Nat->Rat):Cu:=⟨c.p,n,k,n-c.p.toNat-1,pO c n k⟩
def Ck:aV:=nG::(tF,v9)::(BL,Na)::(x6,IF)::(BB,MS)::fK
abbrev yB:List Nat:=[1,2,4,5,17,18]
abbrev Jf (n m:Nat) (k:Nat->Rat) (j:Nat):List AV:=[ls k n,.ptr 0 0 3 0 [],.ptr 1 0 3 0 [],.ptr 2 0 3 0 [],.int .i64 m,.int .i64 j]
abbrev Fk (c:Cu) (n:Nat) (k:Nat->Rat) (h:Nat->Pl) (j:Nat):aE:=[(3,⟨true,true,12,j,fun i=>cy (h i) sB⟩),(2,⟨false,true,3,1,fun _=>.agg [.int .i64 c.p,ls k n,.own 3 12 0 j]⟩),(1,⟨false,true,3,1,fun _=>.agg [.int .i64 0,.nil,.nil]⟩),(0,oG c sK)]
abbrev xI:Code:=az B9
theorem wH {f:Nat->Pl} {m s s':Nat} (h:s<=s'):mo (fun i=>cy (f i) s) m s':=fun _ _=>Ec rfl h
def F9:Spec:=dj (kC (uJ sK sK) (kC (kL sK) kN)) (fun a=>dL (kq a.1 a.2.1.1 a.2.1.2) sK sB) fun a=>[Kn a.1.n a.1.p.toNat a.1.k,1<=a.1.p,a.1.p<=6,a.1.n<2^40,a.1.m<2^40,a.2.1.1<2^29,a.1.p+1<=a.2.1.1]
def vJ (c:Cu) (t:Rat):Cu:=kq c (c.n+1) (gu c.k t (fC c.k t c.n))
def RD:aV:=nG::(s5,OA 2000 2002)::(xO,F9)::[]
abbrev wm:List Nat:=[2,3,13,14,15]
abbrev Gx (c:Cu) (i:Nat):List AV:=[.ptr 0 0 3 0 [],.ptr 1 0 3 0 [],rj c.f c.m sB,.int .i64 c.m,.int .i64 i]
abbrev EA (c:Cu) (i:Nat):aE:=[(2,⟨true,true,12,i,fun j=>bU (fu (c.f j)) (sB+sB)⟩),(1,⟨false,true,3,1,fun _=>.agg [.int .i64 c.p,bN c.k c.n (sK+10),.own 2 12 0 i]⟩),(0,⟨false,true,3,1,fun _=>.agg [.int .i64 0,.nil,.nil]⟩)]
abbrev wQ:Code:=az CU
def N6:Spec:=dj (kC (QL sB) kN) (fun a=>bU (fu a.1) (sB+sB)) fun _=>[]
def zu:aV:=nG::(q9,QK sK (sK+10))::(uU,N6)::[]
theorem Xm {c:Cu} {n:Nat} {k:Nat->Rat}:aJ T Ck [] 60 yB (before xI [1,1,0,1]) ⟨aQ 0 [dL c sK sK,ls k n],[],0⟩=
  let c3:Nat:=(bA (dL c sK sK)).size;let c2:Prop:=0<1;let c1:AV:=agg [int i64 0,nil,nil];some (aj [c2,c2] (aj [c2,bV (fun i=>rat (k i) sK) n sK,n<2^40,-(2:Int)^40<c.p,c.p<(2:Int)^40] (leaf normal ([aq 3 n fun i=>rat (k i) 4096,ptr 0 0 c3 0 [],ptr 4096 0 3 0 [],ptr 24576 0 3 0 [],int i64 ((↑n:Int)-c.p-(1:Int)),int i64 0],[((24576:Nat),bg fun j=>if(j==0)=true then bA (agg ((c1.kids.set 0 (bA (int i64 c.p))).set 1 (bA (ls k n))))else c1),((4096:Nat),bg fun x=>c1),(0,ax.mk false true c3 1 fun x=>agg [int i64 c.p,aq 3 c.n fun i=>rat (c.k i) 4096,aq 12 c.m fun i=>agg [rat (c.f i).n.x 4096,rat (c.f i).n.y 4096,rat (c.f i).n.z 4096,rat (c.f i).d 4096]])])))):=ah
theorem TV {c:Cu} {n m j:Nat} {k:Nat->Rat} {h:Nat->Pl}:aJ T Ck [19] 60 yB [part xI [1,1,0,1,0,0]] ⟨aF yB (Jf n m k j),Fk c n k h j,4⟩=
  let c20:Int:=(↑m:Int);let c18:Prop:=bV (fun i=>rat (c.k i) sK) c.n sK;let c17:AV:=ptr 2 0 3 0 [];let c16:AV:=ptr 1 0 3 0 [];let c15:AV:=ptr 0 0 3 0 [];let c14:Nat:=2^40;let c13:AV:=rat 0 1;let c12:Int:=(↑j:Int);let c10:AV:=own 3 12 0 j;let c9:AV:=aq 3 n fun i=>rat (k i) 4096;let c8:Prop:=0<1;let c6:Int:=(2:Int)^63;let c5:Cu:=Cu.mk c.p c.n (fun i=>aZ (rat (c.k i) sK)) c.m fun i=>pB (cy (c.f i) sK);let c2:List (Nat×ax):=[((1:Nat),bg fun x=>agg [int i64 0,nil,nil]),((0:Nat),bg fun x=>agg [int i64 c.p,aq 3 c.n fun i=>rat (c.k i) 4096,aq 12 c.m fun i=>agg [rat (c.f i).n.x 4096,rat (c.f i).n.y 4096,rat (c.f i).n.z 4096,rat (c.f i).d 4096]])];let c19:AV:=agg [int i64 c.p,ls k n,c10];let c7:Int:=(↑(gU (fun i=>aZ (rat (k i) sK)) n c12.toNat):Int);let c4:Int:=c12+c.p+(1:Int);let c3:Int:=c12+(1:Int);let c11:Nat:=c4.toNat-c3.toNat;let c1:Int:=(↑(js c.n (fun i=>aZ (rat (c.k i) sK)) (k c7.toNat)):Int);some (fork (decide (c12<c20)) (aj [bV (fun i=>rat (k i) sK) n sK,(0:Int)<=c12,c12<=(↑n:Int),n<c14] (aj [c8,c8,(0:Int)<=c7/\c7.toNat<n,c18,sK<=sK,Kn c.n c.p.toNat fun i=>aZ (rat (c.k i) sK),(0:Int)<=c.p,c.n<c14] (aj [c8,c8,-c6<=c3/\c3<c6,c8,-c6<=c12+c.p/\c12+c.p<c6,-c6<=c4/\c4<c6,(0:Int)<=c3/\c3<=c4/\c4<=c4/\c4<=(↑n:Int),c18,mo (fun i=>cy (c.f i) sK) c.m sK,bV (fun i=>rat (k (i+c3.toNat)) sK) c11 sK,(1:Int)<=c.p,c.p<=(6:Int),c.n<c14,c.m<c14,-(2:Int)^40<c1,c1<(2:Int)^40,(1:Nat)*12<=2^24,(j+1)*((224:Nat)+1)*2<=2^47,c8] (aj [-c6<=c3/\c3<c6] (leaf normal ([c9,c15,c16,c17,int i64 c20,int i64 c3],(147460,ax.mk true true 12 (j+1) fun i=>if i<j then cy (h i) sB else nth [agg [rat (iB c5 c1 c11 (fun i=>aZ (rat (k (i+c3.toNat)) sK)) 0) sB,rat (iB c5 c1 c11 (fun i=>aZ (rat (k (i+c3.toNat)) sK)) 1) sB,rat (iB c5 c1 c11 (fun i=>aZ (rat (k (i+c3.toNat)) sK)) 2) sB,rat (iB c5 c1 c11 (fun i=>aZ (rat (k (i+c3.toNat)) sK)) 3) sB]] (agg [c13,c13,c13,c13]) (i-j+0))::((2:Nat),bg fun j_1=>if(j_1==0)=true then agg (c19.kids.set 2 (bA (own (nat_lit 147459+1) 12 0 (j+1))))else c19)::c2)))))) (leaf (exit 0) ([c9,c15,c16,c17,int i64 c20,int i64 c12],(3,ax.mk true true 12 j fun i=>agg [rat (h i).n.x 536870912,rat (h i).n.y 536870912,rat (h i).n.z 536870912,rat (h i).d 536870912])::((2:Nat),bg fun x=>agg [int i64 c.p,c9,c10])::c2))):=ah
theorem ZU {c:Cu} {n m j:Nat} {k:Nat->Rat} {h:Nat->Pl}:cJ T Ck [] 60 B9 [part xI [1,1,1]] ⟨aF yB (Jf n m k j),Fk c n k h j,4⟩=
  let c1:Prop:=0<1;some (aj [c1,c1] (aj [c1] (leaf ret [agg [int i64 c.p,aq 3 n fun i=>rat (k i) 4096,aq 12 j fun i=>agg [rat (h (i+0)).n.x 536870912,rat (h (i+0)).n.y 536870912,rat (h (i+0)).n.z 536870912,rat (h (i+0)).d 536870912]]]))):=ah
theorem aaB {c:Cu} {t:Rat}:bP T RD [] 60 DJ (az DJ) ⟨aQ 0 [dL c 2000 4000,.rat t 2000],[],0⟩=
  some (aj [0<1,0<1,0<1,bV (fun i=>.rat (c.k i) 2000) c.n 2000,2000<=2000,c.n<2^40,bV (fun i=>.rat (c.k i) 2000) c.n sK,mo (fun i=>cy (c.f i) 4000) c.m sK,bV (fun i=>.rat (gu c.k t (fC c.k t c.n) i) 2002) (c.n+1) sK,Kn c.n c.p.toNat c.k,1<=c.p,c.p<=6,c.n<2^40,c.m<2^40,c.n+1<2^29,c.p+1<=(c.n+1:Nat),0<1]
   (aj [0<1] (leaf .ret [dL (vJ c t) sK sB]))):=ah
theorem agJ {c:Cu}:aJ T zu [] 60 wm (before wQ [1,1,0,1]) ⟨aQ 0 [dL c sK sB],[],0⟩=
  let c3:Nat:=sK+10;let c2:Prop:=0<1;let c1:AV:=agg [int i64 0,nil,nil];some (aj [c2,c2,bV (fun i=>rat (c.k i) sK) c.n sK,c3<=c3,c3<2^40,c.n<2^40,c2] (aj [c2] (leaf normal ([ptr 4096 0 3 0 [],ptr 32768 0 3 0 [],aq 12 c.m fun i=>agg [rat (c.f i).n.x 536870912,rat (c.f i).n.y 536870912,rat (c.f i).n.z 536870912,rat (c.f i).d 536870912],int i64 (↑c.m:Int),int i64 0],[((32768:Nat),bg fun j=>if(j==0)=true then bA (agg ((c1.kids.set 0 (bA (int i64 c.p))).set 1 (bA (bN (fun i=>aZ (rat (c.k i) sK)) c.n c3))))else c1),((4096:Nat),bg fun x=>c1)])))):=ah
theorem SK {c:Cu} {i:Nat}:aJ T zu [16] 60 wm [part wQ [1,1,0,1,0,0]] ⟨aF wm (Gx c i),EA c i,3⟩=
  let c11:Int:=(↑c.m:Int);let c10:AV:=own 2 12 0 i;let c9:AV:=ptr 1 0 3 0 [];let c8:AV:=ptr 0 0 3 0 [];let c7:Prop:=0<1;let c6:Int:=(↑i:Int);let c5:AV:=rat 0 1;let c4:Nat×ax:=((0:Nat),bg fun x=>agg [int i64 0,nil,nil]);let c1:AV:=aq 12 c.m fun i=>agg [rat (c.f i).n.x 536870912,rat (c.f i).n.y 536870912,rat (c.f i).n.z 536870912,rat (c.f i).d 536870912];let c12:Int:=c6+(1:Int);let c3:AV:=agg [int i64 c.p,bN c.k c.n (sK+10),c10];let c2:Pl:=c.f c6.toNat;some (fork (decide (c6<c11)) (aj [(0:Int)<=c6/\c6.toNat<c.m,c7] (aj [c7,c7,sB<=sB,sB<=sB,sB<=sB,sB<=sB,(1:Nat)*12<=2^24,(i+1)*((224:Nat)+1)*2<=2^47,c7] (aj [-(2:Int)^63<=c12/\c12<(2:Int)^63] (leaf normal ([c8,c9,c1,int i64 c11,int i64 c12],[(40963,ax.mk true true 12 (i+1) fun i_1=>if i_1<i then bU (fu (c.f i_1)) (sB+sB)else nth [agg [agg [rat (c2.n.x/c2.d) (sB+sB),rat (c2.n.y/c2.d) (sB+sB),rat (c2.n.z/c2.d) (sB+sB)],rat c2.d (sB+sB)]] (agg [agg [c5,c5,c5],c5]) (i_1-i+0)),((1:Nat),bg fun j=>if(j==0)=true then agg (c3.kids.set 2 (bA (own (nat_lit 40962+1) 12 0 (i+1))))else c3),c4]))))) (leaf (exit 0) ([c8,c9,c1,int i64 c11,int i64 c6],[(2,ax.mk true true 12 i fun j=>agg [agg [rat ((c.f j).n.x/(c.f j).d) 1073741824,rat ((c.f j).n.y/(c.f j).d) 1073741824,rat ((c.f j).n.z/(c.f j).d) 1073741824],rat (c.f j).d 1073741824]),((1:Nat),bg fun x=>agg [int i64 c.p,aq 3 c.n fun i=>rat (c.k i) 4106,c10]),c4]))):=ah
theorem aaR {c:Cu} {i:Nat}:cJ T zu [] 60 CU [part wQ [1,1,1]] ⟨aF wm (Gx c i),EA c i,3⟩=
  let c1:Prop:=0<1;some (aj [c1,c1] (aj [c1] (leaf ret [agg [int i64 c.p,aq 3 c.n fun i=>rat (c.k i) 4106,aq 12 i fun i=>agg [agg [rat ((c.f (i+0)).n.x/(c.f (i+0)).d) 1073741824,rat ((c.f (i+0)).n.y/(c.f (i+0)).d) 1073741824,rat ((c.f (i+0)).n.z/(c.f (i+0)).d) 1073741824],rat (c.f (i+0)).d 1073741824]]]))):=ah
theorem ML {k:Nat->Rat} {n:Nat}:∀{f i:Nat},i<n->qN k n f i<n
 |0,_,h=>h
 |f+1,i,h=>by
  unfold qN
  split
  ·exact ML aa
  ·exact h
theorem afD {k:Nat->Rat} {n i:Nat} (h:i<n):gU k n i<n:=ML h
theorem ah6 {n p:Nat} {k:Nat->Rat} (h:Kn n p k) {t:Rat}:js n k t<n:=by
 have hl:=h.len
 unfold js
 split
 ·omega
 ·have:=h.uo ‹_›
  omega
theorem ae6:bn P Ck:=dB (aI zF (aI RX (aI Lx (aI ahz fZ))))
theorem aiA {c:Cu} {n:Nat} {k:Nat->Rat} (hk:Kn c.n c.p.toNat c.k) (hp1:1<=c.p) (hp6:c.p<=6) (hn:c.n<2^40) (hm2:c.m<2^40) (hn2:n<2^29) (hpn:c.p+1<=n) (K:Nat):aD P xO K [dL c sK sK,ls k n] [] (aL (dL (kq c n k) sK sB) []):=by
 obtain⟨q,hq⟩:∃q,q=c.p.toNat:=⟨_,rfl⟩
 have hqp:c.p=(q:Int):=aa
 refine g8 (r:=aL (dL (kq c n k) sK sB) []) hT ae6 hm X8 rfl aW rfl [1,1,0,1] (i:=0) (y:=part xI [1,1,0,1,0,0]) (z:=part xI [1,1,1]) ah ah ah (f1:=[]) (f2:=[19]) (f3:=[]) 60 yB 4
  (fun j:Nat=>Jf n (n-c.p.toNat-1) k j) (fun j=>Fk c n k (pO c n k) j) (fun j=>j<=n-c.p.toNat-1) (fun j=>j=n-c.p.toNat-1) (fun j=>n-c.p.toNat-1-j) (fun _=>⟨⟨_,Xm,?_⟩,fun j hj=>⟨_,TV,?_⟩,fun j hj=>⟨_,ZU,?_⟩⟩) K []
 ·have e1:(n:Int)-c.p-1=((n-c.p.toNat-1:Nat):Int):=aa
  simp only[ag.all,aA,e1]
  exact⟨⟨aa,aa⟩,⟨aa,cI bp,aa,aa,aa⟩,0,Nat.zero_le _,[(0,0),(1,4096),(2,24576)],rfl,rfl,rfl,qL rfl aa aa (dF rfl rfl (l9 ⟨⟨rfl,aK rfl⟩,⟨rfl,aK rfl⟩,⟨rfl,r9 aa⟩,trivial⟩) (aO (aO trivial)))⟩
 ·have e1:((j:Int)+1).toNat=j+1:=aa
  have e2:((j:Int)+c.p+1).toNat=j+q+1:=aa
  have e3:j+q+1-(j+1)=q:=aa
  simp only[ag.all,aA,bf,bt,aX,e1,e2,e3,Nat.add_zero]
  have h7:gU (fun i=>aZ (rat (k i) sK)) n j=gU k n j:=rfl
  have h8:∀t,js c.n (fun i=>aZ (rat (c.k i) sK)) t=js c.n c.k t:=fun _=>rfl
  simp only[h7,h8]
  refine⟨fun h=>?_,fun h=>⟨rfl,j,aa,[(0,0),(1,1),(2,2),(3,3)],rfl,rfl,rfl,g9 (dF rfl rfl (uf rfl rfl rfl) (aO (aO trivial)))⟩⟩
  have h1:=afD (k:=k) (n:=n) (i:=j) aa
  have h2:=ah6 hk (t:=k (gU k n j))
  (repeat' with_reducible refine And.intro ?_ ?_)
  all_goals first|omega|exact cI bp|exact hk|exact fun _ _=>.refl _|skip
  refine⟨j+1,aa,by dsimp only;omega,[(0,0),(1,1),(2,2),(3,147460)],rfl,rfl,rfl,bO rfl rfl rfl (fun j' hj'=>zo (g:=fun j=>cy (pO c n k j) sB) (fun _ _=>⟨rfl,rfl⟩) rfl ?_ hj') (dF rfl rfl (uf rfl rfl rfl) (aO (aO trivial)))⟩
  exact Ec (h:=qQ c (js c.n c.k (k (gU k n j))) q (fun q=>k (q+(j+1)))) (by unfold pO;rw[hq]) bp
 ·subst hj
  simp only[ag.all,aA]
  exact⟨⟨aa,aa⟩,aa,.refl _⟩
theorem PY:∀K args pre r,F9 K args pre=some r->aD P xO K args pre r:=cY fun⟨c,⟨n,k⟩,_⟩ K hn=>aiA hn.1 hn.2.1 hn.2.2.1 hn.2.2.2.1 hn.2.2.2.2.1 hn.2.2.2.2.2.1 hn.2.2.2.2.2.2 K
theorem adK:bn P RD:=dB (aI (Zv (by decide) (by decide)) (aI PY bE))
def QO:Spec:=dj (kC (uJ 2000 4000) (kC (gz 2000) kN)) (fun a=>dL (vJ a.1 a.2.1) sK sB) fun a=>[Kn a.1.n a.1.p.toNat a.1.k,1<=a.1.p,a.1.p<=6,a.1.n<2^28,a.1.m<2^40]
theorem abD:∀K args pre r,QO K args pre=some r->aD P Ii K args pre r:=cY fun⟨c,t,_⟩ K hn=>by
 obtain⟨h1,h2,h3,h4,h5⟩:Kn c.n c.p.toNat c.k/\1<=c.p/\c.p<=6/\c.n<2^28/\c.m<2^40:=hn
 have hl:=h1.len
 refine bW (r:=aL (dL (vJ c t) sK sB) []) hT adK hm agn rfl aW rfl 60 aaB (fun _=>?_) K []
 simp only[ag.all,aA]
 (repeat' with_reducible refine And.intro ?_ ?_)
 all_goals first|omega|exact cI (by decide)|exact h1|exact wH (by decide)|skip
 exact .refl _
theorem aaY:∀K args pre r,N6 K args pre=some r->aD P uU K args pre r:=cY fun⟨h,_⟩ K _=>Kv (by decide) (by decide) (by decide) K
theorem Xv:bn P zu:=dB (aI (aah _ _) (aI aaY bE))
theorem aex {c:Cu} (hn:c.n<2^40) (hm2:c.m<2^29) (K:Nat):aD P vQ K [dL c sK sB] [] (aL (bT ⟨c.p,c.n,c.k,c.m,fun i=>fu (c.f i)⟩ (sK+10) (sB+sB)) []):=by
 refine g8 (r:=aL (bT ⟨c.p,c.n,c.k,c.m,fun i=>fu (c.f i)⟩ (sK+10) (sB+sB)) []) hT Xv hm Wc rfl aW rfl [1,1,0,1] (i:=0) (y:=part wQ [1,1,0,1,0,0]) (z:=part wQ [1,1,1]) ah ah ah (f1:=[]) (f2:=[16]) (f3:=[]) 60 wm 3
  (fun i:Nat=>Gx c i) (fun i=>EA c i) (fun i=>i<=c.m) (fun i=>i=c.m) (fun i=>c.m-i) (fun _=>⟨⟨_,agJ,?_⟩,fun i hi=>⟨_,SK,?_⟩,fun i hi=>⟨_,aaR,?_⟩⟩) K []
 ·simp only[ag.all,aA]
  exact⟨⟨aa,aa,cI bp,aa,by decide,aa,aa⟩,aa,0,Nat.zero_le _,[(0,4096),(1,32768)],rfl,rfl,rfl,qL rfl aa aa (dF rfl rfl (l9 ⟨⟨rfl,aK rfl⟩,⟨rfl,aK rfl⟩,⟨rfl,r9 aa⟩,trivial⟩) (aO trivial))⟩
 ·simp only[ag.all,aA,bf,bt,aX,Nat.add_zero]
  refine⟨fun h=>?_,fun h=>⟨rfl,i,aa,[(0,0),(1,1),(2,2)],rfl,rfl,rfl,g9 (dF rfl rfl (uf rfl rfl rfl) (aO trivial))⟩⟩
  (repeat' with_reducible refine And.intro ?_ ?_)
  all_goals first|omega|exact Nat.le_refl _|skip
  exact⟨i+1,aa,by dsimp only;omega,[(0,0),(1,1),(2,40963)],rfl,rfl,rfl,bO rfl rfl rfl (fun j hj=>zo (g:=fun j=>bU (fu (c.f j)) (sB+sB)) (fun _ _=>⟨rfl,rfl⟩) rfl (.refl _) hj) (dF rfl rfl (uf rfl rfl rfl) (aO trivial))⟩
 ·subst hi
  simp only[ag.all,aA]
  exact⟨⟨aa,aa⟩,aa,.refl _⟩
def Io:Spec:=dj (kC (uJ sK sB) kN) (fun a=>bT ⟨a.1.p,a.1.n,a.1.k,a.1.m,fun i=>fu (a.1.f i)⟩ (sK+10) (sB+sB)) fun a=>[a.1.n<2^40,a.1.m<2^29]
theorem Pa:∀K args pre r,Io K args pre=some r->aD P vQ K args pre r:=cY fun⟨c,_⟩ K hn=>aex hn.1 hn.2 K
theorem XC:aU P GH Eb (az Eb):=aT Proofs.Tryz.func80 ah ah ah
theorem U2:aU P FB Dg (az Dg):=aT Proofs.Tryz.func14 ah ah ah
def Rl:aV:=nG::(vh,vO)::fK
def Ry:Spec:=dj (kC (iF 2000 2000) (kC (gz 2000) kN)) (fun a=>.bool (decide (a.1.k 0<a.2.1)&&decide (a.2.1<a.1.k (a.1.n-1)))) fun a=>[dz a.1]
def GI:Spec:=dj (kC (iF 2000 2000) kN) (fun a=>dL ⟨a.1.p,a.1.n,a.1.k,a.1.m,fun i=>b9 (a.1.f i)⟩ 2000 4000) fun a=>[a.1.n<2^40,a.1.m<2^30]
def Pb:aV:=nG::(GH,Ry)::(tA,A3)::(qz,GI)::(Ii,QO)::(vQ,Io)::[]
def fN (c:Cu) (t:Rat):Int:=if¬(c.k 0<t/\t<c.k (c.n-1))then 7 else if c.p<=(bF c.k t c.n:Int)then 5 else if 40<=c.m then 2 else 0
def Iv (c:Cu) (t:Rat):Cu:=⟨c.p,c.n+1,gu c.k t (fC c.k t c.n),c.n+1-c.p.toNat-1,fun i=>fu ((vJ ⟨c.p,c.n,c.k,c.m,fun i=>b9 (c.f i)⟩ t).f i)⟩
def tX:Cu:=⟨0,0,fun _=>0,0,fun _=>⟨⟨0,0,0⟩,0⟩⟩
def yP (c:Cu) (t:Rat):Cu:=if fN c t=0 then Iv c t else tX
theorem aii {c:Cu} {t:Rat}:bP T Rl [16] 60 Eb (az Eb) ⟨aQ 0 [bT c 2000 2000,.rat t 2000],[],0⟩=
  let c9:Prop:=fI (fun i=>bU (c.f i) 2000) c.m sJ;let c8:Prop:=bV (fun i=>rat (c.k i) 2000) c.n sJ;let c7:Prop:=(0:Int)<=(0:Int)/\Int.toNat (0:Int)<c.n;let c5:Prop:=dz (Cu.mk c.p c.n (fun i=>aZ (rat (c.k i) 2000)) c.m fun i=>iI (bU (c.f i) 2000));let c4:Int:=(↑c.n:Int)-(1:Int);let c3:Prop:=0<1;let c2:Int:=ek (c.k (Int.toNat (0:Int))) t;let c1:Prop:=2000<2^42;let c6:Bool:=bif true then decide (c2<(0:Int))else false;some (fork c6 (aj [c3,c8,c9,c5,c3,c7,c3,c1,c1,c6=true,c3,c3,c3,-(2:Int)^63<=c4/\c4<(2:Int)^63,(0:Int)<=c4/\c4.toNat<c.n,c1,c1] (leaf ret [AV.bool (bif true then decide (ek t (c.k c4.toNat)<(0:Int))else false)])) (aj [c3,c8,c9,c5,c3,c7,c3,c1,c1,c6=false] (leaf ret [AV.bool false]))):=ah
theorem ZL {c:Cu} {t:Rat}:bP T Pb [6,12,21] 60 Dg (az Dg) ⟨aQ 0 [bT c 2000 2000,.rat t 2000],[],0⟩=
  let no:Int->ag (List AV):=fun e=>aj [0<1] (aj [0<1] (leaf .ret [.agg [.int .i64 0,.nil,.nil],.int .i64 e]));let k:Prop:=bV (fun i=>.rat (c.k i) 2000) c.n 2000;let f:Prop:=fI (fun i=>bU (c.f i) 2000) c.m 2000
  some (aj [0<1,0<1,k,f,2000<=2000,dz c] (fork (!(decide (c.k 0<t)&&decide (t<c.k (c.n-1)))) (no 7) (aj [0<1,0<1,bV (fun i=>.rat (c.k i) 2000) c.n sK,2000<=sK,c.n<2^40,0<1] (fork (decide ((bF c.k t c.n:Int)>=c.p)) (no 5) (aj [0<1] (fork (decide ((c.m:Int)>=40)) (no 2)
   (aj [0<1,k,f,c.n<2^40,c.m<2^30,0<1,k,mo (fun i=>cy (b9 (c.f i)) 4000) c.m 4000,2000<=2000,Kn c.n c.p.toNat c.k,1<=c.p,c.p<=6,c.n<2^28,c.m<2^40,bV (fun i=>.rat (gu c.k t (fC c.k t c.n) i) sK) (c.n+1) sK,mo (fun i=>cy ((vJ ⟨c.p,c.n,c.k,c.m,fun i=>b9 (c.f i)⟩ t).f i) sB) (c.n+1-c.p.toNat-1) sB,c.n+1<2^40,c.n+1-c.p.toNat-1<2^29,0<1] (aj [0<1] (leaf .ret [bT (Iv c t) (sK+10) (sB+sB),.int .i64 0]))))))))):=ah
theorem ah2:bn P Rl:=dB (aI Dv fZ)
theorem WC {a b:Rat}:ek a b<(0:Int)↔a<b:=qc
theorem ac0:∀K args pre r,Ry K args pre=some r->aD P GH K args pre r:=cY fun⟨c,t,_⟩ K hn=>by
 have hc:dz c:=hn
 obtain⟨h1,h2,h3,h4,h5⟩:=id hc
 have hl:=h1.len
 refine bW (r:=aL (.bool (decide (c.k 0<t)&&decide (t<c.k (c.n-1)))) []) hT ah2 hm XC rfl aW rfl 60 aii (fun _=>?_) K []
 have e1:((c.n:Int)-1).toNat=c.n-1:=aa
 simp only[ag.all,aA,e1,Int.toNat_zero,cond_true,cond_false,bf,bt,WC]
 refine⟨fun h=>?_,fun h=>?_⟩
 ·(repeat' with_reducible refine And.intro ?_ ?_)
  all_goals first|omega|exact cI (by decide)|exact gh (by decide)|exact hc|exact h|decide|skip
  exact fR (by rw[decide_eq_true h,Bool.true_and])
 ·(repeat' with_reducible refine And.intro ?_ ?_)
  all_goals first|omega|exact cI (by decide)|exact gh (by decide)|exact hc|exact h|decide|skip
  exact fR (by rw[decide_eq_false h,Bool.false_and])
theorem PO:∀K args pre r,GI K args pre=some r->aD P qz K args pre r:=cY fun⟨c,_⟩ K hn=>PA (by decide) (by decide) (by decide) hn.1 hn.2 K
theorem aaM:bn P Pb:=dB (aI ac0 (aI EU (aI PO (aI abD (aI Pa bE)))))
theorem WT {x y:Nat}:bD (.agg [.int .i64 0,.nil,.nil]) (bT tX x y):=cu ⟨.refl _,jI (by decide),jI (by decide),trivial⟩
def Jr:Spec:=dj (kC (iF 2000 2000) (kC (gz 2000) kN)) (fun a=>.tuple [bT (yP a.1 a.2.1) (sK+10) (sB+sB),.int .i64 (fN a.1 a.2.1)]) fun a=>[dz a.1]
theorem af1:∀K args pre r,Jr K args pre=some r->aD P FB K args pre r:=cY fun⟨c,t,_⟩ K hn=>by
 have hc:dz c:=hn
 obtain⟨h1,h2,h3,h4,h5⟩:=id hc
 have hl:=h1.len
 refine bW (r:=aL (.tuple [bT (yP c t) (sK+10) (sB+sB),.int .i64 (fN c t)]) []) hT aaM hm U2 rfl aW rfl 60 ZL (fun _=>?_) K []
 have no:∀{e:Int},fN c t=e->e≠0->er [.agg [.int .i64 0,.nil,.nil],.int .i64 e] (.tuple [bT (yP c t) (sK+10) (sB+sB),.int .i64 (fN c t)]):=fun {e} he h0=>by
  refine⟨?_,bJ he.symm,trivial⟩
  rw[show yP c t=tX from if_neg (by rw[he];exact h0)]
  exact WT
 simp only[ag.all,aA,bf,bt,Bool.not_eq_true',Bool.not_eq_false',Bool.and_eq_true,Bool.and_eq_false_iff]
 refine⟨⟨aa,aa,cI bp,gh bp,bp,hc⟩,fun ho=>⟨aa,aa,no ?_ (by decide)⟩,fun hi=>⟨?_,fun h6=>⟨aa,aa,no ?_ (by decide)⟩,fun h6=>⟨aa,fun h7=>⟨aa,aa,no ?_ (by decide)⟩,fun h7=>⟨?_,aa,?_⟩⟩⟩⟩
 ·unfold fN;rw[if_pos fun h=>ho.elim (fun g=>g h.1) fun g=>g h.2]
 ·exact⟨aa,aa,cI (by decide),by decide,aa,aa⟩
 ·unfold fN;rw[if_neg (fun g=>g hi),if_pos h6]
 ·unfold fN;rw[if_neg (fun g=>g hi),if_neg h6,if_pos aa]
 ·(repeat' with_reducible refine And.intro ?_ ?_)
  all_goals first|omega|exact cI (by decide)|exact gh bp|exact wH bp|exact h1|exact Nat.le_refl _|skip
 ·have he:fN c t=0:=by unfold fN;rw[if_neg (fun g=>g hi),if_neg h6,if_neg aa]
  refine⟨?_,bJ he.symm,trivial⟩
  rw[show yP c t=Iv c t from if_pos he]
  exact .refl _
theorem aaf:aU P AZ CD (az CD):=aT Proofs.Tryz.func194 ah ah ah
theorem adA:aU P Es Bc (az Bc):=aT Proofs.Tryz.func91 ah ah ah
theorem abI:aU P Cw Cy (az Cy):=aT Proofs.Tryz.func98 ah ah ah
theorem ab3:aU P xl Je (az Je):=aT Proofs.Tryz.func192 ah ah ah
theorem UH:aU P jF zH (az zH):=aT Proofs.Tryz.func90 ah ah ah
theorem aeR:aU P gM AW (az AW):=aT Proofs.Tryz.func95 ah ah ah
theorem aen:aU P jd zC (az zC):=aT Proofs.Tryz.func97 ah ah ah
theorem Lk:aU P nR pY (az pY):=aT Proofs.Tryz.func193 ah ah ah
theorem ZS:aU P Bv Dy (az Dy):=aT Proofs.Tryz.func198 ah ah ah
theorem VF:aU P Hu Ad (az Ad):=aT Proofs.Tryz.func89 ah ah ah
theorem Xl:aU P Ik Bb (az Bb):=aT Proofs.Tryz.func94 ah ah ah
theorem Zy:aU P DX CW (az CW):=aT Proofs.Tryz.func88 ah ah ah
theorem agk:aU P Ek Dd (az Dd):=aT Proofs.Tryz.func17 ah ah ah
def MQ:Spec:=bM fun l=>match l with
 |[.mag N]=>some (aL (.bool true) [nl N<2^40])
 |_=>none
def Fj:aV:=nG::(AZ,MQ)::(xu,bM (lN HJ))::(vC,bM (iu H8))::(wv,Ff)::[]
def OQ:Spec:=bM fun l=>match l with
 |[.rat q n]=>some (aL (.bool true) [n<2^44])
 |_=>none
def JA:Spec:=bM fun l=>match l with
 |[.rat q n]=>some (aL (.int .i64 (cK q:Nat)) [n<2^44])
 |_=>none
def AS:Spec:=bM fun l=>match l with
 |[.rat q n]=>some (aL (.bool false) [n<=2048])
 |_=>none
def Ca:aV:=nG::(Es,OQ)::(Cw,JA)::fK
def ago (s:Nat):Kind Pl:=⟨fun v=>match zW v with
 |some (a,q)=>some (a.1,q++[a.2<=s])
 |none=>none,fun a=>bU a s,fun {v a q} h hq=>by
  split at h
  ·rename_i b q' hb
   simp only[au,Prod.mk.injEq]at h
   obtain⟨rfl,rfl⟩:=h
   obtain⟨q1,q2⟩:=dn.1 hq
   refine bD.trans (kPl.ok hb q1) ?_
   show bD (bU b.1 b.2) (bU b.1 s)
   exact cu ⟨cu ⟨fJ q2,fJ q2,fJ q2,trivial⟩,fJ q2,trivial⟩
  ·simp at h⟩
def K3:Spec:=dj (kC (ago 2048) kN) (fun _=>.bool false) fun a=>[0<a.1.d]
def A1:Kind FuncId:=⟨fun v=>match v with
 |.func f []=>some (f,[])
 |_=>none,fun g=>.func g [],fun {v a q} h _=>by
  split at h
  ·simp only[au,Prod.mk.injEq]at h
   obtain⟨rfl,rfl⟩:=h
   exact .refl _
  ·simp at h⟩
def GX:aV:=nG::(jF,AS)::(jd,AS)::(gM,K3)::[]
abbrev kY:List Nat:=[4,0,1,7,8]
abbrev vI (n i:Nat) (k:Nat->Rat) (g:FuncId):List AV:=[.int .i64 0,bN k n 2048,.func g [],.int .i64 n,.int .i64 i]
abbrev Il (n i:Nat) (f:Nat->Pl) (g:FuncId):List AV:=[.int .i64 0,mE f n 2048,.func g [],.int .i64 n,.int .i64 i]
abbrev pE:Code:=az pY
abbrev vu:Code:=az Dy
def JI:Spec:=dj (kC (kL 2048) (kC A1 kN)) (fun _=>.int .i64 (-1)) fun a=>[a.1.1<2^40,a.2.1=jF\/a.2.1=jd]
def Qh:Spec:=dj (kC (kL 2048) (kC A1 kN)) (fun _=>.bool false) fun a=>[a.1.1<2^40,a.2.1=jF\/a.2.1=jd]
def GY:aV:=nG::(nR,JI)::[]
def OB:Spec:=pX fun K l=>match l with
 |[v]=>match(kL 2048).read v with
  |some ((n,k),q)=>some ⟨.own K 3 0 n,[(K,⟨true,true,3,n,fun i=>.rat (k i) 2048⟩)],q++[1<=n,n<2^30]⟩
  |none=>none
 |_=>none
def kr (c:Cu) (j:Nat):Rat:=if j<c.n then c.k j else cR (c.f ((j-c.n)/4)) ((j-c.n)%4)
def BN:aV:=nG::(xl,OB)::[]
abbrev yN:List Nat:=[2,3,10,11,12]
abbrev Gw (c:Cu) (i:Nat):List AV:=[.nil,.own 0 3 0 (c.n+4*i),mE c.f c.m 2048,.int .i64 c.m,.int .i64 i]
abbrev EM (c:Cu) (i:Nat):aE:=[(0,⟨true,true,3,c.n+4*i,fun j=>.rat (kr c j) 2048⟩)]
abbrev wg:Code:=az CW
def Rb:Spec:=dj (kC (iF 2048 2048) kN) (fun a=>bN (kr a.1) (a.1.n+4*a.1.m) 2048) fun a=>[1<=a.1.n,a.1.n<2^30,a.1.m<2^28]
theorem VS {N:Nat}:bP T [nG] [6] 60 CD (az CD) ⟨aQ 0 [.mag N],[],0⟩=
  let c2:Bool:=(↑(nl N):Int)==(0:Int);let c1:Int:=(↑(nl N):Int)-(1:Int);some (fork c2 (aj [c2=true] (leaf ret [AV.bool true])) (aj [c2=false,-(2:Int)^63<=c1/\c1<(2:Int)^63,(0:Int)<=c1/\c1.toNat<nl N] (leaf ret [AV.bool (bif false then true else(↑(aC N c1.toNat):Int)!=(0:Int))]))):=ah
theorem ai1 {q:Rat} {n:Nat}:bP T Fj [18,25,29,33,43] 60 Bc (az Bc) ⟨aQ 0 [.rat q n],[],0⟩=
  let c9:ag (List AV):=leaf ret [AV.bool false];let c7:Bool:=!decide (q<0);let c6:Nat:=q.num.natAbs;let c4:Nat:=2^40;let c3:Prop:=0<1;let c2:Nat:=if q.den=1 then 0 else q.den;let c5:Int:=(↑(nl c2):Int);let c10:Bool:=c5==(1:Int);let c8:Bool:=c5==(0:Int);let c1:ag (List AV):=aj [c3] (fork ((↑(nl c6):Int)==(0:Int)) (fork c7 (aj [c3,c7=true,c3] (leaf ret [AV.bool (bif true then c8 else false)])) (aj [c3,c7=false] c9)) (fork c8 (aj [c3,c8=true] (leaf ret [AV.bool true])) (aj [c3,c8=false,c3,c3,nl c6<c4,nl c2<c4,nl (c6.gcd c2)<c4] (leaf ret [AV.bool (bif false then true else(↑(bG (c6.gcd c2)):Int)==(1:Int))]))));some (fork c10 (aj [c3,nl c6<c4,c3,nl c2<c4,c3,c10=true,c3,(0:Int)<=(0:Int)/\Int.toNat (0:Int)<nl c2] (fork (bif bif !true then true else !true then true else bif true then(↑(aC c2 (Int.toNat (0:Int))):Int)==(1:Int)else false) c9 c1)) (aj [c3,nl c6<c4,c3,nl c2<c4,c3,c10=false] (fork false c9 c1))):=ah
theorem RO {q:Rat} {n:Nat}:bP T Fj [] 60 Cy (az Cy) ⟨aQ 0 [.rat q n],[],0⟩=
  let c2:Int:=(↑(bG q.den):Int);let c1:Int:=(↑(bG q.num.natAbs):Int);some (aj [(0:Nat)<1,nl q.num.natAbs<2^40,(0:Nat)<1,nl q.den<2^40] (leaf ret [int i64 (if c1<c2 then c2 else c1)])):=ah
theorem UE {q:Rat} {n:Nat}:bP T Ca [] 60 zH (az zH) ⟨aQ 0 [.rat q n],[],0⟩=
  some (aj [(0:Nat)<1,n<2^44] (leaf ret [AV.bool false])):=ah
theorem W1 {q:Rat} {n:Nat}:bP T Ca [] 60 zC (az zC) ⟨aQ 0 [.rat q n],[],0⟩=
  some (aj [(0:Nat)<1,n<2^44] (leaf ret [AV.bool (decide ((↑(cK q):Int)>(2048:Int)))])):=ah
theorem YO {p:Pl}:bP T Ca [] 60 AW (az AW) ⟨aQ 0 [bU p 2048],[],0⟩=
  some (aj [(0:Nat)<1,(2048:Nat)<2^42] (leaf ret [AV.bool (decide (eP p.d<=(0:Int)))])):=ah
theorem adW {n s:Nat} {k:Nat->Rat}:aJ T [nG] [] 60 [2] [az Je] ⟨aQ 0 [.dI false 3 n (fun i=>.rat (k i) s)],[],0⟩=
  some (aj [(0:Nat)*3<=2^24,((0:Nat)+n)*((56:Nat)+1)*2<=2^47] (leaf ret ([own 20480 3 0 ((0:Nat)+n)],[(20480,ax.mk true true 3 ((0:Nat)+n) fun i=>rat (k (i-0)) s)]))):=ah
theorem L8 {n:Nat} {k:Nat->Rat} {g:FuncId}:aJ T GX [] 60 kY (before pE [1,0,1]) ⟨aQ 0 [bN k n 2048,.func g []],[],0⟩=
  some (leaf normal ([int i64 0,aq 3 n fun i=>rat (k i) 2048,func g [],int i64 (↑n:Int),int i64 0],[])):=ah
theorem adE {n i:Nat} {k:Nat->Rat}:aJ T GX [9] 60 kY [part pE [1,0,1,0,0]] ⟨aF kY (vI n i k jF),[],0⟩=
  let c4:Int:=(↑n:Int);let c2:AV:=aq 3 n fun i=>rat (k i) 2048;let c1:Int:=(↑i:Int);let c3:Int:=c1+(1:Int);some (fork (decide (c1<c4)) (aj [(0:Int)<=c1/\c1.toNat<n,(2048:Nat)<=2048] (aj [-(2:Int)^63<=c3/\c3<(2:Int)^63] (leaf normal ([int i64 0,c2,func jF [],int i64 c4,int i64 c3],[])))) (leaf (exit 0) ([int i64 0,c2,func jF [],int i64 c4,int i64 c1],[]))):=ah
theorem ZG {n i:Nat} {k:Nat->Rat}:aJ T GX [9] 60 kY [part pE [1,0,1,0,0]] ⟨aF kY (vI n i k jd),[],0⟩=
  let c4:Int:=(↑n:Int);let c2:AV:=aq 3 n fun i=>rat (k i) 2048;let c1:Int:=(↑i:Int);let c3:Int:=c1+(1:Int);some (fork (decide (c1<c4)) (aj [(0:Int)<=c1/\c1.toNat<n,(2048:Nat)<=2048] (aj [-(2:Int)^63<=c3/\c3<(2:Int)^63] (leaf normal ([int i64 0,c2,func jd [],int i64 c4,int i64 c3],[])))) (leaf (exit 0) ([int i64 0,c2,func jd [],int i64 c4,int i64 c1],[]))):=ah
theorem O7 {n i:Nat} {k:Nat->Rat} {g:FuncId}:cJ T GX [] 60 pY [part pE [1,1]] ⟨aF kY (vI n i k g),[],0⟩=
  some (leaf ret [int i64 (-1:Int)]):=ah
theorem VQ {n:Nat} {f:Nat->Pl}:aJ T GX [] 60 kY (before vu [1,0,1]) ⟨aQ 0 [mE f n 2048,.func gM []],[],0⟩=
  some (leaf normal ([int i64 0,aq 12 n fun i=>agg [agg [rat (f i).n.x 2048,rat (f i).n.y 2048,rat (f i).n.z 2048],rat (f i).d 2048],func gM [],int i64 (↑n:Int),int i64 0],[])):=ah
theorem aiR {n i:Nat} {f:Nat->Pl}:aJ T GX [9] 60 kY [part vu [1,0,1,0,0]] ⟨aF kY (Il n i f gM),[],0⟩=
  let c5:Int:=(↑n:Int);let c3:Prop:=2048<=2048;let c2:Int:=(↑i:Int);let c1:AV:=aq 12 n fun i=>agg [agg [rat (f i).n.x 2048,rat (f i).n.y 2048,rat (f i).n.z 2048],rat (f i).d 2048];let c4:Int:=c2+(1:Int);some (fork (decide (c2<c5)) (aj [(0:Int)<=c2/\c2.toNat<n,c3,c3,Max.max 2048 2048<=2048,(0:Rat)<(f c2.toNat).d] (aj [-(2:Int)^63<=c4/\c4<(2:Int)^63] (leaf normal ([int i64 0,c1,func gM [],int i64 c5,int i64 c4],[])))) (leaf (exit 0) ([int i64 0,c1,func gM [],int i64 c5,int i64 c2],[]))):=ah
theorem R6 {n i:Nat} {f:Nat->Pl}:cJ T GX [] 60 Dy [part vu [1,1]] ⟨aF kY (Il n i f gM),[],0⟩=
  some (leaf ret [int i64 (-1:Int)]):=ah
theorem acK {n:Nat} {k:Nat->Rat} {g:FuncId}:bP T GY [] 60 Ad (az Ad) ⟨aQ 0 [bN k n 2048,.func g []],[],0⟩=
  some (aj [bV (fun i=>rat (k i) 2048) n 2048,n<2^40,g=jF\/g=jd] (leaf ret [AV.bool false])):=ah
theorem VJ {c:Cu}:aJ T BN [] 60 yN (before wg [1,1,0,1]) ⟨aQ 0 [bT c 2048 2048],[],0⟩=
  some (aj [(0:Nat)<1,bV (fun i=>rat (c.k i) 2048) c.n 2048,(1:Nat)<=c.n,c.n<2^30] (aj [(0:Nat)<1] (leaf normal ([nil,own 16384 3 0 c.n,aq 12 c.m fun i=>agg [agg [rat (c.f i).n.x 2048,rat (c.f i).n.y 2048,rat (c.f i).n.z 2048],rat (c.f i).d 2048],int i64 (↑c.m:Int),int i64 0],[(16384,ax.mk true true 3 c.n fun i=>rat (aZ (rat (c.k i) 2048)) 2048)])))):=ah
theorem Ze {c:Cu} {i:Nat}:aJ T BN [13] 60 yN [part wg [1,1,0,1,0,0]] ⟨aF yN (Gw c i),EM c i,1⟩=
  let c7:Int:=(↑c.m:Int);let c5:Int:=(↑(3:Nat):Int);let c4:Prop:=0<1;let c3:Int:=(↑i:Int);let c2:Nat:=c.n+4*i;let c1:AV:=aq 12 c.m fun i=>agg [agg [rat (c.f i).n.x 2048,rat (c.f i).n.y 2048,rat (c.f i).n.z 2048],rat (c.f i).d 2048];let c9:Nat:=c2+4;let c8:Int:=c3+(1:Int);let c6:Pl:=c.f c3.toNat;some (fork (decide (c3<c7)) (aj [(0:Int)<=c3/\c3.toNat<c.m,c4] (aj [(0:Int)<=(0:Int)/\(0:Int)<c5,c4,(0:Int)<=(1:Int)/\(1:Int)<c5,c4,(0:Int)<=(2:Int)/\(2:Int)<c5,c4,c4,(4:Nat)*3<=2^24,c9*((56:Nat)+1)*2<=2^47] (aj [-(2:Int)^63<=c8/\c8<(2:Int)^63] (leaf normal ([nil,own 73729 3 0 c9,c1,int i64 c7,int i64 c8],[(73729,ax.mk true true 3 c9 fun i=>if i<c2 then rat (kr c i) 2048 else nth [rat c6.n.x 2048,rat c6.n.y 2048,rat c6.n.z 2048,rat c6.d 2048] (rat 0 1) (i-c2+0))]))))) (leaf (exit 0) ([nil,own 0 3 0 c2,c1,int i64 c7,int i64 c3],[(0,ax.mk true true 3 c2 fun j=>rat (kr c j) 2048)]))):=ah
theorem Wn {c:Cu} {i:Nat}:cJ T BN [] 60 CW [part wg [1,1,1]] ⟨aF yN (Gw c i),EM c i,1⟩=
  some (leaf ret [aq 3 (c.n+4*i) fun i=>rat (kr c (i+0)) 2048]):=ah
theorem R7 {N:Nat} (hn:nl N<2^40) (K:Nat):aD P AZ K [.mag N] [] (aL (.bool true) []):=by
 refine bW hT (dB bE) hm aaf rfl aW rfl 60 VS (fun _=>?_) K []
 simp only[ag.all,aA]
 refine⟨fun h=>⟨h,.refl _⟩,fun h=>?_⟩
 have h0:nl N≠0:=fun he=>by rw[he]at h;exact absurd h (by decide)
 have h1:N≠0:=fun he=>h0 (ja.2 he)
 have e1:((nl N:Int)-1).toNat=nl N-1:=aa
 have h2:=BJ h1
 rw[e1]
 refine⟨⟨h,aa,aa⟩,fR ?_⟩
 rw[cond_false]
 exact bne_iff_ne.2 aa
theorem Uq:∀K args pre r,MQ K args pre=some r->aD P AZ K args pre r:=by
 refine ct fun K args r hk hs _=>?_
 split at hs
 ·simp only[au]at hs
  subst hs
  exact fun need=>R7 need K trivial
 ·simp at hs
theorem Qw:bn P Fj:=dB (aI Uq (aI LD (aI LF (aI MH bE))))
theorem ahO {N:Nat} (h:nl N=1) (h1:aC N 0=1):N=1:=by
 have h2:N<2^(32*1):=dm.1 aa
 unfold aC at h1
 omega
theorem aeD {q:Rat} {n:Nat} (hn:n<2^44) (K:Nat):aD P Es K [.rat q n] [] (aL (.bool true) []):=by
 refine jw fun⟨hs1,_⟩=>?_
 obtain⟨a1,a2,a3⟩:=Sz.jk hs1 hn
 refine bW hT Qw hm adA rfl aW rfl 60 ai1 (fun _=>?_) K []
 obtain⟨D,hD⟩:∃D,D=if q.den=1 then 0 else q.den:=⟨_,rfl⟩
 have hD1:D≠1:=by rw[hD];split<;>omega
 have hg:D≠0->q.num.natAbs.gcd D=1:=fun h=>by
  have:D=q.den:=by rw[hD]at h ⊢;split<;>simp_all
  rw[this];exact q.reduced
 have hz:q.num.natAbs=0->¬q<0/\D=0:=fun h=>by
  have h0:=oL.1 h
  subst h0
  exact⟨by decide,by rw[hD];rfl⟩
 rw[<-hD]at a3 ⊢
 have nneg:((nl q.num.natAbs:Int)==0)=true->(!decide (q<0))=true/\((nl D:Int)==0)=true:=fun h=>by
  obtain⟨z1,z2⟩:=hz (ja.1 (by have:=beq_iff_eq.1 h;omega))
  rw[decide_eq_false z1,z2];exact⟨rfl,rfl⟩
 have last:((nl D:Int)==0)=false->D≠0:=fun h he=>by rw[he]at h;exact absurd h (by decide)
 simp only[ag.all,aA,cond_true,cond_false,Bool.not_true]
 refine⟨fun h=>⟨⟨aa,a1,aa,a3,aa,h,aa,aa,?_⟩,fun h2=>?_,fun h2=>⟨aa,fun h3=>⟨fun h4=>⟨⟨aa,h4,aa⟩,fR (nneg h3).2⟩,fun h4=>absurd (h4.symm.trans (nneg h3).1) (by decide)⟩,fun h3=>⟨fun h4=>⟨⟨aa,h4⟩,.refl _⟩,fun h4=>?_⟩⟩⟩,
  fun h=>⟨⟨aa,a1,aa,a3,aa,h⟩,fun h=>absurd h (by decide),fun _=>⟨aa,fun h3=>⟨fun h4=>⟨⟨aa,h4,aa⟩,fR (nneg h3).2⟩,fun h4=>absurd (h4.symm.trans (nneg h3).1) (by decide)⟩,fun h3=>⟨fun h4=>⟨⟨aa,h4⟩,.refl _⟩,fun h4=>?_⟩⟩⟩⟩
 ·have:=beq_iff_eq.1 h
  rw[Int.toNat_zero];omega
 ·have e1:=beq_iff_eq.1 h
  have e2:=beq_iff_eq.1 h2
  exact absurd (ahO aa (by rw[Int.toNat_zero]at e2;omega)) hD1
 ·rw[hg (last h4)]
  exact⟨⟨aa,h4,aa,aa,a1,a3,by decide⟩,fR (by decide)⟩
 ·rw[hg (last h4)]
  exact⟨⟨aa,h4,aa,aa,a1,a3,by decide⟩,fR (by decide)⟩
theorem RR:∀K args pre r,OQ K args pre=some r->aD P Es K args pre r:=by
 refine ct fun K args r hk hs _=>?_
 split at hs
 ·simp only[au]at hs
  subst hs
  exact fun need=>aeD need K trivial
 ·simp at hs
theorem afZ {q:Rat} {n:Nat} (hn:n<2^44) (K:Nat):aD P Cw K [.rat q n] [] (aL (.int .i64 (cK q:Nat)) []):=by
 refine jw fun⟨hs1,_⟩=>?_
 obtain⟨a1,a2,a3⟩:=Sz.jk hs1 hn
 refine bW hT Qw hm abI rfl aW rfl 60 RO (fun _=>?_) K []
 simp only[ag.all,aA]
 refine⟨⟨aa,a1,aa,a2⟩,bJ ?_⟩
 unfold cK
 split<;>omega
theorem Vu:∀K args pre r,JA K args pre=some r->aD P Cw K args pre r:=by
 refine ct fun K args r hk hs _=>?_
 split at hs
 ·simp only[au]at hs
  subst hs
  exact fun need=>afZ need K trivial
 ·simp at hs
theorem IK:bn P Ca:=dB (aI RR (aI Vu fZ))
theorem ag7:∀K args pre r,AS K args pre=some r->aD P jF K args pre r:=by
 refine ct fun K args r hk hs _=>?_
 split at hs
 ·rename_i q n
  simp only[au]at hs
  subst hs
  intro need
  have hn:n<=2048:=need
  refine bW (r:=aL (.bool false) [n<=2048]) hT IK hm UH rfl aW rfl 60 UE (fun _=>?_) K [] need
  simp only[ag.all,aA]
  (repeat' with_reducible refine And.intro ?_ ?_)
  all_goals first|omega|exact .refl _|skip
 ·simp at hs
theorem ahR:∀K args pre r,AS K args pre=some r->aD P jd K args pre r:=by
 refine ct fun K args r hk hs _=>?_
 split at hs
 ·rename_i q n
  simp only[au]at hs
  subst hs
  intro need
  have hn:n<=2048:=need
  refine(jw (P:=P) (f:=jd) (K:=K) (args:=[.rat q n]) (pre:=[]) (v:=.bool false) (l:=[n<=2048]) fun⟨hs1,_⟩=>?_) need
  have h1:=VX.1 hs1
  refine bW (r:=aL (.bool false) [n<=2048]) hT IK hm aen rfl aW rfl 60 W1 (fun _=>?_) K []
  simp only[ag.all,aA]
  (repeat' with_reducible refine And.intro ?_ ?_)
  all_goals first|omega|skip
  exact fR (decide_eq_false aa)
 ·simp at hs
theorem aiY:∀K args pre r,K3 K args pre=some r->aD P gM K args pre r:=cY fun⟨p,_⟩ K hn=>by
 have hd:0<p.d:=hn
 refine bW (r:=aL (.bool false) []) hT IK hm aeR rfl aW rfl 60 YO (fun _=>?_) K []
 have hs:eP p.d=1:=by
  unfold eP
  rw[if_neg (by grind),if_pos hd]
 simp only[ag.all,aA,hs]
 (repeat' with_reducible refine And.intro ?_ ?_)
 all_goals first|omega|decide|exact .refl _|skip
theorem Fh:bn P GX:=dB (aI ag7 (aI ahR (aI aiY bE)))
theorem ajb {n:Nat} {k:Nat->Rat} {g:FuncId} (hn:n<2^40) (hg:g=jF\/g=jd) (K:Nat):aD P nR K [bN k n 2048,.func g []] [] (aL (.int .i64 (-1)) []):=by
 rcases hg with rfl|rfl
 ·refine g8 (r:=aL (.int .i64 (-1)) []) hT Fh hm Lk rfl aW rfl [1,0,1] (i:=0) (y:=part pE [1,0,1,0,0]) (z:=part pE [1,1]) ah ah ah (f1:=[]) (f2:=[9]) (f3:=[]) 60 kY 0
   (fun i:Nat=>vI n i k jF) (fun _=>[]) (fun i=>i<=n) (fun i=>i=n) (fun i=>n-i) (fun _=>⟨⟨_,L8,?_⟩,fun i hi=>⟨_,adE,?_⟩,fun i hi=>⟨_,O7,?_⟩⟩) K []
  ·simp only[ag.all,aA]
   exact⟨0,Nat.zero_le _,[],rfl,rfl,rfl,trivial⟩
  ·simp only[ag.all,aA,bf,bt,aX]
   exact⟨fun h=>⟨⟨aa,aa⟩,aa,i+1,aa,by dsimp only;omega,[],rfl,rfl,rfl,trivial⟩,fun h=>⟨rfl,i,aa,[],rfl,rfl,rfl,trivial⟩⟩
  ·simp only[ag.all,aA]
   exact .refl _
 ·refine g8 (r:=aL (.int .i64 (-1)) []) hT Fh hm Lk rfl aW rfl [1,0,1] (i:=0) (y:=part pE [1,0,1,0,0]) (z:=part pE [1,1]) ah ah ah (f1:=[]) (f2:=[9]) (f3:=[]) 60 kY 0
   (fun i:Nat=>vI n i k jd) (fun _=>[]) (fun i=>i<=n) (fun i=>i=n) (fun i=>n-i) (fun _=>⟨⟨_,L8,?_⟩,fun i hi=>⟨_,ZG,?_⟩,fun i hi=>⟨_,O7,?_⟩⟩) K []
  ·simp only[ag.all,aA]
   exact⟨0,Nat.zero_le _,[],rfl,rfl,rfl,trivial⟩
  ·simp only[ag.all,aA,bf,bt,aX]
   exact⟨fun h=>⟨⟨aa,aa⟩,aa,i+1,aa,by dsimp only;omega,[],rfl,rfl,rfl,trivial⟩,fun h=>⟨rfl,i,aa,[],rfl,rfl,rfl,trivial⟩⟩
  ·simp only[ag.all,aA]
   exact .refl _
theorem Ve:∀K args pre r,JI K args pre=some r->aD P nR K args pre r:=cY fun⟨⟨n,k⟩,g,_⟩ K hn=>ajb hn.1 hn.2 K
theorem TF:bn P GY:=dB (aI Ve bE)
theorem Zj:∀K args pre r,Qh K args pre=some r->aD P Hu K args pre r:=cY fun⟨⟨n,k⟩,g,_⟩ K hn=>by
 refine bW (r:=aL (.bool false) []) hT TF hm VF rfl aW rfl 60 acK (fun _=>?_) K []
 simp only[ag.all,aA]
 exact⟨⟨cI bp,hn.1,hn.2⟩,.refl _⟩
def K2:Spec:=dj (kC (BX 2048) (kC A1 kN)) (fun _=>.int .i64 (-1)) fun a=>[a.1.1<2^40,∀i,i<a.1.1->0<(a.1.2 i).d,a.2.1=gM]
def JB:Spec:=dj (kC (BX 2048) (kC A1 kN)) (fun _=>.bool false) fun a=>[a.1.1<2^40,∀i,i<a.1.1->0<(a.1.2 i).d,a.2.1=gM]
def Q8:aV:=nG::(Bv,K2)::[]
def PF:aV:=nG::(DX,Rb)::(Hu,Qh)::(Ik,JB)::(wo,Gn)::(tF,v9)::[]
theorem XN {n:Nat} {f:Nat->Pl} (hn:n<2^40) (hf:∀i,i<n->0<(f i).d) (K:Nat):aD P Bv K [mE f n 2048,.func gM []] [] (aL (.int .i64 (-1)) []):=by
 refine g8 (r:=aL (.int .i64 (-1)) []) hT Fh hm ZS rfl aW rfl [1,0,1] (i:=0) (y:=part vu [1,0,1,0,0]) (z:=part vu [1,1]) ah ah ah (f1:=[]) (f2:=[9]) (f3:=[]) 60 kY 0
  (fun i:Nat=>Il n i f gM) (fun _=>[]) (fun i=>i<=n) (fun i=>i=n) (fun i=>n-i) (fun _=>⟨⟨_,VQ,?_⟩,fun i hi=>⟨_,aiR,?_⟩,fun i hi=>⟨_,R6,?_⟩⟩) K []
 ·simp only[ag.all,aA]
  exact⟨0,Nat.zero_le _,[],rfl,rfl,rfl,trivial⟩
 ·simp only[ag.all,aA,bf,bt,aX]
  exact⟨fun h=>⟨⟨aa,aa,aa,by decide,hf i aa⟩,aa,i+1,aa,by dsimp only;omega,[],rfl,rfl,rfl,trivial⟩,fun h=>⟨rfl,i,aa,[],rfl,rfl,rfl,trivial⟩⟩
 ·simp only[ag.all,aA]
  exact .refl _
theorem aeW:∀K args pre r,K2 K args pre=some r->aD P Bv K args pre r:=cY fun⟨⟨n,f⟩,g,_⟩ K hn=>by
 have hg:g=gM:=hn.2.2
 subst hg
 exact XN hn.1 hn.2.1 K
theorem agR {args:List AV} {n:Nat} {k:Nat->Rat} {l:List Prop} (ha:aA l->eU (aY []) args [.dI false 3 n (fun i=>.rat (k i) 2048)]) (hn:aA l->1<=n/\n<2^30) (K:Nat):aD P xl K args [] ⟨iw [.own K 3 0 n],[(K,⟨true,true,3,n,fun i=>.rat (k i) 2048⟩)],l⟩:=by
 refine Ir hT ab3 ha aW fun need c hk=>?_
 obtain⟨h1,h2⟩:=hn need
 refine ay.bz hT (dB bE) hm 60 [2] adW ah ?_
 simp only[ag.all,aA]
 exact⟨⟨aa,aa⟩,fun s' hs'=>⟨.inr trivial,[2],_,[.own 20480 3 0 (0+n)],_,20480,_,hs',ah,⟨⟨rfl,cP (by simp[aY,look]) rfl aa⟩,trivial⟩,rfl,iA aa fun i hi=>aK rfl⟩⟩
theorem YK {n:Nat} {k:Nat->Rat} {l:List Prop} (hn:aA l->1<=n/\n<2^30) (K:Nat):aD P xl K [bN k n 2048] [] ⟨iw [.own K 3 0 n],[(K,⟨true,true,3,n,fun i=>.rat (k i) 2048⟩)],l⟩:=by
 refine Mj fun b hb=>?_
 intro need
 have h1:=hn need
 cases b
 ·exact agR (args:=[.dI false 3 n (fun i=>.rat (k i) 2048)]) (fun _=>⟨⟨rfl,aK rfl⟩,trivial⟩) hn K need
 ·have:=hb rfl
  omega
theorem ae2:∀K args pre r,OB K args pre=some r->aD P xl K args pre r:=by
 refine uM fun K args r hk hs=>?_
 split at hs
 ·rename_i v
  split at hs
  ·rename_i n k q hv
   simp only[au]at hs
   subst hs
   intro need
   obtain⟨hn1,hn2⟩:=dn.1 need
   exact gv (YK (l:=q++[1<=n,n<2^30]) (fun h=>⟨(dn.1 h).2.1,(dn.1 h).2.2⟩) K) hk ⟨(kL 2048).ok hv hn1,trivial⟩ [] need
  ·simp at hs
 ·simp at hs
theorem aa1:bn P BN:=dB (aI ae2 bE)
theorem aad {c:Cu} {i j:Nat} {rl:List (Nat×Nat)} (hj:j<c.n+4*i+4):gA rl (if j<c.n+4*i then .rat (kr c j) 2048 else nth [.rat (c.f i).n.x 2048,.rat (c.f i).n.y 2048,.rat (c.f i).n.z 2048,.rat (c.f i).d 2048] (.rat 0 1) (j-(c.n+4*i)+0)) (.rat (kr c j) 2048):=by
 by_cases h:j<c.n+4*i
 ·rw[if_pos h];exact cB rfl rfl
 ·rw[if_neg h]
  have key:∀a,a<4->j=c.n+4*i+a->kr c j=cR (c.f i) a:=fun a ha hj=>by
   unfold kr
   rw[if_neg aa,show(j-c.n)/4=i by omega,show(j-c.n)%4=a by omega]
  rcases(show j=c.n+4*i+0\/j=c.n+4*i+1\/j=c.n+4*i+2\/j=c.n+4*i+3 by omega)with h'|h'|h'|h'
  ·rw[key 0 aa h',h',show c.n+4*i+0-(c.n+4*i)+0=0 by omega];exact cB rfl rfl
  ·rw[key 1 aa h',h',show c.n+4*i+1-(c.n+4*i)+0=1 by omega];exact cB rfl rfl
  ·rw[key 2 aa h',h',show c.n+4*i+2-(c.n+4*i)+0=2 by omega];exact cB rfl rfl
  ·rw[key 3 aa h',h',show c.n+4*i+3-(c.n+4*i)+0=3 by omega];exact cB rfl rfl
theorem abE {c:Cu} (h1:1<=c.n) (hn:c.n<2^30) (hm2:c.m<2^28) (K:Nat):aD P DX K [bT c 2048 2048] [] (aL (bN (kr c) (c.n+4*c.m) 2048) []):=by
 refine g8 (r:=aL (bN (kr c) (c.n+4*c.m) 2048) []) hT aa1 hm Zy rfl aW rfl [1,1,0,1] (i:=0) (y:=part wg [1,1,0,1,0,0]) (z:=part wg [1,1,1]) ah ah ah (f1:=[]) (f2:=[13]) (f3:=[]) 60 yN 1
  (fun i:Nat=>Gw c i) (fun i=>EM c i) (fun i=>i<=c.m) (fun i=>i=c.m) (fun i=>c.m-i) (fun _=>⟨⟨_,VJ,?_⟩,fun i hi=>⟨_,Ze,?_⟩,fun i hi=>⟨_,Wn,?_⟩⟩) K []
 ·simp only[ag.all,aA]
  exact⟨⟨aa,cI bp,aa,aa⟩,aa,0,Nat.zero_le _,[(0,16384)],rfl,rfl,rfl,bO rfl rfl rfl (fun j hj=>cB rfl (by unfold kr;rw[if_pos aa];rfl)) trivial⟩
 ·simp only[ag.all,aA,bf,bt,aX]
  refine⟨fun h=>?_,fun h=>⟨rfl,i,aa,[(0,0)],rfl,rfl,rfl,bO rfl rfl rfl (fun j hj=>cB rfl rfl) trivial⟩⟩
  (repeat' with_reducible refine And.intro ?_ ?_)
  all_goals first|omega|decide|skip
  refine⟨i+1,aa,by dsimp only;omega,[(0,73729)],rfl,?_,rfl,bO rfl rfl ?_ (fun j hj=>aad aa) trivial⟩
  ·show _=[_,AV.own 0 3 0 (c.n+4*(i+1)),_,_,_].map _
   rw[show c.n+4*(i+1)=c.n+4*i+4 by omega];rfl
  ·show c.n+4*(i+1)=c.n+4*i+4
   omega
 ·subst hi
  simp only[ag.all,aA]
  exact .refl _
theorem adu:∀K args pre r,Rb K args pre=some r->aD P DX K args pre r:=cY fun⟨c,_⟩ K hn=>abE hn.1 hn.2.1 hn.2.2 K
theorem aga {n:Nat} {f:Nat->Pl}:bP T Q8 [] 60 Bb (az Bb) ⟨aQ 0 [mE f n 2048,.func gM []],[],0⟩=
  some (aj [fI (fun i=>bU (f i) 2048) n 2048,n<2^40,∀(i:Nat),i<n->0<aZ (rat (f i).d 2048),gM=gM] (leaf ret [AV.bool false])):=ah
theorem adi {c:Cu}:bP T PF [200015,200017] 60 Dd (az Dd) ⟨aQ 0 [bT c 2048 2048],[],0⟩=
  let c5 : Nat := c.n + 4 * c.m; let c4 : Prop := fI (fun i => bU (c.f i) 2048) c.m 2048; let c3 : Nat := 2 ^ 40; let c2 : Prop := 0 < 1; let c1 : Prop := bV (fun i => rat (kr (Cu.mk c.p c.n (fun i => aZ (rat (c.k i) 2048)) c.m fun i => iI (bU (c.f i) 2048)) i) 2048) c5 2048; some (aj [c2, bV (fun i => rat (c.k i) 2048) c.n 2048, c4, (1 : Nat) <= c.n, c.n < 2 ^ 30, c.m < 2 ^ 28] (aj [c1, c5 < c3, jF = jF \/ jF = jd] (aj [c2, c2, bV (fun i => rat (c.k i) 2048) c.n sJ, c.n < c3] (aj [(gF c.n (fun i => aZ (rat (c.k i) 2048)) c.p != (0 : Int)) = false] (aj [c2, c2, c2, bV (fun i => rat (c.k i) 2048) c.n sK, c.n < c3, -(2 : Int) ^ 40 < c.p, c.p < (2 : Int) ^ 40] (aj [((↑c.m : Int) != (↑c.n : Int) - c.p - (1 : Int)) = false] (aj [c2, c4, c.m < c3, ∀ (i : Nat), i < c.m -> 0 < aZ (rat (c.f i).d 2048), gM = gM] (aj [c1, c5 < c3, jd = jF \/ jd = jd] (leaf ret [int i64 (0 : Int)]))))))))) := ah
theorem agr:bn P Q8:=dB (aI aeW bE)
theorem ae0:∀K args pre r,JB K args pre=some r->aD P Ik K args pre r:=cY fun⟨⟨n,f⟩,g,_⟩ K hn=>by
 have hg:g=gM:=hn.2.2
 subst hg
 refine bW (r:=aL (.bool false) []) hT agr hm Xl rfl aW rfl 60 aga (fun _=>?_) K []
 simp only[ag.all,aA]
 exact⟨⟨gh bp,hn.1,hn.2.1,by trivial⟩,.refl _⟩
theorem VG:bn P PF:=dB (aI adu (aI Zj (aI ae0 (aI Ku (aI zF bE)))))
def FJ:Spec:=dj (kC (iF 2048 2048) kN) (fun _=>.int .i64 0) fun a=>[dz a.1,∀i,i<a.1.m->0<(a.1.f i).d]
theorem Qd:∀K args pre r,FJ K args pre=some r->aD P Ek K args pre r:=cY fun⟨c,_⟩ K hn=>by
 obtain⟨⟨h1,h2,h3,h4,h5⟩,hw⟩:dz c/\_:=hn
 have hl:=h1.len
 refine bW (r:=aL (.int .i64 0) []) hT VG hm agk rfl aW rfl 60 adi (fun _=>?_) K []
 have hc0:gF c.n c.k c.p=0:=by have:=h1.Rg aa h4;rwa [Int.toNat_of_nonneg aa]at this
 simp only[ag.all,aA]
 (repeat' with_reducible refine And.intro ?_ ?_)
 all_goals first|omega|exact cI (by decide)|exact gh (by decide)|exact hw|exact bne_eq_false_iff_eq.2 hc0|exact bne_eq_false_iff_eq.2 h5|exact .inl trivial|exact .inr trivial|trivial|exact .refl _|skip
theorem O3:aU P zA C3 (az C3):=aT Proofs.Tryz.func168 ah ah ah
def nI:aV:=nG::(r7,iS uu)::(o5,ye)::(qX,wX)::Rj
abbrev lp (n:Nat) (z:Nat->Int) (a:Int):ax:=jr n (fun i=>.int .i64 (z i)) a
abbrev tO (t:Rat):ax:=⟨false,true,3,1,fun _=>.rat t 64⟩
abbrev aiT (m:Nat) (k:Nat->Rat):ax:=⟨true,true,3,m,fun i=>.rat (k i) 64⟩
abbrev rK:List Nat:=[0,1,2,7,8,9]
abbrev DN (p m:Int) (v:AV) (i:Int):List AV:=[.ptr 0 0 2 0 [],.int .i64 p,.int .i64 m,.ptr 1 0 3 0 [],v,.int .i64 i]
abbrev xH:Code:=az C3
abbrev x5:Code:=part xH [1,1,1,1]
abbrev sY:Code:=part x5 [1]
abbrev wu:List Nat:=[0,1,7,8,10]
abbrev xN:List Nat:=[0,1,7,8,11]
abbrev qm (p:Int) (l:Nat) (i:Int):List AV:=[.ptr 0 0 2 0 [],.int .i64 p,.ptr 1 0 3 0 [],.own 2 3 0 l,.int .i64 i]
abbrev nk (n:Nat) (z:Nat->Int) (a:Int) (t:Rat) (l:Nat) (k:Nat->Rat):aE:=[(2,aiT l k),(1,tO t),(0,lp n z a)]
theorem ah3 {n:Nat} {z:Nat->Int} {a p m:Int}:aJ T nI [] 60 rK (before xH [1,1,1,0,1]) ⟨aQ 0 [.ptr 0 0 2 0 [],.int .i64 p,.int .i64 m],[(0,lp n z a)],1⟩=
  let c2:Int:=(2:Int)^63;let c1:Int:=dg n (fun i=>int i64 (z i)) a (4:Int)-(2:Int);some (aj [cW n (fun i=>int i64 (z i)) a,(0:Int)<(4:Int),(4:Int)<(2:Int)^62,-c2<=c1/\c1<c2,-c2<=c1,c1<c2,(0:Nat)<1] (leaf normal ([ptr 0 0 2 0 [],int i64 p,int i64 m,ptr 20481 0 3 0 [],nil,int i64 0],[((20481:Nat),bg fun j=>if(j==0)=true then bA (rat (↑c1:Rat) (Max.max 1 (bG c1.natAbs)))else rat 0 1),(0,ax.mk false true 2 1 fun x=>agg [aq 1 n fun i=>int i64 (z i),int i64 (bK n a)])]))):=ah
theorem aa7 {n:Nat} {z:Nat->Int} {a p m:Int} {t:Rat}:aJ T nI [18] 60 rK [part xH [1,1,1,0,1,0,0]] ⟨aF rK (DN p m .nil 0),[(1,tO t),(0,lp n z a)],3⟩=
  let c3:AV:=ptr 1 0 3 0 [];let c2:AV:=ptr 0 0 2 0 [];let c1:List (Nat×ax):=[((1:Nat),bg fun x=>rat t 64),(0,ax.mk false true 2 1 fun x=>agg [aq 1 n fun i=>int i64 (z i),int i64 a])];some (fork (decide ((0:Int)<=p)) (aj [(0:Nat)<1,(1:Nat)*3<=2^24,(0:Nat)<1/\1*((56:Nat)+1)*2<=2^47] (aj [-(2:Int)^63<=(0:Int)+(1:Int)/\(0:Int)+(1:Int)<(2:Int)^63] (leaf normal ([c2,int i64 p,int i64 m,c3,own 24579 3 0 1,int i64 1],(24579,ax.mk true true 3 1 fun i=>nth [rat t 64] (rat 0 1) (i+0))::c1)))) (leaf (exit 0) ([c2,int i64 p,int i64 m,c3,nil,int i64 0],c1))):=ah
theorem afV {n j:Nat} {z:Nat->Int} {a p m:Int} {t:Rat} {k:Nat->Rat}:aJ T nI [18] 60 rK [part xH [1,1,1,0,1,0,0]] ⟨aF rK (DN p m (.own 2 3 0 (j+1)) ((j+1:Nat):Int)),nk n z a t (j+1) k,3⟩=
  let c4:AV:=ptr 1 0 3 0 [];let c3:AV:=ptr 0 0 2 0 [];let c2:Nat:=j+1;let c1:List (Nat×ax):=[((1:Nat),bg fun x=>rat t 64),(0,ax.mk false true 2 1 fun x=>agg [aq 1 n fun i=>int i64 (z i),int i64 a])];let c7:Nat:=c2+1;let c6:Int:=(↑c2:Int);let c5:Int:=c6+(1:Int);some (fork (decide (c6<=p)) (aj [(0:Nat)<1,(1:Nat)*3<=2^24,c7*((56:Nat)+1)*2<=2^47] (aj [-(2:Int)^63<=c5/\c5<(2:Int)^63] (leaf normal ([c3,int i64 p,int i64 m,c4,own 24579 3 0 c7,int i64 c5],(24579,ax.mk true true 3 c7 fun i=>if i<c2 then rat (k i) 64 else nth [rat t 64] (rat 0 1) (i-c2+0))::c1)))) (leaf (exit 0) ([c3,int i64 p,int i64 m,c4,own 2 3 0 c2,int i64 c6],(2,ax.mk true true 3 c2 fun i=>rat (k i) 64)::c1))):=ah
theorem Ws {n j:Nat} {z:Nat->Int} {a p m:Int} {t:Rat} {k:Nat->Rat}:aJ T nI [] 60 wu (before x5 [0,1]) ⟨aF rK (DN p m (.own 2 3 0 (j+1)) ((j+1:Nat):Int)),nk n z a t (j+1) k,3⟩=
  let c1:Int:=m+(1:Int);some (aj [-(2:Int)^63<=c1/\c1<(2:Int)^63,cW n (fun i=>int i64 (z i)) a,(0:Int)<c1,c1<(2:Int)^62] (leaf normal ([ptr 0 0 2 0 [],int i64 p,ptr 1 0 3 0 [],own 2 3 0 (j+1),int i64 (dg n (fun i=>int i64 (z i)) a c1)],[(2,ax.mk true true 3 (j+1) fun i=>rat (k i) 64),((1:Nat),bg fun x=>rat t 64),(0,ax.mk false true 2 1 fun x=>agg [aq 1 n fun i=>int i64 (z i),int i64 (bK n a)])]))):=ah
theorem abF {n l:Nat} {z:Nat->Int} {a p i:Int} {t:Rat} {k:Nat->Rat}:aJ T nI [30,38,43,53] 60 wu [part x5 [0,1,0,0]] ⟨aF wu (qm p l i),nk n z a t l k,3⟩=
  let c40:Int:=i-(1:Int);let c39:Nat:=64+64+1;let c35:AV:=rat t 64;let c34:AV:=rat 0 1;let c33:Int:=bK n a;let c31:Nat:=l+1;let c30:Prop:=(0:Int)<(3:Int);let c28:Prop:=cW n (fun i=>int i64 (z i)) a;let c27:Int:=(↑l:Int);let c25:AV:=ptr 1 0 3 0 [];let c24:AV:=ptr 0 0 2 0 [];let c23:Prop:=0<1;let c21:Int:=(2:Int)^62;let c20:AV:=aq 1 n fun i=>int i64 (z i);let c18:Int:=p+(1:Int);let c16:Prop:=64<2^41;let c7:Int:=dg n (fun i=>int i64 (z i)) a (3:Int);let c5:Int:=(2:Int)^63;let c43:Int:=bK n c33;let c41:Bool:=c27==c18;let c38:Prop:=cW n (fun i=>int i64 (z i)) c33;let c37:Prop:=(3:Int)<c21;let c32:Prop:=-c5<=c18/\c18<c5;let c29:Int:=(1:Int)+c7;let c26:Nat×ax:=((1:Nat),bg fun x=>c35);let c22:Bool:=bif false then true else decide (c7>(0:Int));let c19:List Prop:=[-c5<=c40/\c40<c5];let c17:Nat:=(c27-p).toNat+0;let c15:Nat×ax:=(106499,ax.mk true true 3 c31 fun i=>if i<l then rat (k i) 64 else nth [c35] c34 (i-l+0));let c13:List AV:=[c24,int i64 p,c25,own 147459 3 0 c31,int i64 c40];let c12:List AV:=[c24,int i64 p,c25,own 106499 3 0 c31,int i64 c40];let c10:Int:=(1:Int)+dg n (fun i=>int i64 (z i)) c33 (2:Int);let c9:Int:=(1:Int)+dg n (fun i=>int i64 (z i)) c33 (3:Int);let c6:List Prop:=[c23,(1:Nat)*3<=2^24,c31*((56:Nat)+1)*2<=2^47];let c42:Rat:=(↑c29:Rat)/(↑c10:Rat);let c36:Bool:=bif false then true else decide (t=k c17);let c14:List (Nat×ax):=[c26,(0,ax.mk false true 2 1 fun x=>agg [c20,int i64 a])];let c11:List Prop:=[c23,-c5<=c27-p/\c27-p<c5,(0:Int)<=c27-p/\(c27-p).toNat<l,c17<l,c16,c16];let c8:Int:=(1:Int)+dg n (fun i=>int i64 (z i)) c43 (2:Int);let c3:ag (List AV×aE):=aj c6 (aj c19 (leaf normal (c12,[c15,c26,(0,ax.mk false true 2 1 fun x=>agg [c20,int i64 c33])])));let c44:Rat:=(↑c9:Rat)/(↑c8:Rat);let c4:ag (List AV×aE):=aj c6 (aj c19 (leaf normal (c12,c15::c14)));let c2:ag (List AV×aE):=aj [c23,c28,c30,c37,-c5<=c29/\c29<c5,c38,(0:Int)<(2:Int),(2:Int)<c21,-c5<=c10/\c10<c5,-c5<=c29,c29<c5,-c5<=c10,c10<c5,c16,c16,c23] (aj c6 (aj c19 (leaf normal (c13,[(147459,ax.mk true true 3 c31 fun i=>if i<l then rat (k i) 64 else nth [rat (t+c42) c39] c34 (i-l+0)),((1:Nat),bg fun j=>if(j==0)=true then bA (mz (t,(64:Nat)) (c42,(64:Nat)))else c35),(0,ax.mk false true 2 1 fun x=>agg [c20,int i64 c43])]))));let c1:ag (List AV×aE):=aj [c23,c38,c30,c37,-c5<=c9/\c9<c5,cW n (fun i=>int i64 (z i)) c43,(0:Int)<(2:Int),(2:Int)<c21,-c5<=c8/\c8<c5,-c5<=c9,c9<c5,-c5<=c8,c8<c5,c16,c16,c23] (aj c6 (aj c19 (leaf normal (c13,[(147459,ax.mk true true 3 c31 fun i=>if i<l then rat (k i) 64 else nth [rat (t+c44) c39] c34 (i-l+0)),((1:Nat),bg fun j=>if(j==0)=true then bA (mz (t,(64:Nat)) (c44,(64:Nat)))else c35),(0,ax.mk false true 2 1 fun x=>agg [c20,int i64 (bK n c43)])]))));some (fork (decide (i>(0:Int))) (fork c41 (fork true (aj [c32,c41=true,true=true] (fork true c2 c4)) (aj (c32::(c41=true)::(true=false)::c11) (fork c36 c2 c4))) (fork c22 (aj [c32,c41=false,c28,c30,c37,c22=true] (fork true c1 c3)) (aj (c32::(c41=false)::c28::c30::c37::(c22=false)::c11) (fork c36 c1 c3)))) (leaf (exit 2) ([c24,int i64 p,c25,own 2 3 0 l,int i64 i],(2,ax.mk true true 3 l fun i=>rat (k i) 64)::c14))):=ah
theorem Tj {n l:Nat} {z:Nat->Int} {a p i:Int} {t:Rat} {k:Nat->Rat}:aJ T nI [] 60 xN (before sY [1,0,1]) ⟨aF wu (qm p l i),nk n z a t l k,3⟩=
  let c1:Nat:=Max.max 1 (bG (Int.natAbs (1:Int)));some (aj [(0:Nat)<1,-(2:Int)^63<=(1:Int),(1:Int)<(2:Int)^63,(64:Nat)<2^41,c1<2^41,(0:Nat)<1] (leaf normal ([ptr 0 0 2 0 [],int i64 p,ptr 1 0 3 0 [],own 2 3 0 l,int i64 0],[(2,ax.mk true true 3 l fun i=>rat (k i) 64),((1:Nat),bg fun j=>if(j==0)=true then bA (mz (t,(64:Nat)) ((↑(1:Int):Rat),c1))else rat t 64),(0,ax.mk false true 2 1 fun x=>agg [aq 1 n fun i=>int i64 (z i),int i64 a])]))):=ah
theorem YJ {n l:Nat} {z:Nat->Int} {a p i:Int} {t:Rat} {k:Nat->Rat}:aJ T nI [72] 60 xN [part sY [1,0,1,0,0]] ⟨aF xN (qm p l i),nk n z a t l k,3⟩=
  let c3:AV:=ptr 1 0 3 0 [];let c2:AV:=ptr 0 0 2 0 [];let c1:List (Nat×ax):=[((1:Nat),bg fun x=>rat t 64),(0,ax.mk false true 2 1 fun x=>agg [aq 1 n fun i=>int i64 (z i),int i64 a])];some (fork (decide (i<=p)) (aj [(0:Nat)<1,(1:Nat)*3<=2^24,(l+1)*((56:Nat)+1)*2<=2^47] (aj [-(2:Int)^63<=i+(1:Int)/\i+(1:Int)<(2:Int)^63] (leaf normal ([c2,int i64 p,c3,own 24579 3 0 (l+1),int i64 (i+(1:Int))],(24579,ax.mk true true 3 (l+1) fun i=>if i<l then rat (k i) 64 else nth [rat t 64] (rat 0 1) (i-l+0))::c1)))) (leaf (exit 4) ([c2,int i64 p,c3,own 2 3 0 l,int i64 i],(2,ax.mk true true 3 l fun i=>rat (k i) 64)::c1))):=ah
theorem Xw {n l:Nat} {z:Nat->Int} {a p i:Int} {t:Rat} {k:Nat->Rat}:zX T nI [] 60 C3 [part sY [1,1]] ⟨aF xN (qm p l i),nk n z a t l k,3⟩=
  some (leaf ret ([aq 3 l fun i=>rat (k (i+0)) 64],some (ax.mk false true 2 1 fun x=>agg [aq 1 n fun i=>int i64 (z i),int i64 a]))):=ah
structure uR where
 k:Nat->Rat
 t:Rat
 a:Int
def qO (n:Nat) (f:Nat->AV) (t:Rat) (a:Int):Rat:=t+((1+dg n f a 3:Int):Rat)/((1+dg n f (bK n a) 2:Int):Rat)
def rS (n:Nat) (f:Nat->AV) (p j:Nat) (s:uR):uR:=
 if j=0\/0<dg n f s.a 3\/s.t=s.k (j+1)then
  ⟨jn s.k (p+1+j) (qO n f s.t (if j=0 then s.a else bK n s.a)),qO n f s.t (if j=0 then s.a else bK n s.a),bK n (bK n (if j=0 then s.a else bK n s.a))⟩
 else⟨jn s.k (p+1+j) s.t,s.t,if j=0 then s.a else bK n s.a⟩
def pZ (n:Nat) (f:Nat->AV) (p:Nat) (s0:uR):Nat->uR
 |0=>s0
 |j+1=>rS n f p j (pZ n f p s0 j)
def o4 (n:Nat) (f:Nat->AV) (a:Int):uR:=⟨fun _=>((dg n f a 4-2:Int):Rat),((dg n f a 4-2:Int):Rat),bK n (bK n a)⟩
def jS (n:Nat) (f:Nat->AV) (a:Int) (m:Nat):Nat:=(dg n f (bK n a) (m+1)).toNat
def Du (n:Nat) (f:Nat->AV) (a:Int) (p m:Nat):uR:=pZ n f p (o4 n f a) (jS n f a m)
def pI (n:Nat) (f:Nat->AV) (a:Int) (p m:Nat):Nat:=2*p+2+jS n f a m
def sr (n:Nat) (f:Nat->AV) (a:Int) (p m:Nat):Nat->Rat:=mF p (jS n f a m) (Du n f a p m).k (Du n f a p m).t
def sI (n:Nat) (f:Nat->AV) (a:Int) (p m:Nat):Int:=(Du n f a p m).a
theorem vN {n:Nat} {f:Nat->AV} {a:Int} {p:Nat} (hd:cW n f a) (hp:1<=p):∀j,KG p j (pZ n f p (o4 n f a) j).k (pZ n f p (o4 n f a) j).t/\cW n f (pZ n f p (o4 n f a) j).a
 |0=>by
  have h1:=iE (n:=n) (f:=f) (a:=a) (m:=4) aa
  have h2:=iP (n:=n) (f:=f) (a:=a) (m:=4) aa
  exact⟨KG.start hp aa aa,hd.next.next⟩
 |j+1=>by
  obtain⟨h1,h2⟩:=vN hd hp j
  unfold pZ rS qO
  generalize pZ n f p (o4 n f a) j=s at*
  obtain⟨k,t,b⟩:=s
  simp only at h1 h2 ⊢
  have hb:cW n f (if j=0 then b else bK n b):=by split;exact h2;exact h2.next
  generalize (if j=0 then b else bK n b)=a1 at*
  split
  ·have x1:=iE (n:=n) (f:=f) (a:=a1) (m:=3) aa
   have x2:=iP (n:=n) (f:=f) (a:=a1) (m:=3) aa
   have y1:=iE (n:=n) (f:=f) (a:=bK n a1) (m:=2) aa
   have y2:=iP (n:=n) (f:=f) (a:=bK n a1) (m:=2) aa
   refine⟨h1.next (.inl ?_),hb.next.next⟩
   generalize dg n f a1 3=x at*
   generalize dg n f (bK n a1) 2=y at*
   have key:∃z:Int,((1+x:Int):Rat)/((1+y:Int):Rat)=(z:Rat)/2/\1<=z/\z<=6:=by
    rcases(show y=0\/y=1 by omega)with h|h
    ·subst h
     refine⟨2*(1+x),?_,aa,aa⟩
     have:((2*(1+x):Int):Rat)=2*((1+x:Int):Rat):=by simp
     rw[this]
     generalize ((1+x:Int):Rat)=w
     simp;grind
    ·subst h
     exact⟨1+x,by simp,aa,aa⟩
   obtain⟨z,e,z1,z2⟩:=key
   rw[e]
   refine⟨?_,z,rfl,z2⟩
   have:(1:Rat)<=(z:Rat):=by exact_mod_cast z1
   grind
  ·rename_i hc
   have hc1:¬j=0:=fun h=>hc (.inl h)
   have hc2:¬t=k (j+1):=fun h=>hc (.inr (.inr h))
   exact⟨h1.next (.inr ⟨rfl,aa,hc2⟩),hb⟩
theorem Nt {z:Int} (h1:-2^63<=z) (h2:z<2^63):Sz ((z:Rat)/2) 64:=by
 have:=QY h1 h2 (y:=2) aa aa aa
 simpa using this
theorem KG.sz {p j:Nat} {k:Nat->Rat} {t:Rat} (h:KG p j k t) (hj:j<2^50):Sz t 64:=by
 obtain⟨z,e,h1,h2⟩:=h.half (p+j) bp
 rw[h.top]at e
 rw[e]
 exact Nt aa aa
theorem Tm {J j:Nat} (h:j<J):((J-j:Nat):Int)-1=((J-(j+1):Nat):Int):=aa
theorem ED {rl:List (Nat×Nat)} {l i:Nat} {k k':Nat->Rat} {t:Rat} {s:Nat} (hk:k'=jn k l t) (ht:Sz t 64) (hi:i<l+1):gA rl (if i<l then .rat (k i) 64 else nth [.rat t s] (.rat 0 1) (i-l+0)) (.rat (k' i) 64):=by
 subst hk
 by_cases h:i<l
 ·rw[if_pos h,gY aa];exact cB rfl rfl
 ·have:i=l:=aa
  subst this
  rw[if_neg h,mQ,Nat.sub_self]
  exact .inr ⟨rfl,cV rfl ht⟩
theorem AY:bn P nI:=dB (aI Au (aI BY (aI D8 acN)))
theorem VE {k n p m:Nat} {z:Nat->Int} {a:Int} {o:ax} (ho:∀ρ,cM ρ o (lp n z a)) (h:cW n (fun i=>.int .i64 (z i)) a) (hp:1<=p) (hp2:p<1000) (hm2:m<1000) (K:Nat):
  aD P zA K [.ptr k 0 2 0 [],.int .i64 p,.int .i64 m] [(k,o)] ⟨bN (sr n (fun i=>.int .i64 (z i)) a p m) (pI n (fun i=>.int .i64 (z i)) a p m) 64,[(k,lp n z (sI n (fun i=>.int .i64 (z i)) a p m))],[]⟩:=by
 refine OG hT O3 rfl rfl aW ho (fun _ c hk=>?_) K
 have a1:=iE (n:=n) (f:=fun i=>.int .i64 (z i)) (a:=a) (m:=4) aa
 have a2:=iP (n:=n) (f:=fun i=>.int .i64 (z i)) (a:=a) (m:=4) aa
 have b1:=iE (n:=n) (f:=fun i=>.int .i64 (z i)) (a:=bK n a) (m:=m+1) aa
 have b2:=iP (n:=n) (f:=fun i=>.int .i64 (z i)) (a:=bK n a) (m:=m+1) aa
 have hS:=vN h hp
 unfold sI sr pI Du at*
 obtain⟨J,hJ⟩:∃J,J=jS n (fun i=>.int .i64 (z i)) a m:=⟨_,rfl⟩
 have hJ2:dg n (fun i=>.int .i64 (z i)) (bK n a) (m+1)=(J:Int):=by rw[hJ];unfold jS;omega
 rw[<-hJ]at*
 have hJ3:J<1000:=aa
 obtain⟨S,hSd⟩:∃S,S=pZ n (fun i=>.int .i64 (z i)) p (o4 n (fun i=>.int .i64 (z i)) a):=⟨_,rfl⟩
 have h00:S 0=o4 n (fun i=>.int .i64 (z i)) a:=by rw[hSd];rfl
 have hS1:∀j,S (j+1)=rS n (fun i=>.int .i64 (z i)) p j (S j):=fun j=>by rw[hSd];rfl
 rw[<-hSd]at hS ⊢
 clear hSd hJ
 obtain⟨t0,ht0⟩:∃t0:Rat,t0=((dg n (fun i=>.int .i64 (z i)) a 4-2:Int):Rat):=⟨_,rfl⟩
 unfold o4 at h00
 rw[<-ht0]at h00
 have hs0:Sz t0 64:=by have:=(hS 0).1.sz aa;rw[h00]at this;exact this
 refine ay.jx hT AY hm [1,1,1,0,1] (i:=0) (y:=part xH [1,1,1,0,1,0,0]) (z:=x5) ah ah ah O3.dst hk (f1:=[]) (f2:=[18]) 60 rK 3
  (fun j:Nat=>DN p m (match j with
   |0=>.nil
   |_+1=>.own 2 3 0 j) j) (fun j=>match j with
   |0=>[(1,tO t0),(0,lp n z (bK n a))]
   |_+1=>nk n z (bK n a) t0 j (fun _=>t0)) (fun j=>j<=p+1) (fun j=>j=p+1) (fun j=>p+1-j) (fun _=>False) ⟨_,ah3,?_⟩ (fun j hj=>?_) (fun j hj=>?_) (fun _ _ h=>h.elim)
 ·simp only[ag.all,aA]
  refine⟨⟨h,aa,aa,aa,aa,aa,aa⟩,0,aa,[(0,0),(1,20481)],rfl,rfl,rfl,dF rfl rfl (.inr ⟨rfl,?_⟩) (aO trivial)⟩
  rw[<-ht0]
  exact cV rfl hs0
 ·cases j with
  |zero=>
   refine⟨_,aa7,?_⟩
   simp only[ag.all,aA,bf,bt]
   refine⟨fun _=>⟨aa,aa,1,aa,by dsimp only;omega,[(0,0),(1,1),(2,24579)],rfl,rfl,rfl,bO rfl rfl rfl (fun i hi=>?_) (aO (aO trivial))⟩,fun h=>aa⟩
   have:i=0:=aa
   subst this
   exact cB rfl rfl
  |succ j=>
   refine⟨_,afV,?_⟩
   simp only[ag.all,aA,bf,bt]
   refine⟨fun _=>⟨aa,aa,j+2,aa,by dsimp only;omega,[(0,0),(1,1),(2,24579)],rfl,rfl,rfl,bO rfl rfl rfl (fun i hi=>ED (by funext i;unfold jn;split<;>rfl) hs0 hi) (aO (aO trivial))⟩,
    fun _=>⟨rfl,j+1,aa,[(0,0),(1,1),(2,2)],rfl,rfl,rfl,bO rfl rfl rfl (fun i hi=>cB rfl rfl) (aO (aO trivial))⟩⟩
 subst hj
 refine ay.jx hT AY hm [0,1] (i:=2) (y:=part x5 [0,1,0,0]) (z:=sY) ah ah ah ah hk (f1:=[]) (f2:=[30,38,43,53]) 60 wu 3
  (fun j:Nat=>qm p (p+1+j) ((J-j:Nat):Int)) (fun j=>nk n z (S j).a (S j).t (p+1+j) (S j).k) (fun j=>j<=J) (fun j=>j=J) (fun j=>J-j) (fun _=>False) ⟨_,Ws,?_⟩ (fun j hj=>?_) (fun j hj=>?_) (fun _ _ h=>h.elim)
 ·simp only[ag.all,aA]
  rw[hJ2]
  refine⟨⟨aa,h.next,aa,aa⟩,0,aa,[(0,0),(1,1),(2,2)],rfl,rfl,rfl,?_⟩
  dsimp only
  rw[h00]
  exact bO rfl rfl rfl (fun i hi=>cB rfl rfl) (aO (aO trivial))
 ·refine⟨_,abF,?_⟩
  have hj1:=hS1 j
  obtain⟨hg,hd⟩:=hS j
  have hs1:∀{j},j<2000->Sz (S j).t 64:=fun hj=>(hS _).1.sz aa
  have hsj:=hs1 (j:=j) aa
  have hsj1:=hs1 (j:=j+1) aa
  have e1:(((p+1+j:Nat):Int)-(p:Int)).toNat+0=j+1:=aa
  simp only[ag.all,aA,bf,bt,beq_iff_eq,beq_eq_false_iff_ne,e1,cond_false]
  have v3:=fun a=>And.intro (iE (n:=n) (f:=fun i=>.int .i64 (z i)) (a:=a) (m:=3) aa) (iP (n:=n) (f:=fun i=>.int .i64 (z i)) (a:=a) (m:=3) aa)
  have v2:=fun a=>And.intro (iE (n:=n) (f:=fun i=>.int .i64 (z i)) (a:=a) (m:=2) aa) (iP (n:=n) (f:=fun i=>.int .i64 (z i)) (a:=a) (m:=2) aa)
  have q1:=v3 (S j).a
  have q2:=v3 (bK n (S j).a)
  have q3:=v2 (bK n (S j).a)
  have q4:=v2 (bK n (bK n (S j).a))
  refine⟨fun hi=>?_,fun hi=>⟨rfl,j,aa,[(0,0),(1,1),(2,2)],rfl,rfl,rfl,bO rfl rfl rfl (fun i hi=>cB rfl rfl) (aO (aO trivial))⟩⟩
  have hlt:j<J:=aa
  have fin:∀(key:Nat) (t:Rat) (s s2:Nat) (b:Int) (g:Nat->AV),S (j+1)=⟨jn (S j).k (p+1+j) t,t,b⟩->g 0=.rat t s2->(iO 3 [(0,0),(1,1),(2,key)])=true->(key==1)=false->(key==0)=false->
    Round [0] (fun j=>qm p (p+1+j) ((J-j:Nat):Int)) (fun j=>nk n z (S j).a (S j).t (p+1+j) (S j).k) 3 (fun j=>j<=J) (fun j=>j=J) (fun j=>J-j) 2 (fun _=>False) j normal
     ([ptr 0 0 2 0 [],int i64 p,ptr 1 0 3 0 [],own key 3 0 (p+1+j+1),int i64 (((J-j:Nat):Int)-1)],[(key,⟨true,true,3,p+1+j+1,fun i=>if i<p+1+j then .rat ((S j).k i) 64 else nth [.rat t s] (.rat 0 1) (i-(p+1+j)+0)⟩),(1,⟨false,true,3,1,g⟩),(0,lp n z b)]):=by
   intro key t s s2 b g e1 e2 e3 hk1 hk0
   rw[e1]at hsj1
   refine⟨j+1,aa,by dsimp only;omega,[(0,0),(1,1),(2,key)],by rw[e3];rfl,by rw[Tm hlt];rfl,rfl,?_⟩
   dsimp only
   rw[e1]
   exact bO rfl Bf rfl (fun i hi=>ED rfl hsj1 hi) (dF rfl ((Ml hk1).trans rfl) (.inr ⟨by rw[e2];rfl,by rw[e2];exact cV rfl hsj1⟩) (dF rfl ((Ml hk0).trans rfl) (cB rfl rfl) trivial))
  refine⟨fun hl=>?_,fun hl=>⟨fun hc=>?_,fun hc=>?_⟩⟩
  all_goals (repeat' with_reducible first|refine And.intro ?_ ?_|intro _)
  all_goals first|omega|exact hd|exact hd.next|exact hd.next.next|skip
  all_goals try exact absurd ‹true=false› (by decide)
  ·refine fin 147459 _ _ _ _ _ ?_ rfl rfl rfl rfl
   rw[hj1];unfold rS qO
   have hj0:j=0:=aa
   rw[if_pos (.inl hj0),if_pos hj0]
  ·refine fin 147459 _ _ _ _ _ ?_ rfl rfl rfl rfl
   rw[hj1];unfold rS qO
   have hj0:j≠0:=aa
   rw[if_pos (.inr (.inl hc)),if_neg hj0]
  ·refine fin 147459 _ _ _ _ _ ?_ rfl rfl rfl rfl
   rw[hj1];unfold rS qO
   have hj0:j≠0:=aa
   rename_i hk
   rw[if_pos (.inr (.inr hk)),if_neg hj0]
  ·refine fin 106499 _ _ _ _ _ ?_ rfl rfl rfl rfl
   rw[hj1];unfold rS qO
   have hj0:j≠0:=aa
   rename_i hk
   rw[if_neg (by simp only[hj0,hk,or_false,false_or];omega),if_neg hj0]
 subst hj
 have hs1:Sz ((S j).t+1) 64:=by
  obtain⟨z,e,h1,h2⟩:=(hS j).1.JZ (p+1+j)
  unfold mF at e
  rw[if_neg aa]at e
  rw[e];exact Nt aa aa
 refine ay.jx hT AY hm [1,0,1] (i:=4) (y:=part sY [1,0,1,0,0]) (z:=part sY [1,1]) ah ah ah ah hk (f1:=[]) (f2:=[72]) 60 xN 3
  (fun i:Nat=>qm p (p+1+j+i) i) (fun i=>nk n z (S j).a ((S j).t+1) (p+1+j+i) (mF p j (S j).k (S j).t)) (fun i=>i<=p+1) (fun i=>i=p+1) (fun i=>p+1-i) (fun _=>False) ⟨_,Tj,?_⟩ (fun i hi=>?_) (fun i hi=>?_) (fun _ _ h=>h.elim)
 ·simp only[ag.all,aA]
  refine⟨⟨aa,aa,aa,aa,by decide,aa⟩,0,aa,[(0,0),(1,1),(2,2)],rfl,rfl,rfl,bO rfl rfl rfl (fun i hi=>?_) (dF rfl rfl (.inr ⟨rfl,cV rfl hs1⟩) (aO trivial))⟩
  refine cB rfl ?_
  unfold mF
  rw[if_pos aa]
 ·refine⟨_,YJ,?_⟩
  simp only[ag.all,aA,bf,bt]
  refine⟨fun _=>⟨aa,aa,i+1,aa,by dsimp only;omega,[(0,0),(1,1),(2,24579)],rfl,rfl,rfl,bO rfl rfl rfl (fun i hi=>ED ?_ hs1 hi) (aO (aO trivial))⟩,
   fun _=>⟨rfl,i,aa,[(0,0),(1,1),(2,2)],rfl,rfl,rfl,bO rfl rfl rfl (fun i hi=>cB rfl rfl) (aO (aO trivial))⟩⟩
  funext x
  unfold jn mF
  split
  ·rename_i hx;rw[if_neg aa]
  ·split<;>rfl
 ·subst hi
  refine ay.mC (aG.Nz hT AY hm 60 Xw ah ⟨?_,_,rfl,rfl,nU rfl rfl⟩)
  exact rU aa fun _ _=>rfl
def HF (n:Nat) (f:Nat->AV) (a:Int) (l:List AV):Option (AV×Int×List Prop):=match l with
 |[.int .i64 p,.int .i64 m]=>some (bN (sr n f a p.toNat m.toNat) (pI n f a p.toNat m.toNat) 64,sI n f a p.toNat m.toNat,[1<=p,p<1000,0<=m,m<1000])
 |_=>none
theorem W7:∀K args pre r,iS HF K args pre=some r->aD P zA K args pre r:=by
 refine uG fun {k n z a l v b q o} K hg ho hd hq=>?_
 unfold HF at hg
 split at hg
 ·rename_i p m
  simp only[au,Prod.mk.injEq]at hg
  obtain⟨rfl,rfl,rfl⟩:=hg
  obtain⟨h1,h2,h3,h4⟩:=hq
  have h4:m<1000:=h4
  have:=VE (k:=k) (p:=p.toNat) (m:=m.toNat) ho hd aa aa aa K
  rw[Int.toNat_of_nonneg aa,Int.toNat_of_nonneg h3]at this
  exact this
 ·simp at hg
open Go Go.Am.N AV
open Go Go.Am.N AV ag ak IntKind
def ua:aV:=[sG,(xD,F1)]
theorem Ye:bn P ua:=ke (aI Pg bE)
theorem Kn.congr {n p:Nat} {k k':Nat->Rat} (h:Kn n p k) (e:∀i,i<n->k i=k' i):Kn n p k':=by
 have hp:=h.p1
 have hl:=h.len
 refine⟨h.p1,h.len,fun i hi=>?_,fun i hi=>?_,fun i h1 h2=>?_,fun i h1 h2=>?_⟩
 ·rw[<-e i aa,<-e (i+1) hi];exact h.sorted i hi
 ·rw[<-e i aa,<-e 0 aa];exact h.first i hi
 ·rw[<-e i h2,<-e (n-1) aa];exact h.last i h1 h2
 ·rw[<-e i aa,<-e (i+p) aa];exact h.mult i h1 h2
theorem ajg {f:Nat->Rat} (h:∀i,i<6->f i=mF 2 0 (fun _=>((0:Int):Rat)) ((0:Int):Rat) i):Kn 6 2 f:=
 ((KG.start (p:=2) aa (z:=0) aa aa).done:Kn (2*2+2+0) 2 _).congr fun i hi=>(h i hi).symm
theorem aaG:aU P DS C2 (az C2):=aT Proofs.Tryz.func10 ah ah ah
def QT:Spec:=bM fun l=>match l with
 |[.mag 2]=>some (aL (.str [50]) [])
 |[.mag 3]=>some (aL (.str [51]) [])
 |[.mag 4]=>some (aL (.str [52]) [])
 |[.mag 5]=>some (aL (.str [53]) [])
 |_=>none
def wk:aV:=[sG,(Ab,QT)]
def KM:Spec:=bM fun l=>match l with
 |[.rat q _]=>match decide (q=3/5),decide (q=4/5),decide (q=3/2)with
  |true,_,_=>some (aL (.str [51,47,53]) [])
  |false,true,_=>some (aL (.str [52,47,53]) [])
  |false,false,true=>some (aL (.str [51,47,50]) [])
  |_,_,_=>none
 |_=>none
def Mm:aV:=sG::(As,E7)::(FB,Jr)::(Ek,FJ)::(aa5,gT T (sG::oO) [] 200 aeg)::(qX,wX)::(AG,KM)::oO
theorem afm:bP T ua [] 60 lz (az lz) ⟨aQ 0 [.mag 2],[],0⟩=
  let c1:Int:=(↑(1:Nat):Int);some (aj [nl 2<2^40,(0:Int)<(1000000000:Int),(1000000000:Int)<(2:Int)^32] (aj [(10:Int)≠(0:Int),(0:Nat)<1/\1*((1:Nat)+1)*2<=2^47] (aj [(10:Int)≠(0:Int)] (aj [(0:Int)<=c1/\c1<=c1/\c1<=(2:Int)^47/\c1*c1<=(2:Int)^47] (leaf ret [str [UInt8.ofNat (u8.wrap (u32.wrap ((48:Int)+(↑((2:Nat)%Int.toNat (1000000000:Int)):Int).tmod (10:Int)))).toNat]]))))):=ah
theorem YD:bP T ua [] 60 lz (az lz) ⟨aQ 0 [.mag 3],[],0⟩=
  let c1:Int:=(↑(1:Nat):Int);some (aj [nl 3<2^40,(0:Int)<(1000000000:Int),(1000000000:Int)<(2:Int)^32] (aj [(10:Int)≠(0:Int),(0:Nat)<1/\1*((1:Nat)+1)*2<=2^47] (aj [(10:Int)≠(0:Int)] (aj [(0:Int)<=c1/\c1<=c1/\c1<=(2:Int)^47/\c1*c1<=(2:Int)^47] (leaf ret [str [UInt8.ofNat (u8.wrap (u32.wrap ((48:Int)+(↑((3:Nat)%Int.toNat (1000000000:Int)):Int).tmod (10:Int)))).toNat]]))))):=ah
theorem TJ:bP T ua [] 60 lz (az lz) ⟨aQ 0 [.mag 4],[],0⟩=
  let c1:Int:=(↑(1:Nat):Int);some (aj [nl 4<2^40,(0:Int)<(1000000000:Int),(1000000000:Int)<(2:Int)^32] (aj [(10:Int)≠(0:Int),(0:Nat)<1/\1*((1:Nat)+1)*2<=2^47] (aj [(10:Int)≠(0:Int)] (aj [(0:Int)<=c1/\c1<=c1/\c1<=(2:Int)^47/\c1*c1<=(2:Int)^47] (leaf ret [str [UInt8.ofNat (u8.wrap (u32.wrap ((48:Int)+(↑((4:Nat)%Int.toNat (1000000000:Int)):Int).tmod (10:Int)))).toNat]]))))):=ah
theorem X4:bP T ua [] 60 lz (az lz) ⟨aQ 0 [.mag 5],[],0⟩=
  let c1:Int:=(↑(1:Nat):Int);some (aj [nl 5<2^40,(0:Int)<(1000000000:Int),(1000000000:Int)<(2:Int)^32] (aj [(10:Int)≠(0:Int),(0:Nat)<1/\1*((1:Nat)+1)*2<=2^47] (aj [(10:Int)≠(0:Int)] (aj [(0:Int)<=c1/\c1<=c1/\c1<=(2:Int)^47/\c1*c1<=(2:Int)^47] (leaf ret [str [UInt8.ofNat (u8.wrap (u32.wrap ((48:Int)+(↑((5:Nat)%Int.toNat (1000000000:Int)):Int).tmod (10:Int)))).toNat]]))))):=ah
theorem Yf:bP T wk [] 60 nr (az nr) ⟨aQ 0 [.agg [.bool false,.mag 3,.mag 5]],[],0⟩=
  some (leaf ret [str [(51:UInt8),(47:UInt8),(53:UInt8)]]):=ah
theorem Ul:bP T wk [] 60 nr (az nr) ⟨aQ 0 [.agg [.bool false,.mag 4,.mag 5]],[],0⟩=
  some (leaf ret [str [(52:UInt8),(47:UInt8),(53:UInt8)]]):=ah
theorem aiG:bP T wk [] 60 nr (az nr) ⟨aQ 0 [.agg [.bool false,.mag 3,.mag 2]],[],0⟩=
  some (leaf ret [str [(51:UInt8),(47:UInt8),(50:UInt8)]]):=ah
theorem aaD:bP T Mm [100024,100028,100032,100038,100044,100050] 200 C2 (az C2) ⟨aQ 0 [],[],0⟩=
  let c10:Rat:=(↑(1:Int):Rat)/(↑(2:Int):Rat);let c9:Int:=(2:Int)^63;let c8:List UInt8:=[(47:UInt8),(53:UInt8)];let c6:AV:=agg [AV.bool (decide ((0:Rat)<0)),mag (↑(nat_lit 0):Int).natAbs,mag (if 1=1 then 0 else 1)];let c5:AV:=rat 0 1;let c4:AV:=rat (↑(1:Int):Rat) (Max.max 1 (bG (Int.natAbs (1:Int))));let c7:AV:=agg [agg [c5,c5,c5],c5];let c3:List AV:=[agg [agg [c4,c5,c5],c4],agg [agg [c4,c4,c5],c4],agg [agg [c6,c4,c5],rat (↑(2:Int):Rat) (Max.max 1 (bG (Int.natAbs (2:Int))))]];let c2:List AV:=[c6,c6,c6,c4,c4,c4];let c1:Cu:=Cu.mk (2:Int) 6 (fun i=>aZ (nth c2 c5 (i+0))) 3 fun i=>iI (nth c3 c7 (i+0));some (aj [(0:Nat)<1] (aj [-c9<=(1:Int),(1:Int)<c9,-c9<=(2:Int),(2:Int)<c9] (aj [bV (fun i=>nth c2 c5 (i+0)) 6 sJ,fI (fun i=>nth c3 c7 (i+0)) 3 sJ,(64:Nat)<=sK,dz c1] (aj [bV (fun i=>nth c2 c5 (i+0)) 6 2000,fI (fun i=>nth c3 c7 (i+0)) 3 2000,(64:Nat)<=2000,dz c1] (aj [bV (fun i=>nth c2 c5 (i+0)) 6 2048,fI (fun i=>nth c3 c7 (i+0)) 3 2048,dz c1,∀(i:Nat),i<3->0<(iI (nth c3 c7 (i+0))).d,((0:Int)==(0:Int))=true,(bif true then eH 6 (fun i=>aZ (nth c2 c5 (i+0))) c10==(0:Int)else false)=true,(bif true then fN c1 c10==(0:Int)else false)=true,(bif true then(51:UInt8)::c8==(51:UInt8)::c8 else false)=true,(bif true then(52:UInt8)::c8==(52:UInt8)::c8 else false)=true,(bif true then(↑((6:Nat)+1-Int.toNat (2:Int)-1):Int)==(4:Int)else false)=true] (leaf ret [AV.bool true])))))):=ah
theorem ad9:∀K args pre r,QT K args pre=some r->aD P Ab K args pre r:=by
 refine ct fun K args r hk hs _=>?_
 have fin:∀{N:Nat} {t:ag (List AV)} {l:List UInt8},bP T ua [] 60 lz (az lz) ⟨aQ 0 [.mag N],[],0⟩=some t->(t.all fun _ us=>er us (.str l))->aD P Ab K [.mag N] [] (aL (.str l) []):=fun h1 h2=>
  bW (r:=aL _ []) hT Ye hm aeV rfl aW rfl 60 h1 (fun _=>h2) K []
 split at hs<;>simp only[au,reduceCtorEq]at hs
 all_goals subst hs
 ·exact fin afm (by simp only[ag.all,aA];exact⟨by decide,by decide,by decide,by decide,.refl _⟩)
 ·exact fin YD (by simp only[ag.all,aA];exact⟨by decide,by decide,by decide,by decide,.refl _⟩)
 ·exact fin TJ (by simp only[ag.all,aA];exact⟨by decide,by decide,by decide,by decide,.refl _⟩)
 ·exact fin X4 (by simp only[ag.all,aA];exact⟨by decide,by decide,by decide,by decide,.refl _⟩)
theorem UD:bn P wk:=ke (aI ad9 bE)
theorem aeJ:∀K args pre r,KM K args pre=some r->aD P AG K args pre r:=by
 refine ct fun K args r hk hs _=>?_
 have fin:∀{q:Rat} {n a b:Nat} {t:ag (List AV)} {l:List UInt8},kids (.rat q n)=[.bool false,.mag a,.mag b]->bP T wk [] 60 nr (az nr) ⟨aQ 0 [.agg [.bool false,.mag a,.mag b]],[],0⟩=some t->(t.all fun _ us=>er us (.str l))->aD P AG K [.rat q n] [] (aL (.str l) []):=fun h0 h1 h2=>
  gv (bW (r:=aL _ []) hT UD hm aeO rfl aW rfl 60 h1 (fun _=>h2) K []) rfl (show eL [_] [_]from⟨by rw[<-h0];exact Rt,trivial⟩) []
 split at hs
 ·rename_i q n
  split at hs
  all_goals simp only[au,reduceCtorEq]at hs
  all_goals subst hs
  ·obtain rfl:q=3/5:=of_decide_eq_true ‹_›
   exact fin ah Yf (.refl _)
  ·obtain rfl:q=4/5:=of_decide_eq_true ‹decide (q=4/5)=true›
   exact fin ah Ul (.refl _)
  ·obtain rfl:q=3/2:=of_decide_eq_true ‹decide (q=3/2)=true›
   exact fin ah aiG (.refl _)
 ·simp at hs
theorem SF:bn P Mm:=ke (aI Jx (aI af1 (aI Qd (aI (ig hT (ke r5) hm (aT Proofs.Tryz.func72 ah ah ah) _ _) (aI D8 (aI aeJ r5))))))
theorem ag2 (K:Nat):aD P DS K [] [] (aL (.bool true) []):=by
 refine bW (r:=aL (.bool true) []) hT SF hm aaG rfl aW rfl 200 aaD (fun _=>?_) K []
 have hR:∀s,4<=s->bV (fun i=>nth [.agg [AV.bool (decide ((0:Rat)<0)),mag (↑(nat_lit 0):Int).natAbs,mag (if 1=1 then 0 else 1)],.agg [AV.bool (decide ((0:Rat)<0)),mag (↑(nat_lit 0):Int).natAbs,mag (if 1=1 then 0 else 1)],.agg [AV.bool (decide ((0:Rat)<0)),mag (↑(nat_lit 0):Int).natAbs,mag (if 1=1 then 0 else 1)],.rat (↑(1:Int):Rat) (Max.max 1 (bG (Int.natAbs (1:Int)))),.rat (↑(1:Int):Rat) (Max.max 1 (bG (Int.natAbs (1:Int)))),.rat (↑(1:Int):Rat) (Max.max 1 (bG (Int.natAbs (1:Int))))] (.rat 0 1) (i+0)) 6 s:=fun s hs i hi=>by
  obtain⟨s,rfl⟩:∃s',s=s'+1:=⟨s-1,aa⟩
  match i,hi with
  |0,_|1,_|2,_=>exact nh
  |3,_|4,_|5,_=>exact fJ (Nat.le_trans (by decide) hs)
 simp only[ag.all,aA]
 (repeat' with_reducible first|refine And.intro ?_ ?_)
 all_goals first|omega|decide|exact hR _ (by decide)|skip
 all_goals first|decide+kernel|exact .refl _|skip
 all_goals first|refine⟨ajg fun i hi=>?_,by decide,by decide,by decide,by decide⟩|intro i hi
 all_goals first
  |match i,hi with
   |0,_|1,_|2,_|3,_|4,_|5,_=>decide+kernel
  |match i,hi with
   |0,_|1,_|2,_=>decide+kernel
  |skip
 all_goals match i,hi with
  |0,_|1,_=>exact cu ⟨cu ⟨fJ (by decide),fJ (by decide),fJ (by decide),trivial⟩,fJ (by decide),trivial⟩
  |2,_=>exact cu ⟨cu ⟨nh,fJ (by decide),fJ (by decide),trivial⟩,fJ (by decide),trivial⟩
def NN:Spec:=bM fun l=>match l with
 |[]=>some (aL (.bool true) [])
 |_=>none
theorem Xt:∀K args pre r,NN K args pre=some r->aD P DS K args pre r:=by
 refine ct fun K args r hk hs _=>?_
 split at hs
 ·simp only[au]at hs
  subst hs
  exact fun need=>ag2 K need
 ·simp at hs
theorem MW {n:Nat} {k:Nat->Rat} {i m:Nat} (h:At n k i) {t:Rat} (hk:∀x,i+1<=x->x<=i+m->k x=t):∀{d:Nat},d<=i->d<=m->∀j,vB k i t d j=if j=d then 1 else 0
 |0,_,_,j=>by unfold vB;rfl
 |d+1,hd,hm,j=>by
  have ih:=MW h hk (d:=d) (by omega) (by omega)
  have e1:fr (k i) t t=1:=QN (by have:=h.wide;have:=hk (i+1) (by omega) (by omega);grind)
  cases j with
  |zero=>
   rw[v7,ih]
   by_cases h0:d=0
   ·subst h0
    rw[if_pos rfl,if_neg (by omega),show i-0=i by omega,show i+(0+1)=i+1 by omega,hk (i+1) (by omega) (by omega),e1];grind
   ·rw[if_neg (by omega),if_neg (by omega)];grind
  |succ j=>
   rw[qH,ih j,ih (j+1)]
   by_cases hj:j=d
   ·have q1:(if j=d then(1:Rat)else 0)=1:=if_pos hj
    have q2:(if j+1=d then(1:Rat)else 0)=0:=if_neg (by omega)
    have q3:(if j+1=d+1 then(1:Rat)else 0)=1:=if_pos (by omega)
    rw[q1,q2,q3,show i-d+j=i by omega,hk (i+(d+1)) (by omega) (by omega),e1];grind
   ·have q1:(if j=d then(1:Rat)else 0)=0:=if_neg hj
    have q3:(if j+1=d+1 then(1:Rat)else 0)=0:=if_neg (by omega)
    rw[q1,q3]
    by_cases hj2:j+1=d
    ·rw[if_pos hj2,show i-d+(j+1)=i by omega,hk (i+(d+1)) (by omega) (by omega),e1];grind
    ·rw[if_neg hj2];grind
theorem LY {k:Nat->Rat} {i m:Nat} {t:Rat} (hm:m<=i+1) (hk:∀x,x<=i->i<x+m->k x=t):∀{d:Nat},d<=m->∀j,vB k i t d j=if j=0 then 1 else 0
 |0,_,j=>by unfold vB;rfl
 |d+1,hd,j=>by
  have ih:=LY hm hk (d:=d) (by omega)
  cases j with
  |zero=>
   rw[v7,ih 0,if_pos rfl,hk (i-d) (by omega) (by omega),HQ];grind
  |succ j=>
   have q2:(if j+1=0 then(1:Rat)else 0)=0:=if_neg (by omega)
   rw[qH,ih j,ih (j+1),q2]
   by_cases hj:j=0
   ·subst hj
    rw[Nat.add_zero,hk (i-d) (by omega) (by omega),HQ];grind
   ·have q1:(if j=0 then(1:Rat)else 0)=0:=if_neg hj
    rw[q1];grind
theorem PW {n:Nat} {k:Nat->Rat} {i m:Nat} (h:At n k i) {t:Rat} (hm:1<=m) (hk:∀x,i+1<=x->x<=i+m->k x=t):∀e,m+e<=i->(∀j,j<m->vB k i t (m+e) j=0)/\∀j,vB k i t (m+e) (j+m)=vB k (i+m) t (m+e) j
 |0,he=>by
  have r:=MW h hk (d:=m) (by omega) (Nat.le_refl _)
  have l:=LY (k:=k) (i:=i+m) (m:=m) (t:=t) (by omega) (fun x h1 h2=>hk x (by omega) h1) (d:=m) (Nat.le_refl _)
  refine⟨fun j hj=>?_,fun j=>?_⟩
  ·rw[Nat.add_zero,r,if_neg (by omega)]
  ·rw[Nat.add_zero,r,l]
   by_cases hj:j=0
   ·subst hj;rw[if_pos (by omega),if_pos rfl]
   ·rw[if_neg (by omega),if_neg hj]
 |e+1,he=>by
  obtain⟨z,s⟩:=PW h hm hk e (by omega)
  have z2:∀j,j<m->vB k i t (m+(e+1)) j=0:=fun j hj=>by
   rw[show m+(e+1)=m+e+1 by omega]
   cases j with
   |zero=>rw[v7,z 0 (by omega)];grind
   |succ j=>rw[qH,z j (by omega),z (j+1) hj];grind
  refine⟨z2,fun j=>?_⟩
  rw[show m+(e+1)=m+e+1 by omega]
  cases j with
  |zero=>
   rw[v7,Nat.zero_add]
   obtain⟨q,rfl⟩:∃q,m=q+1:=⟨m-1,by omega⟩
   rw[qH,z q (by omega)]
   have s0:=s 0
   rw[Nat.zero_add]at s0
   rw[s0,show i-(q+1+e)+(q+1)=i+(q+1)-(q+1+e) by omega];grind
  |succ j=>
   rw[show j+1+m=j+m+1 by omega,qH,qH,s j]
   have s1:=s (j+1)
   rw[show j+1+m=j+m+1 by omega]at s1
   rw[s1,show i-(m+e)+(j+m)=i+m-(m+e)+j by omega,show i-(m+e)+(j+m+1)=i+m-(m+e)+(j+1) by omega]
theorem EE {f:Nat->Rat} {a:Nat}:∀{b:Nat},cD (a+b) f=cD a f+cD b fun j=>f (a+j)
 |0=>by simp only[Nat.add_zero,cD];grind
 |b+1=>by rw[show a+(b+1)=a+b+1 by omega,cD,EE,cD];grind
theorem Z9 {n p:Nat} {k:Nat->Rat} (h:Kn n p k) {t:Rat} {P:Nat} (hP:p<=P) (hP2:P+p+1<n) (hw:k P<k (P+1)) (h0:k P<=t) (h1:t<=k (P+1)) {i:Nat} (hi:zG n k t i) (hip:p<=i) (hip2:i+p+1<n) {c:Nat->Rat}:
  cD (p+1) (fun j=>c (P-p+j)*vB k P t p j)=cD (p+1) fun j=>c (i-p+j)*vB k i t p j:=by
 have hp:=h.p1
 have hiw:=hi.at_.wide
 have hge:P<=i:=by
  rcases Nat.lt_or_ge i P with hlt|hge
  ·exfalso
   have a1:=h.mono (show i+1<=P by omega) (show P<n by omega)
   have a2:=hi.hi
   have a3:=h.mono (show P+1<=n-1 by omega) (show n-1<n by omega)
   rcases hi.Di with e|e<;>grind
  ·exact hge
 rcases Nat.lt_or_ge P i with hlt|hle
 ·obtain⟨m,rfl⟩:∃m,i=P+m:=⟨i-P,by omega⟩
  have hlo:=hi.lo
  have heq:∀x,P+1<=x->x<=P+m->k x=t:=fun x g1 g2=>by
   have a1:=h.mono g1 (show x<n by omega)
   have a2:=h.mono g2 (show P+m<n by omega)
   grind
  have hmp:m<=p:=by
   rcases Nat.lt_or_ge p m with hh|hh
   ·exfalso
    have a1:=h.mult (P+1) (by omega) (by omega)
    have a2:=heq (P+1) (by omega) (by omega)
    have a3:=heq (P+1+p) (by omega) (by omega)
    grind
   ·exact hh
  obtain⟨e,rfl⟩:∃e,p=m+e:=⟨p-m,by omega⟩
  obtain⟨z,s⟩:=PW ⟨by omega,h.sorted,hw⟩ (m:=m) (by omega) heq e (by omega)
  rw[show m+e+1=m+(e+1) by omega,EE,E9 (n:=m) fun j hj=>by rw[z j hj];grind]
  rw[show m+(e+1)=(e+1)+m by omega,EE (a:=e+1) (b:=m),E9 (n:=m) (f:=fun j=>c (P+m-(m+e)+(e+1+j))*vB k (P+m) t (m+e) (e+1+j))]
  ·have:∀j,j<e+1->c (P-(m+e)+(m+j))*vB k P t (m+e) (m+j)=c (P+m-(m+e)+j)*vB k (P+m) t (m+e) j:=fun j hj=>by
    rw[show m+j=j+m by omega,s j,show P-(m+e)+(j+m)=P+m-(m+e)+j by omega]
   rw[vE this];grind
  ·intro j hj
   have:=s (e+1+j)
   rw[Cs (d:=m+e) (by omega)]at this
   rw[<-this];grind
 ·have:i=P:=by omega
  subst this
  rfl
def dS (k:Nat->Rat) (j:Nat):Nat->Int
 |0=>-1
 |l+1=>if k (j+l)=k (j+l+1)then dS k j l else(j+l:Nat)
theorem Rs {k:Nat->Rat} {j:Nat}:∀{l:Nat},k j≠k (j+l)->∃P:Nat,dS k j l=(P:Int)/\j<=P/\P<j+l/\k P≠k (P+1)
 |0,h=>absurd rfl h
 |l+1,h=>by
  unfold dS
  by_cases he:k (j+l)=k (j+l+1)
  ·rw[if_pos he]
   obtain⟨P,h1,h2,h3,h4⟩:=Rs (k:=k) (j:=j) (l:=l) (by rw[he];exact h)
   exact⟨P,h1,h2,by omega,h4⟩
  ·rw[if_neg he]
   exact⟨j+l,rfl,by omega,by omega,he⟩
theorem Kn.piece {n p:Nat} {k:Nat->Rat} (h:Kn n p k) {j:Nat} (hj:j+p+1<n):∃P:Nat,dS k j (p+1)=(P:Int)/\j<=P/\P<=j+p/\k P<k (P+1)/\p<=P/\P+p+1<n:=by
 have hp:=h.p1
 have hne:k j≠k (j+(p+1)):=by
  have hlt:k j<k (j+(p+1)):=by
   by_cases h0:j=0
   ·subst h0
    have hl:=h.len
    have a1:=h.mult 1 (by omega) (by omega)
    rw[h.first 1 (by omega),show 1+p=0+(p+1) by omega]at a1
    exact a1
   ·have a1:=h.mult j (by omega) (by omega)
    have a2:=h.mono (show j+p<=j+(p+1) by omega) (by omega)
    grind
  grind
 obtain⟨P,h1,h2,h3,h4⟩:=Rs hne
 have hs:=h.sorted P (by omega)
 refine⟨P,h1,h2,by omega,by grind,?_,?_⟩
 ·rcases Nat.lt_or_ge P p with hh|hh
  ·exact absurd (by rw[h.first P (by omega),h.first (P+1) (by omega)]) h4
  ·exact hh
 ·rcases Nat.lt_or_ge (P+p+1) n with hh|hh
  ·exact hh
  ·exact absurd (by rw[h.last P (by omega) (by omega),h.last (P+1) (by omega) (by omega)]) h4
theorem G4 {k:Nat->Rat} {c:Nat}:∀{l a:Nat},bB (fun i=>k (c+i)) a l=bB k (c+a) l
 |0,_=>rfl
 |l+1,a=>by rw[bB,bB,G4];rfl
theorem xJ {f g:Nat->Rat}:∀{l a:Nat},(∀i,a<=i->i<a+l->f i=g i)->bB f a l=bB g a l
 |0,_,_=>rfl
 |l+1,a,h=>by rw[bB,bB,h a (by omega) (by omega),xJ fun i h1 h2=>h i (by omega) (by omega)]
variable {k:Nat->Rat} {b p:Nat}
theorem ah8 {a c u v f:Rat}:fr a c (u+f*(v-u))=fr a c u+f*(fr a c v-fr a c u):=by
 unfold fr
 rw[Rat.div_def,Rat.div_def (u-a),Rat.div_def (v-a)]
 generalize (c-a)⁻¹=q
 grind
theorem LA {f:Rat}:∀{l:List Rat} {r:Nat} {x y:Nat->Rat} {j:Nat},bl k b p r (fun j=>x j+f*(y j-x j)) l j=bl k b p r x l j+f*(bl k b p r y l j-bl k b p r x l j)
 |[],_,_,_,_=>rfl
 |t::l,r,x,y,j=>by
  rw[bl,bl,bl,<-LA (l:=l)]
  congr 1
  funext j
  unfold fT
  split<;>grind
theorem IA {u v f:Rat} {l:List Rat} {x:Nat->Rat} (hl:l.length+1=p):bl k b p 0 x ((u+f*(v-u))::l) p=bl k b p 0 x (u::l) p+f*(bl k b p 0 x (v::l) p-bl k b p 0 x (u::l) p):=by
 rw[bl,bl,bl,<-LA]
 refine Cj (by omega) fun j h1 _=>?_
 simp only[fT]
 rw[if_pos (by omega),if_pos (by omega),if_pos (by omega),ah8];grind
theorem Bp {a c t:Rat} (h:a<c):a+fr a c t*(c-a)=t:=by rw[nw h];grind
def dx (k:Nat->Rat) (t:Rat) (q j:Nat):Rat:=if j<q then k j else if j=q then t else k (j-1)
theorem iq {t:Rat} {q j:Nat} (h:j<q):dx k t q j=k j:=if_pos h
theorem nD {t:Rat} {q:Nat}:dx k t q q=t:=by unfold dx;rw[if_neg (by omega),if_pos rfl]
theorem gX {t:Rat} {q j:Nat} (h:q<j):dx k t q j=k (j-1):=by unfold dx;rw[if_neg (by omega),if_neg (by omega)]
theorem EC {f g:Nat->Rat}:∀{l a:Nat},(∀i,a+1<=i->i<a+1+l->f i=g (i-1))->bB f (a+1) l=bB g a l
 |0,_,_=>rfl
 |l+1,a,h=>by
  rw[bB,bB,h (a+1) (Nat.le_refl _) (by omega),EC (l:=l) (a:=a+1) fun i h1 h2=>h i (by omega) (by omega)];rfl
theorem tT {n:Nat} {P J:Nat} {x:Nat->Rat} (h:At n k P) (hP:p<=P) (hP2:P+p<n) (h1:P<=J+p) (h2:J<=P):bl k (P-p) p 0 (fun q=>x (P-p+q)) (bB k (J+1) p) p=x J:=by
 have:=Vk (k:=k) (b:=P-p) (p:=p) (n:=n) (by rwa [show P-p+p=P by omega]) (by omega) (J:=J-(P-p)) (by omega) (x:=fun q=>x (P-p+q))
 rw[show P-p+(J-(P-p))=J by omega]at this
 exact this
theorem aiW {n:Nat} {x:Nat->Rat} {t:Rat} {a j P:Nat} (hs:∀i,i+1<n->k i<=k (i+1)) (hp:1<=p) (hlo:k a<=t) (hhi:t<k (a+1)) (ha:p<=a) (h:At n k P) (hP:p<=P) (hP2:P+p<n)
  (h1:j+p<=a->j<=P/\P<=j+p) (h2:a<j->j<=P+1/\P+1<=j+p) (h3:a<j+p->j<=a->j<=P/\P+1<=j+p):
  bl k (P-p) p 0 (fun q=>x (P-p+q)) (bB (dx k t (a+1)) (j+1) p) p=if j+p<=a then x j else if a<j then x (j-1)else x (j-1)+fr (k j) (k (j+p)) t*(x j-x (j-1)):=by
 by_cases c1:j+p<=a
 ·obtain⟨g1,g2⟩:=h1 c1
  rw[if_pos c1,xJ (g:=k) fun i _ hi=>iq (by omega)]
  exact tT h hP hP2 g2 g1
 ·rw[if_neg c1]
  by_cases c2:a<j
  ·obtain⟨g1,g2⟩:=h2 c2
   rw[if_pos c2,EC (g:=k) fun i hi _=>gX (by omega)]
   have:=tT (x:=x) (J:=j-1) h hP hP2 (by omega) (by omega)
   rwa [show j-1+1=j by omega]at this
  ·obtain⟨g1,g2⟩:=h3 (by omega) (by omega)
   rw[if_neg c2]
   have hA:At n k (P-p+p):=by rwa [show P-p+p=P by omega]
   have e1:bB (dx k t (a+1)) (j+1) p=bB k (j+1) (a-j)++t::bB k (a+1) (j+p-a-1):=by
    have:=Dx (t:=dx k t (a+1)) (l:=a-j) (a:=j+1) (m:=(j+p-a-1)+1)
    rw[show a-j+(j+p-a-1+1)=p by omega,show j+1+(a-j)=a+1 by omega]at this
    rw[this,xJ (g:=k) (fun i _ hi=>iq (by omega)),bB,nD,EC (g:=k) fun i hi _=>gX (by omega)]
   have e2:bB k (j+1) (p-1)=bB k (j+1) (a-j)++bB k (a+1) (j+p-a-1):=by
    have:=Dx (t:=k) (l:=a-j) (a:=j+1) (m:=j+p-a-1)
    rw[show a-j+(j+p-a-1)=p-1 by omega,show j+1+(a-j)=a+1 by omega]at this
    exact this
   have hw:k j<k (j+p):=by
    have m1:=fF hs (show j<=a by omega) (show a<n by omega)
    have m2:=fF hs (show a+1<=j+p by omega) (show j+p<n by omega)
    grind
   have q1:(bB (dx k t (a+1)) (j+1) p).Perm (t::bB k (j+1) (p-1)):=by rw[e1,e2];exact List.perm_middle
   rw[qR hA (by omega) q1 (by rw[jB];omega),<-Bp (t:=t) hw,IA (by rw[jB];omega)]
   have d1:=tT (x:=x) (J:=j-1) h hP hP2 (by omega) (by omega)
   rw[show j-1+1=j by omega,show p=p-1+1 by omega,bB]at d1
   have d2:=tT (x:=x) (J:=j) h hP hP2 (by omega) (by omega)
   have q2:(bB k (j+1) p).Perm (k (j+p)::bB k (j+1) (p-1)):=by
    have:=th (t:=k) (l:=p-1) (a:=j+1)
    rw[show p-1+1=p by omega,show j+1+(p-1)=j+p by omega]at this
    rw[this];exact List.perm_append_singleton _ _
   rw[qR hA (by omega) q2 (by rw[jB];omega)]at d2
   rw[show p-1+1=p by omega]at d1
   rw[d1,d2,Bp hw]
theorem QC {n:Nat} {G:List Rat->Rat} (hsym:∀{l m:List Rat},l.Perm m->l.length=p->G l=G m) (haff:∀{u v f:Rat} {l:List Rat},l.length+1=p->G ((u+f*(v-u))::l)=G (u::l)+f*(G (v::l)-G (u::l)))
  (h:At n k (b+p)) (hn:b+p+p<n):∀{l d:List Rat} {r:Nat} {y:Nat->Rat},d.length=r->r+l.length=p->(∀j,r<=j->j<=p->y j=G (d++bB k (b+j+1) (p-r)))->bl k b p r y l p=G (d++l)
 |[],d,r,y,hd,hl,hy=>by
  have:=hy p (by simp at hl;omega) (Nat.le_refl _)
  rw[show p-r=0 by simp at hl;omega]at this
  exact this
 |t::l,d,r,y,hd,hl,hy=>by
  simp only[List.length_cons]at hl
  have hdt:(d++[t]).length=r+1:=by simp[hd]
  have:=QC hsym haff h hn (l:=l) (d:=d++[t]) (r:=r+1) (y:=fT k b p r t y) hdt (by omega) fun j h1 h2=>by
   unfold fT
   rw[if_pos (by omega),hy j (by omega) h2,hy (j-1) (by omega) (by omega)]
   have hw:=h.around (a:=b+j) (b:=b+j+(p-r)) (by omega) (by omega) (by omega)
   have e1:(d++bB k (b+(j-1)+1) (p-r)).Perm (k (b+j)::(d++bB k (b+j+1) (p-(r+1)))):=by
    rw[show b+(j-1)+1=b+j by omega,show p-r=p-(r+1)+1 by omega,bB];exact List.perm_middle
   have e2:(d++bB k (b+j+1) (p-r)).Perm (k (b+j+(p-r))::(d++bB k (b+j+1) (p-(r+1)))):=by
    rw[show p-r=p-(r+1)+1 by omega,th,show b+j+1+(p-(r+1))=b+j+(p-(r+1)+1) by omega,<-List.append_assoc];exact List.perm_append_singleton _ _
   have e3:(d++[t]++bB k (b+j+1) (p-(r+1))).Perm (t::(d++bB k (b+j+1) (p-(r+1)))):=by
    rw[List.append_assoc];exact List.perm_middle
   have hlen:(d++bB k (b+j+1) (p-(r+1))).length+1=p:=by rw[List.length_append,jB,hd];omega
   rw[hsym e1 (by rw[List.length_append,jB,hd];omega),hsym e2 (by rw[List.length_append,jB,hd];omega),hsym e3 (by rw[List.length_append,jB,hdt];omega),<-haff hlen,Bp hw]
  rw[bl,this,List.append_assoc];rfl
def dy (k:Nat->Rat) (p:Nat) (x:Nat->Rat) (P:Nat) (l:List Rat):Rat:=bl k (P-p) p 0 (fun q=>x (P-p+q)) l p
theorem M6 {n N:Nat} {K X x:Nat->Rat} {P Q:Nat} (h:At n k P) (hP:p<=P) (hP2:P+p<n) (H:At N K Q) (hQ:p<=Q) (hQ2:Q+p<N) (hx:∀J,J<=Q->Q<=J+p->X J=dy k p x P (bB K (J+1) p)) {l:List Rat} (hl:l.length=p):dy K p X Q l=dy k p x P l:=by
 have hA:At n k (P-p+p):=by rwa [show P-p+p=P by omega]
 have:=QC (k:=K) (b:=Q-p) (p:=p) (n:=N) (G:=dy k p x P) (fun {l m} hm hl=>qR hA (by omega) hm (by omega)) (fun {u v f l} hl=>IA hl) (by rwa [show Q-p+p=Q by omega]) (by omega) (l:=l) (d:=[]) (r:=0) (y:=fun q=>X (Q-p+q)) rfl (by omega) fun j _ h2=>by
  rw[hx (Q-p+j) (by omega) (by omega)];rfl
 exact this
def k8 (k:Nat->Rat) (p:Nat) (x:Nat->Rat) (t:Rat) (a j:Nat):Rat:=if j+p<=a then x j else if a<j then x (j-1)else x (j-1)+fr (k j) (k (j+p)) t*(x j-x (j-1))
def jz (a Q:Nat):Nat:=if Q<=a then Q else Q-1
theorem ZB {n:Nat} {x:Nat->Rat} {t:Rat} {a j Q:Nat} (hs:∀i,i+1<n->k i<=k (i+1)) (hp:1<=p) (hlo:k a<=t) (hhi:t<k (a+1)) (ha:p<=a) (h:At n k (jz a Q)) (hP:p<=jz a Q) (hP2:jz a Q+p<n) (h1:j<=Q) (h2:Q<=j+p):
  dy k p x (jz a Q) (bB (dx k t (a+1)) (j+1) p)=k8 k p x t a j:=by
 refine aiW hs hp hlo hhi ha h hP hP2 ?_ ?_ ?_<;>unfold jz<;>split<;>omega
theorem TG {n:Nat} {x:Nat->Rat} {t:Rat} {a Q:Nat} (hs:∀i,i+1<n->k i<=k (i+1)) (hp:1<=p) (hlo:k a<=t) (hhi:t<k (a+1)) (ha:p<=a) (h:At n k (jz a Q)) (hP:p<=jz a Q) (hP2:jz a Q+p<n) (H:At (n+1) (dx k t (a+1)) Q) (hQ:p<=Q) (hQ2:Q+p<n+1) {l:List Rat} (hl:l.length=p):
  dy (dx k t (a+1)) p (k8 k p x t a) Q l=dy k p x (jz a Q) l:=
 M6 h hP hP2 H hQ hQ2 (fun J h1 h2=>(ZB hs hp hlo hhi ha h hP hP2 h1 h2).symm) hl
end Go.Am.B
namespace Go.Am.B
theorem jV {k:Nat->Rat} {t:Rat} {n:Nat}:bF k t (n+1)=bF k t n+if k n=t then 1 else 0:=rfl
theorem F4 {k:Nat->Rat} {t:Rat} {n:Nat}:∀{m:Nat},bF k t n<=bF k t (n+m)
 |0=>Nat.le_refl _
 |m+1=>by
  have:=F4 (k:=k) (t:=t) (n:=n) (m:=m)
  rw[<-Nat.add_assoc,jV];omega
theorem Iq {k:Nat->Rat} {t:Rat} {i:Nat}:∀{l:Nat},(∀j,i<=j->j<i+l->k j=t)->l<=bF k t (i+l)
 |0,_=>Nat.zero_le _
 |l+1,h=>by
  have:=Iq (k:=k) (t:=t) (i:=i) (l:=l) fun j h1 h2=>h j h1 (by omega)
  rw[<-Nat.add_assoc,jV,if_pos (h (i+l) (by omega) (by omega))];omega
theorem DP {k:Nat->Rat} {t:Rat} {lo hi:Nat} (hlh:lo<=hi):∀{n:Nat},(∀j,j<n->k j=t->lo<=j/\j<hi)->bF k t n<=min n hi-lo
 |0,_=>by simp[bF]
 |n+1,h=>by
  have:=DP (k:=k) (t:=t) hlh (n:=n) fun j hj=>h j (by omega)
  rw[jV]
  by_cases hn:k n=t
  ·rw[if_pos hn]
   have:=h n (by omega) hn
   omega
  ·rw[if_neg hn];omega
theorem JG {n a i:Nat} {k:Nat->Rat} {t:Rat} (hs:∀i,i+1<n->k i<=k (i+1)) (hhi:t<k (a+1)) (ha:a+1<n) (hlo:k a<=t) (hi:i<=a) (h:a<i+bF k t n):k i=t:=by
 by_cases he:k i=t
 ·exact he
 ·have h1:=fF hs hi (by omega)
  have hlt:k i<t:=by grind
  have:=DP (k:=k) (t:=t) (lo:=i+1) (hi:=a+1) (by omega) (n:=n) fun j hj hjt=>by
   constructor
   ·by_cases c:j<=i
    ·have:=fF hs c (by omega)
     grind
    ·omega
   ·by_cases c:a+1<=j
    ·have:=fF hs c hj
     grind
    ·omega
  omega
theorem Kn.oy {n p a:Nat} {k:Nat->Rat} {t:Rat} (h:Kn n p k) (h0:k 0<t) (h1:t<k (n-1)) (hlo:k a<=t) (hhi:t<k (a+1)) (ha:a+1<n):p<=a/\a+p+1<n:=by
 have hl:=h.len
 constructor
 ·by_cases c:p<=a
  ·exact c
  ·have:=h.first (a+1) (by omega)
   grind
 ·by_cases c:a+p+1<n
  ·exact c
  ·have:=h.last a (by omega) (by omega)
   grind
theorem Kn.dx {n p a:Nat} {k:Nat->Rat} {t:Rat} (h:Kn n p k) (h0:k 0<t) (h1:t<k (n-1)) (hlo:k a<=t) (hhi:t<k (a+1)) (ha:a+1<n) (ht:bF k t n<p):Kn (n+1) p (dx k t (a+1)):=by
 obtain⟨g1,g2⟩:=h.oy h0 h1 hlo hhi ha
 have hp:=h.p1
 have hl:=h.len
 refine⟨hp,by omega,fun i hi=>?_,fun i hi=>?_,fun i h2 h3=>?_,fun i h2 h3=>?_⟩
 ·by_cases c1:i<a
  ·rw[iq (by omega),iq (by omega)];exact h.sorted i (by omega)
  ·by_cases c2:i=a
   ·subst c2;rw[iq (by omega),nD];exact hlo
   ·by_cases c3:i=a+1
    ·subst c3;rw[nD,gX (by omega)];exact Rat.le_of_lt hhi
    ·rw[gX (by omega),gX (by omega)]
     have:=h.sorted (i-1) (by omega)
     rwa [show i-1+1=i+1-1 by omega]at this
 ·rw[iq (by omega),iq (by omega)];exact h.first i hi
 ·rw[gX (by omega),gX (by omega),h.last (i-1) (by omega) (by omega),show n+1-1-1=n-1 by omega]
 ·by_cases c1:i+p<a+1
  ·rw[iq (by omega),iq (by omega)];exact h.mult i h2 (by omega)
  ·by_cases c2:i+p=a+1
   ·rw[c2,nD,iq (by omega)]
    have m:=h.mono (show i<=a by omega) (by omega)
    by_cases e:k i=t
    ·exfalso
     have hb:∀j,i<=j->j<i+p->k j=t:=fun j hj1 hj2=>by
      have a1:=h.mono hj1 (by omega)
      have a2:=h.mono (show j<=a by omega) (by omega)
      grind
     have b1:=Iq hb
     have b2:=F4 (k:=k) (t:=t) (n:=i+p) (m:=n-(i+p))
     rw[show i+p+(n-(i+p))=n by omega]at b2
     omega
    ·grind
   ·by_cases c3:i<=a
    ·rw[iq (by omega),gX (by omega)]
     have m1:=h.mono c3 (by omega)
     have m2:=h.mono (show a+1<=i+p-1 by omega) (by omega)
     grind
    ·by_cases c4:i=a+1
     ·subst c4;rw[nD,gX (by omega)]
      have m2:=h.mono (show a+1<=a+1+p-1 by omega) (by omega)
      grind
     ·rw[gX (by omega),gX (by omega)]
      have:=h.mult (i-1) (by omega) (by omega)
      rwa [show i-1+p=i+p-1 by omega]at this
theorem agQ {k x:Nat->Rat} {p a j:Nat} {t:Rat} {n:Nat} (hs:∀i,i+1<n->k i<=k (i+1)) (hlo:k a<=t) (hhi:t<k (a+1)) (hn:a+p<n) (hx:∀j,0<x j):0<k8 k p x t a j:=by
 unfold k8
 split
 ·exact hx _
 ·split
  ·exact hx _
  ·have m1:=fF hs (show j<=a by omega) (by omega)
   have m2:=fF hs (show a+1<=j+p by omega) (by omega)
   have hw:k j<k (j+p):=by grind
   have f0:=Li (t:=t) hw (by grind)
   have f1:=Ln (t:=t) hw (by grind)
   generalize fr (k j) (k (j+p)) t=f at*
   have x0:=hx (j-1)
   have x1:=hx j
   by_cases e:f=1
   ·subst e;grind
   ·have:=Rat.mul_pos (a:=1-f) (b:=x (j-1)) (by grind) x0
    have:=Rat.mul_nonneg (a:=f) (b:=x j) f0 (by grind)
    grind
theorem KF {n:Nat} {k:Nat->Rat} {pc:Nat->Nat->Nat} (h0:∀i,pc 0 i=i) (h1:∀f i,pc (f+1) i=if i+1<n/\k (i+1)<=k i then pc f (i+1)else i):∀{f i l:Nat},k i<k (i+l)->i+l<n->l<=f->i<=pc f i/\pc f i<i+l/\k (pc f i)<k (pc f i+1)
 |0,i,l,hk,hn,hl=>by
  have:l=0:=by omega
  subst this;exact absurd hk (by rw[Nat.add_zero];exact Rat.lt_irrefl)
 |f+1,i,l,hk,hn,hl=>by
  have hl0:l≠0:=fun e=>by subst e;rw[Nat.add_zero]at hk;exact absurd hk Rat.lt_irrefl
  rw[h1]
  by_cases c:i+1<n/\k (i+1)<=k i
  ·rw[if_pos c]
   have:=KF h0 h1 (f:=f) (i:=i+1) (l:=l-1) (by rw[show i+1+(l-1)=i+l by omega];have:=c.2;grind) (by omega) (by omega)
   obtain⟨a1,a2,a3⟩:=this
   exact⟨by omega,by omega,a3⟩
  ·rw[if_neg c]
   exact⟨Nat.le_refl _,by omega,Rat.not_le.1 fun e=>c ⟨by omega,e⟩⟩
theorem oV {n i:Nat} {k:Nat->Rat} (h:At n k i):bL n k (k i)=i:=zP ⟨h,Rat.le_refl,Rat.le_of_lt h.wide,.inl h.wide⟩
theorem VB {n a q:Nat} {k:Nat->Rat} {t:Rat} (hs:∀i,i+1<n->k i<=k (i+1)) (hlo:k a<=t) (hhi:t<k (a+1)) (ha:a+1<n) (hq:q+1<n+1) (hw:dx k t (a+1) q<dx k t (a+1) (q+1)):
  At n k (jz a q)/\bL n k (dx k t (a+1) q)=jz a q/\k 0<=dx k t (a+1) q/\dx k t (a+1) q<=k (n-1):=by
 have key:∀i,At n k i->k 0<=k i/\k i<=k (n-1):=fun i h=>⟨fF hs (Nat.zero_le _) (by have:=h.lt;omega),fF hs (by have:=h.lt;omega) (by omega)⟩
 by_cases c1:q<=a
 ·have e:jz a q=q:=if_pos c1
  rw[e,iq (by omega)]at*
  have hA:At n k q:=⟨by omega,hs,by
   by_cases c2:q=a
   ·subst c2;grind
   ·rwa [iq (by omega)]at hw⟩
  exact⟨hA,oV hA,key q hA⟩
 ·have e:jz a q=q-1:=if_neg c1
  rw[e]
  by_cases c2:q=a+1
  ·subst c2
   rw[nD]
   have hA:At n k a:=⟨ha,hs,by grind⟩
   have:=key a hA
   have m:=fF hs (show a+1<=n-1 by omega) (by omega)
   exact⟨hA,zP ⟨hA,hlo,Rat.le_of_lt hhi,.inl hhi⟩,by grind,by grind⟩
  ·rw[gX (by omega)]at hw ⊢
   rw[gX (by omega)]at hw
   have hA:At n k (q-1):=⟨by omega,hs,by rwa [show q-1+1=q+1-1 by omega]⟩
   exact⟨hA,oV hA,key _ hA⟩
open Go Go.Am.N AV ag ak IntKind
theorem Pt {k:Nat->Rat} {t:Rat}:∀{i:Nat},(∀j,j<i->k j<=t)->fC k t i=i
 |0,_=>rfl
 |i+1,h=>Nh (Pt fun j hj=>h j aa) (h i aa)
theorem aak {n a:Nat} {k:Nat->Rat} {t:Rat} (hs:∀i,i+1<n->k i<=k (i+1)) (hlo:k a<=t) (hhi:t<k (a+1)) (ha:a+1<n):fC k t n=a+1:=
 Hz (Pt fun j hj=>Rat.le_trans (fF hs (show j<=a by omega) aa) hlo) hhi aa
def nj (c:Cu) (t:Rat) (a j:Nat):Pl:=
 ⟨⟨k8 c.k c.p.toNat (fun q=>(b9 (c.f q)).n.x) t a j,k8 c.k c.p.toNat (fun q=>(b9 (c.f q)).n.y) t a j,k8 c.k c.p.toNat (fun q=>(b9 (c.f q)).n.z) t a j⟩,k8 c.k c.p.toNat (fun q=>(b9 (c.f q)).d) t a j⟩
theorem Kn.Tl {n p j:Nat} {k:Nat->Rat} (h:Kn n p k) (hj:j+p+1<n):k j<k (j+(p+1)):=by
 have hp:=h.p1
 have hl:=h.len
 by_cases c:j=0
 ·subst c
  have m:=h.mult 1 aa aa
  rw[h.first 1 aa]at m
  rwa [show 0+(p+1)=1+p by omega]
 ·have m:=h.mult j aa hj
  have:=h.mono (show j+p<=j+(p+1) by omega) aa
  grind
theorem Kn.wide {n p P:Nat} {k:Nat->Rat} (h:Kn n p k) (hA:At n k P):p<=P/\P+p+1<n:=by
 have hw:=hA.wide
 have hlt:=hA.lt
 have hl:=h.len
 constructor
 ·by_cases c:p<=P
  ·exact c
  ·rw[h.first P aa,h.first (P+1) aa]at hw
   exact absurd hw Rat.lt_irrefl
 ·by_cases c:P+p+1<n
  ·exact c
  ·rw[h.last P aa aa,h.last (P+1) aa aa]at hw
   exact absurd hw Rat.lt_irrefl
theorem FD {p:Pl} (h:p.d≠0):fu (b9 p)=p:=by
 obtain⟨⟨x,y,z⟩,d⟩:=p
 have key:∀x:Rat,d*x/d=x:=fun x=>by rw[Rat.div_def,Rat.mul_comm d x,Rat.mul_assoc,Rat.mul_inv_cancel _ h,Rat.mul_one]
 unfold fu b9
 dsimp only
 rw[key,key,key]
def vl (c:Cu) (t:Rat) (a:Nat):Cu:=⟨c.p,c.n+1,dx c.k t (a+1),c.m+1,fun j=>fu (nj c t a j)⟩
def jM (c:Cu) (t:Rat):Cu:=if fN c t=0 then vl c t (bL c.n c.k t)else tX
theorem oZ {n p:Nat} {k:Nat->Rat} {t:Rat} (h:Kn n p k) (h0:k 0<t) (h1:t<k (n-1)):k (bL n k t)<=t/\t<k (bL n k t+1)/\bL n k t+1<n:=by
 obtain⟨g1,g2,g3⟩:=h.xd (Rat.le_of_lt h0) (Rat.le_of_lt h1)
 refine⟨g1.lo,?_,aa⟩
 rcases g1.Di with e|e
 ·exact e
 ·rw[e];exact h1
theorem A8 {c:Cu} {t:Rat} (h:fN c t=0):c.k 0<t/\t<c.k (c.n-1)/\bF c.k t c.n<c.p.toNat/\c.m<40:=by
 unfold fN at h
 split at h
 ·omega
 ·rename_i g1
  split at h
  ·omega
  ·split at h
   ·omega
   ·have g1:=Classical.not_not.1 g1
    exact⟨g1.1,g1.2,aa,aa⟩
open Go
theorem l8 {x:Int} {n:Nat} (h:x.natAbs<2^n) (hn:1<=n):Sz (x:Rat) n:=
 ⟨by rw[Rat.num_intCast];exact h,by rw[Rat.den_intCast];exact Nat.lt_of_lt_of_le (show 1<2^1 by decide) (Nat.pow_le_pow_right (by decide) hn)⟩
def fH (x:Rat):Prop:=∃z:Int,(z:Rat)=x*55440/\-110880<=z/\z<=776160
theorem fH.sz {x:Rat} (h:fH x):Sz x 40:=by
 obtain⟨z,e,h1,h2⟩:=h
 have:x=(z:Rat)/((55440:Int):Rat):=by
  rw[e,Rat.div_def,Rat.mul_assoc,show(55440:Rat)=((55440:Int):Rat)from rfl,Rat.mul_inv_cancel _ (by decide+kernel),Rat.mul_one]
 rw[this]
 exact(l8 (n:=20) aa (by decide)).div (l8 (n:=20) (by decide) (by decide))
theorem fH.order {x y:Rat} {z w:Int} (h:(z:Rat)=x*55440) (h':(w:Rat)=y*55440) (hxy:x<=y):z<=w:=by
 have:(z:Rat)<=(w:Rat):=by rw[h,h'];exact Rat.mul_le_mul_of_nonneg_right hxy (by decide+kernel)
 exact Rat.intCast_le_intCast.1 this
theorem So {x y f:Rat} {u v:Int} {s:Nat} (hf:f*(v:Rat)=(u:Rat)) (h0:0<=u) (h1:u<=v) (h2:0<v) (h3:v<2^20) (hx:Sz x s) (hy:Sz y s):Sz (x+f*(y-x)) (2*s+61):=by
 have hv:(v:Rat)≠0:=by
  intro e
  have:v=0:=by
   have e2:(v:Rat)=((0:Int):Rat):=e
   exact Rat.intCast_inj.1 e2
  omega
 have key:x+f*(y-x)=(((v-u:Int):Rat)*x+(u:Rat)*y)/(v:Rat):=by
  have e1:((v-u:Int):Rat)=(v:Rat)-(u:Rat):=by rw[Rat.intCast_sub]
  rw[e1,Rat.div_def,<-hf]
  have e2:((v:Rat)-f*(v:Rat))*x+f*(v:Rat)*y=(x+f*(y-x))*(v:Rat):=by grind
  rw[e2,Rat.mul_assoc,Rat.mul_inv_cancel _ hv,Rat.mul_one]
 rw[key]
 have a1:=(l8 (x:=v-u) (n:=20) aa (by decide)).mul hx
 have a2:=(l8 (x:=u) (n:=20) aa (by decide)).mul hy
 have a3:=(a1.add a2).div (l8 (x:=v) (n:=20) aa (by decide))
 exact a3.more aa
theorem B4 {k x:Nat->Rat} {p a j n s:Nat} {t:Rat} (hs:∀i,i+1<n->k i<=k (i+1)) (hlo:k a<=t) (hhi:t<k (a+1)) (hn:a+p<n) (hk:∀i,fH (k i)) (ht:fH t) (hx:∀i,Sz (x i) s):Sz (k8 k p x t a j) (2*s+61):=by
 unfold k8
 split
 ·exact(hx _).more aa
 ·split
  ·exact(hx _).more aa
  ·have m1:=fF hs (show j<=a by omega) aa
   have m2:=fF hs (show a+1<=j+p by omega) aa
   have hw:k j<k (j+p):=by grind
   obtain⟨z1,e1,b1,c1⟩:=hk j
   obtain⟨z2,e2,b2,c2⟩:=hk (j+p)
   obtain⟨z3,e3,b3,c3⟩:=ht
   have o1:=fH.order e1 e3 (by grind)
   have o2:=fH.order e3 e2 (by grind)
   have o3:z1<z2:=by
    have:(z1:Rat)<(z2:Rat):=by rw[e1,e2];exact Rat.mul_lt_mul_of_pos_right hw (by decide+kernel)
    exact Rat.intCast_lt_intCast.1 this
   refine So (u:=z3-z1) (v:=z2-z1) ?_ aa aa aa aa (hx _) (hx _)
   have hf:=nw (t:=t) hw
   rw[Rat.intCast_sub,Rat.intCast_sub,e1,e2,e3]
   have:fr (k j) (k (j+p)) t*(k (j+p)*55440-k j*55440)=fr (k j) (k (j+p)) t*(k (j+p)-k j)*55440:=by grind
   rw[this,hf];grind
theorem Pq {k:Nat->Rat} {t:Rat} {q:Nat} (hk:∀i,fH (k i)) (ht:fH t) (i:Nat):fH (dx k t q i):=by
 unfold dx
 split
 ·exact hk _
 ·split
  ·exact ht
  ·exact hk _
def k7 (p n:Nat) (k:Nat->Rat) (x:Nat->Nat->Rat) (N:Nat) (K:Nat->Rat) (X:Nat->Nat->Rat):Prop:=
 ∀Q,At N K Q->∃P,At n k P/\k P<=K Q/\K (Q+1)<=k (P+1)/\∀e l,l.length=p->dy K p (X e) Q l=dy k p (x e) P l
theorem k7.refl {p n:Nat} {k:Nat->Rat} {x:Nat->Nat->Rat}:k7 p n k x n k x:=fun Q h=>⟨Q,h,Rat.le_refl,Rat.le_refl,fun _ _ _=>rfl⟩
theorem Kn.ji {n p P:Nat} {k:Nat->Rat} (h:Kn n p k) (hA:At n k P):p<=P/\P+p+1<n:=by
 have hw:=hA.wide
 have hlt:=hA.lt
 have hl:=h.len
 constructor
 ·by_cases c:p<=P
  ·exact c
  ·rw[h.first P (by omega),h.first (P+1) (by omega)]at hw
   exact absurd hw Rat.lt_irrefl
 ·by_cases c:P+p+1<n
  ·exact c
  ·rw[h.last P (by omega) (by omega),h.last (P+1) (by omega) (by omega)]at hw
   exact absurd hw Rat.lt_irrefl
theorem k7.ins {p n N a:Nat} {k K:Nat->Rat} {x X:Nat->Nat->Rat} {t:Rat} (h:k7 p n k x N K X) (hK:Kn N p K) (h0:K 0<t) (h1:t<K (N-1)) (hlo:K a<=t) (hhi:t<K (a+1)) (ha:a+1<N) (ht:bF K t N<p):
  k7 p n k x (N+1) (dx K t (a+1)) fun e=>k8 K p (X e) t a:=by
 intro Q hQ
 have hK':=hK.dx h0 h1 hlo hhi ha ht
 obtain⟨g1,g2⟩:=hK.oy h0 h1 hlo hhi ha
 obtain⟨hA,_,_,_⟩:=VB hK.sorted hlo hhi ha (by have:=hQ.lt;omega) hQ.wide
 obtain⟨w1,w2⟩:=hK.ji hA
 obtain⟨v1,v2⟩:=hK'.ji hQ
 obtain⟨P,p1,p2,p3,p4⟩:=h _ hA
 refine⟨P,p1,?_,?_,fun e l hl=>?_⟩
 ·refine Rat.le_trans p2 ?_
  unfold jz
  by_cases c1:Q<=a
  ·rw[if_pos c1,iq (by omega)];exact Rat.le_refl
  ·rw[if_neg c1]
   by_cases c2:Q=a+1
   ·subst c2;rw[nD];exact hlo
   ·rw[gX (by omega)];exact Rat.le_refl
 ·refine Rat.le_trans ?_ p3
  unfold jz
  by_cases c1:Q<=a
  ·rw[if_pos c1]
   by_cases c2:Q=a
   ·subst c2;rw[nD];exact Rat.le_of_lt hhi
   ·rw[iq (by omega)];exact Rat.le_refl
  ·rw[if_neg c1,gX (by omega),show Q+1-1=Q-1+1 by omega];exact Rat.le_refl
 ·rw[<-p4 e l hl]
  exact TG (n:=N) hK.sorted hK.p1 hlo hhi g1 hA w1 (by omega) hQ v1 (by omega) hl
theorem k7.Iz {p n N j Q:Nat} {k K:Nat->Rat} {x X:Nat->Nat->Rat} (h:k7 p n k x N K X) (hK:Kn N p K) (hQ:At N K Q) (h1:j<=Q) (h2:Q<=j+p):
  ∃P,At n k P/\bL n k (K Q)=P/\∀e,dy k p (x e) P (bB K (j+1) p)=X e j:=by
 obtain⟨w1,w2⟩:=hK.ji hQ
 obtain⟨P,p1,p2,p3,p4⟩:=h Q hQ
 have hw:=hQ.wide
 refine⟨P,p1,zP ⟨p1,p2,by grind,.inl (by grind)⟩,fun e=>?_⟩
 rw[<-p4 e _ jB]
 exact tT hQ w1 (by omega) h2 h1
end Go.Am.B
