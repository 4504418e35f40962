/- Spline.Over, Spline.Insert, curve.back. -/
import Derived.Test.YtnniljlepppdpaaGreatY38
import Derived.Test.YtnniljlepppdpaaGreatY37
import Derived.Test.YtnniljlepppdpaaGreatB33
import Derived.Test.YtnniljlepppdpaaGreatZ2
set_option linter.unusedVariables false
noncomputable section
namespace Go.Am.B
open Go Go.Am.N AV ah aq IntKind
theorem T4:aR P xT Fk (az Fk):=aS Proofs.Tryz.func183 ag ag ag
theorem YL:aR P JO Fg (az Fg):=aS Proofs.Tryz.func84 ag ag ag
theorem O5:aR P pU Ai (az Ai):=aS Proofs.Tryz.func82 ag ag ag
def mJ (c:Cu) (n:Nat) (k:Nat->Rat) (j:Nat):Pl:=nB c (fH c.n c.k (k (er k n j))) c.p.toNat (fun q=>k (q+(j+1)))
def lW (c:Cu) (n:Nat) (k:Nat->Rat):Cu:=⟨c.p,n,k,n-c.p.toNat-1,mJ c n k⟩
def CF:aX:=nG::(tF,uj)::(Ad,GF)::(vc,CS)::(zU,Gi)::fQ
abbrev Az:List Nat:=[1,2,4,5,17,18]
abbrev IM (n m:Nat) (k:Nat->Rat) (j:Nat):List AV:=[ls k n,.ptr 0 0 3 0 [],.ptr 1 0 3 0 [],.ptr 2 0 3 0 [],.int .i64 m,.int .i64 j]
abbrev KY (c:Cu) (n:Nat) (k:Nat->Rat) (h:Nat->Pl) (j:Nat):aF:=[(3,⟨true,true,12,j,fun i=>bG (h i) sB⟩),(2,⟨false,true,3,1,fun _=>.agg [.int .i64 c.p,ls k n,.own 3 12 0 j]⟩),(1,⟨false,true,3,1,fun _=>.agg [.int .i64 0,.nil,.nil]⟩),(0,qA c sK)]
abbrev zg:Code:=az Fk
theorem nj {f:Nat->Pl} {m s s':Nat} (h:s<=s'):j5 (fun i=>bG (f i) s) m s':=fun _ _=>xJ rfl h
def Gv:Spec:=cI (kC (qd sK sK) (kC (kL sK) kN)) (fun a=>dI (lW a.1 a.2.1.1 a.2.1.2) sK sB) fun a=>[Kn a.1.n a.1.p.toNat a.1.k,1<=a.1.p,a.1.p<=6,a.1.n<2^40,a.1.m<2^40,a.2.1.1<2^29,a.1.p+1<=a.2.1.1]
def uf (c:Cu) (t:Rat):Cu:=lW c (c.n+1) (gl c.k t (fz c.k t c.n))
def Qu:aX:=nG::(vF,RG 2000 2002)::(xT,Gv)::[]
abbrev ot:List Nat:=[2,3,13,14,15]
abbrev Gt (c:Cu) (i:Nat):List AV:=[.ptr 0 0 3 0 [],.ptr 1 0 3 0 [],ri c.f c.m sB,.int .i64 c.m,.int .i64 i]
abbrev Ia (c:Cu) (i:Nat):aF:=[(2,⟨true,true,12,i,fun j=>bH (dX (c.f j)) (sB+sB)⟩),(1,⟨false,true,3,1,fun _=>.agg [.int .i64 c.p,bD c.k c.n (sK+10),.own 2 12 0 i]⟩),(0,⟨false,true,3,1,fun _=>.agg [.int .i64 0,.nil,.nil]⟩)]
abbrev nZ:Code:=az Ai
def SL:Spec:=cI (kC (K2 sB) kN) (fun a=>bH (dX a.1) (sB+sB)) fun _=>[]
def Em:aX:=nG::(v8,AS sK (sK+10))::(qI,SL)::[]
theorem UZ {c:Cu} {n:Nat} {k:Nat->Rat}:aI T CF [] 60 Az (before zg [1,1,0,1]) ⟨aP 0 [dI c sK sK,ls k n],[],0⟩=
  let c3:Nat:=(bt (dI c sK sK)).size;let c2:Prop:=0<1;let c1:AV:=agg [int i64 0,nil,nil];some (aj [c2,c2] (aj [c2,bT (fun i=>rat (k i) sK) n sK,n<2^40,-(2:Int)^40<c.p,c.p<(2:Int)^40] (leaf normal ([ak 3 n fun i=>rat (k i) 4096,ptr 0 0 c3 0 [],ptr 4096 0 3 0 [],ptr 24576 0 3 0 [],int i64 ((↑n:Int)-c.p-(1:Int)),int i64 0],[((24576:Nat),aQ fun j=>if(j==0)=true then bt (agg ((c1.kids.set 0 (bt (int i64 c.p))).set 1 (bt (ls k n))))else c1),((4096:Nat),aQ fun x=>c1),(0,au.mk false true c3 1 fun x=>agg [int i64 c.p,ak 3 c.n fun i=>rat (c.k i) 4096,ak 12 c.m fun i=>agg [rat (c.f i).n.x 4096,rat (c.f i).n.y 4096,rat (c.f i).n.z 4096,rat (c.f i).d 4096]])])))):=ag
theorem adU {c:Cu} {n m j:Nat} {k:Nat->Rat} {h:Nat->Pl}:aI T CF [19] 60 Az [part zg [1,1,0,1,0,0]] ⟨aE Az (IM n m k j),KY c n k h j,4⟩=
  let c20:Int:=(↑m:Int);let c18:Prop:=bT (fun i=>rat (c.k i) sK) c.n sK;let c17:AV:=ptr 2 0 3 0 [];let c16:AV:=ptr 1 0 3 0 [];let c15:AV:=ptr 0 0 3 0 [];let c14:Nat:=2^40;let c13:AV:=rat 0 1;let c12:Int:=(↑j:Int);let c10:AV:=own 3 12 0 j;let c9:AV:=ak 3 n fun i=>rat (k i) 4096;let c8:Prop:=0<1;let c6:Int:=(2:Int)^63;let c5:Cu:=Cu.mk c.p c.n (fun i=>aV (rat (c.k i) sK)) c.m fun i=>sD (bG (c.f i) sK);let c2:List (Nat×au):=[((1:Nat),aQ fun x=>agg [int i64 0,nil,nil]),((0:Nat),aQ fun x=>agg [int i64 c.p,ak 3 c.n fun i=>rat (c.k i) 4096,ak 12 c.m fun i=>agg [rat (c.f i).n.x 4096,rat (c.f i).n.y 4096,rat (c.f i).n.z 4096,rat (c.f i).d 4096]])];let c19:AV:=agg [int i64 c.p,ls k n,c10];let c7:Int:=(↑(er (fun i=>aV (rat (k i) sK)) n c12.toNat):Int);let c4:Int:=c12+c.p+(1:Int);let c3:Int:=c12+(1:Int);let c11:Nat:=c4.toNat-c3.toNat;let c1:Int:=(↑(fH c.n (fun i=>aV (rat (c.k i) sK)) (k c7.toNat)):Int);some (fork (decide (c12<c20)) (aj [bT (fun i=>rat (k i) sK) n sK,(0:Int)<=c12,c12<=(↑n:Int),n<c14] (aj [c8,c8,(0:Int)<=c7/\c7.toNat<n,c18,sK<=sK,Kn c.n c.p.toNat fun i=>aV (rat (c.k i) sK),(0:Int)<=c.p,c.n<c14] (aj [c8,c8,-c6<=c3/\c3<c6,c8,-c6<=c12+c.p/\c12+c.p<c6,-c6<=c4/\c4<c6,(0:Int)<=c3/\c3<=c4/\c4<=c4/\c4<=(↑n:Int),c18,j5 (fun i=>bG (c.f i) sK) c.m sK,bT (fun i=>rat (k (i+c3.toNat)) sK) c11 sK,(1:Int)<=c.p,c.p<=(6:Int),c.n<c14,c.m<c14,-(2:Int)^40<c1,c1<(2:Int)^40,(1:Nat)*12<=2^24,(j+1)*((224:Nat)+1)*2<=2^47,c8] (aj [-c6<=c3/\c3<c6] (leaf normal ([c9,c15,c16,c17,int i64 c20,int i64 c3],(147460,au.mk true true 12 (j+1) fun i=>if i<j then bG (h i) sB else nth [agg [rat (ga c5 c1 c11 (fun i=>aV (rat (k (i+c3.toNat)) sK)) 0) sB,rat (ga c5 c1 c11 (fun i=>aV (rat (k (i+c3.toNat)) sK)) 1) sB,rat (ga c5 c1 c11 (fun i=>aV (rat (k (i+c3.toNat)) sK)) 2) sB,rat (ga c5 c1 c11 (fun i=>aV (rat (k (i+c3.toNat)) sK)) 3) sB]] (agg [c13,c13,c13,c13]) (i-j+0))::((2:Nat),aQ fun j_1=>if(j_1==0)=true then agg (c19.kids.set 2 (bt (own (nat_lit 147459+1) 12 0 (j+1))))else c19)::c2)))))) (leaf (exit 0) ([c9,c15,c16,c17,int i64 c20,int i64 c12],(3,au.mk true true 12 j fun i=>agg [rat (h i).n.x 536870912,rat (h i).n.y 536870912,rat (h i).n.z 536870912,rat (h i).d 536870912])::((2:Nat),aQ fun x=>agg [int i64 c.p,c9,c10])::c2))):=ag
theorem aap {c:Cu} {n m j:Nat} {k:Nat->Rat} {h:Nat->Pl}:cJ T CF [] 60 Fk [part zg [1,1,1]] ⟨aE Az (IM n m k j),KY c n k h j,4⟩=
  let c1:Prop:=0<1;some (aj [c1,c1] (aj [c1] (leaf ret [agg [int i64 c.p,ak 3 n fun i=>rat (k i) 4096,ak 12 j fun i=>agg [rat (h (i+0)).n.x 536870912,rat (h (i+0)).n.y 536870912,rat (h (i+0)).n.z 536870912,rat (h (i+0)).d 536870912]]]))):=ag
theorem akq {c:Cu} {t:Rat}:bS T Qu [] 60 Fg (az Fg) ⟨aP 0 [dI c 2000 4000,.rat t 2000],[],0⟩=
  some (aj [0<1,0<1,0<1,bT (fun i=>.rat (c.k i) 2000) c.n 2000,2000<=2000,c.n<2^40,bT (fun i=>.rat (c.k i) 2000) c.n sK,j5 (fun i=>bG (c.f i) 4000) c.m sK,bT (fun i=>.rat (gl c.k t (fz c.k t c.n) i) 2002) (c.n+1) sK,Kn c.n c.p.toNat c.k,1<=c.p,c.p<=6,c.n<2^40,c.m<2^40,c.n+1<2^29,c.p+1<=(c.n+1:Nat),0<1]
   (aj [0<1] (leaf .ret [dI (uf c t) sK sB]))):=ag
theorem ahW {c:Cu}:aI T Em [] 60 ot (before nZ [1,1,0,1]) ⟨aP 0 [dI c sK sB],[],0⟩=
  let c3:Nat:=sK+10;let c2:Prop:=0<1;let c1:AV:=agg [int i64 0,nil,nil];some (aj [c2,c2,bT (fun i=>rat (c.k i) sK) c.n sK,c3<=c3,c3<2^40,c.n<2^40,c2] (aj [c2] (leaf normal ([ptr 4096 0 3 0 [],ptr 32768 0 3 0 [],ak 12 c.m fun i=>agg [rat (c.f i).n.x 536870912,rat (c.f i).n.y 536870912,rat (c.f i).n.z 536870912,rat (c.f i).d 536870912],int i64 (↑c.m:Int),int i64 0],[((32768:Nat),aQ fun j=>if(j==0)=true then bt (agg ((c1.kids.set 0 (bt (int i64 c.p))).set 1 (bt (bD (fun i=>aV (rat (c.k i) sK)) c.n c3))))else c1),((4096:Nat),aQ fun x=>c1)])))):=ag
theorem amb {c:Cu} {i:Nat}:aI T Em [16] 60 ot [part nZ [1,1,0,1,0,0]] ⟨aE ot (Gt c i),Ia c i,3⟩=
  let c11:Int:=(↑c.m:Int);let c10:AV:=own 2 12 0 i;let c9:AV:=ptr 1 0 3 0 [];let c8:AV:=ptr 0 0 3 0 [];let c7:Prop:=0<1;let c6:Int:=(↑i:Int);let c5:AV:=rat 0 1;let c4:Nat×au:=((0:Nat),aQ fun x=>agg [int i64 0,nil,nil]);let c1:AV:=ak 12 c.m fun i=>agg [rat (c.f i).n.x 536870912,rat (c.f i).n.y 536870912,rat (c.f i).n.z 536870912,rat (c.f i).d 536870912];let c12:Int:=c6+(1:Int);let c3:AV:=agg [int i64 c.p,bD c.k c.n (sK+10),c10];let c2:Pl:=c.f c6.toNat;some (fork (decide (c6<c11)) (aj [(0:Int)<=c6/\c6.toNat<c.m,c7] (aj [c7,c7,sB<=sB,sB<=sB,sB<=sB,sB<=sB,(1:Nat)*12<=2^24,(i+1)*((224:Nat)+1)*2<=2^47,c7] (aj [-(2:Int)^63<=c12/\c12<(2:Int)^63] (leaf normal ([c8,c9,c1,int i64 c11,int i64 c12],[(40963,au.mk true true 12 (i+1) fun i_1=>if i_1<i then bH (dX (c.f i_1)) (sB+sB)else nth [agg [agg [rat (c2.n.x/c2.d) (sB+sB),rat (c2.n.y/c2.d) (sB+sB),rat (c2.n.z/c2.d) (sB+sB)],rat c2.d (sB+sB)]] (agg [agg [c5,c5,c5],c5]) (i_1-i+0)),((1:Nat),aQ fun j=>if(j==0)=true then agg (c3.kids.set 2 (bt (own (nat_lit 40962+1) 12 0 (i+1))))else c3),c4]))))) (leaf (exit 0) ([c8,c9,c1,int i64 c11,int i64 c6],[(2,au.mk true true 12 i fun j=>agg [agg [rat ((c.f j).n.x/(c.f j).d) 1073741824,rat ((c.f j).n.y/(c.f j).d) 1073741824,rat ((c.f j).n.z/(c.f j).d) 1073741824],rat (c.f j).d 1073741824]),((1:Nat),aQ fun x=>agg [int i64 c.p,ak 3 c.n fun i=>rat (c.k i) 4106,c10]),c4]))):=ag
theorem abw {c:Cu} {i:Nat}:cJ T Em [] 60 Ai [part nZ [1,1,1]] ⟨aE ot (Gt c i),Ia c i,3⟩=
  let c1:Prop:=0<1;some (aj [c1,c1] (aj [c1] (leaf ret [agg [int i64 c.p,ak 3 c.n fun i=>rat (c.k i) 4106,ak 12 i fun i=>agg [agg [rat ((c.f (i+0)).n.x/(c.f (i+0)).d) 1073741824,rat ((c.f (i+0)).n.y/(c.f (i+0)).d) 1073741824,rat ((c.f (i+0)).n.z/(c.f (i+0)).d) 1073741824],rat (c.f (i+0)).d 1073741824]]]))):=ag
theorem Sn {k:Nat->Rat} {n:Nat}:∀{f i:Nat},i<n->pM k n f i<n
 |0,_,h=>h
 |f+1,i,h=>by
  unfold pM
  split
  ·exact Sn aa
  ·exact h
theorem N4 {k:Nat->Rat} {n i:Nat} (h:i<n):er k n i<n:=Sn h
theorem Mx {n p:Nat} {k:Nat->Rat} (h:Kn n p k) {t:Rat}:fH n k t<n:=by
 have hl:=h.len
 unfold fH
 split
 ·omega
 ·have:=h.qN ‹_›
  omega
theorem aic:bq P CF:=dg (aH yG (aH M0 (aH JT (aH LZ gm))))
theorem akV {c:Cu} {n:Nat} {k:Nat->Rat} (hk:Kn c.n c.p.toNat c.k) (hp1:1<=c.p) (hp6:c.p<=6) (hn:c.n<2^40) (hm2:c.m<2^40) (hn2:n<2^29) (hpn:c.p+1<=n) (K:Nat):aD P xT K [dI c sK sK,ls k n] [] (aK (dI (lW c n k) sK sB) []):=by
 obtain⟨q,hq⟩:∃q,q=c.p.toNat:=⟨_,rfl⟩
 have hqp:c.p=(q:Int):=aa
 refine gV (r:=aK (dI (lW c n k) sK sB) []) hT aic hm T4 rfl aW rfl [1,1,0,1] (i:=0) (y:=part zg [1,1,0,1,0,0]) (z:=part zg [1,1,1]) ag ag ag (f1:=[]) (f2:=[19]) (f3:=[]) 60 Az 4
  (fun j:Nat=>IM n (n-c.p.toNat-1) k j) (fun j=>KY c n k (mJ c n k) j) (fun j=>j<=n-c.p.toNat-1) (fun j=>j=n-c.p.toNat-1) (fun j=>n-c.p.toNat-1-j) (fun _=>⟨⟨_,UZ,?_⟩,fun j hj=>⟨_,adU,?_⟩,fun j hj=>⟨_,aap,?_⟩⟩) K []
 ·have e1:(n:Int)-c.p-1=((n-c.p.toNat-1:Nat):Int):=aa
  simp only[ah.all,aA,e1]
  exact⟨⟨aa,aa⟩,⟨aa,cz aY,aa,aa,aa⟩,0,Nat.zero_le _,[(0,0),(1,4096),(2,24576)],rfl,rfl,rfl,mA rfl aa aa (cD rfl rfl (jg ⟨⟨rfl,aL rfl⟩,⟨rfl,aL rfl⟩,⟨rfl,mW aa⟩,trivial⟩) (aM (aM trivial)))⟩
 ·have e1:((j:Int)+1).toNat=j+1:=aa
  have e2:((j:Int)+c.p+1).toNat=j+q+1:=aa
  have e3:j+q+1-(j+1)=q:=aa
  simp only[ah.all,aA,bh,bz,aZ,e1,e2,e3,Nat.add_zero]
  have h7:er (fun i=>aV (rat (k i) sK)) n j=er k n j:=rfl
  have h8:∀t,fH c.n (fun i=>aV (rat (c.k i) sK)) t=fH c.n c.k t:=fun _=>rfl
  simp only[h7,h8]
  refine⟨fun h=>?_,fun h=>⟨rfl,j,aa,[(0,0),(1,1),(2,2),(3,3)],rfl,rfl,rfl,eG (cD rfl rfl (pS rfl rfl rfl) (aM (aM trivial)))⟩⟩
  have h1:=N4 (k:=k) (n:=n) (i:=j) aa
  have h2:=Mx hk (t:=k (er k n j))
  (repeat' with_reducible refine And.intro ?_ ?_)
  all_goals first|omega|exact cz aY|exact hk|exact fun _ _=>.refl _|skip
  refine⟨j+1,aa,by dsimp only;omega,[(0,0),(1,1),(2,2),(3,147460)],rfl,rfl,rfl,bZ rfl rfl rfl (fun j' hj'=>wT (g:=fun j=>bG (mJ c n k j) sB) (fun _ _=>⟨rfl,rfl⟩) rfl ?_ hj') (cD rfl rfl (pS rfl rfl rfl) (aM (aM trivial)))⟩
  exact xJ (h:=nB c (fH c.n c.k (k (er k n j))) q (fun q=>k (q+(j+1)))) (by unfold mJ;rw[hq]) aY
 ·subst hj
  simp only[ah.all,aA]
  exact⟨⟨aa,aa⟩,aa,.refl _⟩
theorem QJ:∀K args pre r,Gv K args pre=some r->aD P xT K args pre r:=cL fun⟨c,⟨n,k⟩,_⟩ K hn=>akV hn.1 hn.2.1 hn.2.2.1 hn.2.2.2.1 hn.2.2.2.2.1 hn.2.2.2.2.2.1 hn.2.2.2.2.2.2 K
theorem YX:bq P Qu:=dg (aH (agG (by decide) (by decide)) (aH QJ bC))
def PS:Spec:=cI (kC (qd 2000 4000) (kC (fL 2000) kN)) (fun a=>dI (uf a.1 a.2.1) sK sB) fun a=>[Kn a.1.n a.1.p.toNat a.1.k,1<=a.1.p,a.1.p<=6,a.1.n<2^28,a.1.m<2^40]
theorem VH:∀K args pre r,PS K args pre=some r->aD P JO K args pre r:=cL fun⟨c,t,_⟩ K hn=>by
 obtain⟨h1,h2,h3,h4,h5⟩:Kn c.n c.p.toNat c.k/\1<=c.p/\c.p<=6/\c.n<2^28/\c.m<2^40:=hn
 have hl:=h1.len
 refine bY (r:=aK (dI (uf c t) sK sB) []) hT YX hm YL rfl aW rfl 60 akq (fun _=>?_) K []
 simp only[ah.all,aA]
 (repeat' with_reducible refine And.intro ?_ ?_)
 all_goals first|omega|exact cz (by decide)|exact h1|exact nj (by decide)|skip
 exact .refl _
theorem ahF:∀K args pre r,SL K args pre=some r->aD P qI K args pre r:=cL fun⟨h,_⟩ K _=>GZ (by decide) (by decide) (by decide) K
theorem af6:bq P Em:=dg (aH (Ja _ _) (aH ahF bC))
theorem UY {c:Cu} (hn:c.n<2^40) (hm2:c.m<2^29) (K:Nat):aD P pU K [dI c sK sB] [] (aK (bQ ⟨c.p,c.n,c.k,c.m,fun i=>dX (c.f i)⟩ (sK+10) (sB+sB)) []):=by
 refine gV (r:=aK (bQ ⟨c.p,c.n,c.k,c.m,fun i=>dX (c.f i)⟩ (sK+10) (sB+sB)) []) hT af6 hm O5 rfl aW rfl [1,1,0,1] (i:=0) (y:=part nZ [1,1,0,1,0,0]) (z:=part nZ [1,1,1]) ag ag ag (f1:=[]) (f2:=[16]) (f3:=[]) 60 ot 3
  (fun i:Nat=>Gt c i) (fun i=>Ia c i) (fun i=>i<=c.m) (fun i=>i=c.m) (fun i=>c.m-i) (fun _=>⟨⟨_,ahW,?_⟩,fun i hi=>⟨_,amb,?_⟩,fun i hi=>⟨_,abw,?_⟩⟩) K []
 ·simp only[ah.all,aA]
  exact⟨⟨aa,aa,cz aY,aa,by decide,aa,aa⟩,aa,0,Nat.zero_le _,[(0,4096),(1,32768)],rfl,rfl,rfl,mA rfl aa aa (cD rfl rfl (jg ⟨⟨rfl,aL rfl⟩,⟨rfl,aL rfl⟩,⟨rfl,mW aa⟩,trivial⟩) (aM trivial))⟩
 ·simp only[ah.all,aA,bh,bz,aZ,Nat.add_zero]
  refine⟨fun h=>?_,fun h=>⟨rfl,i,aa,[(0,0),(1,1),(2,2)],rfl,rfl,rfl,eG (cD rfl rfl (pS rfl rfl rfl) (aM trivial))⟩⟩
  (repeat' with_reducible refine And.intro ?_ ?_)
  all_goals first|omega|exact Nat.le_refl _|skip
  exact⟨i+1,aa,by dsimp only;omega,[(0,0),(1,1),(2,40963)],rfl,rfl,rfl,bZ rfl rfl rfl (fun j hj=>wT (g:=fun j=>bH (dX (c.f j)) (sB+sB)) (fun _ _=>⟨rfl,rfl⟩) rfl (.refl _) hj) (cD rfl rfl (pS rfl rfl rfl) (aM trivial))⟩
 ·subst hi
  simp only[ah.all,aA]
  exact⟨⟨aa,aa⟩,aa,.refl _⟩
def Ki:Spec:=cI (kC (qd sK sB) kN) (fun a=>bQ ⟨a.1.p,a.1.n,a.1.k,a.1.m,fun i=>dX (a.1.f i)⟩ (sK+10) (sB+sB)) fun a=>[a.1.n<2^40,a.1.m<2^29]
theorem OW:∀K args pre r,Ki K args pre=some r->aD P pU K args pre r:=cL fun⟨c,_⟩ K hn=>UY hn.1 hn.2 K
theorem alj:aR P Fa D6 (az D6):=aS Proofs.Tryz.func80 ag ag ag
theorem Mb:aR P vj EA (az EA):=aS Proofs.Tryz.func14 ag ag ag
def OK:aX:=nG::(Ak,Cx)::fQ
def Jo:Spec:=cI (kC (gY 2000 2000) (kC (fL 2000) kN)) (fun a=>.bool (decide (a.1.k 0<a.2.1)&&decide (a.2.1<a.1.k (a.1.n-1)))) fun a=>[dx a.1]
def Er:Spec:=cI (kC (gY 2000 2000) kN) (fun a=>dI ⟨a.1.p,a.1.n,a.1.k,a.1.m,fun i=>bV (a.1.f i)⟩ 2000 4000) fun a=>[a.1.n<2^40,a.1.m<2^30]
def Oj:aX:=nG::(Fa,Jo)::(u9,CN)::(qh,Er)::(JO,PS)::(pU,Ki)::[]
def dM (c:Cu) (t:Rat):Int:=if¬(c.k 0<t/\t<c.k (c.n-1))then 7 else if c.p<=(bu c.k t c.n:Int)then 5 else if 40<=c.m then 2 else 0
def Kj (c:Cu) (t:Rat):Cu:=⟨c.p,c.n+1,gl c.k t (fz c.k t c.n),c.n+1-c.p.toNat-1,fun i=>dX ((uf ⟨c.p,c.n,c.k,c.m,fun i=>bV (c.f i)⟩ t).f i)⟩
def jC:Cu:=⟨0,0,fun _=>0,0,fun _=>⟨⟨0,0,0⟩,0⟩⟩
def yQ (c:Cu) (t:Rat):Cu:=if dM c t=0 then Kj c t else jC
theorem aiX {c:Cu} {t:Rat}:bS T OK [16] 60 D6 (az D6) ⟨aP 0 [bQ c 2000 2000,.rat t 2000],[],0⟩=
  let c9:Prop:=fj (fun i=>bH (c.f i) 2000) c.m sJ;let c8:Prop:=bT (fun i=>rat (c.k i) 2000) c.n sJ;let c7:Prop:=(0:Int)<=(0:Int)/\Int.toNat (0:Int)<c.n;let c5:Prop:=dx (Cu.mk c.p c.n (fun i=>aV (rat (c.k i) 2000)) c.m fun i=>fF (bH (c.f i) 2000));let c4:Int:=(↑c.n:Int)-(1:Int);let c3:Prop:=0<1;let c2:Int:=e9 (c.k (Int.toNat (0:Int))) t;let c1:Prop:=2000<2^42;let c6:Bool:=bif true then decide (c2<(0:Int))else false;some (fork c6 (aj [c3,c8,c9,c5,c3,c7,c3,c1,c1,c6=true,c3,c3,c3,-(2:Int)^63<=c4/\c4<(2:Int)^63,(0:Int)<=c4/\c4.toNat<c.n,c1,c1] (leaf ret [AV.bool (bif true then decide (e9 t (c.k c4.toNat)<(0:Int))else false)])) (aj [c3,c8,c9,c5,c3,c7,c3,c1,c1,c6=false] (leaf ret [AV.bool false]))):=ag
theorem MS {c:Cu} {t:Rat}:bS T Oj [6,12,21] 60 EA (az EA) ⟨aP 0 [bQ c 2000 2000,.rat t 2000],[],0⟩=
  let no:Int->ah (List AV):=fun e=>aj [0<1] (aj [0<1] (leaf .ret [.agg [.int .i64 0,.nil,.nil],.int .i64 e]));let k:Prop:=bT (fun i=>.rat (c.k i) 2000) c.n 2000;let f:Prop:=fj (fun i=>bH (c.f i) 2000) c.m 2000
  some (aj [0<1,0<1,k,f,2000<=2000,dx c] (fork (!(decide (c.k 0<t)&&decide (t<c.k (c.n-1)))) (no 7) (aj [0<1,0<1,bT (fun i=>.rat (c.k i) 2000) c.n sK,2000<=sK,c.n<2^40,0<1] (fork (decide ((bu c.k t c.n:Int)>=c.p)) (no 5) (aj [0<1] (fork (decide ((c.m:Int)>=40)) (no 2)
   (aj [0<1,k,f,c.n<2^40,c.m<2^30,0<1,k,j5 (fun i=>bG (bV (c.f i)) 4000) c.m 4000,2000<=2000,Kn c.n c.p.toNat c.k,1<=c.p,c.p<=6,c.n<2^28,c.m<2^40,bT (fun i=>.rat (gl c.k t (fz c.k t c.n) i) sK) (c.n+1) sK,j5 (fun i=>bG ((uf ⟨c.p,c.n,c.k,c.m,fun i=>bV (c.f i)⟩ t).f i) sB) (c.n+1-c.p.toNat-1) sB,c.n+1<2^40,c.n+1-c.p.toNat-1<2^29,0<1] (aj [0<1] (leaf .ret [bQ (Kj c t) (sK+10) (sB+sB),.int .i64 0]))))))))):=ag
theorem afN:bq P OK:=dg (aH Gh gm)
theorem amc {a b:Rat}:e9 a b<(0:Int)↔a<b:=pT
theorem Qw:∀K args pre r,Jo K args pre=some r->aD P Fa K args pre r:=cL fun⟨c,t,_⟩ K hn=>by
 have hc:dx c:=hn
 obtain⟨h1,h2,h3,h4,h5⟩:=id hc
 have hl:=h1.len
 refine bY (r:=aK (.bool (decide (c.k 0<t)&&decide (t<c.k (c.n-1)))) []) hT afN hm alj rfl aW rfl 60 aiX (fun _=>?_) K []
 have e1:((c.n:Int)-1).toNat=c.n-1:=aa
 simp only[ah.all,aA,e1,Int.toNat_zero,cond_true,cond_false,bh,bz,amc]
 refine⟨fun h=>?_,fun h=>?_⟩
 ·(repeat' with_reducible refine And.intro ?_ ?_)
  all_goals first|omega|exact cz (by decide)|exact ir (by decide)|exact hc|exact h|decide|skip
  exact gA (by rw[decide_eq_true h,Bool.true_and])
 ·(repeat' with_reducible refine And.intro ?_ ?_)
  all_goals first|omega|exact cz (by decide)|exact ir (by decide)|exact hc|exact h|decide|skip
  exact gA (by rw[decide_eq_false h,Bool.false_and])
theorem IA:∀K args pre r,Er K args pre=some r->aD P qh K args pre r:=cL fun⟨c,_⟩ K hn=>Rv (by decide) (by decide) (by decide) hn.1 hn.2 K
theorem Tz:bq P Oj:=dg (aH Qw (aH J6 (aH IA (aH VH (aH OW bC)))))
theorem zV {x y:Nat}:bF (.agg [.int .i64 0,.nil,.nil]) (bQ jC x y):=ct ⟨.refl _,ki (by decide),ki (by decide),trivial⟩
def Mi:Spec:=cI (kC (gY 2000 2000) (kC (fL 2000) kN)) (fun a=>.tuple [bQ (yQ a.1 a.2.1) (sK+10) (sB+sB),.int .i64 (dM a.1 a.2.1)]) fun a=>[dx a.1]
theorem YW:∀K args pre r,Mi K args pre=some r->aD P vj K args pre r:=cL fun⟨c,t,_⟩ K hn=>by
 have hc:dx c:=hn
 obtain⟨h1,h2,h3,h4,h5⟩:=id hc
 have hl:=h1.len
 refine bY (r:=aK (.tuple [bQ (yQ c t) (sK+10) (sB+sB),.int .i64 (dM c t)]) []) hT Tz hm Mb rfl aW rfl 60 MS (fun _=>?_) K []
 have no:∀{e:Int},dM c t=e->e≠0->en [.agg [.int .i64 0,.nil,.nil],.int .i64 e] (.tuple [bQ (yQ c t) (sK+10) (sB+sB),.int .i64 (dM c t)]):=fun {e} he h0=>by
  refine⟨?_,bN he.symm,trivial⟩
  rw[show yQ c t=jC from if_neg (by rw[he];exact h0)]
  exact zV
 simp only[ah.all,aA,bh,bz,Bool.not_eq_true',Bool.not_eq_false',Bool.and_eq_true,Bool.and_eq_false_iff]
 refine⟨⟨aa,aa,cz aY,ir aY,aY,hc⟩,fun ho=>⟨aa,aa,no ?_ (by decide)⟩,fun hi=>⟨?_,fun h6=>⟨aa,aa,no ?_ (by decide)⟩,fun h6=>⟨aa,fun h7=>⟨aa,aa,no ?_ (by decide)⟩,fun h7=>⟨?_,aa,?_⟩⟩⟩⟩
 ·unfold dM;rw[if_pos fun h=>ho.elim (fun g=>g h.1) fun g=>g h.2]
 ·exact⟨aa,aa,cz (by decide),by decide,aa,aa⟩
 ·unfold dM;rw[if_neg (fun g=>g hi),if_pos h6]
 ·unfold dM;rw[if_neg (fun g=>g hi),if_neg h6,if_pos aa]
 ·(repeat' with_reducible refine And.intro ?_ ?_)
  all_goals first|omega|exact cz (by decide)|exact ir aY|exact nj aY|exact h1|exact Nat.le_refl _|skip
 ·have he:dM c t=0:=by unfold dM;rw[if_neg (fun g=>g hi),if_neg h6,if_neg aa]
  refine⟨?_,bN he.symm,trivial⟩
  rw[show yQ c t=Kj c t from if_pos he]
  exact .refl _
theorem VR:aR P Dj EX (az EX):=aS Proofs.Tryz.func194 ag ag ag
theorem aaU:aR P Df DH (az DH):=aS Proofs.Tryz.func91 ag ag ag
theorem ad7:aR P BR DV (az DV):=aS Proofs.Tryz.func98 ag ag ag
theorem Zv:aR P wz Jf (az Jf):=aS Proofs.Tryz.func192 ag ag ag
theorem aet:aR P j4 BY (az BY):=aS Proofs.Tryz.func90 ag ag ag
theorem ail:aR P iD BU (az BU):=aS Proofs.Tryz.func95 ag ag ag
theorem Y8:aR P jG EO (az EO):=aS Proofs.Tryz.func97 ag ag ag
theorem Rx:aR P pA qS (az qS):=aS Proofs.Tryz.func193 ag ag ag
theorem X6:aR P Cv DL (az DL):=aS Proofs.Tryz.func198 ag ag ag
theorem XO:aR P IB BG (az BG):=aS Proofs.Tryz.func89 ag ag ag
theorem acP:aR P GO Ee (az Ee):=aS Proofs.Tryz.func94 ag ag ag
theorem ahq:aR P DT ER (az ER):=aS Proofs.Tryz.func88 ag ag ag
theorem Wx:aR P FD EC (az EC):=aS Proofs.Tryz.func17 ag ag ag
def QG:Spec:=bU fun l=>match l with
 |[.mag N]=>some (aK (.bool true) [nl N<2^40])
 |_=>none
def JI:aX:=nG::(Dj,QG)::(yJ,bU (mm HT))::(yd,bU (iL IG))::(yB,Ie)::[]
def Sq:Spec:=bU fun l=>match l with
 |[.rat q n]=>some (aK (.bool true) [n<2^44])
 |_=>none
def RZ:Spec:=bU fun l=>match l with
 |[.rat q n]=>some (aK (.int .i64 (cR q:Nat)) [n<2^44])
 |_=>none
def Dp:Spec:=bU fun l=>match l with
 |[.rat q n]=>some (aK (.bool false) [n<=2048])
 |_=>none
def EL:aX:=nG::(Df,Sq)::(BR,RZ)::fQ
def akM (s:Nat):Kind Pl:=⟨fun v=>match DP v with
 |some (a,q)=>some (a.1,q++[a.2<=s])
 |none=>none,fun a=>bH a s,fun {v a q} h hq=>by
  split at h
  ·rename_i b q' hb
   simp only[ax,Prod.mk.injEq]at h
   obtain⟨rfl,rfl⟩:=h
   obtain⟨q1,q2⟩:=eu.1 hq
   refine bF.trans (kPl.ok hb q1) ?_
   show bF (bH b.1 b.2) (bH b.1 s)
   exact ct ⟨ct ⟨gj q2,gj q2,gj q2,trivial⟩,gj q2,trivial⟩
  ·simp at h⟩
def To:Spec:=cI (kC (akM 2048) kN) (fun _=>.bool false) fun a=>[0<a.1.d]
def Ev:Kind FuncId:=⟨fun v=>match v with
 |.func f []=>some (f,[])
 |_=>none,fun g=>.func g [],fun {v a q} h _=>by
  split at h
  ·simp only[ax,Prod.mk.injEq]at h
   obtain⟨rfl,rfl⟩:=h
   exact .refl _
  ·simp at h⟩
def GX:aX:=nG::(j4,Dp)::(jG,Dp)::(iD,To)::[]
abbrev lQ:List Nat:=[4,0,1,7,8]
abbrev yD (n i:Nat) (k:Nat->Rat) (g:FuncId):List AV:=[.int .i64 0,bD k n 2048,.func g [],.int .i64 n,.int .i64 i]
abbrev Im (n i:Nat) (f:Nat->Pl) (g:FuncId):List AV:=[.int .i64 0,ja f n 2048,.func g [],.int .i64 n,.int .i64 i]
abbrev ru:Code:=az qS
abbrev zH:Code:=az DL
def S6:Spec:=cI (kC (kL 2048) (kC Ev kN)) (fun _=>.int .i64 (-1)) fun a=>[a.1.1<2^40,a.2.1=j4\/a.2.1=jG]
def TC:Spec:=cI (kC (kL 2048) (kC Ev kN)) (fun _=>.bool false) fun a=>[a.1.1<2^40,a.2.1=j4\/a.2.1=jG]
def GY:aX:=nG::(pA,S6)::[]
def Gq:Spec:=uO fun K l=>match l with
 |[v]=>match(kL 2048).read v with
  |some ((n,k),q)=>some ⟨.own K 3 0 n,[(K,⟨true,true,3,n,fun i=>.rat (k i) 2048⟩)],q++[1<=n,n<2^30]⟩
  |none=>none
 |_=>none
def l5 (c:Cu) (j:Nat):Rat:=if j<c.n then c.k j else bW (c.f ((j-c.n)/4)) ((j-c.n)%4)
def Eh:aX:=nG::(wz,Gq)::[]
abbrev wU:List Nat:=[2,3,10,11,12]
abbrev Ju (c:Cu) (i:Nat):List AV:=[.nil,.own 0 3 0 (c.n+4*i),ja c.f c.m 2048,.int .i64 c.m,.int .i64 i]
abbrev Kx (c:Cu) (i:Nat):aF:=[(0,⟨true,true,3,c.n+4*i,fun j=>.rat (l5 c j) 2048⟩)]
abbrev xd:Code:=az ER
def QH:Spec:=cI (kC (gY 2048 2048) kN) (fun a=>bD (l5 a.1) (a.1.n+4*a.1.m) 2048) fun a=>[1<=a.1.n,a.1.n<2^30,a.1.m<2^28]
theorem ak0 {N:Nat}:bS T [nG] [6] 60 EX (az EX) ⟨aP 0 [.mag N],[],0⟩=
  let c2:Bool:=(↑(nl N):Int)==(0:Int);let c1:Int:=(↑(nl N):Int)-(1:Int);some (fork c2 (aj [c2=true] (leaf ret [AV.bool true])) (aj [c2=false,-(2:Int)^63<=c1/\c1<(2:Int)^63,(0:Int)<=c1/\c1.toNat<nl N] (leaf ret [AV.bool (bif false then true else(↑(aC N c1.toNat):Int)!=(0:Int))]))):=ag
theorem Zj {q:Rat} {n:Nat}:bS T JI [18,25,29,33,43] 60 DH (az DH) ⟨aP 0 [.rat q n],[],0⟩=
  let c9:ah (List AV):=leaf ret [AV.bool false];let c7:Bool:=!decide (q<0);let c6:Nat:=q.num.natAbs;let c4:Nat:=2^40;let c3:Prop:=0<1;let c2:Nat:=if q.den=1 then 0 else q.den;let c5:Int:=(↑(nl c2):Int);let c10:Bool:=c5==(1:Int);let c8:Bool:=c5==(0:Int);let c1:ah (List AV):=aj [c3] (fork ((↑(nl c6):Int)==(0:Int)) (fork c7 (aj [c3,c7=true,c3] (leaf ret [AV.bool (bif true then c8 else false)])) (aj [c3,c7=false] c9)) (fork c8 (aj [c3,c8=true] (leaf ret [AV.bool true])) (aj [c3,c8=false,c3,c3,nl c6<c4,nl c2<c4,nl (c6.gcd c2)<c4] (leaf ret [AV.bool (bif false then true else(↑(bM (c6.gcd c2)):Int)==(1:Int))]))));some (fork c10 (aj [c3,nl c6<c4,c3,nl c2<c4,c3,c10=true,c3,(0:Int)<=(0:Int)/\Int.toNat (0:Int)<nl c2] (fork (bif bif !true then true else !true then true else bif true then(↑(aC c2 (Int.toNat (0:Int))):Int)==(1:Int)else false) c9 c1)) (aj [c3,nl c6<c4,c3,nl c2<c4,c3,c10=false] (fork false c9 c1))):=ag
theorem adx {q:Rat} {n:Nat}:bS T JI [] 60 DV (az DV) ⟨aP 0 [.rat q n],[],0⟩=
  let c2:Int:=(↑(bM q.den):Int);let c1:Int:=(↑(bM q.num.natAbs):Int);some (aj [(0:Nat)<1,nl q.num.natAbs<2^40,(0:Nat)<1,nl q.den<2^40] (leaf ret [int i64 (if c1<c2 then c2 else c1)])):=ag
theorem aiZ {q:Rat} {n:Nat}:bS T EL [] 60 BY (az BY) ⟨aP 0 [.rat q n],[],0⟩=
  some (aj [(0:Nat)<1,n<2^44] (leaf ret [AV.bool false])):=ag
theorem agT {q:Rat} {n:Nat}:bS T EL [] 60 EO (az EO) ⟨aP 0 [.rat q n],[],0⟩=
  some (aj [(0:Nat)<1,n<2^44] (leaf ret [AV.bool (decide ((↑(cR q):Int)>(2048:Int)))])):=ag
theorem af1 {p:Pl}:bS T EL [] 60 BU (az BU) ⟨aP 0 [bH p 2048],[],0⟩=
  some (aj [(0:Nat)<1,(2048:Nat)<2^42] (leaf ret [AV.bool (decide (fy p.d<=(0:Int)))])):=ag
theorem alE {n s:Nat} {k:Nat->Rat}:aI T [nG] [] 60 [2] [az Jf] ⟨aP 0 [.dQ false 3 n (fun i=>.rat (k i) s)],[],0⟩=
  some (aj [(0:Nat)*3<=2^24,((0:Nat)+n)*((56:Nat)+1)*2<=2^47] (leaf ret ([own 20480 3 0 ((0:Nat)+n)],[(20480,au.mk true true 3 ((0:Nat)+n) fun i=>rat (k (i-0)) s)]))):=ag
theorem NF {n:Nat} {k:Nat->Rat} {g:FuncId}:aI T GX [] 60 lQ (before ru [1,0,1]) ⟨aP 0 [bD k n 2048,.func g []],[],0⟩=
  some (leaf normal ([int i64 0,ak 3 n fun i=>rat (k i) 2048,func g [],int i64 (↑n:Int),int i64 0],[])):=ag
theorem ZS {n i:Nat} {k:Nat->Rat}:aI T GX [9] 60 lQ [part ru [1,0,1,0,0]] ⟨aE lQ (yD n i k j4),[],0⟩=
  let c4:Int:=(↑n:Int);let c2:AV:=ak 3 n fun i=>rat (k i) 2048;let c1:Int:=(↑i:Int);let c3:Int:=c1+(1:Int);some (fork (decide (c1<c4)) (aj [(0:Int)<=c1/\c1.toNat<n,(2048:Nat)<=2048] (aj [-(2:Int)^63<=c3/\c3<(2:Int)^63] (leaf normal ([int i64 0,c2,func j4 [],int i64 c4,int i64 c3],[])))) (leaf (exit 0) ([int i64 0,c2,func j4 [],int i64 c4,int i64 c1],[]))):=ag
theorem adZ {n i:Nat} {k:Nat->Rat}:aI T GX [9] 60 lQ [part ru [1,0,1,0,0]] ⟨aE lQ (yD n i k jG),[],0⟩=
  let c4:Int:=(↑n:Int);let c2:AV:=ak 3 n fun i=>rat (k i) 2048;let c1:Int:=(↑i:Int);let c3:Int:=c1+(1:Int);some (fork (decide (c1<c4)) (aj [(0:Int)<=c1/\c1.toNat<n,(2048:Nat)<=2048] (aj [-(2:Int)^63<=c3/\c3<(2:Int)^63] (leaf normal ([int i64 0,c2,func jG [],int i64 c4,int i64 c3],[])))) (leaf (exit 0) ([int i64 0,c2,func jG [],int i64 c4,int i64 c1],[]))):=ag
theorem Sy {n i:Nat} {k:Nat->Rat} {g:FuncId}:cJ T GX [] 60 qS [part ru [1,1]] ⟨aE lQ (yD n i k g),[],0⟩=
  some (leaf ret [int i64 (-1:Int)]):=ag
theorem acK {n:Nat} {f:Nat->Pl}:aI T GX [] 60 lQ (before zH [1,0,1]) ⟨aP 0 [ja f n 2048,.func iD []],[],0⟩=
  some (leaf normal ([int i64 0,ak 12 n fun i=>agg [agg [rat (f i).n.x 2048,rat (f i).n.y 2048,rat (f i).n.z 2048],rat (f i).d 2048],func iD [],int i64 (↑n:Int),int i64 0],[])):=ag
theorem ahu {n i:Nat} {f:Nat->Pl}:aI T GX [9] 60 lQ [part zH [1,0,1,0,0]] ⟨aE lQ (Im n i f iD),[],0⟩=
  let c5:Int:=(↑n:Int);let c3:Prop:=2048<=2048;let c2:Int:=(↑i:Int);let c1:AV:=ak 12 n fun i=>agg [agg [rat (f i).n.x 2048,rat (f i).n.y 2048,rat (f i).n.z 2048],rat (f i).d 2048];let c4:Int:=c2+(1:Int);some (fork (decide (c2<c5)) (aj [(0:Int)<=c2/\c2.toNat<n,c3,c3,Max.max 2048 2048<=2048,(0:Rat)<(f c2.toNat).d] (aj [-(2:Int)^63<=c4/\c4<(2:Int)^63] (leaf normal ([int i64 0,c1,func iD [],int i64 c5,int i64 c4],[])))) (leaf (exit 0) ([int i64 0,c1,func iD [],int i64 c5,int i64 c2],[]))):=ag
theorem adH {n i:Nat} {f:Nat->Pl}:cJ T GX [] 60 DL [part zH [1,1]] ⟨aE lQ (Im n i f iD),[],0⟩=
  some (leaf ret [int i64 (-1:Int)]):=ag
theorem Zo {n:Nat} {k:Nat->Rat} {g:FuncId}:bS T GY [] 60 BG (az BG) ⟨aP 0 [bD k n 2048,.func g []],[],0⟩=
  some (aj [bT (fun i=>rat (k i) 2048) n 2048,n<2^40,g=j4\/g=jG] (leaf ret [AV.bool false])):=ag
theorem ZX {c:Cu}:aI T Eh [] 60 wU (before xd [1,1,0,1]) ⟨aP 0 [bQ c 2048 2048],[],0⟩=
  some (aj [(0:Nat)<1,bT (fun i=>rat (c.k i) 2048) c.n 2048,(1:Nat)<=c.n,c.n<2^30] (aj [(0:Nat)<1] (leaf normal ([nil,own 16384 3 0 c.n,ak 12 c.m fun i=>agg [agg [rat (c.f i).n.x 2048,rat (c.f i).n.y 2048,rat (c.f i).n.z 2048],rat (c.f i).d 2048],int i64 (↑c.m:Int),int i64 0],[(16384,au.mk true true 3 c.n fun i=>rat (aV (rat (c.k i) 2048)) 2048)])))):=ag
theorem WC {c:Cu} {i:Nat}:aI T Eh [13] 60 wU [part xd [1,1,0,1,0,0]] ⟨aE wU (Ju c i),Kx c i,1⟩=
  let c7:Int:=(↑c.m:Int);let c5:Int:=(↑(3:Nat):Int);let c4:Prop:=0<1;let c3:Int:=(↑i:Int);let c2:Nat:=c.n+4*i;let c1:AV:=ak 12 c.m fun i=>agg [agg [rat (c.f i).n.x 2048,rat (c.f i).n.y 2048,rat (c.f i).n.z 2048],rat (c.f i).d 2048];let c9:Nat:=c2+4;let c8:Int:=c3+(1:Int);let c6:Pl:=c.f c3.toNat;some (fork (decide (c3<c7)) (aj [(0:Int)<=c3/\c3.toNat<c.m,c4] (aj [(0:Int)<=(0:Int)/\(0:Int)<c5,c4,(0:Int)<=(1:Int)/\(1:Int)<c5,c4,(0:Int)<=(2:Int)/\(2:Int)<c5,c4,c4,(4:Nat)*3<=2^24,c9*((56:Nat)+1)*2<=2^47] (aj [-(2:Int)^63<=c8/\c8<(2:Int)^63] (leaf normal ([nil,own 73729 3 0 c9,c1,int i64 c7,int i64 c8],[(73729,au.mk true true 3 c9 fun i=>if i<c2 then rat (l5 c i) 2048 else nth [rat c6.n.x 2048,rat c6.n.y 2048,rat c6.n.z 2048,rat c6.d 2048] (rat 0 1) (i-c2+0))]))))) (leaf (exit 0) ([nil,own 0 3 0 c2,c1,int i64 c7,int i64 c3],[(0,au.mk true true 3 c2 fun j=>rat (l5 c j) 2048)]))):=ag
theorem alO {c:Cu} {i:Nat}:cJ T Eh [] 60 ER [part xd [1,1,1]] ⟨aE wU (Ju c i),Kx c i,1⟩=
  some (leaf ret [ak 3 (c.n+4*i) fun i=>rat (l5 c (i+0)) 2048]):=ag
theorem adS {N:Nat} (hn:nl N<2^40) (K:Nat):aD P Dj K [.mag N] [] (aK (.bool true) []):=by
 refine bY hT (dg bC) hm VR rfl aW rfl 60 ak0 (fun _=>?_) K []
 simp only[ah.all,aA]
 refine⟨fun h=>⟨h,.refl _⟩,fun h=>?_⟩
 have h0:nl N≠0:=fun he=>by rw[he]at h;exact absurd h (by decide)
 have h1:N≠0:=fun he=>h0 (jK.2 he)
 have e1:((nl N:Int)-1).toNat=nl N-1:=aa
 have h2:=AW h1
 rw[e1]
 refine⟨⟨h,aa,aa⟩,gA ?_⟩
 rw[cond_false]
 exact bne_iff_ne.2 aa
theorem aly:∀K args pre r,QG K args pre=some r->aD P Dj K args pre r:=by
 refine cB fun K args r hk hs _=>?_
 split at hs
 ·simp only[ax]at hs
  subst hs
  exact fun need=>adS need K trivial
 ·simp at hs
theorem Qj:bq P JI:=dg (aH aly (aH SG (aH Ty (aH Tw bC))))
theorem VI {N:Nat} (h:nl N=1) (h1:aC N 0=1):N=1:=by
 have h2:N<2^(32*1):=dB.1 aa
 unfold aC at h1
 omega
theorem acg {q:Rat} {n:Nat} (hn:n<2^44) (K:Nat):aD P Df K [.rat q n] [] (aK (.bool true) []):=by
 refine jL fun⟨hs1,_⟩=>?_
 obtain⟨a1,a2,a3⟩:=Sz.jX hs1 hn
 refine bY hT Qj hm aaU rfl aW rfl 60 Zj (fun _=>?_) K []
 obtain⟨D,hD⟩:∃D,D=if q.den=1 then 0 else q.den:=⟨_,rfl⟩
 have hD1:D≠1:=by rw[hD];split<;>omega
 have hg:D≠0->q.num.natAbs.gcd D=1:=fun h=>by
  have:D=q.den:=by rw[hD]at h ⊢;split<;>simp_all
  rw[this];exact q.reduced
 have hz:q.num.natAbs=0->¬q<0/\D=0:=fun h=>by
  have h0:=oz.1 h
  subst h0
  exact⟨by decide,by rw[hD];rfl⟩
 rw[<-hD]at a3 ⊢
 have nneg:((nl q.num.natAbs:Int)==0)=true->(!decide (q<0))=true/\((nl D:Int)==0)=true:=fun h=>by
  obtain⟨z1,z2⟩:=hz (jK.1 (by have:=beq_iff_eq.1 h;omega))
  rw[decide_eq_false z1,z2];exact⟨rfl,rfl⟩
 have last:((nl D:Int)==0)=false->D≠0:=fun h he=>by rw[he]at h;exact absurd h (by decide)
 simp only[ah.all,aA,cond_true,cond_false,Bool.not_true]
 refine⟨fun h=>⟨⟨aa,a1,aa,a3,aa,h,aa,aa,?_⟩,fun h2=>?_,fun h2=>⟨aa,fun h3=>⟨fun h4=>⟨⟨aa,h4,aa⟩,gA (nneg h3).2⟩,fun h4=>absurd (h4.symm.trans (nneg h3).1) (by decide)⟩,fun h3=>⟨fun h4=>⟨⟨aa,h4⟩,.refl _⟩,fun h4=>?_⟩⟩⟩,
  fun h=>⟨⟨aa,a1,aa,a3,aa,h⟩,fun h=>absurd h (by decide),fun _=>⟨aa,fun h3=>⟨fun h4=>⟨⟨aa,h4,aa⟩,gA (nneg h3).2⟩,fun h4=>absurd (h4.symm.trans (nneg h3).1) (by decide)⟩,fun h3=>⟨fun h4=>⟨⟨aa,h4⟩,.refl _⟩,fun h4=>?_⟩⟩⟩⟩
 ·have:=beq_iff_eq.1 h
  rw[Int.toNat_zero];omega
 ·have e1:=beq_iff_eq.1 h
  have e2:=beq_iff_eq.1 h2
  exact absurd (VI aa (by rw[Int.toNat_zero]at e2;omega)) hD1
 ·rw[hg (last h4)]
  exact⟨⟨aa,h4,aa,aa,a1,a3,by decide⟩,gA (by decide)⟩
 ·rw[hg (last h4)]
  exact⟨⟨aa,h4,aa,aa,a1,a3,by decide⟩,gA (by decide)⟩
theorem aju:∀K args pre r,Sq K args pre=some r->aD P Df K args pre r:=by
 refine cB fun K args r hk hs _=>?_
 split at hs
 ·simp only[ax]at hs
  subst hs
  exact fun need=>acg need K trivial
 ·simp at hs
theorem adY {q:Rat} {n:Nat} (hn:n<2^44) (K:Nat):aD P BR K [.rat q n] [] (aK (.int .i64 (cR q:Nat)) []):=by
 refine jL fun⟨hs1,_⟩=>?_
 obtain⟨a1,a2,a3⟩:=Sz.jX hs1 hn
 refine bY hT Qj hm ad7 rfl aW rfl 60 adx (fun _=>?_) K []
 simp only[ah.all,aA]
 refine⟨⟨aa,a1,aa,a2⟩,bN ?_⟩
 unfold cR
 split<;>omega
theorem amB:∀K args pre r,RZ K args pre=some r->aD P BR K args pre r:=by
 refine cB fun K args r hk hs _=>?_
 split at hs
 ·simp only[ax]at hs
  subst hs
  exact fun need=>adY need K trivial
 ·simp at hs
theorem Hj:bq P EL:=dg (aH aju (aH amB gm))
theorem YA:∀K args pre r,Dp K args pre=some r->aD P j4 K args pre r:=by
 refine cB fun K args r hk hs _=>?_
 split at hs
 ·rename_i q n
  simp only[ax]at hs
  subst hs
  intro need
  have hn:n<=2048:=need
  refine bY (r:=aK (.bool false) [n<=2048]) hT Hj hm aet rfl aW rfl 60 aiZ (fun _=>?_) K [] need
  simp only[ah.all,aA]
  (repeat' with_reducible refine And.intro ?_ ?_)
  all_goals first|omega|exact .refl _|skip
 ·simp at hs
theorem ZI:∀K args pre r,Dp K args pre=some r->aD P jG K args pre r:=by
 refine cB fun K args r hk hs _=>?_
 split at hs
 ·rename_i q n
  simp only[ax]at hs
  subst hs
  intro need
  have hn:n<=2048:=need
  refine(jL (P:=P) (f:=jG) (K:=K) (args:=[.rat q n]) (pre:=[]) (v:=.bool false) (l:=[n<=2048]) fun⟨hs1,_⟩=>?_) need
  have h1:=alU.1 hs1
  refine bY (r:=aK (.bool false) [n<=2048]) hT Hj hm Y8 rfl aW rfl 60 agT (fun _=>?_) K []
  simp only[ah.all,aA]
  (repeat' with_reducible refine And.intro ?_ ?_)
  all_goals first|omega|skip
  exact gA (decide_eq_false aa)
 ·simp at hs
theorem aeC:∀K args pre r,To K args pre=some r->aD P iD K args pre r:=cL fun⟨p,_⟩ K hn=>by
 have hd:0<p.d:=hn
 refine bY (r:=aK (.bool false) []) hT Hj hm ail rfl aW rfl 60 af1 (fun _=>?_) K []
 have hs:fy p.d=1:=by
  unfold fy
  rw[if_neg (by grind),if_pos hd]
 simp only[ah.all,aA,hs]
 (repeat' with_reducible refine And.intro ?_ ?_)
 all_goals first|omega|decide|exact .refl _|skip
theorem JB:bq P GX:=dg (aH YA (aH ZI (aH aeC bC)))
theorem ags {n:Nat} {k:Nat->Rat} {g:FuncId} (hn:n<2^40) (hg:g=j4\/g=jG) (K:Nat):aD P pA K [bD k n 2048,.func g []] [] (aK (.int .i64 (-1)) []):=by
 rcases hg with rfl|rfl
 ·refine gV (r:=aK (.int .i64 (-1)) []) hT JB hm Rx rfl aW rfl [1,0,1] (i:=0) (y:=part ru [1,0,1,0,0]) (z:=part ru [1,1]) ag ag ag (f1:=[]) (f2:=[9]) (f3:=[]) 60 lQ 0
   (fun i:Nat=>yD n i k j4) (fun _=>[]) (fun i=>i<=n) (fun i=>i=n) (fun i=>n-i) (fun _=>⟨⟨_,NF,?_⟩,fun i hi=>⟨_,ZS,?_⟩,fun i hi=>⟨_,Sy,?_⟩⟩) K []
  ·simp only[ah.all,aA]
   exact⟨0,Nat.zero_le _,[],rfl,rfl,rfl,trivial⟩
  ·simp only[ah.all,aA,bh,bz,aZ]
   exact⟨fun h=>⟨⟨aa,aa⟩,aa,i+1,aa,by dsimp only;omega,[],rfl,rfl,rfl,trivial⟩,fun h=>⟨rfl,i,aa,[],rfl,rfl,rfl,trivial⟩⟩
  ·simp only[ah.all,aA]
   exact .refl _
 ·refine gV (r:=aK (.int .i64 (-1)) []) hT JB hm Rx rfl aW rfl [1,0,1] (i:=0) (y:=part ru [1,0,1,0,0]) (z:=part ru [1,1]) ag ag ag (f1:=[]) (f2:=[9]) (f3:=[]) 60 lQ 0
   (fun i:Nat=>yD n i k jG) (fun _=>[]) (fun i=>i<=n) (fun i=>i=n) (fun i=>n-i) (fun _=>⟨⟨_,NF,?_⟩,fun i hi=>⟨_,adZ,?_⟩,fun i hi=>⟨_,Sy,?_⟩⟩) K []
  ·simp only[ah.all,aA]
   exact⟨0,Nat.zero_le _,[],rfl,rfl,rfl,trivial⟩
  ·simp only[ah.all,aA,bh,bz,aZ]
   exact⟨fun h=>⟨⟨aa,aa⟩,aa,i+1,aa,by dsimp only;omega,[],rfl,rfl,rfl,trivial⟩,fun h=>⟨rfl,i,aa,[],rfl,rfl,rfl,trivial⟩⟩
  ·simp only[ah.all,aA]
   exact .refl _
theorem U8:∀K args pre r,S6 K args pre=some r->aD P pA K args pre r:=cL fun⟨⟨n,k⟩,g,_⟩ K hn=>ags hn.1 hn.2 K
theorem abd:bq P GY:=dg (aH U8 bC)
theorem ahY:∀K args pre r,TC K args pre=some r->aD P IB K args pre r:=cL fun⟨⟨n,k⟩,g,_⟩ K hn=>by
 refine bY (r:=aK (.bool false) []) hT abd hm XO rfl aW rfl 60 Zo (fun _=>?_) K []
 simp only[ah.all,aA]
 exact⟨⟨cz aY,hn.1,hn.2⟩,.refl _⟩
def OI:Spec:=cI (kC (wJ 2048) (kC Ev kN)) (fun _=>.int .i64 (-1)) fun a=>[a.1.1<2^40,∀i,i<a.1.1->0<(a.1.2 i).d,a.2.1=iD]
def Qf:Spec:=cI (kC (wJ 2048) (kC Ev kN)) (fun _=>.bool false) fun a=>[a.1.1<2^40,∀i,i<a.1.1->0<(a.1.2 i).d,a.2.1=iD]
def Ti:aX:=nG::(Cv,OI)::[]
def LI:aX:=nG::(DT,QH)::(IB,TC)::(GO,Qf)::(xe,HS)::(tF,uj)::[]
theorem aep {n:Nat} {f:Nat->Pl} (hn:n<2^40) (hf:∀i,i<n->0<(f i).d) (K:Nat):aD P Cv K [ja f n 2048,.func iD []] [] (aK (.int .i64 (-1)) []):=by
 refine gV (r:=aK (.int .i64 (-1)) []) hT JB hm X6 rfl aW rfl [1,0,1] (i:=0) (y:=part zH [1,0,1,0,0]) (z:=part zH [1,1]) ag ag ag (f1:=[]) (f2:=[9]) (f3:=[]) 60 lQ 0
  (fun i:Nat=>Im n i f iD) (fun _=>[]) (fun i=>i<=n) (fun i=>i=n) (fun i=>n-i) (fun _=>⟨⟨_,acK,?_⟩,fun i hi=>⟨_,ahu,?_⟩,fun i hi=>⟨_,adH,?_⟩⟩) K []
 ·simp only[ah.all,aA]
  exact⟨0,Nat.zero_le _,[],rfl,rfl,rfl,trivial⟩
 ·simp only[ah.all,aA,bh,bz,aZ]
  exact⟨fun h=>⟨⟨aa,aa,aa,by decide,hf i aa⟩,aa,i+1,aa,by dsimp only;omega,[],rfl,rfl,rfl,trivial⟩,fun h=>⟨rfl,i,aa,[],rfl,rfl,rfl,trivial⟩⟩
 ·simp only[ah.all,aA]
  exact .refl _
theorem abA:∀K args pre r,OI K args pre=some r->aD P Cv K args pre r:=cL fun⟨⟨n,f⟩,g,_⟩ K hn=>by
 have hg:g=iD:=hn.2.2
 subst hg
 exact aep hn.1 hn.2.1 K
theorem alW {args:List AV} {n:Nat} {k:Nat->Rat} {l:List Prop} (ha:aA l->fR (bf []) args [.dQ false 3 n (fun i=>.rat (k i) 2048)]) (hn:aA l->1<=n/\n<2^30) (K:Nat):aD P wz K args [] ⟨jF [.own K 3 0 n],[(K,⟨true,true,3,n,fun i=>.rat (k i) 2048⟩)],l⟩:=by
 refine Pr hT Zv ha aW fun need c hk=>?_
 obtain⟨h1,h2⟩:=hn need
 refine ay.bB hT (dg bC) hm 60 [2] alE ag ?_
 simp only[ah.all,aA]
 exact⟨⟨aa,aa⟩,fun s' hs'=>⟨.inr trivial,[2],_,[.own 20480 3 0 (0+n)],_,20480,_,hs',ag,⟨⟨rfl,cT (by simp[bf,look]) rfl aa⟩,trivial⟩,rfl,jE aa fun i hi=>aL rfl⟩⟩
theorem agr {n:Nat} {k:Nat->Rat} {l:List Prop} (hn:aA l->1<=n/\n<2^30) (K:Nat):aD P wz K [bD k n 2048] [] ⟨jF [.own K 3 0 n],[(K,⟨true,true,3,n,fun i=>.rat (k i) 2048⟩)],l⟩:=by
 refine NI fun b hb=>?_
 intro need
 have h1:=hn need
 cases b
 ·exact alW (args:=[.dQ false 3 n (fun i=>.rat (k i) 2048)]) (fun _=>⟨⟨rfl,aL rfl⟩,trivial⟩) hn K need
 ·have:=hb rfl
  omega
theorem MK:∀K args pre r,Gq K args pre=some r->aD P wz K args pre r:=by
 refine C0 fun K args r hk hs=>?_
 split at hs
 ·rename_i v
  split at hs
  ·rename_i n k q hv
   simp only[ax]at hs
   subst hs
   intro need
   obtain⟨hn1,hn2⟩:=eu.1 need
   exact gR (agr (l:=q++[1<=n,n<2^30]) (fun h=>⟨(eu.1 h).2.1,(eu.1 h).2.2⟩) K) hk ⟨(kL 2048).ok hv hn1,trivial⟩ [] need
  ·simp at hs
 ·simp at hs
theorem aej:bq P Eh:=dg (aH MK bC)
theorem afw {c:Cu} {i j:Nat} {rl:List (Nat×Nat)} (hj:j<c.n+4*i+4):gn rl (if j<c.n+4*i then .rat (l5 c j) 2048 else nth [.rat (c.f i).n.x 2048,.rat (c.f i).n.y 2048,.rat (c.f i).n.z 2048,.rat (c.f i).d 2048] (.rat 0 1) (j-(c.n+4*i)+0)) (.rat (l5 c j) 2048):=by
 by_cases h:j<c.n+4*i
 ·rw[if_pos h];exact cQ rfl rfl
 ·rw[if_neg h]
  have key:∀a,a<4->j=c.n+4*i+a->l5 c j=bW (c.f i) a:=fun a ha hj=>by
   unfold l5
   rw[if_neg aa,show(j-c.n)/4=i by omega,show(j-c.n)%4=a by omega]
  rcases(show j=c.n+4*i+0\/j=c.n+4*i+1\/j=c.n+4*i+2\/j=c.n+4*i+3 by omega)with h'|h'|h'|h'
  ·rw[key 0 aa h',h',show c.n+4*i+0-(c.n+4*i)+0=0 by omega];exact cQ rfl rfl
  ·rw[key 1 aa h',h',show c.n+4*i+1-(c.n+4*i)+0=1 by omega];exact cQ rfl rfl
  ·rw[key 2 aa h',h',show c.n+4*i+2-(c.n+4*i)+0=2 by omega];exact cQ rfl rfl
  ·rw[key 3 aa h',h',show c.n+4*i+3-(c.n+4*i)+0=3 by omega];exact cQ rfl rfl
theorem aaT {c:Cu} (h1:1<=c.n) (hn:c.n<2^30) (hm2:c.m<2^28) (K:Nat):aD P DT K [bQ c 2048 2048] [] (aK (bD (l5 c) (c.n+4*c.m) 2048) []):=by
 refine gV (r:=aK (bD (l5 c) (c.n+4*c.m) 2048) []) hT aej hm ahq rfl aW rfl [1,1,0,1] (i:=0) (y:=part xd [1,1,0,1,0,0]) (z:=part xd [1,1,1]) ag ag ag (f1:=[]) (f2:=[13]) (f3:=[]) 60 wU 1
  (fun i:Nat=>Ju c i) (fun i=>Kx c i) (fun i=>i<=c.m) (fun i=>i=c.m) (fun i=>c.m-i) (fun _=>⟨⟨_,ZX,?_⟩,fun i hi=>⟨_,WC,?_⟩,fun i hi=>⟨_,alO,?_⟩⟩) K []
 ·simp only[ah.all,aA]
  exact⟨⟨aa,cz aY,aa,aa⟩,aa,0,Nat.zero_le _,[(0,16384)],rfl,rfl,rfl,bZ rfl rfl rfl (fun j hj=>cQ rfl (by unfold l5;rw[if_pos aa];rfl)) trivial⟩
 ·simp only[ah.all,aA,bh,bz,aZ]
  refine⟨fun h=>?_,fun h=>⟨rfl,i,aa,[(0,0)],rfl,rfl,rfl,bZ rfl rfl rfl (fun j hj=>cQ rfl rfl) trivial⟩⟩
  (repeat' with_reducible refine And.intro ?_ ?_)
  all_goals first|omega|decide|skip
  refine⟨i+1,aa,by dsimp only;omega,[(0,73729)],rfl,?_,rfl,bZ rfl rfl ?_ (fun j hj=>afw aa) trivial⟩
  ·show _=[_,AV.own 0 3 0 (c.n+4*(i+1)),_,_,_].map _
   rw[show c.n+4*(i+1)=c.n+4*i+4 by omega];rfl
  ·show c.n+4*(i+1)=c.n+4*i+4
   omega
 ·subst hi
  simp only[ah.all,aA]
  exact .refl _
theorem Zp:∀K args pre r,QH K args pre=some r->aD P DT K args pre r:=cL fun⟨c,_⟩ K hn=>aaT hn.1 hn.2.1 hn.2.2 K
theorem YP {n:Nat} {f:Nat->Pl}:bS T Ti [] 60 Ee (az Ee) ⟨aP 0 [ja f n 2048,.func iD []],[],0⟩=
  some (aj [fj (fun i=>bH (f i) 2048) n 2048,n<2^40,∀(i:Nat),i<n->0<aV (rat (f i).d 2048),iD=iD] (leaf ret [AV.bool false])):=ag
theorem ajz {c:Cu}:bS T LI [200015,200017] 60 EC (az EC) ⟨aP 0 [bQ c 2048 2048],[],0⟩=
  let c5 : Nat := c.n + 4 * c.m; let c4 : Prop := fj (fun i => bH (c.f i) 2048) c.m 2048; let c3 : Nat := 2 ^ 40; let c2 : Prop := 0 < 1; let c1 : Prop := bT (fun i => rat (l5 (Cu.mk c.p c.n (fun i => aV (rat (c.k i) 2048)) c.m fun i => fF (bH (c.f i) 2048)) i) 2048) c5 2048; some (aj [c2, bT (fun i => rat (c.k i) 2048) c.n 2048, c4, (1 : Nat) <= c.n, c.n < 2 ^ 30, c.m < 2 ^ 28] (aj [c1, c5 < c3, j4 = j4 \/ j4 = jG] (aj [c2, c2, bT (fun i => rat (c.k i) 2048) c.n sJ, c.n < c3] (aj [(iu c.n (fun i => aV (rat (c.k i) 2048)) c.p != (0 : Int)) = false] (aj [c2, c2, c2, bT (fun i => rat (c.k i) 2048) c.n sK, c.n < c3, -(2 : Int) ^ 40 < c.p, c.p < (2 : Int) ^ 40] (aj [((↑c.m : Int) != (↑c.n : Int) - c.p - (1 : Int)) = false] (aj [c2, c4, c.m < c3, ∀ (i : Nat), i < c.m -> 0 < aV (rat (c.f i).d 2048), iD = iD] (aj [c1, c5 < c3, jG = j4 \/ jG = jG] (leaf ret [int i64 (0 : Int)]))))))))) := ag
theorem Yy:bq P Ti:=dg (aH abA bC)
theorem abx:∀K args pre r,Qf K args pre=some r->aD P GO K args pre r:=cL fun⟨⟨n,f⟩,g,_⟩ K hn=>by
 have hg:g=iD:=hn.2.2
 subst hg
 refine bY (r:=aK (.bool false) []) hT Yy hm acP rfl aW rfl 60 YP (fun _=>?_) K []
 simp only[ah.all,aA]
 exact⟨⟨ir aY,hn.1,hn.2.1,by trivial⟩,.refl _⟩
theorem YB:bq P LI:=dg (aH Zp (aH ahY (aH abx (aH T2 (aH yG bC)))))
def KS:Spec:=cI (kC (gY 2048 2048) kN) (fun _=>.int .i64 0) fun a=>[dx a.1,∀i,i<a.1.m->0<(a.1.f i).d]
theorem SW:∀K args pre r,KS K args pre=some r->aD P FD K args pre r:=cL fun⟨c,_⟩ K hn=>by
 obtain⟨⟨h1,h2,h3,h4,h5⟩,hw⟩:dx c/\_:=hn
 have hl:=h1.len
 refine bY (r:=aK (.int .i64 0) []) hT YB hm Wx rfl aW rfl 60 ajz (fun _=>?_) K []
 have hc0:iu c.n c.k c.p=0:=by have:=h1.Nu aa h4;rwa [Int.toNat_of_nonneg aa]at this
 simp only[ah.all,aA]
 (repeat' with_reducible refine And.intro ?_ ?_)
 all_goals first|omega|exact cz (by decide)|exact ir (by decide)|exact hw|exact bne_eq_false_iff_eq.2 hc0|exact bne_eq_false_iff_eq.2 h5|exact .inl trivial|exact .inr trivial|trivial|exact .refl _|skip
theorem LS:aR P Cw Ek (az Ek):=aS Proofs.Tryz.func168 ag ag ag
def pe:aX:=nG::(sw,jm uw)::(rC,zZ)::(sN,yN)::OE
abbrev mN (n:Nat) (z:Nat->Int) (a:Int):au:=jx n (fun i=>.int .i64 (z i)) a
abbrev tO (t:Rat):au:=⟨false,true,3,1,fun _=>.rat t 64⟩
abbrev acR (m:Nat) (k:Nat->Rat):au:=⟨true,true,3,m,fun i=>.rat (k i) 64⟩
abbrev rF:List Nat:=[0,1,2,7,8,9]
abbrev EE (p m:Int) (v:AV) (i:Int):List AV:=[.ptr 0 0 2 0 [],.int .i64 p,.int .i64 m,.ptr 1 0 3 0 [],v,.int .i64 i]
abbrev y6:Code:=az Ek
abbrev zX:Code:=part y6 [1,1,1,1]
abbrev vN:Code:=part zX [1]
abbrev Ap:List Nat:=[0,1,7,8,10]
abbrev xY:List Nat:=[0,1,7,8,11]
abbrev ud (p:Int) (l:Nat) (i:Int):List AV:=[.ptr 0 0 2 0 [],.int .i64 p,.ptr 1 0 3 0 [],.own 2 3 0 l,.int .i64 i]
abbrev nM (n:Nat) (z:Nat->Int) (a:Int) (t:Rat) (l:Nat) (k:Nat->Rat):aF:=[(2,acR l k),(1,tO t),(0,mN n z a)]
theorem Xn {n:Nat} {z:Nat->Int} {a p m:Int}:aI T pe [] 60 rF (before y6 [1,1,1,0,1]) ⟨aP 0 [.ptr 0 0 2 0 [],.int .i64 p,.int .i64 m],[(0,mN n z a)],1⟩=
  let c2:Int:=(2:Int)^63;let c1:Int:=dz n (fun i=>int i64 (z i)) a (4:Int)-(2:Int);some (aj [dr n (fun i=>int i64 (z i)) a,(0:Int)<(4:Int),(4:Int)<(2:Int)^62,-c2<=c1/\c1<c2,-c2<=c1,c1<c2,(0:Nat)<1] (leaf normal ([ptr 0 0 2 0 [],int i64 p,int i64 m,ptr 20481 0 3 0 [],nil,int i64 0],[((20481:Nat),aQ fun j=>if(j==0)=true then bt (rat (↑c1:Rat) (Max.max 1 (bM c1.natAbs)))else rat 0 1),(0,au.mk false true 2 1 fun x=>agg [ak 1 n fun i=>int i64 (z i),int i64 (bP n a)])]))):=ag
theorem alC {n:Nat} {z:Nat->Int} {a p m:Int} {t:Rat}:aI T pe [18] 60 rF [part y6 [1,1,1,0,1,0,0]] ⟨aE rF (EE p m .nil 0),[(1,tO t),(0,mN n z a)],3⟩=
  let c3:AV:=ptr 1 0 3 0 [];let c2:AV:=ptr 0 0 2 0 [];let c1:List (Nat×au):=[((1:Nat),aQ fun x=>rat t 64),(0,au.mk false true 2 1 fun x=>agg [ak 1 n fun i=>int i64 (z i),int i64 a])];some (fork (decide ((0:Int)<=p)) (aj [(0:Nat)<1,(1:Nat)*3<=2^24,(0:Nat)<1/\1*((56:Nat)+1)*2<=2^47] (aj [-(2:Int)^63<=(0:Int)+(1:Int)/\(0:Int)+(1:Int)<(2:Int)^63] (leaf normal ([c2,int i64 p,int i64 m,c3,own 24579 3 0 1,int i64 1],(24579,au.mk true true 3 1 fun i=>nth [rat t 64] (rat 0 1) (i+0))::c1)))) (leaf (exit 0) ([c2,int i64 p,int i64 m,c3,nil,int i64 0],c1))):=ag
theorem Zq {n j:Nat} {z:Nat->Int} {a p m:Int} {t:Rat} {k:Nat->Rat}:aI T pe [18] 60 rF [part y6 [1,1,1,0,1,0,0]] ⟨aE rF (EE p m (.own 2 3 0 (j+1)) ((j+1:Nat):Int)),nM n z a t (j+1) k,3⟩=
  let c4:AV:=ptr 1 0 3 0 [];let c3:AV:=ptr 0 0 2 0 [];let c2:Nat:=j+1;let c1:List (Nat×au):=[((1:Nat),aQ fun x=>rat t 64),(0,au.mk false true 2 1 fun x=>agg [ak 1 n fun i=>int i64 (z i),int i64 a])];let c7:Nat:=c2+1;let c6:Int:=(↑c2:Int);let c5:Int:=c6+(1:Int);some (fork (decide (c6<=p)) (aj [(0:Nat)<1,(1:Nat)*3<=2^24,c7*((56:Nat)+1)*2<=2^47] (aj [-(2:Int)^63<=c5/\c5<(2:Int)^63] (leaf normal ([c3,int i64 p,int i64 m,c4,own 24579 3 0 c7,int i64 c5],(24579,au.mk true true 3 c7 fun i=>if i<c2 then rat (k i) 64 else nth [rat t 64] (rat 0 1) (i-c2+0))::c1)))) (leaf (exit 0) ([c3,int i64 p,int i64 m,c4,own 2 3 0 c2,int i64 c6],(2,au.mk true true 3 c2 fun i=>rat (k i) 64)::c1))):=ag
theorem Zk {n j:Nat} {z:Nat->Int} {a p m:Int} {t:Rat} {k:Nat->Rat}:aI T pe [] 60 Ap (before zX [0,1]) ⟨aE rF (EE p m (.own 2 3 0 (j+1)) ((j+1:Nat):Int)),nM n z a t (j+1) k,3⟩=
  let c1:Int:=m+(1:Int);some (aj [-(2:Int)^63<=c1/\c1<(2:Int)^63,dr n (fun i=>int i64 (z i)) a,(0:Int)<c1,c1<(2:Int)^62] (leaf normal ([ptr 0 0 2 0 [],int i64 p,ptr 1 0 3 0 [],own 2 3 0 (j+1),int i64 (dz n (fun i=>int i64 (z i)) a c1)],[(2,au.mk true true 3 (j+1) fun i=>rat (k i) 64),((1:Nat),aQ fun x=>rat t 64),(0,au.mk false true 2 1 fun x=>agg [ak 1 n fun i=>int i64 (z i),int i64 (bP n a)])]))):=ag
theorem akA {n l:Nat} {z:Nat->Int} {a p i:Int} {t:Rat} {k:Nat->Rat}:aI T pe [30,38,43,53] 60 Ap [part zX [0,1,0,0]] ⟨aE Ap (ud p l i),nM n z a t l k,3⟩=
  let c40:Int:=i-(1:Int);let c39:Nat:=64+64+1;let c35:AV:=rat t 64;let c34:AV:=rat 0 1;let c33:Int:=bP n a;let c31:Nat:=l+1;let c30:Prop:=(0:Int)<(3:Int);let c28:Prop:=dr n (fun i=>int i64 (z i)) a;let c27:Int:=(↑l:Int);let c25:AV:=ptr 1 0 3 0 [];let c24:AV:=ptr 0 0 2 0 [];let c23:Prop:=0<1;let c21:Int:=(2:Int)^62;let c20:AV:=ak 1 n fun i=>int i64 (z i);let c18:Int:=p+(1:Int);let c16:Prop:=64<2^41;let c7:Int:=dz n (fun i=>int i64 (z i)) a (3:Int);let c5:Int:=(2:Int)^63;let c43:Int:=bP n c33;let c41:Bool:=c27==c18;let c38:Prop:=dr n (fun i=>int i64 (z i)) c33;let c37:Prop:=(3:Int)<c21;let c32:Prop:=-c5<=c18/\c18<c5;let c29:Int:=(1:Int)+c7;let c26:Nat×au:=((1:Nat),aQ fun x=>c35);let c22:Bool:=bif false then true else decide (c7>(0:Int));let c19:List Prop:=[-c5<=c40/\c40<c5];let c17:Nat:=(c27-p).toNat+0;let c15:Nat×au:=(106499,au.mk true true 3 c31 fun i=>if i<l then rat (k i) 64 else nth [c35] c34 (i-l+0));let c13:List AV:=[c24,int i64 p,c25,own 147459 3 0 c31,int i64 c40];let c12:List AV:=[c24,int i64 p,c25,own 106499 3 0 c31,int i64 c40];let c10:Int:=(1:Int)+dz n (fun i=>int i64 (z i)) c33 (2:Int);let c9:Int:=(1:Int)+dz n (fun i=>int i64 (z i)) c33 (3:Int);let c6:List Prop:=[c23,(1:Nat)*3<=2^24,c31*((56:Nat)+1)*2<=2^47];let c42:Rat:=(↑c29:Rat)/(↑c10:Rat);let c36:Bool:=bif false then true else decide (t=k c17);let c14:List (Nat×au):=[c26,(0,au.mk false true 2 1 fun x=>agg [c20,int i64 a])];let c11:List Prop:=[c23,-c5<=c27-p/\c27-p<c5,(0:Int)<=c27-p/\(c27-p).toNat<l,c17<l,c16,c16];let c8:Int:=(1:Int)+dz n (fun i=>int i64 (z i)) c43 (2:Int);let c3:ah (List AV×aF):=aj c6 (aj c19 (leaf normal (c12,[c15,c26,(0,au.mk false true 2 1 fun x=>agg [c20,int i64 c33])])));let c44:Rat:=(↑c9:Rat)/(↑c8:Rat);let c4:ah (List AV×aF):=aj c6 (aj c19 (leaf normal (c12,c15::c14)));let c2:ah (List AV×aF):=aj [c23,c28,c30,c37,-c5<=c29/\c29<c5,c38,(0:Int)<(2:Int),(2:Int)<c21,-c5<=c10/\c10<c5,-c5<=c29,c29<c5,-c5<=c10,c10<c5,c16,c16,c23] (aj c6 (aj c19 (leaf normal (c13,[(147459,au.mk true true 3 c31 fun i=>if i<l then rat (k i) 64 else nth [rat (t+c42) c39] c34 (i-l+0)),((1:Nat),aQ fun j=>if(j==0)=true then bt (j9 (t,(64:Nat)) (c42,(64:Nat)))else c35),(0,au.mk false true 2 1 fun x=>agg [c20,int i64 c43])]))));let c1:ah (List AV×aF):=aj [c23,c38,c30,c37,-c5<=c9/\c9<c5,dr n (fun i=>int i64 (z i)) c43,(0:Int)<(2:Int),(2:Int)<c21,-c5<=c8/\c8<c5,-c5<=c9,c9<c5,-c5<=c8,c8<c5,c16,c16,c23] (aj c6 (aj c19 (leaf normal (c13,[(147459,au.mk true true 3 c31 fun i=>if i<l then rat (k i) 64 else nth [rat (t+c44) c39] c34 (i-l+0)),((1:Nat),aQ fun j=>if(j==0)=true then bt (j9 (t,(64:Nat)) (c44,(64:Nat)))else c35),(0,au.mk false true 2 1 fun x=>agg [c20,int i64 (bP n c43)])]))));some (fork (decide (i>(0:Int))) (fork c41 (fork true (aj [c32,c41=true,true=true] (fork true c2 c4)) (aj (c32::(c41=true)::(true=false)::c11) (fork c36 c2 c4))) (fork c22 (aj [c32,c41=false,c28,c30,c37,c22=true] (fork true c1 c3)) (aj (c32::(c41=false)::c28::c30::c37::(c22=false)::c11) (fork c36 c1 c3)))) (leaf (exit 2) ([c24,int i64 p,c25,own 2 3 0 l,int i64 i],(2,au.mk true true 3 l fun i=>rat (k i) 64)::c14))):=ag
theorem acX {n l:Nat} {z:Nat->Int} {a p i:Int} {t:Rat} {k:Nat->Rat}:aI T pe [] 60 xY (before vN [1,0,1]) ⟨aE Ap (ud p l i),nM n z a t l k,3⟩=
  let c1:Nat:=Max.max 1 (bM (Int.natAbs (1:Int)));some (aj [(0:Nat)<1,-(2:Int)^63<=(1:Int),(1:Int)<(2:Int)^63,(64:Nat)<2^41,c1<2^41,(0:Nat)<1] (leaf normal ([ptr 0 0 2 0 [],int i64 p,ptr 1 0 3 0 [],own 2 3 0 l,int i64 0],[(2,au.mk true true 3 l fun i=>rat (k i) 64),((1:Nat),aQ fun j=>if(j==0)=true then bt (j9 (t,(64:Nat)) ((↑(1:Int):Rat),c1))else rat t 64),(0,au.mk false true 2 1 fun x=>agg [ak 1 n fun i=>int i64 (z i),int i64 a])]))):=ag
theorem WI {n l:Nat} {z:Nat->Int} {a p i:Int} {t:Rat} {k:Nat->Rat}:aI T pe [72] 60 xY [part vN [1,0,1,0,0]] ⟨aE xY (ud p l i),nM n z a t l k,3⟩=
  let c3:AV:=ptr 1 0 3 0 [];let c2:AV:=ptr 0 0 2 0 [];let c1:List (Nat×au):=[((1:Nat),aQ fun x=>rat t 64),(0,au.mk false true 2 1 fun x=>agg [ak 1 n fun i=>int i64 (z i),int i64 a])];some (fork (decide (i<=p)) (aj [(0:Nat)<1,(1:Nat)*3<=2^24,(l+1)*((56:Nat)+1)*2<=2^47] (aj [-(2:Int)^63<=i+(1:Int)/\i+(1:Int)<(2:Int)^63] (leaf normal ([c2,int i64 p,c3,own 24579 3 0 (l+1),int i64 (i+(1:Int))],(24579,au.mk true true 3 (l+1) fun i=>if i<l then rat (k i) 64 else nth [rat t 64] (rat 0 1) (i-l+0))::c1)))) (leaf (exit 4) ([c2,int i64 p,c3,own 2 3 0 l,int i64 i],(2,au.mk true true 3 l fun i=>rat (k i) 64)::c1))):=ag
theorem YG {n l:Nat} {z:Nat->Int} {a p i:Int} {t:Rat} {k:Nat->Rat}:CB T pe [] 60 Ek [part vN [1,1]] ⟨aE xY (ud p l i),nM n z a t l k,3⟩=
  some (leaf ret ([ak 3 l fun i=>rat (k (i+0)) 64],some (au.mk false true 2 1 fun x=>agg [ak 1 n fun i=>int i64 (z i),int i64 a]))):=ag
structure uv where
 k:Nat->Rat
 t:Rat
 a:Int
def rJ (n:Nat) (f:Nat->AV) (t:Rat) (a:Int):Rat:=t+((1+dz n f a 3:Int):Rat)/((1+dz n f (bP n a) 2:Int):Rat)
def tW (n:Nat) (f:Nat->AV) (p j:Nat) (s:uv):uv:=
 if j=0\/0<dz n f s.a 3\/s.t=s.k (j+1)then
  ⟨mP s.k (p+1+j) (rJ n f s.t (if j=0 then s.a else bP n s.a)),rJ n f s.t (if j=0 then s.a else bP n s.a),bP n (bP n (if j=0 then s.a else bP n s.a))⟩
 else⟨mP s.k (p+1+j) s.t,s.t,if j=0 then s.a else bP n s.a⟩
def qc (n:Nat) (f:Nat->AV) (p:Nat) (s0:uv):Nat->uv
 |0=>s0
 |j+1=>tW n f p j (qc n f p s0 j)
def qk (n:Nat) (f:Nat->AV) (a:Int):uv:=⟨fun _=>((dz n f a 4-2:Int):Rat),((dz n f a 4-2:Int):Rat),bP n (bP n a)⟩
def kK (n:Nat) (f:Nat->AV) (a:Int) (m:Nat):Nat:=(dz n f (bP n a) (m+1)).toNat
def CO (n:Nat) (f:Nat->AV) (a:Int) (p m:Nat):uv:=qc n f p (qk n f a) (kK n f a m)
def pg (n:Nat) (f:Nat->AV) (a:Int) (p m:Nat):Nat:=2*p+2+kK n f a m
def nI (n:Nat) (f:Nat->AV) (a:Int) (p m:Nat):Nat->Rat:=nu p (kK n f a m) (CO n f a p m).k (CO n f a p m).t
def sI (n:Nat) (f:Nat->AV) (a:Int) (p m:Nat):Int:=(CO n f a p m).a
theorem xg {n:Nat} {f:Nat->AV} {a:Int} {p:Nat} (hd:dr n f a) (hp:1<=p):∀j,KG p j (qc n f p (qk n f a) j).k (qc n f p (qk n f a) j).t/\dr n f (qc n f p (qk n f a) j).a
 |0=>by
  have h1:=jb (n:=n) (f:=f) (a:=a) (m:=4) aa
  have h2:=jn (n:=n) (f:=f) (a:=a) (m:=4) aa
  exact⟨KG.start hp aa aa,hd.next.next⟩
 |j+1=>by
  obtain⟨h1,h2⟩:=xg hd hp j
  unfold qc tW rJ
  generalize qc n f p (qk n f a) j=s at*
  obtain⟨k,t,b⟩:=s
  simp only at h1 h2 ⊢
  have hb:dr n f (if j=0 then b else bP n b):=by split;exact h2;exact h2.next
  generalize (if j=0 then b else bP n b)=a1 at*
  split
  ·have x1:=jb (n:=n) (f:=f) (a:=a1) (m:=3) aa
   have x2:=jn (n:=n) (f:=f) (a:=a1) (m:=3) aa
   have y1:=jb (n:=n) (f:=f) (a:=bP n a1) (m:=2) aa
   have y2:=jn (n:=n) (f:=f) (a:=bP n a1) (m:=2) aa
   refine⟨h1.next (.inl ?_),hb.next.next⟩
   generalize dz n f a1 3=x at*
   generalize dz n f (bP n a1) 2=y at*
   have key:∃z:Int,((1+x:Int):Rat)/((1+y:Int):Rat)=(z:Rat)/2/\1<=z/\z<=6:=by
    rcases(show y=0\/y=1 by omega)with h|h
    ·subst h
     refine⟨2*(1+x),?_,aa,aa⟩
     have:((2*(1+x):Int):Rat)=2*((1+x:Int):Rat):=by simp
     rw[this]
     generalize ((1+x:Int):Rat)=w
     simp;grind
    ·subst h
     exact⟨1+x,by simp,aa,aa⟩
   obtain⟨z,e,z1,z2⟩:=key
   rw[e]
   refine⟨?_,z,rfl,z2⟩
   have:(1:Rat)<=(z:Rat):=by exact_mod_cast z1
   grind
  ·rename_i hc
   have hc1:¬j=0:=fun h=>hc (.inl h)
   have hc2:¬t=k (j+1):=fun h=>hc (.inr (.inr h))
   exact⟨h1.next (.inr ⟨rfl,aa,hc2⟩),hb⟩
theorem O0 {z:Int} (h1:-2^63<=z) (h2:z<2^63):Sz ((z:Rat)/2) 64:=by
 have:=HF h1 h2 (y:=2) aa aa aa
 simpa using this
theorem KG.sz {p j:Nat} {k:Nat->Rat} {t:Rat} (h:KG p j k t) (hj:j<2^50):Sz t 64:=by
 obtain⟨z,e,h1,h2⟩:=h.half (p+j) aY
 rw[h.top]at e
 rw[e]
 exact O0 aa aa
theorem agk {J j:Nat} (h:j<J):((J-j:Nat):Int)-1=((J-(j+1):Nat):Int):=aa
theorem II {rl:List (Nat×Nat)} {l i:Nat} {k k':Nat->Rat} {t:Rat} {s:Nat} (hk:k'=mP k l t) (ht:Sz t 64) (hi:i<l+1):gn rl (if i<l then .rat (k i) 64 else nth [.rat t s] (.rat 0 1) (i-l+0)) (.rat (k' i) 64):=by
 subst hk
 by_cases h:i<l
 ·rw[if_pos h,m9 aa];exact cQ rfl rfl
 ·have:i=l:=aa
  subst this
  rw[if_neg h,wk,Nat.sub_self]
  exact .inr ⟨rfl,dc rfl ht⟩
theorem CY:bq P pe:=dg (aH DX (aH D9 (aH Fu akk)))
theorem ahA {k n p m:Nat} {z:Nat->Int} {a:Int} {o:au} (ho:∀ρ,cU ρ o (mN n z a)) (h:dr n (fun i=>.int .i64 (z i)) a) (hp:1<=p) (hp2:p<1000) (hm2:m<1000) (K:Nat):
  aD P Cw K [.ptr k 0 2 0 [],.int .i64 p,.int .i64 m] [(k,o)] ⟨bD (nI n (fun i=>.int .i64 (z i)) a p m) (pg n (fun i=>.int .i64 (z i)) a p m) 64,[(k,mN n z (sI n (fun i=>.int .i64 (z i)) a p m))],[]⟩:=by
 refine OZ hT LS rfl rfl aW ho (fun _ c hk=>?_) K
 have a1:=jb (n:=n) (f:=fun i=>.int .i64 (z i)) (a:=a) (m:=4) aa
 have a2:=jn (n:=n) (f:=fun i=>.int .i64 (z i)) (a:=a) (m:=4) aa
 have b1:=jb (n:=n) (f:=fun i=>.int .i64 (z i)) (a:=bP n a) (m:=m+1) aa
 have b2:=jn (n:=n) (f:=fun i=>.int .i64 (z i)) (a:=bP n a) (m:=m+1) aa
 have hS:=xg h hp
 unfold sI nI pg CO at*
 obtain⟨J,hJ⟩:∃J,J=kK n (fun i=>.int .i64 (z i)) a m:=⟨_,rfl⟩
 have hJ2:dz n (fun i=>.int .i64 (z i)) (bP n a) (m+1)=(J:Int):=by rw[hJ];unfold kK;omega
 rw[<-hJ]at*
 have hJ3:J<1000:=aa
 obtain⟨S,hSd⟩:∃S,S=qc n (fun i=>.int .i64 (z i)) p (qk n (fun i=>.int .i64 (z i)) a):=⟨_,rfl⟩
 have h00:S 0=qk n (fun i=>.int .i64 (z i)) a:=by rw[hSd];rfl
 have hS1:∀j,S (j+1)=tW n (fun i=>.int .i64 (z i)) p j (S j):=fun j=>by rw[hSd];rfl
 rw[<-hSd]at hS ⊢
 clear hSd hJ
 obtain⟨t0,ht0⟩:∃t0:Rat,t0=((dz n (fun i=>.int .i64 (z i)) a 4-2:Int):Rat):=⟨_,rfl⟩
 unfold qk at h00
 rw[<-ht0]at h00
 have hs0:Sz t0 64:=by have:=(hS 0).1.sz aa;rw[h00]at this;exact this
 refine ay.ni hT CY hm [1,1,1,0,1] (i:=0) (y:=part y6 [1,1,1,0,1,0,0]) (z:=zX) ag ag ag LS.dst hk (f1:=[]) (f2:=[18]) 60 rF 3
  (fun j:Nat=>EE p m (match j with
   |0=>.nil
   |_+1=>.own 2 3 0 j) j) (fun j=>match j with
   |0=>[(1,tO t0),(0,mN n z (bP n a))]
   |_+1=>nM n z (bP n a) t0 j (fun _=>t0)) (fun j=>j<=p+1) (fun j=>j=p+1) (fun j=>p+1-j) (fun _=>False) ⟨_,Xn,?_⟩ (fun j hj=>?_) (fun j hj=>?_) (fun _ _ h=>h.elim)
 ·simp only[ah.all,aA]
  refine⟨⟨h,aa,aa,aa,aa,aa,aa⟩,0,aa,[(0,0),(1,20481)],rfl,rfl,rfl,cD rfl rfl (.inr ⟨rfl,?_⟩) (aM trivial)⟩
  rw[<-ht0]
  exact dc rfl hs0
 ·cases j with
  |zero=>
   refine⟨_,alC,?_⟩
   simp only[ah.all,aA,bh,bz]
   refine⟨fun _=>⟨aa,aa,1,aa,by dsimp only;omega,[(0,0),(1,1),(2,24579)],rfl,rfl,rfl,bZ rfl rfl rfl (fun i hi=>?_) (aM (aM trivial))⟩,fun h=>aa⟩
   have:i=0:=aa
   subst this
   exact cQ rfl rfl
  |succ j=>
   refine⟨_,Zq,?_⟩
   simp only[ah.all,aA,bh,bz]
   refine⟨fun _=>⟨aa,aa,j+2,aa,by dsimp only;omega,[(0,0),(1,1),(2,24579)],rfl,rfl,rfl,bZ rfl rfl rfl (fun i hi=>II (by funext i;unfold mP;split<;>rfl) hs0 hi) (aM (aM trivial))⟩,
    fun _=>⟨rfl,j+1,aa,[(0,0),(1,1),(2,2)],rfl,rfl,rfl,bZ rfl rfl rfl (fun i hi=>cQ rfl rfl) (aM (aM trivial))⟩⟩
 subst hj
 refine ay.ni hT CY hm [0,1] (i:=2) (y:=part zX [0,1,0,0]) (z:=vN) ag ag ag ag hk (f1:=[]) (f2:=[30,38,43,53]) 60 Ap 3
  (fun j:Nat=>ud p (p+1+j) ((J-j:Nat):Int)) (fun j=>nM n z (S j).a (S j).t (p+1+j) (S j).k) (fun j=>j<=J) (fun j=>j=J) (fun j=>J-j) (fun _=>False) ⟨_,Zk,?_⟩ (fun j hj=>?_) (fun j hj=>?_) (fun _ _ h=>h.elim)
 ·simp only[ah.all,aA]
  rw[hJ2]
  refine⟨⟨aa,h.next,aa,aa⟩,0,aa,[(0,0),(1,1),(2,2)],rfl,rfl,rfl,?_⟩
  dsimp only
  rw[h00]
  exact bZ rfl rfl rfl (fun i hi=>cQ rfl rfl) (aM (aM trivial))
 ·refine⟨_,akA,?_⟩
  have hj1:=hS1 j
  obtain⟨hg,hd⟩:=hS j
  have hs1:∀{j},j<2000->Sz (S j).t 64:=fun hj=>(hS _).1.sz aa
  have hsj:=hs1 (j:=j) aa
  have hsj1:=hs1 (j:=j+1) aa
  have e1:(((p+1+j:Nat):Int)-(p:Int)).toNat+0=j+1:=aa
  simp only[ah.all,aA,bh,bz,beq_iff_eq,beq_eq_false_iff_ne,e1,cond_false]
  have v3:=fun a=>And.intro (jb (n:=n) (f:=fun i=>.int .i64 (z i)) (a:=a) (m:=3) aa) (jn (n:=n) (f:=fun i=>.int .i64 (z i)) (a:=a) (m:=3) aa)
  have v2:=fun a=>And.intro (jb (n:=n) (f:=fun i=>.int .i64 (z i)) (a:=a) (m:=2) aa) (jn (n:=n) (f:=fun i=>.int .i64 (z i)) (a:=a) (m:=2) aa)
  have q1:=v3 (S j).a
  have q2:=v3 (bP n (S j).a)
  have q3:=v2 (bP n (S j).a)
  have q4:=v2 (bP n (bP n (S j).a))
  refine⟨fun hi=>?_,fun hi=>⟨rfl,j,aa,[(0,0),(1,1),(2,2)],rfl,rfl,rfl,bZ rfl rfl rfl (fun i hi=>cQ rfl rfl) (aM (aM trivial))⟩⟩
  have hlt:j<J:=aa
  have fin:∀(key:Nat) (t:Rat) (s s2:Nat) (b:Int) (g:Nat->AV),S (j+1)=⟨mP (S j).k (p+1+j) t,t,b⟩->g 0=.rat t s2->(iE 3 [(0,0),(1,1),(2,key)])=true->(key==1)=false->(key==0)=false->
    Round [0] (fun j=>ud p (p+1+j) ((J-j:Nat):Int)) (fun j=>nM n z (S j).a (S j).t (p+1+j) (S j).k) 3 (fun j=>j<=J) (fun j=>j=J) (fun j=>J-j) 2 (fun _=>False) j normal
     ([ptr 0 0 2 0 [],int i64 p,ptr 1 0 3 0 [],own key 3 0 (p+1+j+1),int i64 (((J-j:Nat):Int)-1)],[(key,⟨true,true,3,p+1+j+1,fun i=>if i<p+1+j then .rat ((S j).k i) 64 else nth [.rat t s] (.rat 0 1) (i-(p+1+j)+0)⟩),(1,⟨false,true,3,1,g⟩),(0,mN n z b)]):=by
   intro key t s s2 b g e1 e2 e3 hk1 hk0
   rw[e1]at hsj1
   refine⟨j+1,aa,by dsimp only;omega,[(0,0),(1,1),(2,key)],by rw[e3];rfl,by rw[agk hlt];rfl,rfl,?_⟩
   dsimp only
   rw[e1]
   exact bZ rfl qm rfl (fun i hi=>II rfl hsj1 hi) (cD rfl ((PO hk1).trans rfl) (.inr ⟨by rw[e2];rfl,by rw[e2];exact dc rfl hsj1⟩) (cD rfl ((PO hk0).trans rfl) (cQ rfl rfl) trivial))
  refine⟨fun hl=>?_,fun hl=>⟨fun hc=>?_,fun hc=>?_⟩⟩
  all_goals (repeat' with_reducible first|refine And.intro ?_ ?_|intro _)
  all_goals first|omega|exact hd|exact hd.next|exact hd.next.next|skip
  all_goals try exact absurd ‹true=false› (by decide)
  ·refine fin 147459 _ _ _ _ _ ?_ rfl rfl rfl rfl
   rw[hj1];unfold tW rJ
   have hj0:j=0:=aa
   rw[if_pos (.inl hj0),if_pos hj0]
  ·refine fin 147459 _ _ _ _ _ ?_ rfl rfl rfl rfl
   rw[hj1];unfold tW rJ
   have hj0:j≠0:=aa
   rw[if_pos (.inr (.inl hc)),if_neg hj0]
  ·refine fin 147459 _ _ _ _ _ ?_ rfl rfl rfl rfl
   rw[hj1];unfold tW rJ
   have hj0:j≠0:=aa
   rename_i hk
   rw[if_pos (.inr (.inr hk)),if_neg hj0]
  ·refine fin 106499 _ _ _ _ _ ?_ rfl rfl rfl rfl
   rw[hj1];unfold tW rJ
   have hj0:j≠0:=aa
   rename_i hk
   rw[if_neg (by simp only[hj0,hk,or_false,false_or];omega),if_neg hj0]
 subst hj
 have hs1:Sz ((S j).t+1) 64:=by
  obtain⟨z,e,h1,h2⟩:=(hS j).1.Tx (p+1+j)
  unfold nu at e
  rw[if_neg aa]at e
  rw[e];exact O0 aa aa
 refine ay.ni hT CY hm [1,0,1] (i:=4) (y:=part vN [1,0,1,0,0]) (z:=part vN [1,1]) ag ag ag ag hk (f1:=[]) (f2:=[72]) 60 xY 3
  (fun i:Nat=>ud p (p+1+j+i) i) (fun i=>nM n z (S j).a ((S j).t+1) (p+1+j+i) (nu p j (S j).k (S j).t)) (fun i=>i<=p+1) (fun i=>i=p+1) (fun i=>p+1-i) (fun _=>False) ⟨_,acX,?_⟩ (fun i hi=>?_) (fun i hi=>?_) (fun _ _ h=>h.elim)
 ·simp only[ah.all,aA]
  refine⟨⟨aa,aa,aa,aa,by decide,aa⟩,0,aa,[(0,0),(1,1),(2,2)],rfl,rfl,rfl,bZ rfl rfl rfl (fun i hi=>?_) (cD rfl rfl (.inr ⟨rfl,dc rfl hs1⟩) (aM trivial))⟩
  refine cQ rfl ?_
  unfold nu
  rw[if_pos aa]
 ·refine⟨_,WI,?_⟩
  simp only[ah.all,aA,bh,bz]
  refine⟨fun _=>⟨aa,aa,i+1,aa,by dsimp only;omega,[(0,0),(1,1),(2,24579)],rfl,rfl,rfl,bZ rfl rfl rfl (fun i hi=>II ?_ hs1 hi) (aM (aM trivial))⟩,
   fun _=>⟨rfl,i,aa,[(0,0),(1,1),(2,2)],rfl,rfl,rfl,bZ rfl rfl rfl (fun i hi=>cQ rfl rfl) (aM (aM trivial))⟩⟩
  funext x
  unfold mP nu
  split
  ·rename_i hx;rw[if_neg aa]
  ·split<;>rfl
 ·subst hi
  refine ay.m8 (aG.Pz hT CY hm 60 YG ag ⟨?_,_,rfl,rfl,oS rfl rfl⟩)
  exact oQ aa fun _ _=>rfl
def Kv (n:Nat) (f:Nat->AV) (a:Int) (l:List AV):Option (AV×Int×List Prop):=match l with
 |[.int .i64 p,.int .i64 m]=>some (bD (nI n f a p.toNat m.toNat) (pg n f a p.toNat m.toNat) 64,sI n f a p.toNat m.toNat,[1<=p,p<1000,0<=m,m<1000])
 |_=>none
theorem agK:∀K args pre r,jm Kv K args pre=some r->aD P Cw K args pre r:=by
 refine wG fun {k n z a l v b q o} K hg ho hd hq=>?_
 unfold Kv at hg
 split at hg
 ·rename_i p m
  simp only[ax,Prod.mk.injEq]at hg
  obtain⟨rfl,rfl,rfl⟩:=hg
  obtain⟨h1,h2,h3,h4⟩:=hq
  have h4:m<1000:=h4
  have:=ahA (k:=k) (p:=p.toNat) (m:=m.toNat) ho hd aa aa aa K
  rw[Int.toNat_of_nonneg aa,Int.toNat_of_nonneg h3]at this
  exact this
 ·simp at hg
open Go Go.Am.N AV
open Go Go.Am.N AV ah aq IntKind
def vQ:aX:=[sG,(xF,Iq)]
theorem afa:bq P vQ:=kr (aH Og bC)
theorem Kn.congr {n p:Nat} {k k':Nat->Rat} (h:Kn n p k) (e:∀i,i<n->k i=k' i):Kn n p k':=by
 have hp:=h.p1
 have hl:=h.len
 refine⟨h.p1,h.len,fun i hi=>?_,fun i hi=>?_,fun i h1 h2=>?_,fun i h1 h2=>?_⟩
 ·rw[<-e i aa,<-e (i+1) hi];exact h.sorted i hi
 ·rw[<-e i aa,<-e 0 aa];exact h.first i hi
 ·rw[<-e i h2,<-e (n-1) aa];exact h.last i h1 h2
 ·rw[<-e i aa,<-e (i+p) aa];exact h.mult i h1 h2
theorem YS {f:Nat->Rat} (h:∀i,i<6->f i=nu 2 0 (fun _=>((0:Int):Rat)) ((0:Int):Rat) i):Kn 6 2 f:=
 ((KG.start (p:=2) aa (z:=0) aa aa).done:Kn (2*2+2+0) 2 _).congr fun i hi=>(h i hi).symm
theorem acp:aR P DY EW (az EW):=aS Proofs.Tryz.func10 ag ag ag
def Mg:Spec:=bU fun l=>match l with
 |[.mag 2]=>some (aK (.str [50]) [])
 |[.mag 3]=>some (aK (.str [51]) [])
 |[.mag 4]=>some (aK (.str [52]) [])
 |[.mag 5]=>some (aK (.str [53]) [])
 |_=>none
def zq:aX:=[sG,(Fb,Mg)]
def TG:Spec:=bU fun l=>match l with
 |[.rat q _]=>match decide (q=3/5),decide (q=4/5),decide (q=3/2)with
  |true,_,_=>some (aK (.str [51,47,53]) [])
  |false,true,_=>some (aK (.str [52,47,53]) [])
  |false,false,true=>some (aK (.str [51,47,50]) [])
  |_,_,_=>none
 |_=>none
def Nf:aX:=sG::(CJ,I7)::(vj,Mi)::(FD,KS)::(agC,gX T (sG::vr) [] 200 abe)::(sN,yN)::(E6,TG)::vr
theorem Z5:bS T vQ [] 60 mB (az mB) ⟨aP 0 [.mag 2],[],0⟩=
  let c1:Int:=(↑(1:Nat):Int);some (aj [nl 2<2^40,(0:Int)<(1000000000:Int),(1000000000:Int)<(2:Int)^32] (aj [(10:Int)≠(0:Int),(0:Nat)<1/\1*((1:Nat)+1)*2<=2^47] (aj [(10:Int)≠(0:Int)] (aj [(0:Int)<=c1/\c1<=c1/\c1<=(2:Int)^47/\c1*c1<=(2:Int)^47] (leaf ret [str [UInt8.ofNat (u8.wrap (u32.wrap ((48:Int)+(↑((2:Nat)%Int.toNat (1000000000:Int)):Int).tmod (10:Int)))).toNat]]))))):=ag
theorem aml:bS T vQ [] 60 mB (az mB) ⟨aP 0 [.mag 3],[],0⟩=
  let c1:Int:=(↑(1:Nat):Int);some (aj [nl 3<2^40,(0:Int)<(1000000000:Int),(1000000000:Int)<(2:Int)^32] (aj [(10:Int)≠(0:Int),(0:Nat)<1/\1*((1:Nat)+1)*2<=2^47] (aj [(10:Int)≠(0:Int)] (aj [(0:Int)<=c1/\c1<=c1/\c1<=(2:Int)^47/\c1*c1<=(2:Int)^47] (leaf ret [str [UInt8.ofNat (u8.wrap (u32.wrap ((48:Int)+(↑((3:Nat)%Int.toNat (1000000000:Int)):Int).tmod (10:Int)))).toNat]]))))):=ag
theorem Uv:bS T vQ [] 60 mB (az mB) ⟨aP 0 [.mag 4],[],0⟩=
  let c1:Int:=(↑(1:Nat):Int);some (aj [nl 4<2^40,(0:Int)<(1000000000:Int),(1000000000:Int)<(2:Int)^32] (aj [(10:Int)≠(0:Int),(0:Nat)<1/\1*((1:Nat)+1)*2<=2^47] (aj [(10:Int)≠(0:Int)] (aj [(0:Int)<=c1/\c1<=c1/\c1<=(2:Int)^47/\c1*c1<=(2:Int)^47] (leaf ret [str [UInt8.ofNat (u8.wrap (u32.wrap ((48:Int)+(↑((4:Nat)%Int.toNat (1000000000:Int)):Int).tmod (10:Int)))).toNat]]))))):=ag
theorem ahb:bS T vQ [] 60 mB (az mB) ⟨aP 0 [.mag 5],[],0⟩=
  let c1:Int:=(↑(1:Nat):Int);some (aj [nl 5<2^40,(0:Int)<(1000000000:Int),(1000000000:Int)<(2:Int)^32] (aj [(10:Int)≠(0:Int),(0:Nat)<1/\1*((1:Nat)+1)*2<=2^47] (aj [(10:Int)≠(0:Int)] (aj [(0:Int)<=c1/\c1<=c1/\c1<=(2:Int)^47/\c1*c1<=(2:Int)^47] (leaf ret [str [UInt8.ofNat (u8.wrap (u32.wrap ((48:Int)+(↑((5:Nat)%Int.toNat (1000000000:Int)):Int).tmod (10:Int)))).toNat]]))))):=ag
theorem akF:bS T zq [] 60 nO (az nO) ⟨aP 0 [.agg [.bool false,.mag 3,.mag 5]],[],0⟩=
  some (leaf ret [str [(51:UInt8),(47:UInt8),(53:UInt8)]]):=ag
theorem agY:bS T zq [] 60 nO (az nO) ⟨aP 0 [.agg [.bool false,.mag 4,.mag 5]],[],0⟩=
  some (leaf ret [str [(52:UInt8),(47:UInt8),(53:UInt8)]]):=ag
theorem ZM:bS T zq [] 60 nO (az nO) ⟨aP 0 [.agg [.bool false,.mag 3,.mag 2]],[],0⟩=
  some (leaf ret [str [(51:UInt8),(47:UInt8),(50:UInt8)]]):=ag
theorem Vh:bS T Nf [100024,100028,100032,100038,100044,100050] 200 EW (az EW) ⟨aP 0 [],[],0⟩=
  let c10:Rat:=(↑(1:Int):Rat)/(↑(2:Int):Rat);let c9:Int:=(2:Int)^63;let c8:List UInt8:=[(47:UInt8),(53:UInt8)];let c6:AV:=agg [AV.bool (decide ((0:Rat)<0)),mag (↑(nat_lit 0):Int).natAbs,mag (if 1=1 then 0 else 1)];let c5:AV:=rat 0 1;let c4:AV:=rat (↑(1:Int):Rat) (Max.max 1 (bM (Int.natAbs (1:Int))));let c7:AV:=agg [agg [c5,c5,c5],c5];let c3:List AV:=[agg [agg [c4,c5,c5],c4],agg [agg [c4,c4,c5],c4],agg [agg [c6,c4,c5],rat (↑(2:Int):Rat) (Max.max 1 (bM (Int.natAbs (2:Int))))]];let c2:List AV:=[c6,c6,c6,c4,c4,c4];let c1:Cu:=Cu.mk (2:Int) 6 (fun i=>aV (nth c2 c5 (i+0))) 3 fun i=>fF (nth c3 c7 (i+0));some (aj [(0:Nat)<1] (aj [-c9<=(1:Int),(1:Int)<c9,-c9<=(2:Int),(2:Int)<c9] (aj [bT (fun i=>nth c2 c5 (i+0)) 6 sJ,fj (fun i=>nth c3 c7 (i+0)) 3 sJ,(64:Nat)<=sK,dx c1] (aj [bT (fun i=>nth c2 c5 (i+0)) 6 2000,fj (fun i=>nth c3 c7 (i+0)) 3 2000,(64:Nat)<=2000,dx c1] (aj [bT (fun i=>nth c2 c5 (i+0)) 6 2048,fj (fun i=>nth c3 c7 (i+0)) 3 2048,dx c1,∀(i:Nat),i<3->0<(fF (nth c3 c7 (i+0))).d,((0:Int)==(0:Int))=true,(bif true then fe 6 (fun i=>aV (nth c2 c5 (i+0))) c10==(0:Int)else false)=true,(bif true then dM c1 c10==(0:Int)else false)=true,(bif true then(51:UInt8)::c8==(51:UInt8)::c8 else false)=true,(bif true then(52:UInt8)::c8==(52:UInt8)::c8 else false)=true,(bif true then(↑((6:Nat)+1-Int.toNat (2:Int)-1):Int)==(4:Int)else false)=true] (leaf ret [AV.bool true])))))):=ag
theorem Wy:∀K args pre r,Mg K args pre=some r->aD P Fb K args pre r:=by
 refine cB fun K args r hk hs _=>?_
 have fin:∀{N:Nat} {t:ah (List AV)} {l:List UInt8},bS T vQ [] 60 mB (az mB) ⟨aP 0 [.mag N],[],0⟩=some t->(t.all fun _ us=>en us (.str l))->aD P Fb K [.mag N] [] (aK (.str l) []):=fun h1 h2=>
  bY (r:=aK _ []) hT afa hm ai3 rfl aW rfl 60 h1 (fun _=>h2) K []
 split at hs<;>simp only[ax,reduceCtorEq]at hs
 all_goals subst hs
 ·exact fin Z5 (by simp only[ah.all,aA];exact⟨by decide,by decide,by decide,by decide,.refl _⟩)
 ·exact fin aml (by simp only[ah.all,aA];exact⟨by decide,by decide,by decide,by decide,.refl _⟩)
 ·exact fin Uv (by simp only[ah.all,aA];exact⟨by decide,by decide,by decide,by decide,.refl _⟩)
 ·exact fin ahb (by simp only[ah.all,aA];exact⟨by decide,by decide,by decide,by decide,.refl _⟩)
theorem ael:bq P zq:=kr (aH Wy bC)
theorem ahw:∀K args pre r,TG K args pre=some r->aD P E6 K args pre r:=by
 refine cB fun K args r hk hs _=>?_
 have fin:∀{q:Rat} {n a b:Nat} {t:ah (List AV)} {l:List UInt8},kids (.rat q n)=[.bool false,.mag a,.mag b]->bS T zq [] 60 nO (az nO) ⟨aP 0 [.agg [.bool false,.mag a,.mag b]],[],0⟩=some t->(t.all fun _ us=>en us (.str l))->aD P E6 K [.rat q n] [] (aK (.str l) []):=fun h0 h1 h2=>
  gR (bY (r:=aK _ []) hT ael hm abb rfl aW rfl 60 h1 (fun _=>h2) K []) rfl (show ff [_] [_]from⟨by rw[<-h0];exact Th,trivial⟩) []
 split at hs
 ·rename_i q n
  split at hs
  all_goals simp only[ax,reduceCtorEq]at hs
  all_goals subst hs
  ·obtain rfl:q=3/5:=of_decide_eq_true ‹_›
   exact fin ag akF (.refl _)
  ·obtain rfl:q=4/5:=of_decide_eq_true ‹decide (q=4/5)=true›
   exact fin ag agY (.refl _)
  ·obtain rfl:q=3/2:=of_decide_eq_true ‹decide (q=3/2)=true›
   exact fin ag ZM (.refl _)
 ·simp at hs
theorem ahm:bq P Nf:=kr (aH LN (aH YW (aH SW (aH (iJ hT (kr xI) hm (aS Proofs.Tryz.func72 ag ag ag) _ _) (aH Fu (aH ahw xI))))))
theorem WY (K:Nat):aD P DY K [] [] (aK (.bool true) []):=by
 refine bY (r:=aK (.bool true) []) hT ahm hm acp rfl aW rfl 200 Vh (fun _=>?_) K []
 have hR:∀s,4<=s->bT (fun i=>nth [.agg [AV.bool (decide ((0:Rat)<0)),mag (↑(nat_lit 0):Int).natAbs,mag (if 1=1 then 0 else 1)],.agg [AV.bool (decide ((0:Rat)<0)),mag (↑(nat_lit 0):Int).natAbs,mag (if 1=1 then 0 else 1)],.agg [AV.bool (decide ((0:Rat)<0)),mag (↑(nat_lit 0):Int).natAbs,mag (if 1=1 then 0 else 1)],.rat (↑(1:Int):Rat) (Max.max 1 (bM (Int.natAbs (1:Int)))),.rat (↑(1:Int):Rat) (Max.max 1 (bM (Int.natAbs (1:Int)))),.rat (↑(1:Int):Rat) (Max.max 1 (bM (Int.natAbs (1:Int))))] (.rat 0 1) (i+0)) 6 s:=fun s hs i hi=>by
  obtain⟨s,rfl⟩:∃s',s=s'+1:=⟨s-1,aa⟩
  match i,hi with
  |0,_|1,_|2,_=>exact mc
  |3,_|4,_|5,_=>exact gj (Nat.le_trans (by decide) hs)
 simp only[ah.all,aA]
 (repeat' with_reducible first|refine And.intro ?_ ?_)
 all_goals first|omega|decide|exact hR _ (by decide)|skip
 all_goals first|decide+kernel|exact .refl _|skip
 all_goals first|refine⟨YS fun i hi=>?_,by decide,by decide,by decide,by decide⟩|intro i hi
 all_goals first
  |match i,hi with
   |0,_|1,_|2,_|3,_|4,_|5,_=>decide+kernel
  |match i,hi with
   |0,_|1,_|2,_=>decide+kernel
  |skip
 all_goals match i,hi with
  |0,_|1,_=>exact ct ⟨ct ⟨gj (by decide),gj (by decide),gj (by decide),trivial⟩,gj (by decide),trivial⟩
  |2,_=>exact ct ⟨ct ⟨mc,gj (by decide),gj (by decide),trivial⟩,gj (by decide),trivial⟩
def Tj:Spec:=bU fun l=>match l with
 |[]=>some (aK (.bool true) [])
 |_=>none
theorem ahJ:∀K args pre r,Tj K args pre=some r->aD P DY K args pre r:=by
 refine cB fun K args r hk hs _=>?_
 split at hs
 ·simp only[ax]at hs
  subst hs
  exact fun need=>WY K need
 ·simp at hs
def acI (s:Nat):Kind Mp:=⟨fun v=>match HY v with
 |some (a,q)=>some (a.1,(a.2<=s)::q)
 |none=>none,fun a=>nU a s,fun {v a q} h hq=>by
  split at h
  ·rename_i a q h1
   simp only[ax,Prod.mk.injEq]at h
   obtain⟨rfl,rfl⟩:=h
   obtain⟨q1,q2⟩:=(eu (a:=[_]) (b:=q)).1 hq
   exact(abL h1 q2).trans (ajU rfl q1)
  ·simp at h⟩
def iZ (r v:V3) (t:Rat):Rat:=0+r.x*v.x+r.y*v.y+r.z*v.z+t
def apM (m:Mp) (v:V3):V3:=⟨iZ m.m.a v m.t.x,iZ m.m.b v m.t.y,iZ m.m.c v m.t.z⟩
def C2 (m:Mp) (p:Pl):Pl:=⟨apM m p.n,p.d⟩
def FR (m:Mp) (c:Cu):Cu:=⟨c.p,c.n,c.k,c.m,fun j=>C2 m (c.f j)⟩
structure FF (c d:Cu):Prop where
 p:c.p=d.p
 n:c.n=d.n
 k:∀i,i<c.n->c.k i=d.k i
 m:c.m=d.m
 f:∀i,i<c.m->c.f i=d.f i
structure SfEq (s t:Sf):Prop where
 u:s.u=t.u
 v:s.v=t.v
 a:s.a=t.a
 ku:∀i,i<s.a->s.ku i=t.ku i
 b:s.b=t.b
 kv:∀i,i<s.b->s.kv i=t.kv i
 n:s.n=t.n
 m:s.m=t.m
 f:∀i j,i<s.n->j<s.m->s.f i j=t.f i j
theorem KZ {x y z d x' y' z' d':Rat} {s1 s2 s3 s4 s:Nat} (h1:x=x') (h2:y=y') (h3:z=z') (h4:d=d') (k1:s1<=s) (k2:s2<=s) (k3:s3<=s) (k4:s4<=s):bF (.agg [.agg [.rat x s1,.rat y s2,.rat z s3],.rat d s4]) (bH ⟨⟨x',y',z'⟩,d'⟩ s):=
 ct ⟨ct ⟨bX h1 k1,bX h2 k2,bX h3 k3,trivial⟩,bX h4 k4,trivial⟩
abbrev Ka:FuncId:=ad2
abbrev Dm:Func:=XJ
theorem Vc:aR P Ka Dm (az Dm):=aS Proofs.Tryz.func116 ag ag ag
theorem aik:aR P EY Cf (az Cf):=aS Proofs.Tryz.func105 ag ag ag
abbrev yu:Code:=az Dm
abbrev oD:List Nat:=[0,1,2,6,15,16,17]
def Ib:aX:=[(LD,gX T fQ [] 60 Sc),(ab8,gX T fQ [] 60 akO)]
def NA:aX:=[(Qn,gX T Ib [] 60 PZ),(XB,gX T Ib [] 60 aa2)]
def Qc:aX:=[(akX,gX T NA [] 60 agH)]
def Ei (x y:Nat):aX:=nG::(v8,AS x y)::(Qc++fQ)
abbrev wP:List Nat:=[3,4,5,15,16,17]
abbrev KT (c:Cu) (r i:Nat):List AV:=[.ptr 1 0 36 0 [],.ptr 2 0 3 0 [],.ptr 3 0 3 0 [],ja c.f c.m r,.int .i64 c.m,.int .i64 i]
abbrev I5 (c:Cu) (m:Mp) (y w s i:Nat):aF:=[(4,⟨true,true,12,i,fun j=>bH (C2 m (c.f j)) w⟩),(3,⟨false,true,3,1,fun _=>.agg [.int .i64 c.p,bD c.k c.n y,.own 4 12 0 i]⟩),(2,⟨false,true,3,1,fun _=>.agg [.int .i64 0,.nil,.nil]⟩),(1,⟨false,true,36,1,fun _=>nU m s⟩)]
abbrev xh:Code:=az Cf
theorem ak1 {x y r s:Nat} {c:Cu} {m:Mp}:aI T (Ei x y) [] 60 wP (before xh [1,1,0,1]) ⟨aP 0 [bQ c x r,nU m s],[],0⟩=
  let c2:Prop:=0<1;let c1:AV:=agg [int i64 0,nil,nil];some (aj [c2,c2,bT (fun i=>rat (c.k i) x) c.n x,x+10<=y,y<2^40,c.n<2^40,c2] (aj [c2] (leaf normal ([ptr 4096 0 (bt (nU m s)).size 0 [],ptr 8192 0 3 0 [],ptr 36864 0 3 0 [],ak 12 c.m fun i=>agg [agg [rat (c.f i).n.x r,rat (c.f i).n.y r,rat (c.f i).n.z r],rat (c.f i).d r],int i64 (↑c.m:Int),int i64 0],[((36864:Nat),aQ fun j=>if(j==0)=true then bt (agg ((c1.kids.set 0 (bt (int i64 c.p))).set 1 (bt (bD (fun i=>aV (rat (c.k i) x)) c.n y))))else c1),((8192:Nat),aQ fun x=>c1),(4096,au.mk false true (bt (nU m s)).size 1 fun x=>agg [agg [agg [rat m.m.a.x s,rat m.m.a.y s,rat m.m.a.z s],agg [rat m.m.b.x s,rat m.m.b.y s,rat m.m.b.z s],agg [rat m.m.c.x s,rat m.m.c.y s,rat m.m.c.z s]],agg [rat m.t.x s,rat m.t.y s,rat m.t.z s]])])))):=ag
theorem afk {x y r s w i:Nat} {c:Cu} {m:Mp}:aI T (Ei x y) [18] 60 wP [part xh [1,1,0,1,0,0]] ⟨aE wP (KT c r i),I5 c m y w s i,5⟩=
  let c25:Int:=(↑c.m:Int);let c24:Int:=(↑(3:Nat):Int);let c20:AV:=own 4 12 0 i;let c19:AV:=ptr 2 0 3 0 [];let c18:AV:=ptr 3 0 3 0 [];let c17:AV:=ptr 1 0 36 0 [];let c15:AV:=rat 0 1;let c14:Int:=(↑i:Int);let c12:Nat:=1+(s+r)+1;let c11:Int:=i64.wrap ((0:Int)+(1:Int));let c9:AV:=ak 12 c.m fun i=>agg [agg [rat (c.f i).n.x r,rat (c.f i).n.y r,rat (c.f i).n.z r],rat (c.f i).d r];let c6:List (Nat×au):=[((2:Nat),aQ fun x=>agg [int i64 0,nil,nil]),(1,au.mk false true 36 1 fun x=>agg [agg [agg [rat m.m.a.x s,rat m.m.a.y s,rat m.m.a.z s],agg [rat m.m.b.x s,rat m.m.b.y s,rat m.m.b.z s],agg [rat m.m.c.x s,rat m.m.c.y s,rat m.m.c.z s]],agg [rat m.t.x s,rat m.t.y s,rat m.t.z s]])];let c4:Nat:=2^42;let c1:Prop:=0<1;let c28:Int:=i64.wrap (c11+(1:Int));let c27:Int:=c14+(1:Int);let c26:Prop:=r<c4;let c23:Prop:=s<c4;let c22:Prop:=1<c4;let c16:Prop:=s+r<c4;let c13:AV:=agg [int i64 c.p,bD c.k c.n y,c20];let c8:V3:=(c.f c14.toNat).n;let c7:Nat:=c12+(s+r)+1;let c5:Prop:=(0:Int)<=(0:Int)/\(0:Int)<c24;let c3:Prop:=(0:Int)<=c11/\c11<c24;let c10:Nat:=c7+(s+r)+1;let c2:Prop:=(0:Int)<=c28/\c28<c24;let c21:Nat:=c10+s+1;some (fork (decide (c14<c25)) (aj [(0:Int)<=c14/\c14.toNat<c.m,c1] (aj [c1,c1,c1,c1,c1,c1,c5,c1,c1,c1,c1,c5,c1,c5,c1,c23,c26,c22,c16,c1,c1,c3,c1,c3,c1,c23,c26,c12<c4,c16,c1,c1,c2,c1,c2,c1,c23,c26,c7<c4,c16,c1,c1,c1,c1,c5,c1,c3,c1,c1,c1,c1,c5,c1,c5,c1,c23,c26,c22,c16,c1,c1,c3,c1,c3,c1,c23,c26,c12<c4,c16,c1,c1,c2,c1,c2,c1,c23,c26,c7<c4,c16,c1,c1,c1,c1,c3,c1,c2,c1,c1,c1,c1,c5,c1,c5,c1,c23,c26,c22,c16,c1,c1,c3,c1,c3,c1,c23,c26,c12<c4,c16,c1,c1,c2,c1,c2,c1,c23,c26,c7<c4,c16,c1,c1,c1,c1,c2,c1,c1,c1,c1,c1,c1,c1,c5,c1,c5,c1,c10<c4,c23,c5,c1,c3,c1,c3,c1,c10<c4,c23,c3,c1,c2,c1,c2,c1,c10<c4,c23,c2,c1,c1,c1,c1,c1,c1,c1,c1,c1,c26,c22,(1:Nat)*12<=2^24,(i+1)*((224:Nat)+1)*2<=2^47,c1] (aj [-(2:Int)^63<=c27/\c27<(2:Int)^63] (leaf normal ([c17,c19,c18,c9,int i64 c25,int i64 c27],(69637,au.mk true true 12 (i+1) fun i_1=>if i_1<i then bH (C2 m (c.f i_1)) w else nth [agg [agg [rat ((0:Rat)+m.m.a.x*c8.x+m.m.a.y*c8.y+m.m.a.z*c8.z+m.t.x) c21,rat ((0:Rat)+m.m.b.x*c8.x+m.m.b.y*c8.y+m.m.b.z*c8.z+m.t.y) c21,rat ((0:Rat)+m.m.c.x*c8.x+m.m.c.y*c8.y+m.m.c.z*c8.z+m.t.z) c21],rat ((c.f c14.toNat).d+0) (r+1+1)]] (agg [agg [c15,c15,c15],c15]) (i_1-i+0))::((3:Nat),aQ fun j=>if(j==0)=true then agg (c13.kids.set 2 (bt (own (nat_lit 69636+1) 12 0 (i+1))))else c13)::c6))))) (leaf (exit 0) ([c17,c19,c18,c9,int i64 c25,int i64 c14],(4,au.mk true true 12 i fun j=>agg [agg [rat (iZ m.m.a (c.f j).n m.t.x) w,rat (iZ m.m.b (c.f j).n m.t.y) w,rat (iZ m.m.c (c.f j).n m.t.z) w],rat (c.f j).d w])::((3:Nat),aQ fun x=>agg [int i64 c.p,ak 3 c.n fun i=>rat (c.k i) y,c20])::c6))):=ag
theorem WJ {x y r s w i:Nat} {c:Cu} {m:Mp}:cJ T (Ei x y) [] 60 Cf [part xh [1,1,1]] ⟨aE wP (KT c r i),I5 c m y w s i,5⟩=
  let c1:Prop:=0<1;some (aj [c1,c1] (aj [c1] (leaf ret [agg [int i64 c.p,ak 3 c.n fun i=>rat (c.k i) y,ak 12 i fun i=>agg [agg [rat (iZ m.m.a (c.f (i+0)).n m.t.x) w,rat (iZ m.m.b (c.f (i+0)).n m.t.y) w,rat (iZ m.m.c (c.f (i+0)).n m.t.z) w],rat (c.f (i+0)).d w]]]))):=ag
theorem NY:bq P Ib:=aH (iJ hT gm hm (aS Proofs.Tryz.func261 ag ag ag) _ _) (aH (iJ hT gm hm (aS Proofs.Tryz.func283 ag ag ag) _ _) bC)
theorem alq:bq P NA:=aH (iJ hT NY hm (aS Proofs.Tryz.func207 ag ag ag) _ _) (aH (iJ hT NY hm (aS Proofs.Tryz.func246 ag ag ag) _ _) bC)
theorem VK:bq P Qc:=aH (iJ hT alq hm (aS Proofs.Tryz.func176 ag ag ag) _ _) bC
theorem alB {x y:Nat}:bq P (Ei x y):=dg (aH (Ja x y) (ta VK gm))
theorem L9 {rl:List (Nat×Nat)} {c:Cu} {y a i:Nat} (h:bf rl 4=some a):gn rl (.agg [.int .i64 c.p,bD c.k c.n y,.own a 12 0 i]) (.agg [.int .i64 c.p,bD c.k c.n y,.own 4 12 0 i]):=
 jg ⟨⟨rfl,aL rfl⟩,⟨rfl,aL rfl⟩,⟨rfl,cT h rfl rfl⟩,trivial⟩
theorem aaK (m:Mp) (s:Nat):(bt (nU m s)).size=36:=ag
theorem ajb {x y r s w:Nat} {c:Cu} {m:Mp} (hx:x+10<=y) (hy:y<2^40) (hw:4*s+3*r+10<=w) (hw2:w<2^40) (hn:c.n<2^30) (hm2:c.m<2^30) (K:Nat):aD P EY K [bQ c x r,nU m s] [] (aK (bQ (FR m c) y w) []):=by
 refine gV (r:=aK (bQ (FR m c) y w) []) hT (alB (x:=x) (y:=y)) hm aik rfl aW rfl [1,1,0,1] (i:=0) (y:=part xh [1,1,0,1,0,0]) (z:=part xh [1,1,1]) ag ag ag (f1:=[]) (f2:=[18]) (f3:=[]) 60 wP 5
  (fun i:Nat=>KT c r i) (fun i=>I5 c m y w s i) (fun i=>i<=c.m) (fun i=>i=c.m) (fun i=>c.m-i) (fun _=>⟨⟨_,ak1,?_⟩,fun i hi=>⟨_,afk,?_⟩,fun i hi=>⟨_,WJ,?_⟩⟩) K []
 ·simp only[ah.all,aA]
  rw[aaK m s]
  exact⟨⟨aa,aa,cz aY,aa,aa,aa,aa⟩,aa,0,Nat.zero_le _,[(1,4096),(2,8192),(3,36864)],rfl,rfl,rfl,mA rfl aa aa (cD rfl rfl (jg ⟨⟨rfl,aL rfl⟩,⟨rfl,aL rfl⟩,⟨rfl,mW aa⟩,trivial⟩) (aM (aM trivial)))⟩
 ·set_option maxRecDepth 10000 in simp only[ah.all,aA,bh,bz,aZ,Nat.add_zero]
  refine⟨fun h=>?_,fun h=>⟨rfl,i,aa,[(1,1),(2,2),(3,3),(4,4)],rfl,rfl,rfl,eG (cD rfl rfl (L9 rfl) (aM (aM trivial)))⟩⟩
  have w1:i64.wrap (0+1)=1:=by decide
  have w2:i64.wrap (i64.wrap (0+1)+1)=2:=by decide
  rw[w2,w1]
  refine⟨aa,?_,aa,i+1,aa,by dsimp only;omega,[(1,1),(2,2),(3,3),(4,69637)],rfl,rfl,rfl,bZ rfl rfl rfl (fun k hk=>Il (y:=fun j=>C2 m (c.f j)) (fun _ _=>rfl) (s':=w) ?_ rfl aY aY hk) (cD rfl rfl (L9 rfl) (aM (aM trivial)))⟩
  ·(repeat' with_reducible refine And.intro ?_ ?_)<;>omega
  ·exact ct ⟨ct ⟨bX rfl aa,bX rfl aa,bX rfl aa,trivial⟩,bX (Rat.add_zero _) aa,trivial⟩
 ·subst hi
  simp only[ah.all,aA]
  exact⟨aa,aa,.refl _⟩
abbrev Ni:FuncId:=ach
abbrev ED:FuncId:=DI
abbrev sZ:Code:=az Pa
theorem aae:aR P Ni IU (az IU):=aS Proofs.Tryz.func205 ag ag ag
theorem Jg:aR P ED Pa sZ:=aS Proofs.Tryz.func260 ag ag ag
theorem Q5:aR P DM CK (az CK):=aS Proofs.Tryz.func110 ag ag ag
def loadT (o:Oper):Nat:=match o.op with
 |.load t _=>t
 |_=>0
def Re (o:Oper):Nat:=match o.op with
 |.binOp _ t _ _ _=>t
 |_=>0
abbrev PJ:Nat:=loadT (dG sZ [0] 0)
abbrev Ov:Nat:=loadT (dG sZ [1,0,0,1,0,0,0] 5)
abbrev bkI:Nat:=Re (dG sZ [0] 2)
def Qy (o:Oper):Array TypeId:=match o.op with
 |.call c=>c.argTypes
 |_=>#[]
def Lg (o:Oper):Nat:=match o.op with
 |.unOp _ t _=>t
 |_=>0
theorem Ug:JP sZ PJ Ov bkI:=⟨ag,⟨ag,ag,ag⟩,⟨ag,ag,ag⟩,⟨ag,ag,ag⟩,⟨ag,ag,ag⟩,⟨ag,ag,ag⟩,⟨ag,ag,ag⟩,⟨ag,ag,ag⟩,⟨ag,ag,ag⟩,⟨ag,ag,ag⟩,⟨ag,ag,ag⟩,⟨ag,ag,ag⟩,⟨ag,ag,ag⟩,
 ⟨Qy (dG sZ [1,0,0,1,0,0,0] 6),ag,ag,ag⟩,⟨Lg (dG sZ [1,0,0,1,0,0,0] 7),ag,ag,ag⟩,⟨ag,ag,ag⟩,⟨ag,ag,ag⟩,⟨ag,ag,ag⟩⟩
theorem aeM {n s:Nat} {k:Nat->Rat} (hn:n<2^62):zQ P ED [.br (bD k n s)] n (fun i=>.int .i64 ((n:Int)-1-i)) (fun i=>.rat (k (n-1-i)) s):=
 Sj hT (tiS:=(look PJ T).getD ⟨.bool,0,0,.nil⟩) (tiE:=(look Ov T).getD ⟨.bool,0,0,.nil⟩) ag ag ag ag Jg.get Jg.body ag ag Ug (f:=fun i=>.rat (k i) s) hn ag fun i hi=>⟨rfl,rfl⟩
def zS:aX:=nG::(Ni,gX T [sG] [] 20 IU)::fQ
abbrev xL:List Nat:=[1,3,7]
abbrev IX (n:Nat) (k:Nat->Rat) (s:Nat):List AV:=[.ptr 0 0 1 0 [],.ptr 1 0 1 0 [],.func ED [.br (bD k n s)]]
abbrev x9 (n:Nat) (k:Nat->Rat) (s i:Nat) (x:Nat->Rat) (w:Nat):aF:=[(2,AE i x w),(1,⟨false,true,1,1,fun _=>.own 2 3 0 i⟩),(0,⟨false,true,1,1,fun _=>bD k n s⟩)]
abbrev KI:List Nat:=[1,3,7,5]
abbrev TQ (n:Nat) (k:Nat->Rat) (s:Nat):List AV:=[.ptr 0 0 1 0 [],.ptr 1 0 1 0 [],.func ED [.br (bD k n s)],.ptr 3 0 3 0 []]
abbrev tJ:Code:=az CK
def B7:Code->Code×Code
 |.block _ (.rangeFunc _ _ x y)=>(x,y)
 |_=>(.skip,.skip)
abbrev Lx:Code:=(B7 (part tJ [1,1,0,1])).1
abbrev Lf:Code:=(B7 (part tJ [1,1,0,1])).2
theorem ahO {n s:Nat} {k:Nat->Rat}:aI T zS [] 60 xL (before tJ [1,1,0,1]) ⟨aP 0 [bD k n s],[],0⟩=
  let c1:AV:=ak 3 n fun i=>rat (k i) s;some (aj [(0:Nat)<1] (leaf normal ([ptr 0 0 (bt (bD k n s)).size 0 [],ptr 8192 0 1 0 [],func DI [c1.br]],[(8192,au.mk false true 1 1 fun x=>nil),(0,au.mk false true (bt (bD k n s)).size 1 fun x=>c1)]))):=ag
theorem afr {n s w i:Nat} {k x:Nat->Rat} {u:Int} {v:Rat}:aI T zS [] 60 KI [Lx] ⟨aE (xL++[8,9]) (IX n k s++[.int .i64 u,.rat v s]),x9 n k s i x w,3⟩=
  let c1:AV:=ak 3 n fun i=>rat (k i) s;some (aj [(0:Nat)<1] (leaf normal ([ptr 0 0 1 0 [],ptr 1 0 1 0 [],func DI [c1.br],ptr 3 0 3 0 []],[(2,au.mk true true 3 i fun i=>rat (x i) w),((3:Nat),aQ fun j=>if(j==0)=true then bt (rat v s)else rat 0 1),(1,au.mk false true 1 1 fun x=>own 2 3 0 i),(0,au.mk false true 1 1 fun x=>c1)]))):=ag
theorem abM {n s w i:Nat} {k x:Nat->Rat} {v:Rat}:aI T zS [] 60 xL [Lf] ⟨aE KI (TQ n k s),(3,tP v s)::x9 n k s i x w,4⟩=
  let c4:AV:=ak 3 n fun i=>rat (k i) s;let c3:Nat:=2^42;let c2:Int:=(↑n:Int)-(1:Int);let c1:Prop:=0<1;some (aj [c1,c1,(0:Int)<=(0:Int)/\Int.toNat (0:Int)<n,c1,c1,-(2:Int)^63<=c2/\c2<(2:Int)^63,(0:Int)<=c2/\c2.toNat<n,s<c3,s<c3,c1,s+s+1<c3,s<c3,(1:Nat)*3<=2^24,(i+1)*((56:Nat)+1)*2<=2^47,c1] (leaf normal ([ptr 0 0 1 0 [],ptr 1 0 1 0 [],func DI [c4.br]],[(57348,au.mk true true 3 (i+1) fun i_1=>if i_1<i then rat (x i_1) w else nth [rat (k (Int.toNat (0:Int))+k c2.toNat-v) (s+s+1+s+1)] (rat 0 1) (i_1-i+0)),(1,au.mk false true 1 1 fun j=>if(j==0)=true then bt (own (nat_lit 57347+1) 3 0 (i+1))else own 2 3 0 i),(0,au.mk false true 1 1 fun x=>c4)]))):=ag
theorem Uq {n s w i:Nat} {k x:Nat->Rat}:cJ T zS [] 60 CK [part tJ [1,1,1]] ⟨aE xL (IX n k s),x9 n k s i x w,3⟩=
  some (aj [(0:Nat)<1] (leaf ret [ak 3 i fun i=>rat (x (i+0)) w])):=ag
theorem PR:bq P zS:=dg (aH (iJ hT (kr bC) hm aae _ _) gm)
theorem aed {n s w:Nat} {k:Nat->Rat} (h:3*s+2<=w) (hw:w<2^40) (hn:n<2^40) (K:Nat):aD P DM K [bD k n s] [] (aK (bD (fo n k) n w) []):=by
 refine OM (r:=aK (bD (fo n k) n w) []) hT Q5 rfl aW rfl (fun _ cx hro hk=>?_) K []
 refine ay.Ny hT PR hm (x:=tJ) (assign:=Lx) (body:=Lf) (g:=7) (p0:=8) (p1:=9) [1,1,0,1] (i:=0) ag ag Q5.dst hro hk Jg.enters (aeM (s:=s) (k:=k) aa) aW aW (by decide) (f1:=[]) (f2:=[]) (f3:=[])
  60 xL KI (IX n k s) (fun _=>rfl) rfl (fun i=>x9 n k s i (fo n k) w) 3 4 (fun _=>TQ n k s) (fun i=>(3,tP (k (n-1-i)) s)::x9 n k s i (fo n k) w) [0,1] ⟨_,ahO,?_⟩ (fun i hi=>⟨_,afr,?_⟩) (fun i hi=>⟨_,abM,?_⟩) ?_
 ·simp only[ah.all,aA]
  exact⟨aa,trivial,[(0,0),(1,8192)],rfl,rfl,rfl,mA rfl aa aa (cD rfl rfl (.inl (.inl ⟨rfl,rfl⟩)) (aM trivial))⟩
 ·simp only[ah.all,aA]
  exact⟨aa,trivial,[(0,0),(1,1),(2,2),(3,3)],rfl,rfl,rfl,aM (eG (cD rfl rfl (.inl (.inl ⟨rfl,rfl⟩)) (aM trivial)))⟩
 ·simp only[ah.all,aA,Int.toNat_zero]
  refine⟨aa,trivial,[(0,0),(1,1),(2,57348)],rfl,rfl,rfl,bZ rfl rfl rfl (fun j hj=>pI (fun _ _=>rfl) ?_ aY aa hj) (cD rfl rfl (.inl (.inl ⟨rfl,rfl⟩)) (aM trivial))⟩
  rw[show((n:Int)-1).toNat=n-1 by omega];rfl
 ·rw[show behind tJ [1,1,0,1]=[part tJ [1,1,1]]from by kernel_rfl]
  exact(aG.fin hT PR hm 60 Uq ag (by simp only[ah.all,aA];exact⟨aa,.refl _⟩)).mono fun _ _ h=>.inl h
theorem Ut {s w:Nat} (h:3*s+2<=w) (hw:w<2^40):∀K args pre q,MY s w K args pre=some q->aD P DM K args pre q:=cL fun⟨⟨n,k⟩,_⟩ K hn=>aed h hw hn K
abbrev Rh:FuncId:=ak8
abbrev CG:FuncId:=EG
abbrev rZ:Code:=az RV
theorem ajk:aR P Rh F5 (az F5):=aS Proofs.Tryz.func111 ag ag ag
theorem Hh:aR P CG RV rZ:=aS Proofs.Tryz.func206 ag ag ag
theorem Tp:aR P wX Dw (az Dw):=aS Proofs.Tryz.func24 ag ag ag
abbrev Tk:Nat:=loadT (dG rZ [0] 0)
abbrev Ol:Nat:=loadT (dG rZ [1,0,0,1,0,0,0] 5)
abbrev T9:Nat:=Re (dG rZ [0] 2)
theorem adD:JP rZ Tk Ol T9:=⟨ag,⟨ag,ag,ag⟩,⟨ag,ag,ag⟩,⟨ag,ag,ag⟩,⟨ag,ag,ag⟩,⟨ag,ag,ag⟩,⟨ag,ag,ag⟩,⟨ag,ag,ag⟩,⟨ag,ag,ag⟩,⟨ag,ag,ag⟩,⟨ag,ag,ag⟩,⟨ag,ag,ag⟩,⟨ag,ag,ag⟩,
 ⟨Qy (dG rZ [1,0,0,1,0,0,0] 6),ag,ag,ag⟩,⟨Lg (dG rZ [1,0,0,1,0,0,0] 7),ag,ag,ag⟩,⟨ag,ag,ag⟩,⟨ag,ag,ag⟩,⟨ag,ag,ag⟩⟩
theorem ade {n s:Nat} {f:Nat->Pl} (hn:n<2^62):zQ P CG [.br (ja f n s)] n (fun i=>.int .i64 ((n:Int)-1-i)) (fun i=>bH (f (n-1-i)) s):=
 Sj hT (tiS:=(look Tk T).getD ⟨.bool,0,0,.nil⟩) (tiE:=(look Ol T).getD ⟨.bool,0,0,.nil⟩) ag ag ag ag Hh.get Hh.body ag ag adD (f:=fun i=>bH (f i) s) hn ag fun i hi=>⟨rfl,rfl⟩
def k7 (c:Cu):Cu:=⟨c.p,c.n,fo c.n c.k,c.m,fun j=>c.f (c.m-1-j)⟩
def Tt:aX:=[(LD,gX T (sG::fQ) [] 60 Sc)]
def Tq:aX:=[(Qn,gX T (sG::Tt) [] 60 PZ)]
def OH:aX:=[(Z8,gX T (sG::(Tq++fQ)) [] 60 amj)]
def x5 (s w:Nat):aX:=nG::(Rh,gX T [sG] [] 20 F5)::(DM,MY s w)::OH
abbrev xN:List Nat:=[1,2,3,14]
abbrev JS (c:Cu) (r:Nat):List AV:=[.ptr 0 0 3 0 [],.ptr 1 0 3 0 [],.ptr 2 0 3 0 [],.func CG [.br (ja c.f c.m r)]]
abbrev yO (c:Cu) (s r y w i:Nat):aF:=[(3,⟨true,true,12,i,fun j=>bH (c.f (c.m-1-j)) w⟩),(2,⟨false,true,3,1,fun _=>.agg [.int .i64 c.p,bD (fo c.n c.k) c.n y,.own 3 12 0 i]⟩),(1,⟨false,true,3,1,fun _=>.agg [.int .i64 0,.nil,.nil]⟩),(0,⟨false,true,3,1,fun _=>bQ c s r⟩)]
abbrev KQ:List Nat:=[1,2,3,14,5]
abbrev Pf (c:Cu) (r:Nat):List AV:=[.ptr 0 0 3 0 [],.ptr 1 0 3 0 [],.ptr 2 0 3 0 [],.func CG [.br (ja c.f c.m r)],.ptr 4 0 12 0 []]
abbrev sW:Code:=az Dw
abbrev SK:Code:=(B7 (part sW [1,1,0,1])).1
abbrev PD:Code:=(B7 (part sW [1,1,0,1])).2
abbrev Nh (p:Pl) (s:Nat):au:=⟨false,true,12,1,fun _=>bH p s⟩
theorem ajt {c:Cu} {s r y:Nat}:aI T (x5 s y) [] 60 xN (before sW [1,1,0,1]) ⟨aP 0 [bQ c s r],[],0⟩=
  let c3:Prop:=0<1;let c2:AV:=agg [int i64 0,nil,nil];let c1:AV:=ak 12 c.m fun i=>agg [agg [rat (c.f i).n.x r,rat (c.f i).n.y r,rat (c.f i).n.z r],rat (c.f i).d r];some (aj [c3,c3,bT (fun i=>rat (c.k i) s) c.n s,c.n<2^40,c3] (aj [c3] (leaf normal ([ptr 0 0 (bt (bQ c s r)).size 0 [],ptr 4096 0 3 0 [],ptr 32768 0 3 0 [],func EG [c1.br]],[((32768:Nat),aQ fun j=>if(j==0)=true then bt (agg ((c2.kids.set 0 (bt (int i64 c.p))).set 1 (bt (bD (fo c.n fun i=>aV (rat (c.k i) s)) c.n y))))else c2),((4096:Nat),aQ fun x=>c2),(0,au.mk false true (bt (bQ c s r)).size 1 fun x=>agg [int i64 c.p,ak 3 c.n fun i=>rat (c.k i) s,c1])])))):=ag
theorem aj2 {c:Cu} {s r y w i:Nat} {u:Int} {v:Pl}:aI T (x5 s y) [] 60 KQ [SK] ⟨aE (xN++[15,16]) (JS c r++[.int .i64 u,bH v r]),yO c s r y w i,4⟩=
  let c3:Nat:=c.m-1;let c2:AV:=rat 0 1;let c1:AV:=ak 12 c.m fun i=>agg [agg [rat (c.f i).n.x r,rat (c.f i).n.y r,rat (c.f i).n.z r],rat (c.f i).d r];some (aj [(0:Nat)<1] (leaf normal ([ptr 0 0 3 0 [],ptr 1 0 3 0 [],ptr 2 0 3 0 [],func EG [c1.br],ptr 4 0 12 0 []],[(3,au.mk true true 12 i fun j=>agg [agg [rat (c.f (c3-j)).n.x w,rat (c.f (c3-j)).n.y w,rat (c.f (c3-j)).n.z w],rat (c.f (c3-j)).d w]),(4,au.mk false true 12 1 fun j=>if(j==0)=true then bt (bH v r)else agg [agg [c2,c2,c2],c2]),((2:Nat),aQ fun x=>agg [int i64 c.p,ak 3 c.n fun i=>rat (fo c.n c.k i) y,own 3 12 0 i]),((1:Nat),aQ fun x=>agg [int i64 0,nil,nil]),((0:Nat),aQ fun x=>agg [int i64 c.p,ak 3 c.n fun i=>rat (c.k i) s,c1])]))):=ag
theorem aiH {c:Cu} {s r y w i:Nat} {v:Pl}:aI T (x5 s y) [] 60 xN [PD] ⟨aE KQ (Pf c r),(4,Nh v r)::yO c s r y w i,5⟩=
  let c6:AV:=rat 0 1;let c5:Nat:=r+1+1;let c4:AV:=agg [int i64 c.p,bD (fo c.n c.k) c.n y,own 3 12 0 i];let c3:Prop:=0<1;let c2:AV:=ak 12 c.m fun i=>agg [agg [rat (c.f i).n.x r,rat (c.f i).n.y r,rat (c.f i).n.z r],rat (c.f i).d r];let c1:Nat:=2^42;let c7:Prop:=1<c1;some (aj [c3,c3,r<c1,c7,r<c1,c7,r<c1,c7,c3,c3,r<c1,c7,c3,(1:Nat)*12<=2^24,(i+1)*((224:Nat)+1)*2<=2^47,c3] (leaf normal ([ptr 0 0 3 0 [],ptr 1 0 3 0 [],ptr 2 0 3 0 [],func EG [c2.br]],[(20485,au.mk true true 12 (i+1) fun i_1=>if i_1<i then bH (c.f (c.m-1-i_1)) w else nth [agg [agg [rat (v.n.x+0) c5,rat (v.n.y+0) c5,rat (v.n.z+0) c5],rat (v.d+0) c5]] (agg [agg [c6,c6,c6],c6]) (i_1-i+0)),((2:Nat),aQ fun j=>if(j==0)=true then agg (c4.kids.set 2 (bt (own (nat_lit 20484+1) 12 0 (i+1))))else c4),((1:Nat),aQ fun x=>agg [int i64 0,nil,nil]),((0:Nat),aQ fun x=>agg [int i64 c.p,ak 3 c.n fun i=>rat (c.k i) s,c2])]))):=ag
theorem ahU {c:Cu} {s r y w i:Nat}:cJ T (x5 s y) [] 60 Dw [part sW [1,1,1]] ⟨aE xN (JS c r),yO c s r y w i,4⟩=
  let c2:Prop:=0<1;let c1:Nat:=c.m-1;some (aj [c2,c2] (aj [c2] (leaf ret [agg [int i64 c.p,ak 3 c.n fun i=>rat (fo c.n c.k i) y,ak 12 i fun i=>agg [agg [rat (c.f (c1-(i+0))).n.x w,rat (c.f (c1-(i+0))).n.y w,rat (c.f (c1-(i+0))).n.z w],rat (c.f (c1-(i+0))).d w]]]))):=ag
theorem akD:bq P Tt:=aH (iJ hT (kr gm) hm (aS Proofs.Tryz.func261 ag ag ag) _ _) bC
theorem ZA:bq P Tq:=aH (iJ hT (kr akD) hm (aS Proofs.Tryz.func207 ag ag ag) _ _) bC
theorem adt:bq P OH:=aH (iJ hT (kr (ta ZA gm)) hm (aS Proofs.Tryz.func112 ag ag ag) _ _) bC
theorem NO {s y:Nat} (h:3*s+2<=y) (hy:y<2^40):bq P (x5 s y):=dg (aH (iJ hT (kr bC) hm ajk _ _) (aH (Ut h hy) adt))
theorem Uh (c:Cu) (s r:Nat):(bt (bQ c s r)).size=3:=ag
theorem Mz {rl:List (Nat×Nat)} {c:Cu} {y a i:Nat} (h:bf rl 3=some a):gn rl (.agg [.int .i64 c.p,bD (fo c.n c.k) c.n y,.own a 12 0 i]) (.agg [.int .i64 c.p,bD (fo c.n c.k) c.n y,.own 3 12 0 i]):=
 jg ⟨⟨rfl,aL rfl⟩,⟨rfl,aL rfl⟩,⟨rfl,cT h rfl rfl⟩,trivial⟩
def G5 (s r y w:Nat):Spec:=cI (kC (gY s r) kN) (fun a=>bQ (k7 a.1) y w) fun a=>[a.1.n<2^30,a.1.m<2^30]
theorem acz {c:Cu} {s r y w:Nat} (h1:3*s+2<=y) (hy:y<2^40) (h2:r+2<=w) (hw:w<2^40) (hn:c.n<2^30) (hm2:c.m<2^30) (K:Nat):aD P wX K [bQ c s r] [] (aK (bQ (k7 c) y w) []):=by
 refine OM (r:=aK (bQ (k7 c) y w) []) hT Tp rfl aW rfl (fun _ cx hro hk=>?_) K []
 refine ay.Ny hT (NO h1 hy) hm (x:=sW) (assign:=SK) (body:=PD) (g:=14) (p0:=15) (p1:=16) [1,1,0,1] (i:=0) ag ag Tp.dst hro hk Hh.enters (ade (s:=r) (f:=c.f) aa) aW aW (by decide) (f1:=[]) (f2:=[]) (f3:=[])
  60 xN KQ (JS c r) (fun _=>rfl) rfl (fun i=>yO c s r y w i) 4 5 (fun _=>Pf c r) (fun i=>(4,Nh (c.f (c.m-1-i)) r)::yO c s r y w i) [0,1,2] ⟨_,ajt,?_⟩ (fun i hi=>⟨_,aj2,?_⟩) (fun i hi=>⟨_,aiH,?_⟩) ?_
 ·simp only[ah.all,aA]
  rw[Uh c s r]
  exact⟨⟨aa,aa,cz aY,aa,aa⟩,aa,trivial,[(0,0),(1,4096),(2,32768)],rfl,rfl,rfl,mA rfl aa aa (cD rfl rfl (jg ⟨⟨rfl,aL rfl⟩,⟨rfl,aL rfl⟩,⟨rfl,mW aa⟩,trivial⟩) (aM (aM trivial)))⟩
 ·simp only[ah.all,aA]
  exact⟨aa,trivial,[(0,0),(1,1),(2,2),(3,3),(4,4)],rfl,rfl,rfl,aM (eG (cD rfl rfl (Mz rfl) (aM (aM trivial))))⟩
 ·simp only[ah.all,aA,Int.toNat_zero]
  refine⟨?_,trivial,[(0,0),(1,1),(2,2),(3,20485)],rfl,rfl,rfl,bZ rfl rfl rfl (fun k hk=>Il (y:=fun j=>c.f (c.m-1-j)) (fun _ _=>rfl) (s':=w) ?_ rfl aY aY hk) (cD rfl rfl (Mz rfl) (aM (aM trivial)))⟩
  ·(repeat' with_reducible refine And.intro ?_ ?_)<;>omega
  ·exact ct ⟨ct ⟨bX (Rat.add_zero _) aa,bX (Rat.add_zero _) aa,bX (Rat.add_zero _) aa,trivial⟩,bX (Rat.add_zero _) aa,trivial⟩
 ·rw[show behind sW [1,1,0,1]=[part sW [1,1,1]]from by kernel_rfl]
  exact(aG.fin hT (NO h1 hy) hm 60 ahU ag (by simp only[ah.all,aA];exact⟨aa,aa,.refl _⟩)).mono fun _ _ h=>.inl h
theorem Pj {s r y w:Nat} (h1:3*s+2<=y) (hy:y<2^40) (h2:r+2<=w) (hw:w<2^40):∀K args pre q,G5 s r y w K args pre=some q->aD P wX K args pre q:=cL fun⟨c,_⟩ K hn=>acz h1 hy h2 hw hn.1 hn.2 K
end Go.Am.B
