/- Spline.Over, Spline.Insert, curve.back. -/
import Derived.Test.YtppeigelbecpbaaGreatY38
import Derived.Test.YtppeigelbecpbaaGreatY37
import Derived.Test.YtppeigelbecpbaaGreatB33
import Derived.Test.YtppeigelbecpbaaGreatZ2
set_option linter.unusedVariables false
namespace Go.Am.B
open Go Go.Am.N AV aa aj IntKind
theorem VZ:aO P x6 xJ (au xJ):=aQ aaa (by kernel_rfl) (by kernel_rfl) (by kernel_rfl)
theorem T0:aO P Ck vO (au vO):=aQ S6 (by kernel_rfl) (by kernel_rfl) (by kernel_rfl)
theorem Kh:aO P pe uH (au uH):=aQ ZS (by kernel_rfl) (by kernel_rfl) (by kernel_rfl)
def CJ (c:Cu) (n:Nat) (k:Nat→Rat) (j:Nat):Pl:=l8 c (fW c.n c.k (k (ej k n j))) c.p.toNat (fun q=>k (q+(j+1)))
def Bn (c:Cu) (n:Nat) (k:Nat→Rat):Cu:=⟨c.p,n,k,n-c.p.toNat-1,CJ c n k⟩
noncomputable def BC:aR:=nG::(pJ,uS)::(u9,Hw)::(qQ,B8)::(uQ,H7)::fI
abbrev yM:List Nat:=[1,2,4,5,17,18]
abbrev Ga (n m:Nat) (k:Nat→Rat) (j:Nat):List AV:=[ls k n,.ptr 0 0 3 0 [],.ptr 1 0 3 0 [],.ptr 2 0 3 0 [],.int .i64 m,.int .i64 j]
abbrev Ib (c:Cu) (n:Nat) (k:Nat→Rat) (h:Nat→Pl) (j:Nat):aC:=[(3,⟨true,true,12,j,fun i=>cL (h i) sB⟩),(2,⟨false,true,3,1,fun _=>.agg [.int .i64 c.p,ls k n,.own 3 12 0 j]⟩),(1,⟨false,true,3,1,fun _=>.agg [.int .i64 0,.nil,.nil]⟩),(0,pX c sK)]
noncomputable abbrev Aa:Code:=au xJ
theorem sS {f:Nat→Pl} {m s s':Nat} (h:s≤s'):lI (fun i=>cL (f i) s) m s':=fun _ _=>AJ rfl h
noncomputable def Pn:Spec:=cQ (kC (qZ sK sK) (kC (kL sK) kN)) (fun a=>eB (Bn a.1 a.2.1.1 a.2.1.2) sK sB) fun a=>[Kn a.1.n a.1.p.toNat a.1.k,1≤a.1.p,a.1.p≤6,a.1.n<2^40,a.1.m<2^40,a.2.1.1<2^29,a.1.p+1≤a.2.1.1]
def rL (c:Cu) (t:Rat):Cu:=Bn c (c.n+1) (gA c.k t (fG c.k t c.n))
noncomputable def Qs:aR:=nG::(xo,Lg 2000 2002)::(x6,Pn)::[]
abbrev mR:List Nat:=[2,3,13,14,15]
abbrev Gx (c:Cu) (i:Nat):List AV:=[.ptr 0 0 3 0 [],.ptr 1 0 3 0 [],oy c.f c.m sB,.int .i64 c.m,.int .i64 i]
abbrev Er (c:Cu) (i:Nat):aC:=[(2,⟨true,true,12,i,fun j=>bu (eo (c.f j)) (sB+sB)⟩),(1,⟨false,true,3,1,fun _=>.agg [.int .i64 c.p,bt c.k c.n (sK+10),.own 2 12 0 i]⟩),(0,⟨false,true,3,1,fun _=>.agg [.int .i64 0,.nil,.nil]⟩)]
noncomputable abbrev mY:Code:=au uH
def N8:Spec:=cQ (kC (Fb sB) kN) (fun a=>bu (eo a.1) (sB+sB)) fun _=>[]
def Cb:aR:=nG::(rz,Bs sK (sK+10))::(nY,N8)::[]
theorem aaf {c:Cu} {n:Nat} {k:Nat→Rat}:aH T BC [] 60 yM (before Aa [1,1,0,1]) ⟨aN 0 [eB c sK sK,ls k n],[],0⟩=
  let c3:Nat:=(bn (eB c sK sK)).size;let c2:Prop:=0<1;let c1:AV:=agg [int i64 (0:Int),nil,nil];some (ag [c2,c2] (ag [c2,bG (fun i↦rat (k i) sK) n sK,n<2^40,-(2:Int)^40<c.p,c.p<(2:Int)^40] (leaf normal ([ak 3 n fun i↦rat (k i) 4096,ptr 0 0 c3 0 [],ptr 4096 0 3 0 [],ptr 24576 0 3 0 [],int i64 ((↑n:Int)-c.p-(1:Int)),int i64 (0:Int)],[((24576:Nat),ah.mk false true 3 1 fun j↦if(j==0)=true then bn (agg ((c1.kids.set 0 (bn (int i64 c.p))).set 1 (bn (ls k n))))else c1),((4096:Nat),ah.mk false true 3 1 fun x↦c1),((0:Nat),ah.mk false true c3 1 fun x↦agg [int i64 c.p,ak 3 c.n fun i↦rat (c.k i) 4096,ak 12 c.m fun i↦agg [rat (c.f i).n.x 4096,rat (c.f i).n.y 4096,rat (c.f i).n.z 4096,rat (c.f i).d 4096]])])))):=by kernel_rfl
theorem ab9 {c:Cu} {n m j:Nat} {k:Nat→Rat} {h:Nat→Pl}:aH T BC [19] 60 yM [part Aa [1,1,0,1,0,0]] ⟨aA yM (Ga n m k j),Ib c n k h j,4⟩=
  let c20:Int:=(↑m:Int);let c18:Prop:=bG (fun i↦rat (c.k i) sK) c.n sK;let c17:AV:=ptr 2 0 3 0 [];let c16:AV:=ptr 1 0 3 0 [];let c15:AV:=ptr 0 0 3 0 [];let c14:Nat:=2^40;let c13:AV:=rat 0 1;let c12:Int:=(↑j:Int);let c10:AV:=own 3 12 0 j;let c9:AV:=ak 3 n fun i↦rat (k i) 4096;let c8:Prop:=0<1;let c6:Int:=(2:Int)^63;let c5:Cu:=Cu.mk c.p c.n (fun i↦aS (rat (c.k i) sK)) c.m fun i↦su (cL (c.f i) sK);let c2:List (Nat×ah):=[((1:Nat),ah.mk false true 3 1 fun x↦agg [int i64 (0:Int),nil,nil]),((0:Nat),ah.mk false true 3 1 fun x↦agg [int i64 c.p,ak 3 c.n fun i↦rat (c.k i) 4096,ak 12 c.m fun i↦agg [rat (c.f i).n.x 4096,rat (c.f i).n.y 4096,rat (c.f i).n.z 4096,rat (c.f i).d 4096]])];let c19:AV:=agg [int i64 c.p,ls k n,c10];let c7:Int:=(↑(ej (fun i↦aS (rat (k i) sK)) n c12.toNat):Int);let c4:Int:=c12+c.p+(1:Int);let c3:Int:=c12+(1:Int);let c11:Nat:=c4.toNat-c3.toNat;let c1:Int:=(↑(fW c.n (fun i↦aS (rat (c.k i) sK)) (k c7.toNat)):Int);some (fork (decide (c12<c20)) (ag [bG (fun i↦rat (k i) sK) n sK,(0:Int)≤c12,c12≤(↑n:Int),n<c14] (ag [c8,c8,(0:Int)≤c7∧c7.toNat<n,c18,sK≤sK,Kn c.n c.p.toNat fun i↦aS (rat (c.k i) sK),(0:Int)≤c.p,c.n<c14] (ag [c8,c8,-c6≤c3∧c3<c6,c8,-c6≤c12+c.p∧c12+c.p<c6,-c6≤c4∧c4<c6,(0:Int)≤c3∧c3≤c4∧c4≤c4∧c4≤(↑n:Int),c18,lI (fun i↦cL (c.f i) sK) c.m sK,bG (fun i↦rat (k (i+c3.toNat)) sK) c11 sK,(1:Int)≤c.p,c.p≤(6:Int),c.n<c14,c.m<c14,-(2:Int)^40<c1,c1<(2:Int)^40,(1:Nat)*12≤2^24,(j+1)*((224:Nat)+1)*2≤2^47,c8] (ag [-c6≤c3∧c3<c6] (leaf normal ([c9,c15,c16,c17,int i64 c20,int i64 c3],((147460:Nat),ah.mk true true 12 (j+1) fun i↦if i<j then cL (h i) sB else nth [agg [rat (gr c5 c1 c11 (fun i↦aS (rat (k (i+c3.toNat)) sK)) 0) sB,rat (gr c5 c1 c11 (fun i↦aS (rat (k (i+c3.toNat)) sK)) 1) sB,rat (gr c5 c1 c11 (fun i↦aS (rat (k (i+c3.toNat)) sK)) 2) sB,rat (gr c5 c1 c11 (fun i↦aS (rat (k (i+c3.toNat)) sK)) 3) sB]] (agg [c13,c13,c13,c13]) (i-j+0))::((2:Nat),ah.mk false true 3 1 fun j_1↦if(j_1==0)=true then agg (c19.kids.set 2 (bn (own (nat_lit 147459+1) 12 0 (j+1))))else c19)::c2)))))) (leaf (exit 0) ([c9,c15,c16,c17,int i64 c20,int i64 c12],((3:Nat),ah.mk true true 12 j fun i↦agg [rat (h i).n.x 536870912,rat (h i).n.y 536870912,rat (h i).n.z 536870912,rat (h i).d 536870912])::((2:Nat),ah.mk false true 3 1 fun x↦agg [int i64 c.p,c9,c10])::c2))):=by kernel_rfl
theorem ajH {c:Cu} {n m j:Nat} {k:Nat→Rat} {h:Nat→Pl}:cm T BC [] 60 xJ [part Aa [1,1,1]] ⟨aA yM (Ga n m k j),Ib c n k h j,4⟩=
  let c1:Prop:=0<1;some (ag [c1,c1] (ag [c1] (leaf ret [agg [int i64 c.p,ak 3 n fun i↦rat (k i) 4096,ak 12 j fun i↦agg [rat (h (i+0)).n.x 536870912,rat (h (i+0)).n.y 536870912,rat (h (i+0)).n.z 536870912,rat (h (i+0)).d 536870912]]]))):=by kernel_rfl
theorem abp {c:Cu} {t:Rat}:bF T Qs [] 60 vO (au vO) ⟨aN 0 [eB c 2000 4000,.rat t 2000],[],0⟩=
  some (ag [0<1,0<1,0<1,bG (fun i=>.rat (c.k i) 2000) c.n 2000,2000≤2000,c.n<2^40,bG (fun i=>.rat (c.k i) 2000) c.n sK,lI (fun i=>cL (c.f i) 4000) c.m sK,bG (fun i=>.rat (gA c.k t (fG c.k t c.n) i) 2002) (c.n+1) sK,Kn c.n c.p.toNat c.k,1≤c.p,c.p≤6,c.n<2^40,c.m<2^40,c.n+1<2^29,c.p+1≤(c.n+1:Nat),0<1]
   (ag [0<1] (leaf .ret [eB (rL c t) sK sB]))):=by kernel_rfl
theorem aaW {c:Cu}:aH T Cb [] 60 mR (before mY [1,1,0,1]) ⟨aN 0 [eB c sK sB],[],0⟩=
  let c3:Nat:=sK+10;let c2:Prop:=0<1;let c1:AV:=agg [int i64 (0:Int),nil,nil];some (ag [c2,c2,bG (fun i↦rat (c.k i) sK) c.n sK,c3≤c3,c3<2^40,c.n<2^40,c2] (ag [c2] (leaf normal ([ptr 4096 0 3 0 [],ptr 32768 0 3 0 [],ak 12 c.m fun i↦agg [rat (c.f i).n.x 536870912,rat (c.f i).n.y 536870912,rat (c.f i).n.z 536870912,rat (c.f i).d 536870912],int i64 (↑c.m:Int),int i64 (0:Int)],[((32768:Nat),ah.mk false true 3 1 fun j↦if(j==0)=true then bn (agg ((c1.kids.set 0 (bn (int i64 c.p))).set 1 (bn (bt (fun i↦aS (rat (c.k i) sK)) c.n c3))))else c1),((4096:Nat),ah.mk false true 3 1 fun x↦c1)])))):=by kernel_rfl
theorem ajg {c:Cu} {i:Nat}:aH T Cb [16] 60 mR [part mY [1,1,0,1,0,0]] ⟨aA mR (Gx c i),Er c i,3⟩=
  let c11:Int:=(↑c.m:Int);let c10:AV:=own 2 12 0 i;let c9:AV:=ptr 1 0 3 0 [];let c8:AV:=ptr 0 0 3 0 [];let c7:Prop:=0<1;let c6:Int:=(↑i:Int);let c5:AV:=rat 0 1;let c4:Nat×ah:=((0:Nat),ah.mk false true 3 1 fun x↦agg [int i64 (0:Int),nil,nil]);let c1:AV:=ak 12 c.m fun i↦agg [rat (c.f i).n.x 536870912,rat (c.f i).n.y 536870912,rat (c.f i).n.z 536870912,rat (c.f i).d 536870912];let c12:Int:=c6+(1:Int);let c3:AV:=agg [int i64 c.p,bt c.k c.n (sK+10),c10];let c2:Pl:=c.f c6.toNat;some (fork (decide (c6<c11)) (ag [(0:Int)≤c6∧c6.toNat<c.m,c7] (ag [c7,c7,sB≤sB,sB≤sB,sB≤sB,sB≤sB,(1:Nat)*12≤2^24,(i+1)*((224:Nat)+1)*2≤2^47,c7] (ag [-(2:Int)^63≤c12∧c12<(2:Int)^63] (leaf normal ([c8,c9,c1,int i64 c11,int i64 c12],[((40963:Nat),ah.mk true true 12 (i+1) fun i_1↦if i_1<i then bu (eo (c.f i_1)) (sB+sB)else nth [agg [agg [rat (c2.n.x/c2.d) (sB+sB),rat (c2.n.y/c2.d) (sB+sB),rat (c2.n.z/c2.d) (sB+sB)],rat c2.d (sB+sB)]] (agg [agg [c5,c5,c5],c5]) (i_1-i+0)),((1:Nat),ah.mk false true 3 1 fun j↦if(j==0)=true then agg (c3.kids.set 2 (bn (own (nat_lit 40962+1) 12 0 (i+1))))else c3),c4]))))) (leaf (exit 0) ([c8,c9,c1,int i64 c11,int i64 c6],[((2:Nat),ah.mk true true 12 i fun j↦agg [agg [rat ((c.f j).n.x/(c.f j).d) 1073741824,rat ((c.f j).n.y/(c.f j).d) 1073741824,rat ((c.f j).n.z/(c.f j).d) 1073741824],rat (c.f j).d 1073741824]),((1:Nat),ah.mk false true 3 1 fun x↦agg [int i64 c.p,ak 3 c.n fun i↦rat (c.k i) 4106,c10]),c4]))):=by kernel_rfl
theorem akB {c:Cu} {i:Nat}:cm T Cb [] 60 uH [part mY [1,1,1]] ⟨aA mR (Gx c i),Er c i,3⟩=
  let c1:Prop:=0<1;some (ag [c1,c1] (ag [c1] (leaf ret [agg [int i64 c.p,ak 3 c.n fun i↦rat (c.k i) 4106,ak 12 i fun i↦agg [agg [rat ((c.f (i+0)).n.x/(c.f (i+0)).d) 1073741824,rat ((c.f (i+0)).n.y/(c.f (i+0)).d) 1073741824,rat ((c.f (i+0)).n.z/(c.f (i+0)).d) 1073741824],rat (c.f (i+0)).d 1073741824]]]))):=by kernel_rfl
theorem Kv {k:Nat→Rat} {n:Nat}:∀{f i:Nat},i<n→qk k n f i<n
 |0,_,h=>h
 |f+1,i,h=>by
  unfold qk
  split
  ·exact Kv (by omega)
  ·exact h
theorem Qq {k:Nat→Rat} {n i:Nat} (h:i<n):ej k n i<n:=Kv h
theorem KK {n p:Nat} {k:Nat→Rat} (h:Kn n p k) {t:Rat}:fW n k t<n:=by
 have hl:=h.len
 unfold fW
 split
 ·omega
 ·have:=h.Bm ‹_›
  omega
theorem ai4:aY P BC:=dr (aG xw (aG LD (aG EM (aG NL ga))))
theorem SW {c:Cu} {n:Nat} {k:Nat→Rat} (hk:Kn c.n c.p.toNat c.k) (hp1:1≤c.p) (hp6:c.p≤6) (hn:c.n<2^40) (hm2:c.m<2^40) (hn2:n<2^29) (hpn:c.p+1≤n) (K:Nat):aB P x6 K [eB c sK sK,ls k n] [] (aK (eB (Bn c n k) sK sB) []):=by
 obtain⟨q,hq⟩:∃q,q=c.p.toNat:=⟨_,rfl⟩
 have hqp:c.p=(q:Int):=by omega
 refine gO (r:=aK (eB (Bn c n k) sK sB) []) hT ai4 hm VZ rfl (of_decide_eq_true (by kernel_rfl)) rfl [1,1,0,1] (i:=0) (y:=part Aa [1,1,0,1,0,0]) (z:=part Aa [1,1,1]) (by kernel_rfl) (by kernel_rfl) (by kernel_rfl) (f1:=[]) (f2:=[19]) (f3:=[]) 60 yM 4
  (fun j:Nat=>Ga n (n-c.p.toNat-1) k j) (fun j=>Ib c n k (CJ c n k) j) (fun j=>j≤n-c.p.toNat-1) (fun j=>j=n-c.p.toNat-1) (fun j=>n-c.p.toNat-1-j) (fun _=>⟨⟨_,aaf,?_⟩,fun j hj=>⟨_,ab9,?_⟩,fun j hj=>⟨_,ajH,?_⟩⟩) K []
 ·have e1:(n:Int)-c.p-1=((n-c.p.toNat-1:Nat):Int):=by omega
  simp only[aa.all,ax,e1]
  exact⟨⟨by omega,by omega⟩,⟨by omega,cM (Nat.le_refl _),by omega,by omega,by omega⟩,0,Nat.zero_le _,[(0,0),(1,4096),(2,24576)],rfl,rfl,rfl,mw rfl (by omega) (by omega) (aJ rfl rfl (jd ⟨⟨rfl,aI rfl⟩,⟨rfl,aI rfl⟩,⟨rfl,mo (by omega)⟩,trivial⟩) (aJ rfl rfl (aE rfl rfl) (aJ rfl rfl (aE rfl rfl) trivial)))⟩
 ·have e1:((j:Int)+1).toNat=j+1:=by omega
  have e2:((j:Int)+c.p+1).toNat=j+q+1:=by omega
  have e3:j+q+1-(j+1)=q:=by omega
  simp only[aa.all,ax,decide_eq_true_eq,decide_eq_false_iff_not,Int.toNat_natCast,e1,e2,e3,Nat.add_zero]
  have h7:ej (fun i=>aS (rat (k i) sK)) n j=ej k n j:=rfl
  have h8:∀t,fW c.n (fun i=>aS (rat (c.k i) sK)) t=fW c.n c.k t:=fun _=>rfl
  simp only[h7,h8]
  refine⟨fun h=>?_,fun h=>⟨rfl,j,by omega,[(0,0),(1,1),(2,2),(3,3)],rfl,rfl,rfl,bh rfl rfl rfl (fun _ _=>aE rfl rfl) (aJ rfl rfl (oP rfl rfl rfl) (aJ rfl rfl (aE rfl rfl) (aJ rfl rfl (aE rfl rfl) trivial)))⟩⟩
  have h1:=Qq (k:=k) (n:=n) (i:=j) (by omega)
  have h2:=KK hk (t:=k (ej k n j))
  (repeat' with_reducible refine And.intro ?_ ?_)
  all_goals first|omega|exact cM (Nat.le_refl _)|exact hk|exact fun _ _=>.refl _|skip
  refine⟨j+1,by omega,by dsimp only;omega,[(0,0),(1,1),(2,2),(3,147460)],rfl,rfl,rfl,bh rfl rfl rfl (fun j' hj'=>Av (g:=fun j=>cL (CJ c n k j) sB) (fun _ _=>⟨rfl,rfl⟩) rfl ?_ hj') (aJ rfl rfl (oP rfl rfl rfl) (aJ rfl rfl (aE rfl rfl) (aJ rfl rfl (aE rfl rfl) trivial)))⟩
  exact AJ (h:=l8 c (fW c.n c.k (k (ej k n j))) q (fun q=>k (q+(j+1)))) (by unfold CJ;rw[hq]) (Nat.le_refl _)
 ·subst hj
  simp only[aa.all,ax]
  exact⟨⟨by omega,by omega⟩,by omega,.refl _⟩
theorem agA:∀K args pre r,Pn K args pre=some r→aB P x6 K args pre r:=cU fun⟨c,⟨n,k⟩,_⟩ K hn=>SW hn.1 hn.2.1 hn.2.2.1 hn.2.2.2.1 hn.2.2.2.2.1 hn.2.2.2.2.2.1 hn.2.2.2.2.2.2 K
theorem agt:aY P Qs:=dr (aG (afl (by decide) (by decide)) (aG agA bk))
noncomputable def Pj:Spec:=cQ (kC (qZ 2000 4000) (kC (kO 2000) kN)) (fun a=>eB (rL a.1 a.2.1) sK sB) fun a=>[Kn a.1.n a.1.p.toNat a.1.k,1≤a.1.p,a.1.p≤6,a.1.n<2^28,a.1.m<2^40]
theorem ajL:∀K args pre r,Pj K args pre=some r→aB P Ck K args pre r:=cU fun⟨c,t,_⟩ K hn=>by
 obtain⟨h1,h2,h3,h4,h5⟩:Kn c.n c.p.toNat c.k∧1≤c.p∧c.p≤6∧c.n<2^28∧c.m<2^40:=hn
 have hl:=h1.len
 refine bJ (r:=aK (eB (rL c t) sK sB) []) hT agt hm T0 rfl (of_decide_eq_true (by kernel_rfl)) rfl 60 abp (fun _=>?_) K []
 simp only[aa.all,ax]
 (repeat' with_reducible refine And.intro ?_ ?_)
 all_goals first|omega|exact cM (by decide)|exact h1|exact sS (by decide)|skip
 exact .refl _
theorem ZP:∀K args pre r,N8 K args pre=some r→aB P nY K args pre r:=cU fun⟨h,_⟩ K _=>EH (by decide) (by decide) (by decide) K
theorem Sb:aY P Cb:=dr (aG (HM _ _) (aG ZP bk))
theorem YL {c:Cu} (hn:c.n<2^40) (hm2:c.m<2^29) (K:Nat):aB P pe K [eB c sK sB] [] (aK (cI ⟨c.p,c.n,c.k,c.m,fun i=>eo (c.f i)⟩ (sK+10) (sB+sB)) []):=by
 refine gO (r:=aK (cI ⟨c.p,c.n,c.k,c.m,fun i=>eo (c.f i)⟩ (sK+10) (sB+sB)) []) hT Sb hm Kh rfl (of_decide_eq_true (by kernel_rfl)) rfl [1,1,0,1] (i:=0) (y:=part mY [1,1,0,1,0,0]) (z:=part mY [1,1,1]) (by kernel_rfl) (by kernel_rfl) (by kernel_rfl) (f1:=[]) (f2:=[16]) (f3:=[]) 60 mR 3
  (fun i:Nat=>Gx c i) (fun i=>Er c i) (fun i=>i≤c.m) (fun i=>i=c.m) (fun i=>c.m-i) (fun _=>⟨⟨_,aaW,?_⟩,fun i hi=>⟨_,ajg,?_⟩,fun i hi=>⟨_,akB,?_⟩⟩) K []
 ·simp only[aa.all,ax]
  exact⟨⟨by omega,by omega,cM (Nat.le_refl _),by omega,by decide,by omega,by omega⟩,by omega,0,Nat.zero_le _,[(0,4096),(1,32768)],rfl,rfl,rfl,mw rfl (by omega) (by omega) (aJ rfl rfl (jd ⟨⟨rfl,aI rfl⟩,⟨rfl,aI rfl⟩,⟨rfl,mo (by omega)⟩,trivial⟩) (aJ rfl rfl (aE rfl rfl) trivial))⟩
 ·simp only[aa.all,ax,decide_eq_true_eq,decide_eq_false_iff_not,Int.toNat_natCast,Nat.add_zero]
  refine⟨fun h=>?_,fun h=>⟨rfl,i,by omega,[(0,0),(1,1),(2,2)],rfl,rfl,rfl,bh rfl rfl rfl (fun _ _=>aE rfl rfl) (aJ rfl rfl (oP rfl rfl rfl) (aJ rfl rfl (aE rfl rfl) trivial))⟩⟩
  (repeat' with_reducible refine And.intro ?_ ?_)
  all_goals first|omega|exact Nat.le_refl _|skip
  exact⟨i+1,by omega,by dsimp only;omega,[(0,0),(1,1),(2,40963)],rfl,rfl,rfl,bh rfl rfl rfl (fun j hj=>Av (g:=fun j=>bu (eo (c.f j)) (sB+sB)) (fun _ _=>⟨rfl,rfl⟩) rfl (.refl _) hj) (aJ rfl rfl (oP rfl rfl rfl) (aJ rfl rfl (aE rfl rfl) trivial))⟩
 ·subst hi
  simp only[aa.all,ax]
  exact⟨⟨by omega,by omega⟩,by omega,.refl _⟩
def Qb:Spec:=cQ (kC (qZ sK sB) kN) (fun a=>cI ⟨a.1.p,a.1.n,a.1.k,a.1.m,fun i=>eo (a.1.f i)⟩ (sK+10) (sB+sB)) fun a=>[a.1.n<2^40,a.1.m<2^29]
theorem Vd:∀K args pre r,Qb K args pre=some r→aB P pe K args pre r:=cU fun⟨c,_⟩ K hn=>YL hn.1 hn.2 K
end Go.Am.B

/- curve.inner, curve.Insert. -/
namespace Go.Am.B
open Go Go.Am.N AV aa aj IntKind
theorem adp:aO P Cs wJ (au wJ):=aQ ajt (by kernel_rfl) (by kernel_rfl) (by kernel_rfl)
theorem Pv:aO P uY zN (au zN):=aQ YB (by kernel_rfl) (by kernel_rfl) (by kernel_rfl)
noncomputable def I0:aR:=nG::(vf,Bv)::fI
def NN:Spec:=cQ (kC (jF 2000 2000) (kC (kO 2000) kN)) (fun a=>.bool (decide (a.1.k 0<a.2.1)&&decide (a.2.1<a.1.k (a.1.n-1)))) fun a=>[dy a.1]
def II:Spec:=cQ (kC (jF 2000 2000) kN) (fun a=>eB ⟨a.1.p,a.1.n,a.1.k,a.1.m,fun i=>cF (a.1.f i)⟩ 2000 4000) fun a=>[a.1.n<2^40,a.1.m<2^30]
noncomputable def KY:aR:=nG::(Cs,NN)::(sj,EG)::(ot,II)::(Ck,Pj)::(pe,Qb)::[]
def dw (c:Cu) (t:Rat):Int:=if¬(c.k 0<t∧t<c.k (c.n-1))then 7 else if c.p≤(bT c.k t c.n:Int)then 5 else if 40≤c.m then 2 else 0
def FY (c:Cu) (t:Rat):Cu:=⟨c.p,c.n+1,gA c.k t (fG c.k t c.n),c.n+1-c.p.toNat-1,fun i=>eo ((rL ⟨c.p,c.n,c.k,c.m,fun i=>cF (c.f i)⟩ t).f i)⟩
def qP:Cu:=⟨0,0,fun _=>0,0,fun _=>⟨⟨0,0,0⟩,0⟩⟩
def AT (c:Cu) (t:Rat):Cu:=if dw c t=0 then FY c t else qP
theorem XA {c:Cu} {t:Rat}:bF T I0 [16] 60 wJ (au wJ) ⟨aN 0 [cI c 2000 2000,.rat t 2000],[],0⟩=
  let c9:Prop:=eI (fun i↦bu (c.f i) 2000) c.m sJ;let c8:Prop:=bG (fun i↦rat (c.k i) 2000) c.n sJ;let c7:Prop:=(0:Int)≤(0:Int)∧Int.toNat (0:Int)<c.n;let c5:Prop:=dy (Cu.mk c.p c.n (fun i↦aS (rat (c.k i) 2000)) c.m fun i↦dL (bu (c.f i) 2000));let c4:Int:=(↑c.n:Int)-(1:Int);let c3:Prop:=0<1;let c2:Int:=fe (c.k (Int.toNat (0:Int))) t;let c1:Prop:=2000<2^42;let c6:Bool:=bif true then decide (c2<(0:Int))else false;some (fork c6 (ag [c3,c8,c9,c5,c3,c7,c3,c1,c1,c6=true,c3,c3,c3,-(2:Int)^63≤c4∧c4<(2:Int)^63,(0:Int)≤c4∧c4.toNat<c.n,c1,c1] (leaf ret [AV.bool (bif true then decide (fe t (c.k c4.toNat)<(0:Int))else false)])) (ag [c3,c8,c9,c5,c3,c7,c3,c1,c1,c6=false] (leaf ret [AV.bool false]))):=by kernel_rfl
theorem O4 {c:Cu} {t:Rat}:bF T KY [6,12,21] 60 zN (au zN) ⟨aN 0 [cI c 2000 2000,.rat t 2000],[],0⟩=
  let no:Int→aa (List AV):=fun e=>ag [0<1] (ag [0<1] (leaf .ret [.agg [.int .i64 0,.nil,.nil],.int .i64 e]));let k:Prop:=bG (fun i=>.rat (c.k i) 2000) c.n 2000;let f:Prop:=eI (fun i=>bu (c.f i) 2000) c.m 2000
  some (ag [0<1,0<1,k,f,2000≤2000,dy c] (fork (!(decide (c.k 0<t)&&decide (t<c.k (c.n-1)))) (no 7) (ag [0<1,0<1,bG (fun i=>.rat (c.k i) 2000) c.n sK,2000≤sK,c.n<2^40,0<1] (fork (decide ((bT c.k t c.n:Int)≥c.p)) (no 5) (ag [0<1] (fork (decide ((c.m:Int)≥40)) (no 2)
   (ag [0<1,k,f,c.n<2^40,c.m<2^30,0<1,k,lI (fun i=>cL (cF (c.f i)) 4000) c.m 4000,2000≤2000,Kn c.n c.p.toNat c.k,1≤c.p,c.p≤6,c.n<2^28,c.m<2^40,bG (fun i=>.rat (gA c.k t (fG c.k t c.n) i) sK) (c.n+1) sK,lI (fun i=>cL ((rL ⟨c.p,c.n,c.k,c.m,fun i=>cF (c.f i)⟩ t).f i) sB) (c.n+1-c.p.toNat-1) sB,c.n+1<2^40,c.n+1-c.p.toNat-1<2^29,0<1] (ag [0<1] (leaf .ret [cI (FY c t) (sK+10) (sB+sB),.int .i64 0]))))))))):=by kernel_rfl
theorem ae4:aY P I0:=dr (aG Fa ga)
theorem afS {a b:Rat}:fe a b<(0:Int)↔a<b:=oZ
theorem Rv:∀K args pre r,NN K args pre=some r→aB P Cs K args pre r:=cU fun⟨c,t,_⟩ K hn=>by
 have hc:dy c:=hn
 obtain⟨h1,h2,h3,h4,h5⟩:=id hc
 have hl:=h1.len
 refine bJ (r:=aK (.bool (decide (c.k 0<t)&&decide (t<c.k (c.n-1)))) []) hT ae4 hm adp rfl (of_decide_eq_true (by kernel_rfl)) rfl 60 XA (fun _=>?_) K []
 have e1:((c.n:Int)-1).toNat=c.n-1:=by omega
 simp only[aa.all,ax,e1,Int.toNat_zero,cond_true,cond_false,decide_eq_true_eq,decide_eq_false_iff_not,afS]
 refine⟨fun h=>?_,fun h=>?_⟩
 ·(repeat' with_reducible refine And.intro ?_ ?_)
  all_goals first|omega|exact cM (by decide)|exact jO (by decide)|exact hc|exact h|decide|skip
  exact fV (by rw[decide_eq_true h,Bool.true_and])
 ·(repeat' with_reducible refine And.intro ?_ ?_)
  all_goals first|omega|exact cM (by decide)|exact jO (by decide)|exact hc|exact h|decide|skip
  exact fV (by rw[decide_eq_false h,Bool.false_and])
theorem N3:∀K args pre r,II K args pre=some r→aB P ot K args pre r:=cU fun⟨c,_⟩ K hn=>J0 (by decide) (by decide) (by decide) hn.1 hn.2 K
theorem Mj:aY P KY:=dr (aG Rv (aG QV (aG N3 (aG ajL (aG Vd bk)))))
theorem HG {x y:Nat}:bB (.agg [.int .i64 0,.nil,.nil]) (cI qP x y):=dn ⟨.refl _,kT (by decide),kT (by decide),trivial⟩
def K2:Spec:=cQ (kC (jF 2000 2000) (kC (kO 2000) kN)) (fun a=>.tuple [cI (AT a.1 a.2.1) (sK+10) (sB+sB),.int .i64 (dw a.1 a.2.1)]) fun a=>[dy a.1]
theorem Vo:∀K args pre r,K2 K args pre=some r→aB P uY K args pre r:=cU fun⟨c,t,_⟩ K hn=>by
 have hc:dy c:=hn
 obtain⟨h1,h2,h3,h4,h5⟩:=id hc
 have hl:=h1.len
 refine bJ (r:=aK (.tuple [cI (AT c t) (sK+10) (sB+sB),.int .i64 (dw c t)]) []) hT Mj hm Pv rfl (of_decide_eq_true (by kernel_rfl)) rfl 60 O4 (fun _=>?_) K []
 have no:∀{e:Int},dw c t=e→e≠0→dX [.agg [.int .i64 0,.nil,.nil],.int .i64 e] (.tuple [cI (AT c t) (sK+10) (sB+sB),.int .i64 (dw c t)]):=fun {e} he h0=>by
  refine⟨?_,bw he.symm,trivial⟩
  rw[show AT c t=qP from if_neg (by rw[he];exact h0)]
  exact HG
 simp only[aa.all,ax,decide_eq_true_eq,decide_eq_false_iff_not,Bool.not_eq_true',Bool.not_eq_false',Bool.and_eq_true,Bool.and_eq_false_iff]
 refine⟨⟨by omega,by omega,cM (Nat.le_refl _),jO (Nat.le_refl _),Nat.le_refl _,hc⟩,fun ho=>⟨by omega,by omega,no ?_ (by decide)⟩,fun hi=>⟨?_,fun h6=>⟨by omega,by omega,no ?_ (by decide)⟩,fun h6=>⟨by omega,fun h7=>⟨by omega,by omega,no ?_ (by decide)⟩,fun h7=>⟨?_,by omega,?_⟩⟩⟩⟩
 ·unfold dw;rw[if_pos fun h=>ho.elim (fun g=>g h.1) fun g=>g h.2]
 ·exact⟨by omega,by omega,cM (by decide),by decide,by omega,by omega⟩
 ·unfold dw;rw[if_neg (fun g=>g hi),if_pos h6]
 ·unfold dw;rw[if_neg (fun g=>g hi),if_neg h6,if_pos (by omega)]
 ·(repeat' with_reducible refine And.intro ?_ ?_)
  all_goals first|omega|exact cM (by decide)|exact jO (Nat.le_refl _)|exact sS (Nat.le_refl _)|exact h1|exact Nat.le_refl _|skip
 ·have he:dw c t=0:=by unfold dw;rw[if_neg (fun g=>g hi),if_neg h6,if_neg (by omega)]
  refine⟨?_,bw he.symm,trivial⟩
  rw[show AT c t=FY c t from if_pos he]
  exact .refl _
end Go.Am.B

/- rational.Valid, rational.Bits; the closures of curve.Check; slices.Clone, curve.numbers, curve.Check. -/
namespace Go.Am.B
open Go Go.Am.N AV aa aj IntKind
theorem Zt:aO P xC wB (au wB):=aQ Sx (by kernel_rfl) (by kernel_rfl) (by kernel_rfl)
theorem adA:aO P AP Ae (au Ae):=aQ So (by kernel_rfl) (by kernel_rfl) (by kernel_rfl)
theorem adn:aO P y6 wz (au wz):=aQ ajz (by kernel_rfl) (by kernel_rfl) (by kernel_rfl)
theorem akZ:aO P p9 Bo (au Bo):=aQ To (by kernel_rfl) (by kernel_rfl) (by kernel_rfl)
theorem adP:aO P iU z7 (au z7):=aQ Tt (by kernel_rfl) (by kernel_rfl) (by kernel_rfl)
theorem Ze:aO P gv yt (au yt):=aQ WH (by kernel_rfl) (by kernel_rfl) (by kernel_rfl)
theorem agz:aO P iy wP (au wP):=aQ ad7 (by kernel_rfl) (by kernel_rfl) (by kernel_rfl)
theorem Je:aO P zP v7 (au v7):=aQ SR (by kernel_rfl) (by kernel_rfl) (by kernel_rfl)
theorem aaX:aO P zT x3 (au x3):=aQ UT (by kernel_rfl) (by kernel_rfl) (by kernel_rfl)
theorem aau:aO P CW As (au As):=aQ Yw (by kernel_rfl) (by kernel_rfl) (by kernel_rfl)
theorem Ss:aO P Dm vW (au vW):=aQ Xj (by kernel_rfl) (by kernel_rfl) (by kernel_rfl)
theorem ac3:aO P zE xd (au xd):=aQ XI (by kernel_rfl) (by kernel_rfl) (by kernel_rfl)
theorem RZ:aO P Bt zI (au zI):=aQ ac6 (by kernel_rfl) (by kernel_rfl) (by kernel_rfl)
def Qj:Spec:=bC fun l=>match l with
 |[.mag N]=>some (aK (.bool true) [nl N<2^40])
 |_=>none
def GC:aR:=nG::(xC,Qj)::(uu,bC (kW Hx))::(s7,bC (gP Ht))::(uV,F9)::[]
def QO:Spec:=bC fun l=>match l with
 |[.rat q n]=>some (aK (.bool true) [n<2^44])
 |_=>none
def JE:Spec:=bC fun l=>match l with
 |[.rat q n]=>some (aK (.int .i64 (ct q:Nat)) [n<2^44])
 |_=>none
def B6:Spec:=bC fun l=>match l with
 |[.rat q n]=>some (aK (.bool false) [n≤2048])
 |_=>none
def C8:aR:=nG::(AP,QO)::(y6,JE)::fI
def ahC (s:Nat):Kind Pl:=⟨fun v=>match DS v with
 |some (a,q)=>some (a.1,q++[a.2≤s])
 |none=>none,fun a=>bu a s,fun {v a q} h hq=>by
  split at h
  ·rename_i b q' hb
   simp only[Option.some.injEq,Prod.mk.injEq]at h
   obtain⟨rfl,rfl⟩:=h
   obtain⟨q1,q2⟩:=dG.1 hq
   refine bB.trans (kPl.ok hb q1) ?_
   show bB (bu b.1 b.2) (bu b.1 s)
   exact dn ⟨dn ⟨fC q2,fC q2,fC q2,trivial⟩,fC q2,trivial⟩
  ·simp at h⟩
def KD:Spec:=cQ (kC (ahC 2048) kN) (fun _=>.bool false) fun a=>[0<a.1.d]
def BH:Kind FuncId:=⟨fun v=>match v with
 |.func f []=>some (f,[])
 |_=>none,fun g=>.func g [],fun {v a q} h _=>by
  split at h
  ·simp only[Option.some.injEq,Prod.mk.injEq]at h
   obtain⟨rfl,rfl⟩:=h
   exact .refl _
  ·simp at h⟩
noncomputable def GX:aR:=nG::(iU,B6)::(iy,B6)::(gv,KD)::[]
abbrev jZ:List Nat:=[4,0,1,7,8]
abbrev zS (n i:Nat) (k:Nat→Rat) (g:FuncId):List AV:=[.int .i64 0,bt k n 2048,.func g [],.int .i64 n,.int .i64 i]
abbrev E0 (n i:Nat) (f:Nat→Pl) (g:FuncId):List AV:=[.int .i64 0,gV f n 2048,.func g [],.int .i64 n,.int .i64 i]
noncomputable abbrev pS:Code:=au v7
noncomputable abbrev vG:Code:=au x3
noncomputable def Qe:Spec:=cQ (kC (kL 2048) (kC BH kN)) (fun _=>.int .i64 (-1)) fun a=>[a.1.1<2^40,a.2.1=iU∨a.2.1=iy]
noncomputable def L5:Spec:=cQ (kC (kL 2048) (kC BH kN)) (fun _=>.bool false) fun a=>[a.1.1<2^40,a.2.1=iU∨a.2.1=iy]
noncomputable def GY:aR:=nG::(zP,Qe)::[]
def D8:Spec:=sN fun K l=>match l with
 |[v]=>match(kL 2048).read v with
  |some ((n,k),q)=>some ⟨.own K 3 0 n,[(K,⟨true,true,3,n,fun i=>.rat (k i) 2048⟩)],q++[1≤n,n<2^30]⟩
  |none=>none
 |_=>none
def j3 (c:Cu) (j:Nat):Rat:=if j<c.n then c.k j else fz (c.f ((j-c.n)/4)) ((j-c.n)%4)
def Ch:aR:=nG::(p9,D8)::[]
abbrev xg:List Nat:=[2,3,10,11,12]
abbrev Gh (c:Cu) (i:Nat):List AV:=[.nil,.own 0 3 0 (c.n+4*i),gV c.f c.m 2048,.int .i64 c.m,.int .i64 i]
abbrev HN (c:Cu) (i:Nat):aC:=[(0,⟨true,true,3,c.n+4*i,fun j=>.rat (j3 c j) 2048⟩)]
noncomputable abbrev yN:Code:=au xd
def Ll:Spec:=cQ (kC (jF 2048 2048) kN) (fun a=>bt (j3 a.1) (a.1.n+4*a.1.m) 2048) fun a=>[1≤a.1.n,a.1.n<2^30,a.1.m<2^28]
theorem Zc {N:Nat}:bF T [nG] [6] 60 wB (au wB) ⟨aN 0 [.mag N],[],0⟩=
  let c2:Bool:=(↑(nl N):Int)==(0:Int);let c1:Int:=(↑(nl N):Int)-(1:Int);some (fork c2 (ag [c2=true] (leaf ret [AV.bool true])) (ag [c2=false,-(2:Int)^63≤c1∧c1<(2:Int)^63,(0:Int)≤c1∧c1.toNat<nl N] (leaf ret [AV.bool (bif false then true else(↑(az N c1.toNat):Int)!=(0:Int))]))):=by kernel_rfl
theorem ak8 {q:Rat} {n:Nat}:bF T GC [18,25,29,33,43] 60 Ae (au Ae) ⟨aN 0 [.rat q n],[],0⟩=
  let c9:aa (List AV):=leaf ret [AV.bool false];let c7:Bool:=!decide (q<0);let c6:Nat:=q.num.natAbs;let c4:Nat:=2^40;let c3:Prop:=0<1;let c2:Nat:=if q.den=1 then 0 else q.den;let c5:Int:=(↑(nl c2):Int);let c10:Bool:=c5==(1:Int);let c8:Bool:=c5==(0:Int);let c1:aa (List AV):=ag [c3] (fork ((↑(nl c6):Int)==(0:Int)) (fork c7 (ag [c3,c7=true,c3] (leaf ret [AV.bool (bif true then c8 else false)])) (ag [c3,c7=false] c9)) (fork c8 (ag [c3,c8=true] (leaf ret [AV.bool true])) (ag [c3,c8=false,c3,c3,nl c6<c4,nl c2<c4,nl (c6.gcd c2)<c4] (leaf ret [AV.bool (bif false then true else(↑(br (c6.gcd c2)):Int)==(1:Int))]))));some (fork c10 (ag [c3,nl c6<c4,c3,nl c2<c4,c3,c10=true,c3,(0:Int)≤(0:Int)∧Int.toNat (0:Int)<nl c2] (fork (bif bif !true then true else !true then true else bif true then(↑(az c2 (Int.toNat (0:Int))):Int)==(1:Int)else false) c9 c1)) (ag [c3,nl c6<c4,c3,nl c2<c4,c3,c10=false] (fork false c9 c1))):=by kernel_rfl
theorem ah0 {q:Rat} {n:Nat}:bF T GC [] 60 wz (au wz) ⟨aN 0 [.rat q n],[],0⟩=
  let c2:Int:=(↑(br q.den):Int);let c1:Int:=(↑(br q.num.natAbs):Int);some (ag [(0:Nat)<1,nl q.num.natAbs<2^40,(0:Nat)<1,nl q.den<2^40] (leaf ret [int i64 (if c1<c2 then c2 else c1)])):=by kernel_rfl
theorem aiY {q:Rat} {n:Nat}:bF T C8 [] 60 z7 (au z7) ⟨aN 0 [.rat q n],[],0⟩=
  some (ag [(0:Nat)<1,n<2^44] (leaf ret [AV.bool false])):=by kernel_rfl
theorem VH {q:Rat} {n:Nat}:bF T C8 [] 60 wP (au wP) ⟨aN 0 [.rat q n],[],0⟩=
  some (ag [(0:Nat)<1,n<2^44] (leaf ret [AV.bool (decide ((↑(ct q):Int)>(2048:Int)))])):=by kernel_rfl
theorem RK {p:Pl}:bF T C8 [] 60 yt (au yt) ⟨aN 0 [bu p 2048],[],0⟩=
  some (ag [(0:Nat)<1,(2048:Nat)<2^42] (leaf ret [AV.bool (decide (eG p.d≤(0:Int)))])):=by kernel_rfl
theorem acT {n s:Nat} {k:Nat→Rat}:aH T [nG] [] 60 [2] [au Bo] ⟨aN 0 [.dx false 3 n (fun i=>.rat (k i) s)],[],0⟩=
  some (ag [(0:Nat)*3≤2^24,((0:Nat)+n)*((56:Nat)+1)*2≤2^47] (leaf ret ([own 20480 3 0 ((0:Nat)+n)],[((20480:Nat),ah.mk true true 3 ((0:Nat)+n) fun i↦rat (k (i-0)) s)]))):=by kernel_rfl
theorem N6 {n:Nat} {k:Nat→Rat} {g:FuncId}:aH T GX [] 60 jZ (before pS [1,0,1]) ⟨aN 0 [bt k n 2048,.func g []],[],0⟩=
  some (leaf normal ([int i64 (0:Int),ak 3 n fun i↦rat (k i) 2048,func g [],int i64 (↑n:Int),int i64 (0:Int)],[])):=by kernel_rfl
theorem V0 {n i:Nat} {k:Nat→Rat}:aH T GX [9] 60 jZ [part pS [1,0,1,0,0]] ⟨aA jZ (zS n i k iU),[],0⟩=
  let c4:Int:=(↑n:Int);let c2:AV:=ak 3 n fun i↦rat (k i) 2048;let c1:Int:=(↑i:Int);let c3:Int:=c1+(1:Int);some (fork (decide (c1<c4)) (ag [(0:Int)≤c1∧c1.toNat<n,(2048:Nat)≤2048] (ag [-(2:Int)^63≤c3∧c3<(2:Int)^63] (leaf normal ([int i64 (0:Int),c2,func iU [],int i64 c4,int i64 c3],[])))) (leaf (exit 0) ([int i64 (0:Int),c2,func iU [],int i64 c4,int i64 c1],[]))):=by kernel_rfl
theorem U9 {n i:Nat} {k:Nat→Rat}:aH T GX [9] 60 jZ [part pS [1,0,1,0,0]] ⟨aA jZ (zS n i k iy),[],0⟩=
  let c4:Int:=(↑n:Int);let c2:AV:=ak 3 n fun i↦rat (k i) 2048;let c1:Int:=(↑i:Int);let c3:Int:=c1+(1:Int);some (fork (decide (c1<c4)) (ag [(0:Int)≤c1∧c1.toNat<n,(2048:Nat)≤2048] (ag [-(2:Int)^63≤c3∧c3<(2:Int)^63] (leaf normal ([int i64 (0:Int),c2,func iy [],int i64 c4,int i64 c3],[])))) (leaf (exit 0) ([int i64 (0:Int),c2,func iy [],int i64 c4,int i64 c1],[]))):=by kernel_rfl
theorem Ok {n i:Nat} {k:Nat→Rat} {g:FuncId}:cm T GX [] 60 v7 [part pS [1,1]] ⟨aA jZ (zS n i k g),[],0⟩=
  some (leaf ret [int i64 (-1:Int)]):=by kernel_rfl
theorem aeg {n:Nat} {f:Nat→Pl}:aH T GX [] 60 jZ (before vG [1,0,1]) ⟨aN 0 [gV f n 2048,.func gv []],[],0⟩=
  some (leaf normal ([int i64 (0:Int),ak 12 n fun i↦agg [agg [rat (f i).n.x 2048,rat (f i).n.y 2048,rat (f i).n.z 2048],rat (f i).d 2048],func gv [],int i64 (↑n:Int),int i64 (0:Int)],[])):=by kernel_rfl
theorem aiB {n i:Nat} {f:Nat→Pl}:aH T GX [9] 60 jZ [part vG [1,0,1,0,0]] ⟨aA jZ (E0 n i f gv),[],0⟩=
  let c5:Int:=(↑n:Int);let c3:Prop:=2048≤2048;let c2:Int:=(↑i:Int);let c1:AV:=ak 12 n fun i↦agg [agg [rat (f i).n.x 2048,rat (f i).n.y 2048,rat (f i).n.z 2048],rat (f i).d 2048];let c4:Int:=c2+(1:Int);some (fork (decide (c2<c5)) (ag [(0:Int)≤c2∧c2.toNat<n,c3,c3,Max.max 2048 2048≤2048,(0:Rat)<(f c2.toNat).d] (ag [-(2:Int)^63≤c4∧c4<(2:Int)^63] (leaf normal ([int i64 (0:Int),c1,func gv [],int i64 c5,int i64 c4],[])))) (leaf (exit 0) ([int i64 (0:Int),c1,func gv [],int i64 c5,int i64 c2],[]))):=by kernel_rfl
theorem ace {n i:Nat} {f:Nat→Pl}:cm T GX [] 60 x3 [part vG [1,1]] ⟨aA jZ (E0 n i f gv),[],0⟩=
  some (leaf ret [int i64 (-1:Int)]):=by kernel_rfl
theorem acO {n:Nat} {k:Nat→Rat} {g:FuncId}:bF T GY [] 60 As (au As) ⟨aN 0 [bt k n 2048,.func g []],[],0⟩=
  some (ag [bG (fun i↦rat (k i) 2048) n 2048,n<2^40,g=iU∨g=iy] (leaf ret [AV.bool false])):=by kernel_rfl
theorem ajJ {c:Cu}:aH T Ch [] 60 xg (before yN [1,1,0,1]) ⟨aN 0 [cI c 2048 2048],[],0⟩=
  some (ag [(0:Nat)<1,bG (fun i↦rat (c.k i) 2048) c.n 2048,(1:Nat)≤c.n,c.n<2^30] (ag [(0:Nat)<1] (leaf normal ([nil,own 16384 3 0 c.n,ak 12 c.m fun i↦agg [agg [rat (c.f i).n.x 2048,rat (c.f i).n.y 2048,rat (c.f i).n.z 2048],rat (c.f i).d 2048],int i64 (↑c.m:Int),int i64 (0:Int)],[((16384:Nat),ah.mk true true 3 c.n fun i↦rat (aS (rat (c.k i) 2048)) 2048)])))):=by kernel_rfl
theorem akx {c:Cu} {i:Nat}:aH T Ch [13] 60 xg [part yN [1,1,0,1,0,0]] ⟨aA xg (Gh c i),HN c i,1⟩=
  let c7:Int:=(↑c.m:Int);let c5:Int:=(↑(3:Nat):Int);let c4:Prop:=0<1;let c3:Int:=(↑i:Int);let c2:Nat:=c.n+4*i;let c1:AV:=ak 12 c.m fun i↦agg [agg [rat (c.f i).n.x 2048,rat (c.f i).n.y 2048,rat (c.f i).n.z 2048],rat (c.f i).d 2048];let c9:Nat:=c2+4;let c8:Int:=c3+(1:Int);let c6:Pl:=c.f c3.toNat;some (fork (decide (c3<c7)) (ag [(0:Int)≤c3∧c3.toNat<c.m,c4] (ag [(0:Int)≤(0:Int)∧(0:Int)<c5,c4,(0:Int)≤(1:Int)∧(1:Int)<c5,c4,(0:Int)≤(2:Int)∧(2:Int)<c5,c4,c4,(4:Nat)*3≤2^24,c9*((56:Nat)+1)*2≤2^47] (ag [-(2:Int)^63≤c8∧c8<(2:Int)^63] (leaf normal ([nil,own 73729 3 0 c9,c1,int i64 c7,int i64 c8],[((73729:Nat),ah.mk true true 3 c9 fun i↦if i<c2 then rat (j3 c i) 2048 else nth [rat c6.n.x 2048,rat c6.n.y 2048,rat c6.n.z 2048,rat c6.d 2048] (rat 0 1) (i-c2+0))]))))) (leaf (exit 0) ([nil,own 0 3 0 c2,c1,int i64 c7,int i64 c3],[((0:Nat),ah.mk true true 3 c2 fun j↦rat (j3 c j) 2048)]))):=by kernel_rfl
theorem RP {c:Cu} {i:Nat}:cm T Ch [] 60 xd [part yN [1,1,1]] ⟨aA xg (Gh c i),HN c i,1⟩=
  some (leaf ret [ak 3 (c.n+4*i) fun i↦rat (j3 c (i+0)) 2048]):=by kernel_rfl
theorem adG {N:Nat} (hn:nl N<2^40) (K:Nat):aB P xC K [.mag N] [] (aK (.bool true) []):=by
 refine bJ hT (dr bk) hm Zt rfl (of_decide_eq_true (by kernel_rfl)) rfl 60 Zc (fun _=>?_) K []
 simp only[aa.all,ax]
 refine⟨fun h=>⟨h,.refl _⟩,fun h=>?_⟩
 have h0:nl N≠0:=fun he=>by rw[he]at h;exact absurd h (by decide)
 have h1:N≠0:=fun he=>h0 (iJ.2 he)
 have e1:((nl N:Int)-1).toNat=nl N-1:=by omega
 have h2:=Cm h1
 rw[e1]
 refine⟨⟨h,by omega,by omega⟩,fV ?_⟩
 rw[cond_false]
 exact bne_iff_ne.2 (by omega)
theorem TD:∀K args pre r,Qj K args pre=some r→aB P xC K args pre r:=by
 refine bV fun K args r hk hs _=>?_
 split at hs
 ·simp only[Option.some.injEq]at hs
  subst hs
  exact fun need=>adG need K trivial
 ·simp at hs
theorem Rc:aY P GC:=dr (aG TD (aG Rb (aG OY (aG Nh bk))))
theorem ajZ {N:Nat} (h:nl N=1) (h1:az N 0=1):N=1:=by
 have h2:N<2^(32*1):=cT.1 (by omega)
 unfold az at h1
 omega
theorem aes {q:Rat} {n:Nat} (hn:n<2^44) (K:Nat):aB P AP K [.rat q n] [] (aK (.bool true) []):=by
 refine jj fun⟨hs1,_⟩=>?_
 obtain⟨a1,a2,a3⟩:=Sz.iK hs1 hn
 refine bJ hT Rc hm adA rfl (of_decide_eq_true (by kernel_rfl)) rfl 60 ak8 (fun _=>?_) K []
 obtain⟨D,hD⟩:∃D,D=if q.den=1 then 0 else q.den:=⟨_,rfl⟩
 have hD1:D≠1:=by rw[hD];split<;>omega
 have hg:D≠0→q.num.natAbs.gcd D=1:=fun h=>by
  have:D=q.den:=by rw[hD]at h ⊢;split<;>simp_all
  rw[this];exact q.reduced
 have hz:q.num.natAbs=0→¬q<0∧D=0:=fun h=>by
  have h0:=pV.1 h
  subst h0
  exact⟨by decide,by rw[hD];rfl⟩
 rw[←hD]at a3 ⊢
 have nneg:((nl q.num.natAbs:Int)==0)=true→(!decide (q<0))=true∧((nl D:Int)==0)=true:=fun h=>by
  obtain⟨z1,z2⟩:=hz (iJ.1 (by have:=beq_iff_eq.1 h;omega))
  rw[decide_eq_false z1,z2];exact⟨rfl,rfl⟩
 have last:((nl D:Int)==0)=false→D≠0:=fun h he=>by rw[he]at h;exact absurd h (by decide)
 simp only[aa.all,ax,cond_true,cond_false,Bool.not_true]
 refine⟨fun h=>⟨⟨by omega,a1,by omega,a3,by omega,h,by omega,by omega,?_⟩,fun h2=>?_,fun h2=>⟨by omega,fun h3=>⟨fun h4=>⟨⟨by omega,h4,by omega⟩,fV (nneg h3).2⟩,fun h4=>absurd (h4.symm.trans (nneg h3).1) (by decide)⟩,fun h3=>⟨fun h4=>⟨⟨by omega,h4⟩,.refl _⟩,fun h4=>?_⟩⟩⟩,
  fun h=>⟨⟨by omega,a1,by omega,a3,by omega,h⟩,fun h=>absurd h (by decide),fun _=>⟨by omega,fun h3=>⟨fun h4=>⟨⟨by omega,h4,by omega⟩,fV (nneg h3).2⟩,fun h4=>absurd (h4.symm.trans (nneg h3).1) (by decide)⟩,fun h3=>⟨fun h4=>⟨⟨by omega,h4⟩,.refl _⟩,fun h4=>?_⟩⟩⟩⟩
 ·have:=beq_iff_eq.1 h
  rw[Int.toNat_zero];omega
 ·have e1:=beq_iff_eq.1 h
  have e2:=beq_iff_eq.1 h2
  exact absurd (ajZ (by omega) (by rw[Int.toNat_zero]at e2;omega)) hD1
 ·rw[hg (last h4)]
  exact⟨⟨by omega,h4,by omega,by omega,a1,a3,by decide⟩,fV (by decide)⟩
 ·rw[hg (last h4)]
  exact⟨⟨by omega,h4,by omega,by omega,a1,a3,by decide⟩,fV (by decide)⟩
theorem XV:∀K args pre r,QO K args pre=some r→aB P AP K args pre r:=by
 refine bV fun K args r hk hs _=>?_
 split at hs
 ·simp only[Option.some.injEq]at hs
  subst hs
  exact fun need=>aes need K trivial
 ·simp at hs
theorem YX {q:Rat} {n:Nat} (hn:n<2^44) (K:Nat):aB P y6 K [.rat q n] [] (aK (.int .i64 (ct q:Nat)) []):=by
 refine jj fun⟨hs1,_⟩=>?_
 obtain⟨a1,a2,a3⟩:=Sz.iK hs1 hn
 refine bJ hT Rc hm adn rfl (of_decide_eq_true (by kernel_rfl)) rfl 60 ah0 (fun _=>?_) K []
 simp only[aa.all,ax]
 refine⟨⟨by omega,a1,by omega,a2⟩,bw ?_⟩
 unfold ct
 split<;>omega
theorem SD:∀K args pre r,JE K args pre=some r→aB P y6 K args pre r:=by
 refine bV fun K args r hk hs _=>?_
 split at hs
 ·simp only[Option.some.injEq]at hs
  subst hs
  exact fun need=>YX need K trivial
 ·simp at hs
theorem Im:aY P C8:=dr (aG XV (aG SD ga))
theorem ahz:∀K args pre r,B6 K args pre=some r→aB P iU K args pre r:=by
 refine bV fun K args r hk hs _=>?_
 split at hs
 ·rename_i q n
  simp only[Option.some.injEq]at hs
  subst hs
  intro need
  have hn:n≤2048:=need
  refine bJ (r:=aK (.bool false) [n≤2048]) hT Im hm adP rfl (of_decide_eq_true (by kernel_rfl)) rfl 60 aiY (fun _=>?_) K [] need
  simp only[aa.all,ax]
  (repeat' with_reducible refine And.intro ?_ ?_)
  all_goals first|omega|exact .refl _|skip
 ·simp at hs
theorem abn:∀K args pre r,B6 K args pre=some r→aB P iy K args pre r:=by
 refine bV fun K args r hk hs _=>?_
 split at hs
 ·rename_i q n
  simp only[Option.some.injEq]at hs
  subst hs
  intro need
  have hn:n≤2048:=need
  refine(jj (P:=P) (f:=iy) (K:=K) (args:=[.rat q n]) (pre:=[]) (v:=.bool false) (l:=[n≤2048]) fun⟨hs1,_⟩=>?_) need
  have h1:=afr.1 hs1
  refine bJ (r:=aK (.bool false) [n≤2048]) hT Im hm agz rfl (of_decide_eq_true (by kernel_rfl)) rfl 60 VH (fun _=>?_) K []
  simp only[aa.all,ax]
  (repeat' with_reducible refine And.intro ?_ ?_)
  all_goals first|omega|skip
  exact fV (decide_eq_false (by omega))
 ·simp at hs
theorem TK:∀K args pre r,KD K args pre=some r→aB P gv K args pre r:=cU fun⟨p,_⟩ K hn=>by
 have hd:0<p.d:=hn
 refine bJ (r:=aK (.bool false) []) hT Im hm Ze rfl (of_decide_eq_true (by kernel_rfl)) rfl 60 RK (fun _=>?_) K []
 have hs:eG p.d=1:=by
  unfold eG
  rw[if_neg (by grind),if_pos hd]
 simp only[aa.all,ax,hs]
 (repeat' with_reducible refine And.intro ?_ ?_)
 all_goals first|omega|decide|exact .refl _|skip
theorem IF:aY P GX:=dr (aG ahz (aG abn (aG TK bk)))
theorem Vy {n:Nat} {k:Nat→Rat} {g:FuncId} (hn:n<2^40) (hg:g=iU∨g=iy) (K:Nat):aB P zP K [bt k n 2048,.func g []] [] (aK (.int .i64 (-1)) []):=by
 rcases hg with rfl|rfl
 ·refine gO (r:=aK (.int .i64 (-1)) []) hT IF hm Je rfl (of_decide_eq_true (by kernel_rfl)) rfl [1,0,1] (i:=0) (y:=part pS [1,0,1,0,0]) (z:=part pS [1,1]) (by kernel_rfl) (by kernel_rfl) (by kernel_rfl) (f1:=[]) (f2:=[9]) (f3:=[]) 60 jZ 0
   (fun i:Nat=>zS n i k iU) (fun _=>[]) (fun i=>i≤n) (fun i=>i=n) (fun i=>n-i) (fun _=>⟨⟨_,N6,?_⟩,fun i hi=>⟨_,V0,?_⟩,fun i hi=>⟨_,Ok,?_⟩⟩) K []
  ·simp only[aa.all,ax]
   exact⟨0,Nat.zero_le _,[],rfl,rfl,rfl,trivial⟩
  ·simp only[aa.all,ax,decide_eq_true_eq,decide_eq_false_iff_not,Int.toNat_natCast]
   exact⟨fun h=>⟨⟨by omega,by omega⟩,by omega,i+1,by omega,by dsimp only;omega,[],rfl,rfl,rfl,trivial⟩,fun h=>⟨rfl,i,by omega,[],rfl,rfl,rfl,trivial⟩⟩
  ·simp only[aa.all,ax]
   exact .refl _
 ·refine gO (r:=aK (.int .i64 (-1)) []) hT IF hm Je rfl (of_decide_eq_true (by kernel_rfl)) rfl [1,0,1] (i:=0) (y:=part pS [1,0,1,0,0]) (z:=part pS [1,1]) (by kernel_rfl) (by kernel_rfl) (by kernel_rfl) (f1:=[]) (f2:=[9]) (f3:=[]) 60 jZ 0
   (fun i:Nat=>zS n i k iy) (fun _=>[]) (fun i=>i≤n) (fun i=>i=n) (fun i=>n-i) (fun _=>⟨⟨_,N6,?_⟩,fun i hi=>⟨_,U9,?_⟩,fun i hi=>⟨_,Ok,?_⟩⟩) K []
  ·simp only[aa.all,ax]
   exact⟨0,Nat.zero_le _,[],rfl,rfl,rfl,trivial⟩
  ·simp only[aa.all,ax,decide_eq_true_eq,decide_eq_false_iff_not,Int.toNat_natCast]
   exact⟨fun h=>⟨⟨by omega,by omega⟩,by omega,i+1,by omega,by dsimp only;omega,[],rfl,rfl,rfl,trivial⟩,fun h=>⟨rfl,i,by omega,[],rfl,rfl,rfl,trivial⟩⟩
  ·simp only[aa.all,ax]
   exact .refl _
theorem acR:∀K args pre r,Qe K args pre=some r→aB P zP K args pre r:=cU fun⟨⟨n,k⟩,g,_⟩ K hn=>Vy hn.1 hn.2 K
theorem akb:aY P GY:=dr (aG acR bk)
theorem abh:∀K args pre r,L5 K args pre=some r→aB P CW K args pre r:=cU fun⟨⟨n,k⟩,g,_⟩ K hn=>by
 refine bJ (r:=aK (.bool false) []) hT akb hm aau rfl (of_decide_eq_true (by kernel_rfl)) rfl 60 acO (fun _=>?_) K []
 simp only[aa.all,ax]
 exact⟨⟨cM (Nat.le_refl _),hn.1,hn.2⟩,.refl _⟩
noncomputable def KI:Spec:=cQ (kC (ve 2048) (kC BH kN)) (fun _=>.int .i64 (-1)) fun a=>[a.1.1<2^40,∀i,i<a.1.1→0<(a.1.2 i).d,a.2.1=gv]
noncomputable def KP:Spec:=cQ (kC (ve 2048) (kC BH kN)) (fun _=>.bool false) fun a=>[a.1.1<2^40,∀i,i<a.1.1→0<(a.1.2 i).d,a.2.1=gv]
noncomputable def Ol:aR:=nG::(zT,KI)::[]
noncomputable def Ja:aR:=nG::(zE,Ll)::(CW,L5)::(Dm,KP)::(tC,G8)::(pJ,uS)::[]
theorem ah4 {n:Nat} {f:Nat→Pl} (hn:n<2^40) (hf:∀i,i<n→0<(f i).d) (K:Nat):aB P zT K [gV f n 2048,.func gv []] [] (aK (.int .i64 (-1)) []):=by
 refine gO (r:=aK (.int .i64 (-1)) []) hT IF hm aaX rfl (of_decide_eq_true (by kernel_rfl)) rfl [1,0,1] (i:=0) (y:=part vG [1,0,1,0,0]) (z:=part vG [1,1]) (by kernel_rfl) (by kernel_rfl) (by kernel_rfl) (f1:=[]) (f2:=[9]) (f3:=[]) 60 jZ 0
  (fun i:Nat=>E0 n i f gv) (fun _=>[]) (fun i=>i≤n) (fun i=>i=n) (fun i=>n-i) (fun _=>⟨⟨_,aeg,?_⟩,fun i hi=>⟨_,aiB,?_⟩,fun i hi=>⟨_,ace,?_⟩⟩) K []
 ·simp only[aa.all,ax]
  exact⟨0,Nat.zero_le _,[],rfl,rfl,rfl,trivial⟩
 ·simp only[aa.all,ax,decide_eq_true_eq,decide_eq_false_iff_not,Int.toNat_natCast]
  exact⟨fun h=>⟨⟨by omega,by omega,by omega,by decide,hf i (by omega)⟩,by omega,i+1,by omega,by dsimp only;omega,[],rfl,rfl,rfl,trivial⟩,fun h=>⟨rfl,i,by omega,[],rfl,rfl,rfl,trivial⟩⟩
 ·simp only[aa.all,ax]
  exact .refl _
theorem akp:∀K args pre r,KI K args pre=some r→aB P zT K args pre r:=cU fun⟨⟨n,f⟩,g,_⟩ K hn=>by
 have hg:g=gv:=hn.2.2
 subst hg
 exact ah4 hn.1 hn.2.1 K
theorem akM {args:List AV} {n:Nat} {k:Nat→Rat} {l:List Prop} (ha:ax l→fc (aT []) args [.dx false 3 n (fun i=>.rat (k i) 2048)]) (hn:ax l→1≤n∧n<2^30) (K:Nat):aB P p9 K args [] ⟨iM [.own K 3 0 n],[(K,⟨true,true,3,n,fun i=>.rat (k i) 2048⟩)],l⟩:=by
 refine NQ hT akZ ha (of_decide_eq_true (by kernel_rfl)) fun need c hk=>?_
 obtain⟨h1,h2⟩:=hn need
 refine aq.bf hT (dr bk) hm 60 [2] acT (by kernel_rfl) ?_
 simp only[aa.all,ax]
 exact⟨⟨by omega,by omega⟩,fun s' hs'=>⟨.inr trivial,[2],_,[.own 20480 3 0 (0+n)],_,20480,_,hs',by kernel_rfl,⟨⟨rfl,cw (by simp[aT,look]) rfl (by omega)⟩,trivial⟩,rfl,ji (by omega) fun i hi=>aI rfl⟩⟩
theorem ad2 {n:Nat} {k:Nat→Rat} {l:List Prop} (hn:ax l→1≤n∧n<2^30) (K:Nat):aB P p9 K [bt k n 2048] [] ⟨iM [.own K 3 0 n],[(K,⟨true,true,3,n,fun i=>.rat (k i) 2048⟩)],l⟩:=by
 refine Li fun b hb=>?_
 intro need
 have h1:=hn need
 cases b
 ·exact akM (args:=[.dx false 3 n (fun i=>.rat (k i) 2048)]) (fun _=>⟨⟨rfl,aI rfl⟩,trivial⟩) hn K need
 ·have:=hb rfl
  omega
theorem MQ:∀K args pre r,D8 K args pre=some r→aB P p9 K args pre r:=by
 refine DT fun K args r hk hs=>?_
 split at hs
 ·rename_i v
  split at hs
  ·rename_i n k q hv
   simp only[Option.some.injEq]at hs
   subst hs
   intro need
   obtain⟨hn1,hn2⟩:=dG.1 need
   exact gb (ad2 (l:=q++[1≤n,n<2^30]) (fun h=>⟨(dG.1 h).2.1,(dG.1 h).2.2⟩) K) hk ⟨(kL 2048).ok hv hn1,trivial⟩ [] need
  ·simp at hs
 ·simp at hs
theorem Tf:aY P Ch:=dr (aG MQ bk)
theorem ak2 {c:Cu} {i j:Nat} {rl:List (Nat×Nat)} (hj:j<c.n+4*i+4):fD rl (if j<c.n+4*i then .rat (j3 c j) 2048 else nth [.rat (c.f i).n.x 2048,.rat (c.f i).n.y 2048,.rat (c.f i).n.z 2048,.rat (c.f i).d 2048] (.rat 0 1) (j-(c.n+4*i)+0)) (.rat (j3 c j) 2048):=by
 by_cases h:j<c.n+4*i
 ·rw[if_pos h];exact aE rfl rfl
 ·rw[if_neg h]
  have key:∀a,a<4→j=c.n+4*i+a→j3 c j=fz (c.f i) a:=fun a ha hj=>by
   unfold j3
   rw[if_neg (by omega),show(j-c.n)/4=i by omega,show(j-c.n)%4=a by omega]
  rcases(show j=c.n+4*i+0∨j=c.n+4*i+1∨j=c.n+4*i+2∨j=c.n+4*i+3 by omega)with h'|h'|h'|h'
  ·rw[key 0 (by omega) h',h',show c.n+4*i+0-(c.n+4*i)+0=0 by omega];exact aE rfl rfl
  ·rw[key 1 (by omega) h',h',show c.n+4*i+1-(c.n+4*i)+0=1 by omega];exact aE rfl rfl
  ·rw[key 2 (by omega) h',h',show c.n+4*i+2-(c.n+4*i)+0=2 by omega];exact aE rfl rfl
  ·rw[key 3 (by omega) h',h',show c.n+4*i+3-(c.n+4*i)+0=3 by omega];exact aE rfl rfl
theorem Us {c:Cu} (h1:1≤c.n) (hn:c.n<2^30) (hm2:c.m<2^28) (K:Nat):aB P zE K [cI c 2048 2048] [] (aK (bt (j3 c) (c.n+4*c.m) 2048) []):=by
 refine gO (r:=aK (bt (j3 c) (c.n+4*c.m) 2048) []) hT Tf hm ac3 rfl (of_decide_eq_true (by kernel_rfl)) rfl [1,1,0,1] (i:=0) (y:=part yN [1,1,0,1,0,0]) (z:=part yN [1,1,1]) (by kernel_rfl) (by kernel_rfl) (by kernel_rfl) (f1:=[]) (f2:=[13]) (f3:=[]) 60 xg 1
  (fun i:Nat=>Gh c i) (fun i=>HN c i) (fun i=>i≤c.m) (fun i=>i=c.m) (fun i=>c.m-i) (fun _=>⟨⟨_,ajJ,?_⟩,fun i hi=>⟨_,akx,?_⟩,fun i hi=>⟨_,RP,?_⟩⟩) K []
 ·simp only[aa.all,ax]
  exact⟨⟨by omega,cM (Nat.le_refl _),by omega,by omega⟩,by omega,0,Nat.zero_le _,[(0,16384)],rfl,rfl,rfl,bh rfl rfl rfl (fun j hj=>aE rfl (by unfold j3;rw[if_pos (by omega)];rfl)) trivial⟩
 ·simp only[aa.all,ax,decide_eq_true_eq,decide_eq_false_iff_not,Int.toNat_natCast]
  refine⟨fun h=>?_,fun h=>⟨rfl,i,by omega,[(0,0)],rfl,rfl,rfl,bh rfl rfl rfl (fun j hj=>aE rfl rfl) trivial⟩⟩
  (repeat' with_reducible refine And.intro ?_ ?_)
  all_goals first|omega|decide|skip
  refine⟨i+1,by omega,by dsimp only;omega,[(0,73729)],rfl,?_,rfl,bh rfl rfl ?_ (fun j hj=>ak2 (by omega)) trivial⟩
  ·show _=[_,AV.own 0 3 0 (c.n+4*(i+1)),_,_,_].map _
   rw[show c.n+4*(i+1)=c.n+4*i+4 by omega];rfl
  ·show c.n+4*(i+1)=c.n+4*i+4
   omega
 ·subst hi
  simp only[aa.all,ax]
  exact .refl _
theorem aju:∀K args pre r,Ll K args pre=some r→aB P zE K args pre r:=cU fun⟨c,_⟩ K hn=>Us hn.1 hn.2.1 hn.2.2 K
theorem afY {n:Nat} {f:Nat→Pl}:bF T Ol [] 60 vW (au vW) ⟨aN 0 [gV f n 2048,.func gv []],[],0⟩=
  some (ag [eI (fun i↦bu (f i) 2048) n 2048,n<2^40,∀(i:Nat),i<n→0<aS (rat (f i).d 2048),gv=gv] (leaf ret [AV.bool false])):=by kernel_rfl
theorem S8 {c:Cu}:bF T Ja [200015,200017] 60 zI (au zI) ⟨aN 0 [cI c 2048 2048],[],0⟩=
  let c5 : Nat := c.n + 4 * c.m; let c4 : Prop := eI (fun i ↦ bu (c.f i) 2048) c.m 2048; let c3 : Nat := 2 ^ 40; let c2 : Prop := 0 < 1; let c1 : Prop := bG (fun i ↦ rat (j3 (Cu.mk c.p c.n (fun i ↦ aS (rat (c.k i) 2048)) c.m fun i ↦ dL (bu (c.f i) 2048)) i) 2048) c5 2048; some (ag [c2, bG (fun i ↦ rat (c.k i) 2048) c.n 2048, c4, (1 : Nat) ≤ c.n, c.n < 2 ^ 30, c.m < 2 ^ 28] (ag [c1, c5 < c3, iU = iU ∨ iU = iy] (ag [c2, c2, bG (fun i ↦ rat (c.k i) 2048) c.n sJ, c.n < c3] (ag [(gp c.n (fun i ↦ aS (rat (c.k i) 2048)) c.p != (0 : Int)) = false] (ag [c2, c2, c2, bG (fun i ↦ rat (c.k i) 2048) c.n sK, c.n < c3, -(2 : Int) ^ 40 < c.p, c.p < (2 : Int) ^ 40] (ag [((↑c.m : Int) != (↑c.n : Int) - c.p - (1 : Int)) = false] (ag [c2, c4, c.m < c3, ∀ (i : Nat), i < c.m → 0 < aS (rat (c.f i).d 2048), gv = gv] (ag [c1, c5 < c3, iy = iU ∨ iy = iy] (leaf ret [int i64 (0 : Int)]))))))))) := by kernel_rfl
theorem Z5:aY P Ol:=dr (aG akp bk)
theorem WA:∀K args pre r,KP K args pre=some r→aB P Dm K args pre r:=cU fun⟨⟨n,f⟩,g,_⟩ K hn=>by
 have hg:g=gv:=hn.2.2
 subst hg
 refine bJ (r:=aK (.bool false) []) hT Z5 hm Ss rfl (of_decide_eq_true (by kernel_rfl)) rfl 60 afY (fun _=>?_) K []
 simp only[aa.all,ax]
 exact⟨⟨jO (Nat.le_refl _),hn.1,hn.2.1,by trivial⟩,.refl _⟩
theorem YC:aY P Ja:=dr (aG aju (aG abh (aG WA (aG Pm (aG xw bk)))))
noncomputable def Mi:Spec:=cQ (kC (jF 2048 2048) kN) (fun _=>.int .i64 0) fun a=>[dy a.1,∀i,i<a.1.m→0<(a.1.f i).d]
theorem af3:∀K args pre r,Mi K args pre=some r→aB P Bt K args pre r:=cU fun⟨c,_⟩ K hn=>by
 obtain⟨⟨h1,h2,h3,h4,h5⟩,hw⟩:dy c∧_:=hn
 have hl:=h1.len
 refine bJ (r:=aK (.int .i64 0) []) hT YC hm RZ rfl (of_decide_eq_true (by kernel_rfl)) rfl 60 S8 (fun _=>?_) K []
 have hc0:gp c.n c.k c.p=0:=by have:=h1.Px (by omega) h4;rwa [Int.toNat_of_nonneg (by omega)]at this
 simp only[aa.all,ax]
 (repeat' with_reducible refine And.intro ?_ ?_)
 all_goals first|omega|exact cM (by decide)|exact jO (by decide)|exact hw|exact bne_eq_false_iff_eq.2 hc0|exact bne_eq_false_iff_eq.2 h5|exact .inl trivial|exact .inr trivial|trivial|exact .refl _|skip
end Go.Am.B

/- ref10.Check. -/
namespace Go.Am.B
open Go Go.Am.N AV aa aj IntKind
end Go.Am.B

/- brepkernelmade: Knots. -/
namespace Go.Am.B
open Go Go.Am.N AV aa aj IntKind
theorem Lt:aO P Bb wm (au wm):=aQ aeX (by kernel_rfl) (by kernel_rfl) (by kernel_rfl)
def ng:aR:=nG::(oL,gJ r8)::(m9,v8)::(oK,yG)::N4
abbrev lz (n:Nat) (z:Nat→Int) (a:Int):ah:=iG n (fun i=>.int .i64 (z i)) a
abbrev tO (t:Rat):ah:=⟨false,true,3,1,fun _=>.rat t 64⟩
abbrev aaN (m:Nat) (k:Nat→Rat):ah:=⟨true,true,3,m,fun i=>.rat (k i) 64⟩
abbrev qF:List Nat:=[0,1,2,7,8,9]
abbrev Cv (p m:Int) (v:AV) (i:Int):List AV:=[.ptr 0 0 2 0 [],.int .i64 p,.int .i64 m,.ptr 1 0 3 0 [],v,.int .i64 i]
noncomputable abbrev zn:Code:=au wm
noncomputable abbrev Ac:Code:=part zn [1,1,1,1]
noncomputable abbrev ux:Code:=part Ac [1]
abbrev wU:List Nat:=[0,1,7,8,10]
abbrev Ad:List Nat:=[0,1,7,8,11]
abbrev qc (p:Int) (l:Nat) (i:Int):List AV:=[.ptr 0 0 2 0 [],.int .i64 p,.ptr 1 0 3 0 [],.own 2 3 0 l,.int .i64 i]
abbrev mq (n:Nat) (z:Nat→Int) (a:Int) (t:Rat) (l:Nat) (k:Nat→Rat):aC:=[(2,aaN l k),(1,tO t),(0,lz n z a)]
theorem adb {n:Nat} {z:Nat→Int} {a p m:Int}:aH T ng [] 60 qF (before zn [1,1,1,0,1]) ⟨aN 0 [.ptr 0 0 2 0 [],.int .i64 p,.int .i64 m],[(0,lz n z a)],1⟩=
  let c2:Int:=(2:Int)^63;let c1:Int:=cS n (fun i↦int i64 (z i)) a (4:Int)-(2:Int);some (ag [cC n (fun i↦int i64 (z i)) a,(0:Int)<(4:Int),(4:Int)<(2:Int)^62,-c2≤c1∧c1<c2,-c2≤c1,c1<c2,(0:Nat)<1] (leaf normal ([ptr 0 0 2 0 [],int i64 p,int i64 m,ptr 20481 0 3 0 [],nil,int i64 (0:Int)],[((20481:Nat),ah.mk false true 3 1 fun j↦if(j==0)=true then bn (rat (↑c1:Rat) (Max.max 1 (br c1.natAbs)))else rat 0 1),((0:Nat),ah.mk false true 2 1 fun x↦agg [ak 1 n fun i↦int i64 (z i),int i64 (bA n a)])]))):=by kernel_rfl
theorem ail {n:Nat} {z:Nat→Int} {a p m:Int} {t:Rat}:aH T ng [18] 60 qF [part zn [1,1,1,0,1,0,0]] ⟨aA qF (Cv p m .nil 0),[(1,tO t),(0,lz n z a)],3⟩=
  let c3:AV:=ptr 1 0 3 0 [];let c2:AV:=ptr 0 0 2 0 [];let c1:List (Nat×ah):=[((1:Nat),ah.mk false true 3 1 fun x↦rat t 64),((0:Nat),ah.mk false true 2 1 fun x↦agg [ak 1 n fun i↦int i64 (z i),int i64 a])];some (fork (decide ((0:Int)≤p)) (ag [(0:Nat)<1,(1:Nat)*3≤2^24,(0:Nat)<1∧1*((56:Nat)+1)*2≤2^47] (ag [-(2:Int)^63≤(0:Int)+(1:Int)∧(0:Int)+(1:Int)<(2:Int)^63] (leaf normal ([c2,int i64 p,int i64 m,c3,own 24579 3 0 1,int i64 (1:Int)],((24579:Nat),ah.mk true true 3 1 fun i↦nth [rat t 64] (rat 0 1) (i+0))::c1)))) (leaf (exit 0) ([c2,int i64 p,int i64 m,c3,nil,int i64 (0:Int)],c1))):=by kernel_rfl
theorem acz {n j:Nat} {z:Nat→Int} {a p m:Int} {t:Rat} {k:Nat→Rat}:aH T ng [18] 60 qF [part zn [1,1,1,0,1,0,0]] ⟨aA qF (Cv p m (.own 2 3 0 (j+1)) ((j+1:Nat):Int)),mq n z a t (j+1) k,3⟩=
  let c4:AV:=ptr 1 0 3 0 [];let c3:AV:=ptr 0 0 2 0 [];let c2:Nat:=j+1;let c1:List (Nat×ah):=[((1:Nat),ah.mk false true 3 1 fun x↦rat t 64),((0:Nat),ah.mk false true 2 1 fun x↦agg [ak 1 n fun i↦int i64 (z i),int i64 a])];let c7:Nat:=c2+1;let c6:Int:=(↑c2:Int);let c5:Int:=c6+(1:Int);some (fork (decide (c6≤p)) (ag [(0:Nat)<1,(1:Nat)*3≤2^24,c7*((56:Nat)+1)*2≤2^47] (ag [-(2:Int)^63≤c5∧c5<(2:Int)^63] (leaf normal ([c3,int i64 p,int i64 m,c4,own 24579 3 0 c7,int i64 c5],((24579:Nat),ah.mk true true 3 c7 fun i↦if i<c2 then rat (k i) 64 else nth [rat t 64] (rat 0 1) (i-c2+0))::c1)))) (leaf (exit 0) ([c3,int i64 p,int i64 m,c4,own 2 3 0 c2,int i64 c6],((2:Nat),ah.mk true true 3 c2 fun i↦rat (k i) 64)::c1))):=by kernel_rfl
theorem acv {n j:Nat} {z:Nat→Int} {a p m:Int} {t:Rat} {k:Nat→Rat}:aH T ng [] 60 wU (before Ac [0,1]) ⟨aA qF (Cv p m (.own 2 3 0 (j+1)) ((j+1:Nat):Int)),mq n z a t (j+1) k,3⟩=
  let c1:Int:=m+(1:Int);some (ag [-(2:Int)^63≤c1∧c1<(2:Int)^63,cC n (fun i↦int i64 (z i)) a,(0:Int)<c1,c1<(2:Int)^62] (leaf normal ([ptr 0 0 2 0 [],int i64 p,ptr 1 0 3 0 [],own 2 3 0 (j+1),int i64 (cS n (fun i↦int i64 (z i)) a c1)],[((2:Nat),ah.mk true true 3 (j+1) fun i↦rat (k i) 64),((1:Nat),ah.mk false true 3 1 fun x↦rat t 64),((0:Nat),ah.mk false true 2 1 fun x↦agg [ak 1 n fun i↦int i64 (z i),int i64 (bA n a)])]))):=by kernel_rfl
theorem aiz {n l:Nat} {z:Nat→Int} {a p i:Int} {t:Rat} {k:Nat→Rat}:aH T ng [30,38,43,53] 60 wU [part Ac [0,1,0,0]] ⟨aA wU (qc p l i),mq n z a t l k,3⟩=
  let c40:Int:=i-(1:Int);let c39:Nat:=64+64+1;let c35:AV:=rat t 64;let c34:AV:=rat 0 1;let c33:Int:=bA n a;let c31:Nat:=l+1;let c30:Prop:=(0:Int)<(3:Int);let c28:Prop:=cC n (fun i↦int i64 (z i)) a;let c27:Int:=(↑l:Int);let c25:AV:=ptr 1 0 3 0 [];let c24:AV:=ptr 0 0 2 0 [];let c23:Prop:=0<1;let c21:Int:=(2:Int)^62;let c20:AV:=ak 1 n fun i↦int i64 (z i);let c18:Int:=p+(1:Int);let c16:Prop:=64<2^41;let c7:Int:=cS n (fun i↦int i64 (z i)) a (3:Int);let c5:Int:=(2:Int)^63;let c43:Int:=bA n c33;let c41:Bool:=c27==c18;let c38:Prop:=cC n (fun i↦int i64 (z i)) c33;let c37:Prop:=(3:Int)<c21;let c32:Prop:=-c5≤c18∧c18<c5;let c29:Int:=(1:Int)+c7;let c26:Nat×ah:=((1:Nat),ah.mk false true 3 1 fun x↦c35);let c22:Bool:=bif false then true else decide (c7>(0:Int));let c19:List Prop:=[-c5≤c40∧c40<c5];let c17:Nat:=(c27-p).toNat+0;let c15:Nat×ah:=((106499:Nat),ah.mk true true 3 c31 fun i↦if i<l then rat (k i) 64 else nth [c35] c34 (i-l+0));let c13:List AV:=[c24,int i64 p,c25,own 147459 3 0 c31,int i64 c40];let c12:List AV:=[c24,int i64 p,c25,own 106499 3 0 c31,int i64 c40];let c10:Int:=(1:Int)+cS n (fun i↦int i64 (z i)) c33 (2:Int);let c9:Int:=(1:Int)+cS n (fun i↦int i64 (z i)) c33 (3:Int);let c6:List Prop:=[c23,(1:Nat)*3≤2^24,c31*((56:Nat)+1)*2≤2^47];let c42:Rat:=(↑c29:Rat)/(↑c10:Rat);let c36:Bool:=bif false then true else decide (t=k c17);let c14:List (Nat×ah):=[c26,((0:Nat),ah.mk false true 2 1 fun x↦agg [c20,int i64 a])];let c11:List Prop:=[c23,-c5≤c27-p∧c27-p<c5,(0:Int)≤c27-p∧(c27-p).toNat<l,c17<l,c16,c16];let c8:Int:=(1:Int)+cS n (fun i↦int i64 (z i)) c43 (2:Int);let c3:aa (List AV×aC):=ag c6 (ag c19 (leaf normal (c12,[c15,c26,((0:Nat),ah.mk false true 2 1 fun x↦agg [c20,int i64 c33])])));let c44:Rat:=(↑c9:Rat)/(↑c8:Rat);let c4:aa (List AV×aC):=ag c6 (ag c19 (leaf normal (c12,c15::c14)));let c2:aa (List AV×aC):=ag [c23,c28,c30,c37,-c5≤c29∧c29<c5,c38,(0:Int)<(2:Int),(2:Int)<c21,-c5≤c10∧c10<c5,-c5≤c29,c29<c5,-c5≤c10,c10<c5,c16,c16,c23] (ag c6 (ag c19 (leaf normal (c13,[((147459:Nat),ah.mk true true 3 c31 fun i↦if i<l then rat (k i) 64 else nth [rat (t+c42) c39] c34 (i-l+0)),((1:Nat),ah.mk false true 3 1 fun j↦if(j==0)=true then bn (jq (t,(64:Nat)) (c42,(64:Nat)))else c35),((0:Nat),ah.mk false true 2 1 fun x↦agg [c20,int i64 c43])]))));let c1:aa (List AV×aC):=ag [c23,c38,c30,c37,-c5≤c9∧c9<c5,cC n (fun i↦int i64 (z i)) c43,(0:Int)<(2:Int),(2:Int)<c21,-c5≤c8∧c8<c5,-c5≤c9,c9<c5,-c5≤c8,c8<c5,c16,c16,c23] (ag c6 (ag c19 (leaf normal (c13,[((147459:Nat),ah.mk true true 3 c31 fun i↦if i<l then rat (k i) 64 else nth [rat (t+c44) c39] c34 (i-l+0)),((1:Nat),ah.mk false true 3 1 fun j↦if(j==0)=true then bn (jq (t,(64:Nat)) (c44,(64:Nat)))else c35),((0:Nat),ah.mk false true 2 1 fun x↦agg [c20,int i64 (bA n c43)])]))));some (fork (decide (i>(0:Int))) (fork c41 (fork true (ag [c32,c41=true,true=true] (fork true c2 c4)) (ag (c32::(c41=true)::(true=false)::c11) (fork c36 c2 c4))) (fork c22 (ag [c32,c41=false,c28,c30,c37,c22=true] (fork true c1 c3)) (ag (c32::(c41=false)::c28::c30::c37::(c22=false)::c11) (fork c36 c1 c3)))) (leaf (exit 2) ([c24,int i64 p,c25,own 2 3 0 l,int i64 i],((2:Nat),ah.mk true true 3 l fun i↦rat (k i) 64)::c14))):=by kernel_rfl
theorem Ud {n l:Nat} {z:Nat→Int} {a p i:Int} {t:Rat} {k:Nat→Rat}:aH T ng [] 60 Ad (before ux [1,0,1]) ⟨aA wU (qc p l i),mq n z a t l k,3⟩=
  let c1:Nat:=Max.max 1 (br (Int.natAbs (1:Int)));some (ag [(0:Nat)<1,-(2:Int)^63≤(1:Int),(1:Int)<(2:Int)^63,(64:Nat)<2^41,c1<2^41,(0:Nat)<1] (leaf normal ([ptr 0 0 2 0 [],int i64 p,ptr 1 0 3 0 [],own 2 3 0 l,int i64 (0:Int)],[((2:Nat),ah.mk true true 3 l fun i↦rat (k i) 64),((1:Nat),ah.mk false true 3 1 fun j↦if(j==0)=true then bn (jq (t,(64:Nat)) ((↑(1:Int):Rat),c1))else rat t 64),((0:Nat),ah.mk false true 2 1 fun x↦agg [ak 1 n fun i↦int i64 (z i),int i64 a])]))):=by kernel_rfl
theorem S0 {n l:Nat} {z:Nat→Int} {a p i:Int} {t:Rat} {k:Nat→Rat}:aH T ng [72] 60 Ad [part ux [1,0,1,0,0]] ⟨aA Ad (qc p l i),mq n z a t l k,3⟩=
  let c3:AV:=ptr 1 0 3 0 [];let c2:AV:=ptr 0 0 2 0 [];let c1:List (Nat×ah):=[((1:Nat),ah.mk false true 3 1 fun x↦rat t 64),((0:Nat),ah.mk false true 2 1 fun x↦agg [ak 1 n fun i↦int i64 (z i),int i64 a])];some (fork (decide (i≤p)) (ag [(0:Nat)<1,(1:Nat)*3≤2^24,(l+1)*((56:Nat)+1)*2≤2^47] (ag [-(2:Int)^63≤i+(1:Int)∧i+(1:Int)<(2:Int)^63] (leaf normal ([c2,int i64 p,c3,own 24579 3 0 (l+1),int i64 (i+(1:Int))],((24579:Nat),ah.mk true true 3 (l+1) fun i↦if i<l then rat (k i) 64 else nth [rat t 64] (rat 0 1) (i-l+0))::c1)))) (leaf (exit 4) ([c2,int i64 p,c3,own 2 3 0 l,int i64 i],((2:Nat),ah.mk true true 3 l fun i↦rat (k i) 64)::c1))):=by kernel_rfl
theorem adS {n l:Nat} {z:Nat→Int} {a p i:Int} {t:Rat} {k:Nat→Rat}:DZ T ng [] 60 wm [part ux [1,1]] ⟨aA Ad (qc p l i),mq n z a t l k,3⟩=
  some (leaf ret ([ak 3 l fun i↦rat (k (i+0)) 64],some (ah.mk false true 2 1 fun x↦agg [ak 1 n fun i↦int i64 (z i),int i64 a]))):=by kernel_rfl
structure uM where
 k:Nat→Rat
 t:Rat
 a:Int
def rG (n:Nat) (f:Nat→AV) (t:Rat) (a:Int):Rat:=t+((1+cS n f a 3:Int):Rat)/((1+cS n f (bA n a) 2:Int):Rat)
def qu (n:Nat) (f:Nat→AV) (p j:Nat) (s:uM):uM:=
 if j=0∨0<cS n f s.a 3∨s.t=s.k (j+1)then
  ⟨kz s.k (p+1+j) (rG n f s.t (if j=0 then s.a else bA n s.a)),rG n f s.t (if j=0 then s.a else bA n s.a),bA n (bA n (if j=0 then s.a else bA n s.a))⟩
 else⟨kz s.k (p+1+j) s.t,s.t,if j=0 then s.a else bA n s.a⟩
def oS (n:Nat) (f:Nat→AV) (p:Nat) (s0:uM):Nat→uM
 |0=>s0
 |j+1=>qu n f p j (oS n f p s0 j)
def oW (n:Nat) (f:Nat→AV) (a:Int):uM:=⟨fun _=>((cS n f a 4-2:Int):Rat),((cS n f a 4-2:Int):Rat),bA n (bA n a)⟩
def kH (n:Nat) (f:Nat→AV) (a:Int) (m:Nat):Nat:=(cS n f (bA n a) (m+1)).toNat
def Dl (n:Nat) (f:Nat→AV) (a:Int) (p m:Nat):uM:=oS n f p (oW n f a) (kH n f a m)
def nq (n:Nat) (f:Nat→AV) (a:Int) (p m:Nat):Nat:=2*p+2+kH n f a m
def nX (n:Nat) (f:Nat→AV) (a:Int) (p m:Nat):Nat→Rat:=l6 p (kH n f a m) (Dl n f a p m).k (Dl n f a p m).t
def qS (n:Nat) (f:Nat→AV) (a:Int) (p m:Nat):Int:=(Dl n f a p m).a
theorem Dg {n:Nat} {f:Nat→AV} {a:Int} {p:Nat} (hd:cC n f a) (hp:1≤p):∀j,KG p j (oS n f p (oW n f a) j).k (oS n f p (oW n f a) j).t∧cC n f (oS n f p (oW n f a) j).a
 |0=>by
  have h1:=jL (n:=n) (f:=f) (a:=a) (m:=4) (by omega)
  have h2:=jK (n:=n) (f:=f) (a:=a) (m:=4) (by omega)
  exact⟨KG.start hp (by omega) (by omega),hd.next.next⟩
 |j+1=>by
  obtain⟨h1,h2⟩:=Dg hd hp j
  unfold oS qu rG
  generalize oS n f p (oW n f a) j=s at*
  obtain⟨k,t,b⟩:=s
  simp only at h1 h2 ⊢
  have hb:cC n f (if j=0 then b else bA n b):=by split;exact h2;exact h2.next
  generalize (if j=0 then b else bA n b)=a1 at*
  split
  ·have x1:=jL (n:=n) (f:=f) (a:=a1) (m:=3) (by omega)
   have x2:=jK (n:=n) (f:=f) (a:=a1) (m:=3) (by omega)
   have y1:=jL (n:=n) (f:=f) (a:=bA n a1) (m:=2) (by omega)
   have y2:=jK (n:=n) (f:=f) (a:=bA n a1) (m:=2) (by omega)
   refine⟨h1.next (.inl ?_),hb.next.next⟩
   generalize cS n f a1 3=x at*
   generalize cS n f (bA n a1) 2=y at*
   have key:∃z:Int,((1+x:Int):Rat)/((1+y:Int):Rat)=(z:Rat)/2∧1≤z∧z≤6:=by
    rcases(show y=0∨y=1 by omega)with h|h
    ·subst h
     refine⟨2*(1+x),?_,by omega,by omega⟩
     have:((2*(1+x):Int):Rat)=2*((1+x:Int):Rat):=by simp
     rw[this]
     generalize ((1+x:Int):Rat)=w
     simp;grind
    ·subst h
     exact⟨1+x,by simp,by omega,by omega⟩
   obtain⟨z,e,z1,z2⟩:=key
   rw[e]
   refine⟨?_,z,rfl,z2⟩
   have:(1:Rat)≤(z:Rat):=by exact_mod_cast z1
   grind
  ·rename_i hc
   have hc1:¬j=0:=fun h=>hc (.inl h)
   have hc2:¬t=k (j+1):=fun h=>hc (.inr (.inr h))
   exact⟨h1.next (.inr ⟨rfl,by omega,hc2⟩),hb⟩
theorem ML {z:Int} (h1:-2^63≤z) (h2:z<2^63):Sz ((z:Rat)/2) 64:=by
 have:=GI h1 h2 (y:=2) (by omega) (by omega) (by omega)
 simpa using this
theorem KG.sz {p j:Nat} {k:Nat→Rat} {t:Rat} (h:KG p j k t) (hj:j<2^50):Sz t 64:=by
 obtain⟨z,e,h1,h2⟩:=h.half (p+j) (Nat.le_refl _)
 rw[h.top]at e
 rw[e]
 exact ML (by omega) (by omega)
theorem Z9 {J j:Nat} (h:j<J):((J-j:Nat):Int)-1=((J-(j+1):Nat):Int):=by omega
theorem HE {rl:List (Nat×Nat)} {l i:Nat} {k k':Nat→Rat} {t:Rat} {s:Nat} (hk:k'=kz k l t) (ht:Sz t 64) (hi:i<l+1):fD rl (if i<l then .rat (k i) 64 else nth [.rat t s] (.rat 0 1) (i-l+0)) (.rat (k' i) 64):=by
 subst hk
 by_cases h:i<l
 ·rw[if_pos h,lV (by omega)];exact aE rfl rfl
 ·have:i=l:=by omega
  subst this
  rw[if_neg h,ue,Nat.sub_self]
  exact .inr ⟨rfl,fS rfl ht⟩
theorem Di:aY P ng:=dr (aG Df (aG Dn (aG B3 aha)))
theorem acY {k n p m:Nat} {z:Nat→Int} {a:Int} {o:ah} (ho:∀ρ,cu ρ o (lz n z a)) (h:cC n (fun i=>.int .i64 (z i)) a) (hp:1≤p) (hp2:p<1000) (hm2:m<1000) (K:Nat):
  aB P Bb K [.ptr k 0 2 0 [],.int .i64 p,.int .i64 m] [(k,o)] ⟨bt (nX n (fun i=>.int .i64 (z i)) a p m) (nq n (fun i=>.int .i64 (z i)) a p m) 64,[(k,lz n z (qS n (fun i=>.int .i64 (z i)) a p m))],[]⟩:=by
 refine QG hT Lt rfl rfl (of_decide_eq_true (by kernel_rfl)) ho (fun _ c hk=>?_) K
 have a1:=jL (n:=n) (f:=fun i=>.int .i64 (z i)) (a:=a) (m:=4) (by omega)
 have a2:=jK (n:=n) (f:=fun i=>.int .i64 (z i)) (a:=a) (m:=4) (by omega)
 have b1:=jL (n:=n) (f:=fun i=>.int .i64 (z i)) (a:=bA n a) (m:=m+1) (by omega)
 have b2:=jK (n:=n) (f:=fun i=>.int .i64 (z i)) (a:=bA n a) (m:=m+1) (by omega)
 have hS:=Dg h hp
 unfold qS nX nq Dl at*
 obtain⟨J,hJ⟩:∃J,J=kH n (fun i=>.int .i64 (z i)) a m:=⟨_,rfl⟩
 have hJ2:cS n (fun i=>.int .i64 (z i)) (bA n a) (m+1)=(J:Int):=by rw[hJ];unfold kH;omega
 rw[←hJ]at*
 have hJ3:J<1000:=by omega
 obtain⟨S,hSd⟩:∃S,S=oS n (fun i=>.int .i64 (z i)) p (oW n (fun i=>.int .i64 (z i)) a):=⟨_,rfl⟩
 have h00:S 0=oW n (fun i=>.int .i64 (z i)) a:=by rw[hSd];rfl
 have hS1:∀j,S (j+1)=qu n (fun i=>.int .i64 (z i)) p j (S j):=fun j=>by rw[hSd];rfl
 rw[←hSd]at hS ⊢
 clear hSd hJ
 obtain⟨t0,ht0⟩:∃t0:Rat,t0=((cS n (fun i=>.int .i64 (z i)) a 4-2:Int):Rat):=⟨_,rfl⟩
 unfold oW at h00
 rw[←ht0]at h00
 have hs0:Sz t0 64:=by have:=(hS 0).1.sz (by omega);rw[h00]at this;exact this
 refine aq.nN hT Di hm [1,1,1,0,1] (i:=0) (y:=part zn [1,1,1,0,1,0,0]) (z:=Ac) (by kernel_rfl) (by kernel_rfl) (by kernel_rfl) Lt.dst hk (f1:=[]) (f2:=[18]) 60 qF 3
  (fun j:Nat=>Cv p m (match j with
   |0=>.nil
   |_+1=>.own 2 3 0 j) j) (fun j=>match j with
   |0=>[(1,tO t0),(0,lz n z (bA n a))]
   |_+1=>mq n z (bA n a) t0 j (fun _=>t0)) (fun j=>j≤p+1) (fun j=>j=p+1) (fun j=>p+1-j) (fun _=>False) ⟨_,adb,?_⟩ (fun j hj=>?_) (fun j hj=>?_) (fun _ _ h=>h.elim)
 ·simp only[aa.all,ax]
  refine⟨⟨h,by omega,by omega,by omega,by omega,by omega,by omega⟩,0,by omega,[(0,0),(1,20481)],rfl,rfl,rfl,aJ rfl rfl (.inr ⟨rfl,?_⟩) (aJ rfl rfl (aE rfl rfl) trivial)⟩
  rw[←ht0]
  exact fS rfl hs0
 ·cases j with
  |zero=>
   refine⟨_,ail,?_⟩
   simp only[aa.all,ax,decide_eq_true_eq,decide_eq_false_iff_not]
   refine⟨fun _=>⟨by omega,by omega,1,by omega,by dsimp only;omega,[(0,0),(1,1),(2,24579)],rfl,rfl,rfl,bh rfl rfl rfl (fun i hi=>?_) (aJ rfl rfl (aE rfl rfl) (aJ rfl rfl (aE rfl rfl) trivial))⟩,fun h=>by omega⟩
   have:i=0:=by omega
   subst this
   exact aE rfl rfl
  |succ j=>
   refine⟨_,acz,?_⟩
   simp only[aa.all,ax,decide_eq_true_eq,decide_eq_false_iff_not]
   refine⟨fun _=>⟨by omega,by omega,j+2,by omega,by dsimp only;omega,[(0,0),(1,1),(2,24579)],rfl,rfl,rfl,bh rfl rfl rfl (fun i hi=>HE (by funext i;unfold kz;split<;>rfl) hs0 hi) (aJ rfl rfl (aE rfl rfl) (aJ rfl rfl (aE rfl rfl) trivial))⟩,
    fun _=>⟨rfl,j+1,by omega,[(0,0),(1,1),(2,2)],rfl,rfl,rfl,bh rfl rfl rfl (fun i hi=>aE rfl rfl) (aJ rfl rfl (aE rfl rfl) (aJ rfl rfl (aE rfl rfl) trivial))⟩⟩
 subst hj
 refine aq.nN hT Di hm [0,1] (i:=2) (y:=part Ac [0,1,0,0]) (z:=ux) (by kernel_rfl) (by kernel_rfl) (by kernel_rfl) (by kernel_rfl) hk (f1:=[]) (f2:=[30,38,43,53]) 60 wU 3
  (fun j:Nat=>qc p (p+1+j) ((J-j:Nat):Int)) (fun j=>mq n z (S j).a (S j).t (p+1+j) (S j).k) (fun j=>j≤J) (fun j=>j=J) (fun j=>J-j) (fun _=>False) ⟨_,acv,?_⟩ (fun j hj=>?_) (fun j hj=>?_) (fun _ _ h=>h.elim)
 ·simp only[aa.all,ax]
  rw[hJ2]
  refine⟨⟨by omega,h.next,by omega,by omega⟩,0,by omega,[(0,0),(1,1),(2,2)],rfl,rfl,rfl,?_⟩
  dsimp only
  rw[h00]
  exact bh rfl rfl rfl (fun i hi=>aE rfl rfl) (aJ rfl rfl (aE rfl rfl) (aJ rfl rfl (aE rfl rfl) trivial))
 ·refine⟨_,aiz,?_⟩
  have hj1:=hS1 j
  obtain⟨hg,hd⟩:=hS j
  have hs1:∀{j},j<2000→Sz (S j).t 64:=fun hj=>(hS _).1.sz (by omega)
  have hsj:=hs1 (j:=j) (by omega)
  have hsj1:=hs1 (j:=j+1) (by omega)
  have e1:(((p+1+j:Nat):Int)-(p:Int)).toNat+0=j+1:=by omega
  simp only[aa.all,ax,decide_eq_true_eq,decide_eq_false_iff_not,beq_iff_eq,beq_eq_false_iff_ne,e1,cond_false]
  have v3:=fun a=>And.intro (jL (n:=n) (f:=fun i=>.int .i64 (z i)) (a:=a) (m:=3) (by omega)) (jK (n:=n) (f:=fun i=>.int .i64 (z i)) (a:=a) (m:=3) (by omega))
  have v2:=fun a=>And.intro (jL (n:=n) (f:=fun i=>.int .i64 (z i)) (a:=a) (m:=2) (by omega)) (jK (n:=n) (f:=fun i=>.int .i64 (z i)) (a:=a) (m:=2) (by omega))
  have q1:=v3 (S j).a
  have q2:=v3 (bA n (S j).a)
  have q3:=v2 (bA n (S j).a)
  have q4:=v2 (bA n (bA n (S j).a))
  refine⟨fun hi=>?_,fun hi=>⟨rfl,j,by omega,[(0,0),(1,1),(2,2)],rfl,rfl,rfl,bh rfl rfl rfl (fun i hi=>aE rfl rfl) (aJ rfl rfl (aE rfl rfl) (aJ rfl rfl (aE rfl rfl) trivial))⟩⟩
  have hlt:j<J:=by omega
  have fin:∀(key:Nat) (t:Rat) (s s2:Nat) (b:Int) (g:Nat→AV),S (j+1)=⟨kz (S j).k (p+1+j) t,t,b⟩→g 0=.rat t s2→(gD 3 [(0,0),(1,1),(2,key)])=true→(key==1)=false→(key==0)=false→
    Round [0] (fun j=>qc p (p+1+j) ((J-j:Nat):Int)) (fun j=>mq n z (S j).a (S j).t (p+1+j) (S j).k) 3 (fun j=>j≤J) (fun j=>j=J) (fun j=>J-j) 2 (fun _=>False) j normal
     ([ptr 0 0 2 0 [],int i64 p,ptr 1 0 3 0 [],own key 3 0 (p+1+j+1),int i64 (((J-j:Nat):Int)-1)],[(key,⟨true,true,3,p+1+j+1,fun i=>if i<p+1+j then .rat ((S j).k i) 64 else nth [.rat t s] (.rat 0 1) (i-(p+1+j)+0)⟩),(1,⟨false,true,3,1,g⟩),(0,lz n z b)]):=by
   intro key t s s2 b g e1 e2 e3 hk1 hk0
   rw[e1]at hsj1
   refine⟨j+1,by omega,by dsimp only;omega,[(0,0),(1,1),(2,key)],by rw[e3];rfl,by rw[Z9 hlt];rfl,rfl,?_⟩
   dsimp only
   rw[e1]
   exact bh rfl oJ rfl (fun i hi=>HE rfl hsj1 hi) (aJ rfl ((KA hk1).trans rfl) (.inr ⟨by rw[e2];rfl,by rw[e2];exact fS rfl hsj1⟩) (aJ rfl ((KA hk0).trans rfl) (aE rfl rfl) trivial))
  refine⟨fun hl=>?_,fun hl=>⟨fun hc=>?_,fun hc=>?_⟩⟩
  all_goals (repeat' with_reducible first|refine And.intro ?_ ?_|intro _)
  all_goals first|omega|exact hd|exact hd.next|exact hd.next.next|skip
  all_goals try exact absurd ‹true=false› (by decide)
  ·refine fin 147459 _ _ _ _ _ ?_ rfl rfl rfl rfl
   rw[hj1];unfold qu rG
   have hj0:j=0:=by omega
   rw[if_pos (.inl hj0),if_pos hj0]
  ·refine fin 147459 _ _ _ _ _ ?_ rfl rfl rfl rfl
   rw[hj1];unfold qu rG
   have hj0:j≠0:=by omega
   rw[if_pos (.inr (.inl hc)),if_neg hj0]
  ·refine fin 147459 _ _ _ _ _ ?_ rfl rfl rfl rfl
   rw[hj1];unfold qu rG
   have hj0:j≠0:=by omega
   rename_i hk
   rw[if_pos (.inr (.inr hk)),if_neg hj0]
  ·refine fin 106499 _ _ _ _ _ ?_ rfl rfl rfl rfl
   rw[hj1];unfold qu rG
   have hj0:j≠0:=by omega
   rename_i hk
   rw[if_neg (by simp only[hj0,hk,or_false,false_or];omega),if_neg hj0]
 subst hj
 have hs1:Sz ((S j).t+1) 64:=by
  obtain⟨z,e,h1,h2⟩:=(hS j).1.aas (p+1+j)
  unfold l6 at e
  rw[if_neg (by omega)]at e
  rw[e];exact ML (by omega) (by omega)
 refine aq.nN hT Di hm [1,0,1] (i:=4) (y:=part ux [1,0,1,0,0]) (z:=part ux [1,1]) (by kernel_rfl) (by kernel_rfl) (by kernel_rfl) (by kernel_rfl) hk (f1:=[]) (f2:=[72]) 60 Ad 3
  (fun i:Nat=>qc p (p+1+j+i) i) (fun i=>mq n z (S j).a ((S j).t+1) (p+1+j+i) (l6 p j (S j).k (S j).t)) (fun i=>i≤p+1) (fun i=>i=p+1) (fun i=>p+1-i) (fun _=>False) ⟨_,Ud,?_⟩ (fun i hi=>?_) (fun i hi=>?_) (fun _ _ h=>h.elim)
 ·simp only[aa.all,ax]
  refine⟨⟨by omega,by omega,by omega,by omega,by decide,by omega⟩,0,by omega,[(0,0),(1,1),(2,2)],rfl,rfl,rfl,bh rfl rfl rfl (fun i hi=>?_) (aJ rfl rfl (.inr ⟨rfl,fS rfl hs1⟩) (aJ rfl rfl (aE rfl rfl) trivial))⟩
  refine aE rfl ?_
  unfold l6
  rw[if_pos (by omega)]
 ·refine⟨_,S0,?_⟩
  simp only[aa.all,ax,decide_eq_true_eq,decide_eq_false_iff_not]
  refine⟨fun _=>⟨by omega,by omega,i+1,by omega,by dsimp only;omega,[(0,0),(1,1),(2,24579)],rfl,rfl,rfl,bh rfl rfl rfl (fun i hi=>HE ?_ hs1 hi) (aJ rfl rfl (aE rfl rfl) (aJ rfl rfl (aE rfl rfl) trivial))⟩,
   fun _=>⟨rfl,i,by omega,[(0,0),(1,1),(2,2)],rfl,rfl,rfl,bh rfl rfl rfl (fun i hi=>aE rfl rfl) (aJ rfl rfl (aE rfl rfl) (aJ rfl rfl (aE rfl rfl) trivial))⟩⟩
  funext x
  unfold kz l6
  split
  ·rename_i hx;rw[if_neg (by omega)]
  ·split<;>rfl
 ·subst hi
  refine aq.mD (aD.P2 hT Di hm 60 adS (by kernel_rfl) ⟨?_,_,rfl,rfl,mT rfl rfl⟩)
  exact p5 (by omega) fun _ _=>rfl
def Fm (n:Nat) (f:Nat→AV) (a:Int) (l:List AV):Option (AV×Int×List Prop):=match l with
 |[.int .i64 p,.int .i64 m]=>some (bt (nX n f a p.toNat m.toNat) (nq n f a p.toNat m.toNat) 64,qS n f a p.toNat m.toNat,[1≤p,p<1000,0≤m,m<1000])
 |_=>none
theorem S4:∀K args pre r,gJ Fm K args pre=some r→aB P Bb K args pre r:=by
 refine rP fun {k n z a l v b q o} K hg ho hd hq=>?_
 unfold Fm at hg
 split at hg
 ·rename_i p m
  simp only[Option.some.injEq,Prod.mk.injEq]at hg
  obtain⟨rfl,rfl,rfl⟩:=hg
  obtain⟨h1,h2,h3,h4⟩:=hq
  have h4:m<1000:=h4
  have:=acY (k:=k) (p:=p.toNat) (m:=m.toNat) ho hd (by omega) (by omega) (by omega) K
  rw[Int.toNat_of_nonneg (by omega),Int.toNat_of_nonneg h3]at this
  exact this
 ·simp at hg
end Go.Am.B

/- brepkernelmade: Number. -/
namespace Go.Am.B
open Go Go.Am.N AV
end Go.Am.B

/- law09: made, at. -/
namespace Go.Am.B
open Go Go.Am.N AV aa aj IntKind
end Go.Am.B

/- ref02.Text of a few numbers; law09.awake. -/
namespace Go.Am.B
open Go Go.Am.N AV aa aj IntKind
def tG:aR:=[sG,(tv,Hh)]
theorem ZM:aY P tG:=ij (aG Jt bk)
theorem Kn.congr {n p:Nat} {k k':Nat→Rat} (h:Kn n p k) (e:∀i,i<n→k i=k' i):Kn n p k':=by
 have hp:=h.p1
 have hl:=h.len
 refine⟨h.p1,h.len,fun i hi=>?_,fun i hi=>?_,fun i h1 h2=>?_,fun i h1 h2=>?_⟩
 ·rw[←e i (by omega),←e (i+1) hi];exact h.sorted i hi
 ·rw[←e i (by omega),←e 0 (by omega)];exact h.first i hi
 ·rw[←e i h2,←e (n-1) (by omega)];exact h.last i h1 h2
 ·rw[←e i (by omega),←e (i+p) (by omega)];exact h.mult i h1 h2
theorem af2 {f:Nat→Rat} (h:∀i,i<6→f i=l6 2 0 (fun _=>((0:Int):Rat)) ((0:Int):Rat) i):Kn 6 2 f:=
 ((KG.start (p:=2) (by omega) (z:=0) (by omega) (by omega)).done:Kn (2*2+2+0) 2 _).congr fun i hi=>(h i hi).symm
end Go.Am.B

/- shapes, vector, ref14: by the evaluator; law14.awake. -/
namespace Go.Am.B
open Go Go.Am.N AV aa aj IntKind
noncomputable def BI:aR:=[(NV,fT T (sG::rB) [] 60 Q8),(Oq,fT T (sG::rB) [] 60 MW),(LC,fT T (sG::rB) [100010,100017] 60 Ks)]
theorem EI:aY P BI:=aG (gd hT (ij r5) hm (aQ ako (by kernel_rfl) (by kernel_rfl) (by kernel_rfl)) _ _) (aG (gd hT (ij r5) hm (aQ ak9 (by kernel_rfl) (by kernel_rfl) (by kernel_rfl)) _ _) (aG (gd hT (ij r5) hm (aQ acf (by kernel_rfl) (by kernel_rfl) (by kernel_rfl)) _ _) bk))
end Go.Am.B

/- law10.awake. -/
namespace Go.Am.B
open Go Go.Am.N AV aa aj IntKind
theorem SM:aO P yw zc (au zc):=aQ ac2 (by kernel_rfl) (by kernel_rfl) (by kernel_rfl)
def Lj:Spec:=bC fun l=>match l with
 |[.mag 2]=>some (aK (.str [50]) [])
 |[.mag 3]=>some (aK (.str [51]) [])
 |[.mag 4]=>some (aK (.str [52]) [])
 |[.mag 5]=>some (aK (.str [53]) [])
 |_=>none
def ye:aR:=[sG,(yJ,Lj)]
def Nl:Spec:=bC fun l=>match l with
 |[.rat q _]=>match decide (q=3/5),decide (q=4/5),decide (q=3/2)with
  |true,_,_=>some (aK (.str [51,47,53]) [])
  |false,true,_=>some (aK (.str [52,47,53]) [])
  |false,false,true=>some (aK (.str [51,47,50]) [])
  |_,_,_=>none
 |_=>none
noncomputable def Nc:aR:=sG::(yh,Gt)::(uY,K2)::(Bt,Mi)::(JC,fT T (sG::rB) [] 200 QJ)::(oK,yG)::(wZ,Nl)::rB
theorem Zg:bF T tG [] 60 ki (au ki) ⟨aN 0 [.mag 2],[],0⟩=
  let c1:Int:=(↑(1:Nat):Int);some (ag [nl 2<2^40,(0:Int)<(1000000000:Int),(1000000000:Int)<(2:Int)^32] (ag [(10:Int)≠(0:Int),(0:Nat)<1∧1*((1:Nat)+1)*2≤2^47] (ag [(10:Int)≠(0:Int)] (ag [(0:Int)≤c1∧c1≤c1∧c1≤(2:Int)^47∧c1*c1≤(2:Int)^47] (leaf ret [str [UInt8.ofNat (u8.wrap (u32.wrap ((48:Int)+(↑((2:Nat)%Int.toNat (1000000000:Int)):Int).tmod (10:Int)))).toNat]]))))):=by kernel_rfl
theorem aka:bF T tG [] 60 ki (au ki) ⟨aN 0 [.mag 3],[],0⟩=
  let c1:Int:=(↑(1:Nat):Int);some (ag [nl 3<2^40,(0:Int)<(1000000000:Int),(1000000000:Int)<(2:Int)^32] (ag [(10:Int)≠(0:Int),(0:Nat)<1∧1*((1:Nat)+1)*2≤2^47] (ag [(10:Int)≠(0:Int)] (ag [(0:Int)≤c1∧c1≤c1∧c1≤(2:Int)^47∧c1*c1≤(2:Int)^47] (leaf ret [str [UInt8.ofNat (u8.wrap (u32.wrap ((48:Int)+(↑((3:Nat)%Int.toNat (1000000000:Int)):Int).tmod (10:Int)))).toNat]]))))):=by kernel_rfl
theorem ad3:bF T tG [] 60 ki (au ki) ⟨aN 0 [.mag 4],[],0⟩=
  let c1:Int:=(↑(1:Nat):Int);some (ag [nl 4<2^40,(0:Int)<(1000000000:Int),(1000000000:Int)<(2:Int)^32] (ag [(10:Int)≠(0:Int),(0:Nat)<1∧1*((1:Nat)+1)*2≤2^47] (ag [(10:Int)≠(0:Int)] (ag [(0:Int)≤c1∧c1≤c1∧c1≤(2:Int)^47∧c1*c1≤(2:Int)^47] (leaf ret [str [UInt8.ofNat (u8.wrap (u32.wrap ((48:Int)+(↑((4:Nat)%Int.toNat (1000000000:Int)):Int).tmod (10:Int)))).toNat]]))))):=by kernel_rfl
theorem afG:bF T tG [] 60 ki (au ki) ⟨aN 0 [.mag 5],[],0⟩=
  let c1:Int:=(↑(1:Nat):Int);some (ag [nl 5<2^40,(0:Int)<(1000000000:Int),(1000000000:Int)<(2:Int)^32] (ag [(10:Int)≠(0:Int),(0:Nat)<1∧1*((1:Nat)+1)*2≤2^47] (ag [(10:Int)≠(0:Int)] (ag [(0:Int)≤c1∧c1≤c1∧c1≤(2:Int)^47∧c1*c1≤(2:Int)^47] (leaf ret [str [UInt8.ofNat (u8.wrap (u32.wrap ((48:Int)+(↑((5:Nat)%Int.toNat (1000000000:Int)):Int).tmod (10:Int)))).toNat]]))))):=by kernel_rfl
theorem U1:bF T ye [] 60 lG (au lG) ⟨aN 0 [.agg [.bool false,.mag 3,.mag 5]],[],0⟩=
  some (leaf ret [str [(51:UInt8),(47:UInt8),(53:UInt8)]]):=by kernel_rfl
theorem Tx:bF T ye [] 60 lG (au lG) ⟨aN 0 [.agg [.bool false,.mag 4,.mag 5]],[],0⟩=
  some (leaf ret [str [(52:UInt8),(47:UInt8),(53:UInt8)]]):=by kernel_rfl
theorem aa6:bF T ye [] 60 lG (au lG) ⟨aN 0 [.agg [.bool false,.mag 3,.mag 2]],[],0⟩=
  some (leaf ret [str [(51:UInt8),(47:UInt8),(50:UInt8)]]):=by kernel_rfl
theorem aib:bF T Nc [100024,100028,100032,100038,100044,100050] 200 zc (au zc) ⟨aN 0 [],[],0⟩=
  let c10:Rat:=(↑(1:Int):Rat)/(↑(2:Int):Rat);let c9:Int:=(2:Int)^63;let c8:List UInt8:=[(47:UInt8),(53:UInt8)];let c6:AV:=agg [AV.bool (decide ((0:Rat)<0)),mag (↑(nat_lit 0):Int).natAbs,mag (if 1=1 then 0 else 1)];let c5:AV:=rat 0 1;let c4:AV:=rat (↑(1:Int):Rat) (Max.max 1 (br (Int.natAbs (1:Int))));let c7:AV:=agg [agg [c5,c5,c5],c5];let c3:List AV:=[agg [agg [c4,c5,c5],c4],agg [agg [c4,c4,c5],c4],agg [agg [c6,c4,c5],rat (↑(2:Int):Rat) (Max.max 1 (br (Int.natAbs (2:Int))))]];let c2:List AV:=[c6,c6,c6,c4,c4,c4];let c1:Cu:=Cu.mk (2:Int) 6 (fun i↦aS (nth c2 c5 (i+0))) 3 fun i↦dL (nth c3 c7 (i+0));some (ag [(0:Nat)<1] (ag [-c9≤(1:Int),(1:Int)<c9,-c9≤(2:Int),(2:Int)<c9] (ag [bG (fun i↦nth c2 c5 (i+0)) 6 sJ,eI (fun i↦nth c3 c7 (i+0)) 3 sJ,(64:Nat)≤sK,dy c1] (ag [bG (fun i↦nth c2 c5 (i+0)) 6 2000,eI (fun i↦nth c3 c7 (i+0)) 3 2000,(64:Nat)≤2000,dy c1] (ag [bG (fun i↦nth c2 c5 (i+0)) 6 2048,eI (fun i↦nth c3 c7 (i+0)) 3 2048,dy c1,∀(i:Nat),i<3→0<(dL (nth c3 c7 (i+0))).d,((0:Int)==(0:Int))=true,(bif true then eE 6 (fun i↦aS (nth c2 c5 (i+0))) c10==(0:Int)else false)=true,(bif true then dw c1 c10==(0:Int)else false)=true,(bif true then(51:UInt8)::c8==(51:UInt8)::c8 else false)=true,(bif true then(52:UInt8)::c8==(52:UInt8)::c8 else false)=true,(bif true then(↑((6:Nat)+1-Int.toNat (2:Int)-1):Int)==(4:Int)else false)=true] (leaf ret [AV.bool true])))))):=by kernel_rfl
theorem adN:∀K args pre r,Lj K args pre=some r→aB P yJ K args pre r:=by
 refine bV fun K args r hk hs _=>?_
 have fin:∀{N:Nat} {t:aa (List AV)} {l:List UInt8},bF T tG [] 60 ki (au ki) ⟨aN 0 [.mag N],[],0⟩=some t→(t.all fun _ us=>dX us (.str l))→aB P yJ K [.mag N] [] (aK (.str l) []):=fun h1 h2=>
  bJ (r:=aK _ []) hT ZM hm UP rfl (of_decide_eq_true (by kernel_rfl)) rfl 60 h1 (fun _=>h2) K []
 split at hs<;>simp only[Option.some.injEq,reduceCtorEq]at hs
 all_goals subst hs
 ·exact fin Zg (by simp only[aa.all,ax];exact⟨by decide,by decide,by decide,by decide,.refl _⟩)
 ·exact fin aka (by simp only[aa.all,ax];exact⟨by decide,by decide,by decide,by decide,.refl _⟩)
 ·exact fin ad3 (by simp only[aa.all,ax];exact⟨by decide,by decide,by decide,by decide,.refl _⟩)
 ·exact fin afG (by simp only[aa.all,ax];exact⟨by decide,by decide,by decide,by decide,.refl _⟩)
theorem aaT:aY P ye:=ij (aG adN bk)
theorem Tu:∀K args pre r,Nl K args pre=some r→aB P wZ K args pre r:=by
 refine bV fun K args r hk hs _=>?_
 have fin:∀{q:Rat} {n a b:Nat} {t:aa (List AV)} {l:List UInt8},kids (.rat q n)=[.bool false,.mag a,.mag b]→bF T ye [] 60 lG (au lG) ⟨aN 0 [.agg [.bool false,.mag a,.mag b]],[],0⟩=some t→(t.all fun _ us=>dX us (.str l))→aB P wZ K [.rat q n] [] (aK (.str l) []):=fun h0 h1 h2=>
  gb (bJ (r:=aK _ []) hT aaT hm Sk rfl (of_decide_eq_true (by kernel_rfl)) rfl 60 h1 (fun _=>h2) K []) rfl (show eJ [_] [_]from⟨by rw[←h0];exact Rn,trivial⟩) []
 split at hs
 ·rename_i q n
  split at hs
  all_goals simp only[Option.some.injEq,reduceCtorEq]at hs
  all_goals subst hs
  ·obtain rfl:q=3/5:=of_decide_eq_true ‹_›
   exact fin (by kernel_rfl) U1 (.refl _)
  ·obtain rfl:q=4/5:=of_decide_eq_true ‹decide (q=4/5)=true›
   exact fin (by kernel_rfl) Tx (.refl _)
  ·obtain rfl:q=3/2:=of_decide_eq_true ‹decide (q=3/2)=true›
   exact fin (by kernel_rfl) aa6 (.refl _)
 ·simp at hs
theorem Y1:aY P Nc:=ij (aG LO (aG Vo (aG af3 (aG (gd hT (ij r5) hm (aQ Va (by kernel_rfl) (by kernel_rfl) (by kernel_rfl)) _ _) (aG B3 (aG Tu r5))))))
theorem aaD (K:Nat):aB P yw K [] [] (aK (.bool true) []):=by
 refine bJ (r:=aK (.bool true) []) hT Y1 hm SM rfl (of_decide_eq_true (by kernel_rfl)) rfl 200 aib (fun _=>?_) K []
 have hR:∀s,4≤s→bG (fun i=>nth [.agg [AV.bool (decide ((0:Rat)<0)),mag (↑(nat_lit 0):Int).natAbs,mag (if 1=1 then 0 else 1)],.agg [AV.bool (decide ((0:Rat)<0)),mag (↑(nat_lit 0):Int).natAbs,mag (if 1=1 then 0 else 1)],.agg [AV.bool (decide ((0:Rat)<0)),mag (↑(nat_lit 0):Int).natAbs,mag (if 1=1 then 0 else 1)],.rat (↑(1:Int):Rat) (Max.max 1 (br (Int.natAbs (1:Int)))),.rat (↑(1:Int):Rat) (Max.max 1 (br (Int.natAbs (1:Int)))),.rat (↑(1:Int):Rat) (Max.max 1 (br (Int.natAbs (1:Int))))] (.rat 0 1) (i+0)) 6 s:=fun s hs i hi=>by
  obtain⟨s,rfl⟩:∃s',s=s'+1:=⟨s-1,by omega⟩
  match i,hi with
  |0,_|1,_|2,_=>exact lR
  |3,_|4,_|5,_=>exact fC (Nat.le_trans (by decide) hs)
 simp only[aa.all,ax]
 (repeat' with_reducible first|refine And.intro ?_ ?_)
 all_goals first|omega|decide|exact hR _ (by decide)|skip
 all_goals first|decide+kernel|exact .refl _|skip
 all_goals first|refine⟨af2 fun i hi=>?_,by decide,by decide,by decide,by decide⟩|intro i hi
 all_goals first
  |match i,hi with
   |0,_|1,_|2,_|3,_|4,_|5,_=>decide+kernel
  |match i,hi with
   |0,_|1,_|2,_=>decide+kernel
  |skip
 all_goals match i,hi with
  |0,_|1,_=>exact dn ⟨dn ⟨fC (by decide),fC (by decide),fC (by decide),trivial⟩,fC (by decide),trivial⟩
  |2,_=>exact dn ⟨dn ⟨lR,fC (by decide),fC (by decide),trivial⟩,fC (by decide),trivial⟩
def Pp:Spec:=bC fun l=>match l with
 |[]=>some (aK (.bool true) [])
 |_=>none
theorem Yc:∀K args pre r,Pp K args pre=some r→aB P yw K args pre r:=by
 refine bV fun K args r hk hs _=>?_
 split at hs
 ·simp only[Option.some.injEq]at hs
  subst hs
  exact fun need=>aaD K need
 ·simp at hs
end Go.Am.B

/- ref10: MovePoles, Move; ref12: withRows, Move. -/
namespace Go.Am.B
open Go Go.Am.N AV aa aj IntKind
def VB (s:Nat):Kind Mp:=⟨fun v=>match IC v with
 |some (a,q)=>some (a.1,(a.2≤s)::q)
 |none=>none,fun a=>lW a s,fun {v a q} h hq=>by
  split at h
  ·rename_i a q h1
   simp only[Option.some.injEq,Prod.mk.injEq]at h
   obtain⟨rfl,rfl⟩:=h
   obtain⟨q1,q2⟩:=(dG (a:=[_]) (b:=q)).1 hq
   exact(aa1 h1 q2).trans (ZG rfl q1)
  ·simp at h⟩
def ig (r v:V3) (t:Rat):Rat:=0+r.x*v.x+r.y*v.y+r.z*v.z+t
def ta (m:Mp) (v:V3):V3:=⟨ig m.m.a v m.t.x,ig m.m.b v m.t.y,ig m.m.c v m.t.z⟩
def gy (m:Mp) (p:Pl):Pl:=⟨ta m p.n,p.d⟩
def dg (m:Mp) (c:Cu):Cu:=⟨c.p,c.n,c.k,c.m,fun j=>gy m (c.f j)⟩
noncomputable def Ls:aR:=[(Mo,fT T (sG::BI) [] 60 Lx)]
noncomputable def Qa:aR:=[(NB,fT T (sG::(Ls++BI)) [] 60 OB)]
theorem ajl:aY P Ls:=aG (gd hT (ij EI) hm (aQ akk (by kernel_rfl) (by kernel_rfl) (by kernel_rfl)) _ _) bk
theorem ajX:aY P Qa:=aG (gd hT (ij (qm ajl EI)) hm (aQ TR (by kernel_rfl) (by kernel_rfl) (by kernel_rfl)) _ _) bk
end Go.Am.B

/- ref10.SamePoles, Same, ref12.Same for equal arguments. -/
namespace Go.Am.B
open Go Go.Am.N AV aa aj IntKind
structure pN (c d:Cu):Prop where
 p:c.p=d.p
 n:c.n=d.n
 k:∀i,i<c.n→c.k i=d.k i
 m:c.m=d.m
 f:∀i,i<c.m→c.f i=d.f i
structure SfEq (s t:Sf):Prop where
 u:s.u=t.u
 v:s.v=t.v
 a:s.a=t.a
 ku:∀i,i<s.a→s.ku i=t.ku i
 b:s.b=t.b
 kv:∀i,i<s.b→s.kv i=t.kv i
 n:s.n=t.n
 m:s.m=t.m
 f:∀i j,i<s.n→j<s.m→s.f i j=t.f i j
end Go.Am.B

/- shapes.Revolve. -/
namespace Go.Am.B
open Go Go.Am.N AV aa aj IntKind
end Go.Am.B

/- slices.EqualFunc of numbers; curve.Move. -/
namespace Go.Am.B
open Go Go.Am.N AV aa aj IntKind
abbrev It:FuncId:=Qw
noncomputable abbrev Dx:Func:=Oi
theorem aaS:aO P It Dx (au Dx):=aQ ae5 (by kernel_rfl) (by kernel_rfl) (by kernel_rfl)
theorem ag0:aO P uR A1 (au A1):=aQ akw (by kernel_rfl) (by kernel_rfl) (by kernel_rfl)
noncomputable abbrev vU:Code:=au Dx
abbrev mz:List Nat:=[0,1,2,6,15,16,17]
noncomputable def Fc:aR:=[(GZ,fT T fI [] 60 Gr),(L8,fT T fI [] 60 JY)]
noncomputable def N9:aR:=[(Gk,fT T Fc [] 60 HT),(I8,fT T Fc [] 60 Lp)]
noncomputable def KJ:aR:=[(LL,fT T N9 [] 60 QH)]
noncomputable def CE (x y:Nat):aR:=nG::(rz,Bs x y)::(KJ++fI)
abbrev yH:List Nat:=[3,4,5,15,16,17]
abbrev FQ (c:Cu) (r i:Nat):List AV:=[.ptr 1 0 36 0 [],.ptr 2 0 3 0 [],.ptr 3 0 3 0 [],gV c.f c.m r,.int .i64 c.m,.int .i64 i]
abbrev Io (c:Cu) (m:Mp) (y w s i:Nat):aC:=[(4,⟨true,true,12,i,fun j=>bu (gy m (c.f j)) w⟩),(3,⟨false,true,3,1,fun _=>.agg [.int .i64 c.p,bt c.k c.n y,.own 4 12 0 i]⟩),(2,⟨false,true,3,1,fun _=>.agg [.int .i64 0,.nil,.nil]⟩),(1,⟨false,true,36,1,fun _=>lW m s⟩)]
noncomputable abbrev Aj:Code:=au A1
theorem ae2 {x y r s:Nat} {c:Cu} {m:Mp}:aH T (CE x y) [] 60 yH (before Aj [1,1,0,1]) ⟨aN 0 [cI c x r,lW m s],[],0⟩=
  let c2:Prop:=0<1;let c1:AV:=agg [int i64 (0:Int),nil,nil];some (ag [c2,c2,bG (fun i↦rat (c.k i) x) c.n x,x+10≤y,y<2^40,c.n<2^40,c2] (ag [c2] (leaf normal ([ptr 4096 0 (bn (lW m s)).size 0 [],ptr 8192 0 3 0 [],ptr 36864 0 3 0 [],ak 12 c.m fun i↦agg [agg [rat (c.f i).n.x r,rat (c.f i).n.y r,rat (c.f i).n.z r],rat (c.f i).d r],int i64 (↑c.m:Int),int i64 (0:Int)],[((36864:Nat),ah.mk false true 3 1 fun j↦if(j==0)=true then bn (agg ((c1.kids.set 0 (bn (int i64 c.p))).set 1 (bn (bt (fun i↦aS (rat (c.k i) x)) c.n y))))else c1),((8192:Nat),ah.mk false true 3 1 fun x↦c1),((4096:Nat),ah.mk false true (bn (lW m s)).size 1 fun x↦agg [agg [agg [rat m.m.a.x s,rat m.m.a.y s,rat m.m.a.z s],agg [rat m.m.b.x s,rat m.m.b.y s,rat m.m.b.z s],agg [rat m.m.c.x s,rat m.m.c.y s,rat m.m.c.z s]],agg [rat m.t.x s,rat m.t.y s,rat m.t.z s]])])))):=by kernel_rfl
theorem ah6 {x y r s w i:Nat} {c:Cu} {m:Mp}:aH T (CE x y) [18] 60 yH [part Aj [1,1,0,1,0,0]] ⟨aA yH (FQ c r i),Io c m y w s i,5⟩=
  let c25:Int:=(↑c.m:Int);let c24:Int:=(↑(3:Nat):Int);let c20:AV:=own 4 12 0 i;let c19:AV:=ptr 2 0 3 0 [];let c18:AV:=ptr 3 0 3 0 [];let c17:AV:=ptr 1 0 36 0 [];let c15:AV:=rat 0 1;let c14:Int:=(↑i:Int);let c12:Nat:=1+(s+r)+1;let c11:Int:=i64.wrap ((0:Int)+(1:Int));let c9:AV:=ak 12 c.m fun i↦agg [agg [rat (c.f i).n.x r,rat (c.f i).n.y r,rat (c.f i).n.z r],rat (c.f i).d r];let c6:List (Nat×ah):=[((2:Nat),ah.mk false true 3 1 fun x↦agg [int i64 (0:Int),nil,nil]),((1:Nat),ah.mk false true 36 1 fun x↦agg [agg [agg [rat m.m.a.x s,rat m.m.a.y s,rat m.m.a.z s],agg [rat m.m.b.x s,rat m.m.b.y s,rat m.m.b.z s],agg [rat m.m.c.x s,rat m.m.c.y s,rat m.m.c.z s]],agg [rat m.t.x s,rat m.t.y s,rat m.t.z s]])];let c4:Nat:=2^42;let c1:Prop:=0<1;let c28:Int:=i64.wrap (c11+(1:Int));let c27:Int:=c14+(1:Int);let c26:Prop:=r<c4;let c23:Prop:=s<c4;let c22:Prop:=1<c4;let c16:Prop:=s+r<c4;let c13:AV:=agg [int i64 c.p,bt c.k c.n y,c20];let c8:V3:=(c.f c14.toNat).n;let c7:Nat:=c12+(s+r)+1;let c5:Prop:=(0:Int)≤(0:Int)∧(0:Int)<c24;let c3:Prop:=(0:Int)≤c11∧c11<c24;let c10:Nat:=c7+(s+r)+1;let c2:Prop:=(0:Int)≤c28∧c28<c24;let c21:Nat:=c10+s+1;some (fork (decide (c14<c25)) (ag [(0:Int)≤c14∧c14.toNat<c.m,c1] (ag [c1,c1,c1,c1,c1,c1,c5,c1,c1,c1,c1,c5,c1,c5,c1,c23,c26,c22,c16,c1,c1,c3,c1,c3,c1,c23,c26,c12<c4,c16,c1,c1,c2,c1,c2,c1,c23,c26,c7<c4,c16,c1,c1,c1,c1,c5,c1,c3,c1,c1,c1,c1,c5,c1,c5,c1,c23,c26,c22,c16,c1,c1,c3,c1,c3,c1,c23,c26,c12<c4,c16,c1,c1,c2,c1,c2,c1,c23,c26,c7<c4,c16,c1,c1,c1,c1,c3,c1,c2,c1,c1,c1,c1,c5,c1,c5,c1,c23,c26,c22,c16,c1,c1,c3,c1,c3,c1,c23,c26,c12<c4,c16,c1,c1,c2,c1,c2,c1,c23,c26,c7<c4,c16,c1,c1,c1,c1,c2,c1,c1,c1,c1,c1,c1,c1,c5,c1,c5,c1,c10<c4,c23,c5,c1,c3,c1,c3,c1,c10<c4,c23,c3,c1,c2,c1,c2,c1,c10<c4,c23,c2,c1,c1,c1,c1,c1,c1,c1,c1,c1,c26,c22,(1:Nat)*12≤2^24,(i+1)*((224:Nat)+1)*2≤2^47,c1] (ag [-(2:Int)^63≤c27∧c27<(2:Int)^63] (leaf normal ([c17,c19,c18,c9,int i64 c25,int i64 c27],((69637:Nat),ah.mk true true 12 (i+1) fun i_1↦if i_1<i then bu (gy m (c.f i_1)) w else nth [agg [agg [rat ((0:Rat)+m.m.a.x*c8.x+m.m.a.y*c8.y+m.m.a.z*c8.z+m.t.x) c21,rat ((0:Rat)+m.m.b.x*c8.x+m.m.b.y*c8.y+m.m.b.z*c8.z+m.t.y) c21,rat ((0:Rat)+m.m.c.x*c8.x+m.m.c.y*c8.y+m.m.c.z*c8.z+m.t.z) c21],rat ((c.f c14.toNat).d+0) (r+1+1)]] (agg [agg [c15,c15,c15],c15]) (i_1-i+0))::((3:Nat),ah.mk false true 3 1 fun j↦if(j==0)=true then agg (c13.kids.set 2 (bn (own (nat_lit 69636+1) 12 0 (i+1))))else c13)::c6))))) (leaf (exit 0) ([c17,c19,c18,c9,int i64 c25,int i64 c14],((4:Nat),ah.mk true true 12 i fun j↦agg [agg [rat (ig m.m.a (c.f j).n m.t.x) w,rat (ig m.m.b (c.f j).n m.t.y) w,rat (ig m.m.c (c.f j).n m.t.z) w],rat (c.f j).d w])::((3:Nat),ah.mk false true 3 1 fun x↦agg [int i64 c.p,ak 3 c.n fun i↦rat (c.k i) y,c20])::c6))):=by kernel_rfl
theorem ahW {x y r s w i:Nat} {c:Cu} {m:Mp}:cm T (CE x y) [] 60 A1 [part Aj [1,1,1]] ⟨aA yH (FQ c r i),Io c m y w s i,5⟩=
  let c1:Prop:=0<1;some (ag [c1,c1] (ag [c1] (leaf ret [agg [int i64 c.p,ak 3 c.n fun i↦rat (c.k i) y,ak 12 i fun i↦agg [agg [rat (ig m.m.a (c.f (i+0)).n m.t.x) w,rat (ig m.m.b (c.f (i+0)).n m.t.y) w,rat (ig m.m.c (c.f (i+0)).n m.t.z) w],rat (c.f (i+0)).d w]]]))):=by kernel_rfl
theorem Qy:aY P Fc:=aG (gd hT ga hm (aQ Jh (by kernel_rfl) (by kernel_rfl) (by kernel_rfl)) _ _) (aG (gd hT ga hm (aQ afP (by kernel_rfl) (by kernel_rfl) (by kernel_rfl)) _ _) bk)
theorem aeM:aY P N9:=aG (gd hT Qy hm (aQ Mm (by kernel_rfl) (by kernel_rfl) (by kernel_rfl)) _ _) (aG (gd hT Qy hm (aQ XP (by kernel_rfl) (by kernel_rfl) (by kernel_rfl)) _ _) bk)
theorem akf:aY P KJ:=aG (gd hT aeM hm (aQ agj (by kernel_rfl) (by kernel_rfl) (by kernel_rfl)) _ _) bk
theorem ajv {x y:Nat}:aY P (CE x y):=dr (aG (HM x y) (qm akf ga))
theorem Rl {rl:List (Nat×Nat)} {c:Cu} {y a i:Nat} (h:aT rl 4=some a):fD rl (.agg [.int .i64 c.p,bt c.k c.n y,.own a 12 0 i]) (.agg [.int .i64 c.p,bt c.k c.n y,.own 4 12 0 i]):=
 jd ⟨⟨rfl,aI rfl⟩,⟨rfl,aI rfl⟩,⟨rfl,cw h rfl rfl⟩,trivial⟩
theorem ahG (m:Mp) (s:Nat):(bn (lW m s)).size=36:=by kernel_rfl
theorem afI {x y r s w:Nat} {c:Cu} {m:Mp} (hx:x+10≤y) (hy:y<2^40) (hw:4*s+3*r+10≤w) (hw2:w<2^40) (hn:c.n<2^30) (hm2:c.m<2^30) (K:Nat):aB P uR K [cI c x r,lW m s] [] (aK (cI (dg m c) y w) []):=by
 refine gO (r:=aK (cI (dg m c) y w) []) hT (ajv (x:=x) (y:=y)) hm ag0 rfl (of_decide_eq_true (by kernel_rfl)) rfl [1,1,0,1] (i:=0) (y:=part Aj [1,1,0,1,0,0]) (z:=part Aj [1,1,1]) (by kernel_rfl) (by kernel_rfl) (by kernel_rfl) (f1:=[]) (f2:=[18]) (f3:=[]) 60 yH 5
  (fun i:Nat=>FQ c r i) (fun i=>Io c m y w s i) (fun i=>i≤c.m) (fun i=>i=c.m) (fun i=>c.m-i) (fun _=>⟨⟨_,ae2,?_⟩,fun i hi=>⟨_,ah6,?_⟩,fun i hi=>⟨_,ahW,?_⟩⟩) K []
 ·simp only[aa.all,ax]
  rw[ahG m s]
  exact⟨⟨by omega,by omega,cM (Nat.le_refl _),by omega,by omega,by omega,by omega⟩,by omega,0,Nat.zero_le _,[(1,4096),(2,8192),(3,36864)],rfl,rfl,rfl,mw rfl (by omega) (by omega) (aJ rfl rfl (jd ⟨⟨rfl,aI rfl⟩,⟨rfl,aI rfl⟩,⟨rfl,mo (by omega)⟩,trivial⟩) (aJ rfl rfl (aE rfl rfl) (aJ rfl rfl (aE rfl rfl) trivial)))⟩
 ·set_option maxRecDepth 10000 in simp only[aa.all,ax,decide_eq_true_eq,decide_eq_false_iff_not,Int.toNat_natCast,Nat.add_zero]
  refine⟨fun h=>?_,fun h=>⟨rfl,i,by omega,[(1,1),(2,2),(3,3),(4,4)],rfl,rfl,rfl,bh rfl rfl rfl (fun _ _=>aE rfl rfl) (aJ rfl rfl (Rl rfl) (aJ rfl rfl (aE rfl rfl) (aJ rfl rfl (aE rfl rfl) trivial)))⟩⟩
  have w1:i64.wrap (0+1)=1:=by decide
  have w2:i64.wrap (i64.wrap (0+1)+1)=2:=by decide
  rw[w2,w1]
  refine⟨by omega,?_,by omega,i+1,by omega,by dsimp only;omega,[(1,1),(2,2),(3,3),(4,69637)],rfl,rfl,rfl,bh rfl rfl rfl (fun k hk=>FB (y:=fun j=>gy m (c.f j)) (fun _ _=>rfl) (s':=w) ?_ rfl (Nat.le_refl _) (Nat.le_refl _) hk) (aJ rfl rfl (Rl rfl) (aJ rfl rfl (aE rfl rfl) (aJ rfl rfl (aE rfl rfl) trivial)))⟩
  ·(repeat' with_reducible refine And.intro ?_ ?_)<;>omega
  ·exact dn ⟨dn ⟨bS rfl (by omega),bS rfl (by omega),bS rfl (by omega),trivial⟩,bS (Rat.add_zero _) (by omega),trivial⟩
 ·subst hi
  simp only[aa.all,ax]
  exact⟨by omega,by omega,.refl _⟩
end Go.Am.B

/- fF.Mirror: slices.Backward of numbers. -/
namespace Go.Am.B
open Go Go.Am.N AV aa aj IntKind
abbrev MB:FuncId:=OJ
abbrev DB:FuncId:=xj
noncomputable abbrev qL:Code:=au FZ
theorem aaR:aO P MB CP (au CP):=aQ aak (by kernel_rfl) (by kernel_rfl) (by kernel_rfl)
theorem GW:aO P DB FZ qL:=aQ aad (by kernel_rfl) (by kernel_rfl) (by kernel_rfl)
theorem Q3:aO P Al wI (au wI):=aQ S7 (by kernel_rfl) (by kernel_rfl) (by kernel_rfl)
def loadT (o:Oper):Nat:=match o.op with
 |.load t _=>t
 |_=>0
def Q6 (o:Oper):Nat:=match o.op with
 |.binOp _ t _ _ _=>t
 |_=>0
noncomputable abbrev KC:Nat:=loadT (cV qL [0] 0)
noncomputable abbrev OK:Nat:=loadT (cV qL [1,0,0,1,0,0,0] 5)
noncomputable abbrev bkI:Nat:=Q6 (cV qL [0] 2)
def MC (o:Oper):Array TypeId:=match o.op with
 |.call c=>c.argTypes
 |_=>#[]
def Q0 (o:Oper):Nat:=match o.op with
 |.unOp _ t _=>t
 |_=>0
theorem aco:Em qL KC OK bkI:=⟨by kernel_rfl,⟨by kernel_rfl,by kernel_rfl,by kernel_rfl⟩,⟨by kernel_rfl,by kernel_rfl,by kernel_rfl⟩,⟨by kernel_rfl,by kernel_rfl,by kernel_rfl⟩,⟨by kernel_rfl,by kernel_rfl,by kernel_rfl⟩,⟨by kernel_rfl,by kernel_rfl,by kernel_rfl⟩,⟨by kernel_rfl,by kernel_rfl,by kernel_rfl⟩,⟨by kernel_rfl,by kernel_rfl,by kernel_rfl⟩,⟨by kernel_rfl,by kernel_rfl,by kernel_rfl⟩,⟨by kernel_rfl,by kernel_rfl,by kernel_rfl⟩,⟨by kernel_rfl,by kernel_rfl,by kernel_rfl⟩,⟨by kernel_rfl,by kernel_rfl,by kernel_rfl⟩,⟨by kernel_rfl,by kernel_rfl,by kernel_rfl⟩,
 ⟨MC (cV qL [1,0,0,1,0,0,0] 6),by kernel_rfl,by kernel_rfl,by kernel_rfl⟩,⟨Q0 (cV qL [1,0,0,1,0,0,0] 7),by kernel_rfl,by kernel_rfl,by kernel_rfl⟩,⟨by kernel_rfl,by kernel_rfl,by kernel_rfl⟩,⟨by kernel_rfl,by kernel_rfl,by kernel_rfl⟩,⟨by kernel_rfl,by kernel_rfl,by kernel_rfl⟩⟩
theorem VC {n s:Nat} {k:Nat→Rat} (hn:n<2^62):yg P DB [.bI (bt k n s)] n (fun i=>.int .i64 ((n:Int)-1-i)) (fun i=>.rat (k (n-1-i)) s):=
 Ju hT (tiS:=(look KC T).getD ⟨.bool,0,0,.nil⟩) (tiE:=(look OK T).getD ⟨.bool,0,0,.nil⟩) (by kernel_rfl) (by kernel_rfl) (by kernel_rfl) (by kernel_rfl) GW.get GW.body (by kernel_rfl) (by kernel_rfl) aco (f:=fun i=>.rat (k i) s) hn (by kernel_rfl) fun i hi=>⟨rfl,rfl⟩
noncomputable def AQ:aR:=nG::(MB,fT T [sG] [] 20 CP)::fI
abbrev zB:List Nat:=[1,3,7]
abbrev Fi (n:Nat) (k:Nat→Rat) (s:Nat):List AV:=[.ptr 0 0 1 0 [],.ptr 1 0 1 0 [],.func DB [.bI (bt k n s)]]
abbrev vw (n:Nat) (k:Nat→Rat) (s i:Nat) (x:Nat→Rat) (w:Nat):aC:=[(2,Dp i x w),(1,⟨false,true,1,1,fun _=>.own 2 3 0 i⟩),(0,⟨false,true,1,1,fun _=>bt k n s⟩)]
abbrev EA:List Nat:=[1,3,7,5]
abbrev Qf (n:Nat) (k:Nat→Rat) (s:Nat):List AV:=[.ptr 0 0 1 0 [],.ptr 1 0 1 0 [],.func DB [.bI (bt k n s)],.ptr 3 0 3 0 []]
noncomputable abbrev rY:Code:=au wI
def CN:Code→Code×Code
 |.block _ (.rangeFunc _ _ x y)=>(x,y)
 |_=>(.skip,.skip)
noncomputable abbrev Nn:Code:=(CN (part rY [1,1,0,1])).1
noncomputable abbrev MT:Code:=(CN (part rY [1,1,0,1])).2
theorem abv {n s:Nat} {k:Nat→Rat}:aH T AQ [] 60 zB (before rY [1,1,0,1]) ⟨aN 0 [bt k n s],[],0⟩=
  let c1:AV:=ak 3 n fun i↦rat (k i) s;some (ag [(0:Nat)<1] (leaf normal ([ptr 0 0 (bn (bt k n s)).size 0 [],ptr 8192 0 1 0 [],func xj [c1.bI]],[((8192:Nat),ah.mk false true 1 1 fun x↦nil),((0:Nat),ah.mk false true (bn (bt k n s)).size 1 fun x↦c1)]))):=by kernel_rfl
theorem afR {n s w i:Nat} {k x:Nat→Rat} {u:Int} {v:Rat}:aH T AQ [] 60 EA [Nn] ⟨aA (zB++[8,9]) (Fi n k s++[.int .i64 u,.rat v s]),vw n k s i x w,3⟩=
  let c1:AV:=ak 3 n fun i↦rat (k i) s;some (ag [(0:Nat)<1] (leaf normal ([ptr 0 0 1 0 [],ptr 1 0 1 0 [],func xj [c1.bI],ptr 3 0 3 0 []],[((2:Nat),ah.mk true true 3 i fun i↦rat (x i) w),((3:Nat),ah.mk false true 3 1 fun j↦if(j==0)=true then bn (rat v s)else rat 0 1),((1:Nat),ah.mk false true 1 1 fun x↦own 2 3 0 i),((0:Nat),ah.mk false true 1 1 fun x↦c1)]))):=by kernel_rfl
theorem aba {n s w i:Nat} {k x:Nat→Rat} {v:Rat}:aH T AQ [] 60 zB [MT] ⟨aA EA (Qf n k s),(3,tP v s)::vw n k s i x w,4⟩=
  let c4:AV:=ak 3 n fun i↦rat (k i) s;let c3:Nat:=2^42;let c2:Int:=(↑n:Int)-(1:Int);let c1:Prop:=0<1;some (ag [c1,c1,(0:Int)≤(0:Int)∧Int.toNat (0:Int)<n,c1,c1,-(2:Int)^63≤c2∧c2<(2:Int)^63,(0:Int)≤c2∧c2.toNat<n,s<c3,s<c3,c1,s+s+1<c3,s<c3,(1:Nat)*3≤2^24,(i+1)*((56:Nat)+1)*2≤2^47,c1] (leaf normal ([ptr 0 0 1 0 [],ptr 1 0 1 0 [],func xj [c4.bI]],[((57348:Nat),ah.mk true true 3 (i+1) fun i_1↦if i_1<i then rat (x i_1) w else nth [rat (k (Int.toNat (0:Int))+k c2.toNat-v) (s+s+1+s+1)] (rat 0 1) (i_1-i+0)),((1:Nat),ah.mk false true 1 1 fun j↦if(j==0)=true then bn (own (nat_lit 57347+1) 3 0 (i+1))else own 2 3 0 i),((0:Nat),ah.mk false true 1 1 fun x↦c4)]))):=by kernel_rfl
theorem afq {n s w i:Nat} {k x:Nat→Rat}:cm T AQ [] 60 wI [part rY [1,1,1]] ⟨aA zB (Fi n k s),vw n k s i x w,3⟩=
  some (ag [(0:Nat)<1] (leaf ret [ak 3 i fun i↦rat (x (i+0)) w])):=by kernel_rfl
theorem QL:aY P AQ:=dr (aG (gd hT (ij bk) hm aaR _ _) ga)
theorem aeo {n s w:Nat} {k:Nat→Rat} (h:3*s+2≤w) (hw:w<2^40) (hn:n<2^40) (K:Nat):aB P Al K [bt k n s] [] (aK (bt (hU n k) n w) []):=by
 refine Mu (r:=aK (bt (hU n k) n w) []) hT Q3 rfl (of_decide_eq_true (by kernel_rfl)) rfl (fun _ cx hro hk=>?_) K []
 refine aq.Ob hT QL hm (x:=rY) (assign:=Nn) (body:=MT) (g:=7) (p0:=8) (p1:=9) [1,1,0,1] (i:=0) (by kernel_rfl) (by kernel_rfl) Q3.dst hro hk GW.enters (VC (s:=s) (k:=k) (by omega)) (of_decide_eq_true (by kernel_rfl)) (of_decide_eq_true (by kernel_rfl)) (by decide) (f1:=[]) (f2:=[]) (f3:=[])
  60 zB EA (Fi n k s) (fun _=>rfl) rfl (fun i=>vw n k s i (hU n k) w) 3 4 (fun _=>Qf n k s) (fun i=>(3,tP (k (n-1-i)) s)::vw n k s i (hU n k) w) [0,1] ⟨_,abv,?_⟩ (fun i hi=>⟨_,afR,?_⟩) (fun i hi=>⟨_,aba,?_⟩) ?_
 ·simp only[aa.all,ax]
  exact⟨by omega,trivial,[(0,0),(1,8192)],rfl,rfl,rfl,mw rfl (by omega) (by omega) (aJ rfl rfl (.inl (.inl ⟨rfl,rfl⟩)) (aJ rfl rfl (aE rfl rfl) trivial))⟩
 ·simp only[aa.all,ax]
  exact⟨by omega,trivial,[(0,0),(1,1),(2,2),(3,3)],rfl,rfl,rfl,aJ rfl rfl (aE rfl rfl) (bh rfl rfl rfl (fun _ _=>aE rfl rfl) (aJ rfl rfl (.inl (.inl ⟨rfl,rfl⟩)) (aJ rfl rfl (aE rfl rfl) trivial)))⟩
 ·simp only[aa.all,ax,Int.toNat_zero]
  refine⟨by omega,trivial,[(0,0),(1,1),(2,57348)],rfl,rfl,rfl,bh rfl rfl rfl (fun j hj=>tc (fun _ _=>rfl) ?_ (Nat.le_refl _) (by omega) hj) (aJ rfl rfl (.inl (.inl ⟨rfl,rfl⟩)) (aJ rfl rfl (aE rfl rfl) trivial))⟩
  rw[show((n:Int)-1).toNat=n-1 by omega];rfl
 ·rw[show behind rY [1,1,0,1]=[part rY [1,1,1]]from by kernel_rfl]
  exact(aD.fin hT QL hm 60 afq (by kernel_rfl) (by simp only[aa.all,ax];exact⟨by omega,.refl _⟩)).mono fun _ _ h=>.inl h
theorem afE {s w:Nat} (h:3*s+2≤w) (hw:w<2^40):∀K args pre q,Qc s w K args pre=some q→aB P Al K args pre q:=cU fun⟨⟨n,k⟩,_⟩ K hn=>aeo h hw hn K
end Go.Am.B
