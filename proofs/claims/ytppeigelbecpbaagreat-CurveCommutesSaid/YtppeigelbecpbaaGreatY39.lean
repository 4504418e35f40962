/- Spline.Over, Spline.Insert, curve.back. -/
import Derived.Test.YtppeigelbecpbaaGreatY38
import Derived.Test.YtppeigelbecpbaaGreatY37
import Derived.Test.YtppeigelbecpbaaGreatB33
import Derived.Test.YtppeigelbecpbaaGreatZ2
set_option linter.unusedVariables false
namespace Go.Am.B
open Go Go.Am.N AV aa aj IntKind
theorem ai6:aP P zf AX (au AX):=aQ X6 (by kernel_rfl) (by kernel_rfl) (by kernel_rfl)
theorem ahd:aP P CK wm (au wm):=aQ akT (by kernel_rfl) (by kernel_rfl) (by kernel_rfl)
theorem Ln:aP P oP tv (au tv):=aQ Xs (by kernel_rfl) (by kernel_rfl) (by kernel_rfl)
def Df (c:Cu) (n:Nat) (k:Nat→Rat) (j:Nat):Pl:=lR c (fX c.n c.k (k (ee k n j))) c.p.toNat (fun q=>k (q+(j+1)))
def DD (c:Cu) (n:Nat) (k:Nat→Rat):Cu:=⟨c.p,n,k,n-c.p.toNat-1,Df c n k⟩
noncomputable def DW:aR:=nG::(ov,tg)::(ux,FT)::(rY,B1)::(sS,HM)::fD
abbrev wo:List Nat:=[1,2,4,5,17,18]
abbrev HD (n m:Nat) (k:Nat→Rat) (j:Nat):List AV:=[ls k n,.ptr 0 0 3 0 [],.ptr 1 0 3 0 [],.ptr 2 0 3 0 [],.int .i64 m,.int .i64 j]
abbrev F5 (c:Cu) (n:Nat) (k:Nat→Rat) (h:Nat→Pl) (j:Nat):aC:=[(3,⟨true,true,12,j,fun i=>cK (h i) sB⟩),(2,⟨false,true,3,1,fun _=>.agg [.int .i64 c.p,ls k n,.own 3 12 0 j]⟩),(1,⟨false,true,3,1,fun _=>.agg [.int .i64 0,.nil,.nil]⟩),(0,pn c sK)]
noncomputable abbrev vE:Code:=au AX
theorem tV {f:Nat→Pl} {m s s':Nat} (h:s≤s'):lT (fun i=>cK (f i) s) m s':=fun _ _=>vX rfl h
noncomputable def Pt:Spec:=cM (kC (qc sK sK) (kC (kL sK) kN)) (fun a=>eA (DD a.1 a.2.1.1 a.2.1.2) sK sB) fun a=>[Kn a.1.n a.1.p.toNat a.1.k,1≤a.1.p,a.1.p≤6,a.1.n<2^40,a.1.m<2^40,a.2.1.1<2^29,a.1.p+1≤a.2.1.1]
def rW (c:Cu) (t:Rat):Cu:=DD c (c.n+1) (gJ c.k t (fE c.k t c.n))
noncomputable def QD:aR:=nG::(xH,LS 2000 2002)::(zf,Pt)::[]
abbrev mY:List Nat:=[2,3,13,14,15]
abbrev ID (c:Cu) (i:Nat):List AV:=[.ptr 0 0 3 0 [],.ptr 1 0 3 0 [],oC c.f c.m sB,.int .i64 c.m,.int .i64 i]
abbrev It (c:Cu) (i:Nat):aC:=[(2,⟨true,true,12,i,fun j=>bu (eu (c.f j)) (sB+sB)⟩),(1,⟨false,true,3,1,fun _=>.agg [.int .i64 c.p,bt c.k c.n (sK+10),.own 2 12 0 i]⟩),(0,⟨false,true,3,1,fun _=>.agg [.int .i64 0,.nil,.nil]⟩)]
noncomputable abbrev mA:Code:=au tv
def OU:Spec:=cM (kC (IF sB) kN) (fun a=>bu (eu a.1) (sB+sB)) fun _=>[]
def Dq:aR:=nG::(qv,Ca sK (sK+10))::(nk,OU)::[]
theorem aeX {c:Cu} {n:Nat} {k:Nat→Rat}:aH T DW [] 60 wo (before vE [1,1,0,1]) ⟨aN 0 [eA c sK sK,ls k n],[],0⟩=
  let c3:Nat:=(bn (eA c sK sK)).size;let c2:Prop:=0<1;let c1:AV:=agg [int i64 (0:Int),nil,nil];some (ag [c2,c2] (ag [c2,bG (fun i↦rat (k i) sK) n sK,n<2^40,-(2:Int)^40<c.p,c.p<(2:Int)^40] (leaf normal ([ak 3 n fun i↦rat (k i) 4096,ptr 0 0 c3 0 [],ptr 4096 0 3 0 [],ptr 24576 0 3 0 [],int i64 ((↑n:Int)-c.p-(1:Int)),int i64 (0:Int)],[((24576:Nat),ah.mk false true 3 1 fun j↦if(j==0)=true then bn (agg ((c1.kids.set 0 (bn (int i64 c.p))).set 1 (bn (ls k n))))else c1),((4096:Nat),ah.mk false true 3 1 fun x↦c1),((0:Nat),ah.mk false true c3 1 fun x↦agg [int i64 c.p,ak 3 c.n fun i↦rat (c.k i) 4096,ak 12 c.m fun i↦agg [rat (c.f i).n.x 4096,rat (c.f i).n.y 4096,rat (c.f i).n.z 4096,rat (c.f i).d 4096]])])))):=by kernel_rfl
theorem ajc {c:Cu} {n m j:Nat} {k:Nat→Rat} {h:Nat→Pl}:aH T DW [19] 60 wo [part vE [1,1,0,1,0,0]] ⟨aB wo (HD n m k j),F5 c n k h j,4⟩=
  let c20:Int:=(↑m:Int);let c18:Prop:=bG (fun i↦rat (c.k i) sK) c.n sK;let c17:AV:=ptr 2 0 3 0 [];let c16:AV:=ptr 1 0 3 0 [];let c15:AV:=ptr 0 0 3 0 [];let c14:Nat:=2^40;let c13:AV:=rat 0 1;let c12:Int:=(↑j:Int);let c10:AV:=own 3 12 0 j;let c9:AV:=ak 3 n fun i↦rat (k i) 4096;let c8:Prop:=0<1;let c6:Int:=(2:Int)^63;let c5:Cu:=Cu.mk c.p c.n (fun i↦aS (rat (c.k i) sK)) c.m fun i↦s8 (cK (c.f i) sK);let c2:List (Nat×ah):=[((1:Nat),ah.mk false true 3 1 fun x↦agg [int i64 (0:Int),nil,nil]),((0:Nat),ah.mk false true 3 1 fun x↦agg [int i64 c.p,ak 3 c.n fun i↦rat (c.k i) 4096,ak 12 c.m fun i↦agg [rat (c.f i).n.x 4096,rat (c.f i).n.y 4096,rat (c.f i).n.z 4096,rat (c.f i).d 4096]])];let c19:AV:=agg [int i64 c.p,ls k n,c10];let c7:Int:=(↑(ee (fun i↦aS (rat (k i) sK)) n c12.toNat):Int);let c4:Int:=c12+c.p+(1:Int);let c3:Int:=c12+(1:Int);let c11:Nat:=c4.toNat-c3.toNat;let c1:Int:=(↑(fX c.n (fun i↦aS (rat (c.k i) sK)) (k c7.toNat)):Int);some (fork (decide (c12<c20)) (ag [bG (fun i↦rat (k i) sK) n sK,(0:Int)≤c12,c12≤(↑n:Int),n<c14] (ag [c8,c8,(0:Int)≤c7∧c7.toNat<n,c18,sK≤sK,Kn c.n c.p.toNat fun i↦aS (rat (c.k i) sK),(0:Int)≤c.p,c.n<c14] (ag [c8,c8,-c6≤c3∧c3<c6,c8,-c6≤c12+c.p∧c12+c.p<c6,-c6≤c4∧c4<c6,(0:Int)≤c3∧c3≤c4∧c4≤c4∧c4≤(↑n:Int),c18,lT (fun i↦cK (c.f i) sK) c.m sK,bG (fun i↦rat (k (i+c3.toNat)) sK) c11 sK,(1:Int)≤c.p,c.p≤(6:Int),c.n<c14,c.m<c14,-(2:Int)^40<c1,c1<(2:Int)^40,(1:Nat)*12≤2^24,(j+1)*((224:Nat)+1)*2≤2^47,c8] (ag [-c6≤c3∧c3<c6] (leaf normal ([c9,c15,c16,c17,int i64 c20,int i64 c3],((147460:Nat),ah.mk true true 12 (j+1) fun i↦if i<j then cK (h i) sB else nth [agg [rat (gy c5 c1 c11 (fun i↦aS (rat (k (i+c3.toNat)) sK)) 0) sB,rat (gy c5 c1 c11 (fun i↦aS (rat (k (i+c3.toNat)) sK)) 1) sB,rat (gy c5 c1 c11 (fun i↦aS (rat (k (i+c3.toNat)) sK)) 2) sB,rat (gy c5 c1 c11 (fun i↦aS (rat (k (i+c3.toNat)) sK)) 3) sB]] (agg [c13,c13,c13,c13]) (i-j+0))::((2:Nat),ah.mk false true 3 1 fun j_1↦if(j_1==0)=true then agg (c19.kids.set 2 (bn (own (nat_lit 147459+1) 12 0 (j+1))))else c19)::c2)))))) (leaf (exit 0) ([c9,c15,c16,c17,int i64 c20,int i64 c12],((3:Nat),ah.mk true true 12 j fun i↦agg [rat (h i).n.x 536870912,rat (h i).n.y 536870912,rat (h i).n.z 536870912,rat (h i).d 536870912])::((2:Nat),ah.mk false true 3 1 fun x↦agg [int i64 c.p,c9,c10])::c2))):=by kernel_rfl
theorem WU {c:Cu} {n m j:Nat} {k:Nat→Rat} {h:Nat→Pl}:cm T DW [] 60 AX [part vE [1,1,1]] ⟨aB wo (HD n m k j),F5 c n k h j,4⟩=
  let c1:Prop:=0<1;some (ag [c1,c1] (ag [c1] (leaf ret [agg [int i64 c.p,ak 3 n fun i↦rat (k i) 4096,ak 12 j fun i↦agg [rat (h (i+0)).n.x 536870912,rat (h (i+0)).n.y 536870912,rat (h (i+0)).n.z 536870912,rat (h (i+0)).d 536870912]]]))):=by kernel_rfl
theorem aaA {c:Cu} {t:Rat}:bF T QD [] 60 wm (au wm) ⟨aN 0 [eA c 2000 4000,.rat t 2000],[],0⟩=
  some (ag [0<1,0<1,0<1,bG (fun i=>.rat (c.k i) 2000) c.n 2000,2000≤2000,c.n<2^40,bG (fun i=>.rat (c.k i) 2000) c.n sK,lT (fun i=>cK (c.f i) 4000) c.m sK,bG (fun i=>.rat (gJ c.k t (fE c.k t c.n) i) 2002) (c.n+1) sK,Kn c.n c.p.toNat c.k,1≤c.p,c.p≤6,c.n<2^40,c.m<2^40,c.n+1<2^29,c.p+1≤(c.n+1:Nat),0<1]
   (ag [0<1] (leaf .ret [eA (rW c t) sK sB]))):=by kernel_rfl
theorem aip {c:Cu}:aH T Dq [] 60 mY (before mA [1,1,0,1]) ⟨aN 0 [eA c sK sB],[],0⟩=
  let c3:Nat:=sK+10;let c2:Prop:=0<1;let c1:AV:=agg [int i64 (0:Int),nil,nil];some (ag [c2,c2,bG (fun i↦rat (c.k i) sK) c.n sK,c3≤c3,c3<2^40,c.n<2^40,c2] (ag [c2] (leaf normal ([ptr 4096 0 3 0 [],ptr 32768 0 3 0 [],ak 12 c.m fun i↦agg [rat (c.f i).n.x 536870912,rat (c.f i).n.y 536870912,rat (c.f i).n.z 536870912,rat (c.f i).d 536870912],int i64 (↑c.m:Int),int i64 (0:Int)],[((32768:Nat),ah.mk false true 3 1 fun j↦if(j==0)=true then bn (agg ((c1.kids.set 0 (bn (int i64 c.p))).set 1 (bn (bt (fun i↦aS (rat (c.k i) sK)) c.n c3))))else c1),((4096:Nat),ah.mk false true 3 1 fun x↦c1)])))):=by kernel_rfl
theorem Zw {c:Cu} {i:Nat}:aH T Dq [16] 60 mY [part mA [1,1,0,1,0,0]] ⟨aB mY (ID c i),It c i,3⟩=
  let c11:Int:=(↑c.m:Int);let c10:AV:=own 2 12 0 i;let c9:AV:=ptr 1 0 3 0 [];let c8:AV:=ptr 0 0 3 0 [];let c7:Prop:=0<1;let c6:Int:=(↑i:Int);let c5:AV:=rat 0 1;let c4:Nat×ah:=((0:Nat),ah.mk false true 3 1 fun x↦agg [int i64 (0:Int),nil,nil]);let c1:AV:=ak 12 c.m fun i↦agg [rat (c.f i).n.x 536870912,rat (c.f i).n.y 536870912,rat (c.f i).n.z 536870912,rat (c.f i).d 536870912];let c12:Int:=c6+(1:Int);let c3:AV:=agg [int i64 c.p,bt c.k c.n (sK+10),c10];let c2:Pl:=c.f c6.toNat;some (fork (decide (c6<c11)) (ag [(0:Int)≤c6∧c6.toNat<c.m,c7] (ag [c7,c7,sB≤sB,sB≤sB,sB≤sB,sB≤sB,(1:Nat)*12≤2^24,(i+1)*((224:Nat)+1)*2≤2^47,c7] (ag [-(2:Int)^63≤c12∧c12<(2:Int)^63] (leaf normal ([c8,c9,c1,int i64 c11,int i64 c12],[((40963:Nat),ah.mk true true 12 (i+1) fun i_1↦if i_1<i then bu (eu (c.f i_1)) (sB+sB)else nth [agg [agg [rat (c2.n.x/c2.d) (sB+sB),rat (c2.n.y/c2.d) (sB+sB),rat (c2.n.z/c2.d) (sB+sB)],rat c2.d (sB+sB)]] (agg [agg [c5,c5,c5],c5]) (i_1-i+0)),((1:Nat),ah.mk false true 3 1 fun j↦if(j==0)=true then agg (c3.kids.set 2 (bn (own (nat_lit 40962+1) 12 0 (i+1))))else c3),c4]))))) (leaf (exit 0) ([c8,c9,c1,int i64 c11,int i64 c6],[((2:Nat),ah.mk true true 12 i fun j↦agg [agg [rat ((c.f j).n.x/(c.f j).d) 1073741824,rat ((c.f j).n.y/(c.f j).d) 1073741824,rat ((c.f j).n.z/(c.f j).d) 1073741824],rat (c.f j).d 1073741824]),((1:Nat),ah.mk false true 3 1 fun x↦agg [int i64 c.p,ak 3 c.n fun i↦rat (c.k i) 4106,c10]),c4]))):=by kernel_rfl
theorem ZX {c:Cu} {i:Nat}:cm T Dq [] 60 tv [part mA [1,1,1]] ⟨aB mY (ID c i),It c i,3⟩=
  let c1:Prop:=0<1;some (ag [c1,c1] (ag [c1] (leaf ret [agg [int i64 c.p,ak 3 c.n fun i↦rat (c.k i) 4106,ak 12 i fun i↦agg [agg [rat ((c.f (i+0)).n.x/(c.f (i+0)).d) 1073741824,rat ((c.f (i+0)).n.y/(c.f (i+0)).d) 1073741824,rat ((c.f (i+0)).n.z/(c.f (i+0)).d) 1073741824],rat (c.f (i+0)).d 1073741824]]]))):=by kernel_rfl
theorem Jh {k:Nat→Rat} {n:Nat}:∀{f i:Nat},i<n→rq k n f i<n
 |0,_,h=>h
 |f+1,i,h=>by
  unfold rq
  split
  ·exact Jh (by omega)
  ·exact h
theorem Qd {k:Nat→Rat} {n i:Nat} (h:i<n):ee k n i<n:=Jh h
theorem Jg {n p:Nat} {k:Nat→Rat} (h:Kn n p k) {t:Rat}:fX n k t<n:=by
 have hl:=h.len
 unfold fX
 split
 ·omega
 ·have:=h.BL ‹_›
  omega
theorem X7:aY P DW:=dm (aG vL (aG LB (aG IE (aG Nr gk))))
theorem Tm {c:Cu} {n:Nat} {k:Nat→Rat} (hk:Kn c.n c.p.toNat c.k) (hp1:1≤c.p) (hp6:c.p≤6) (hn:c.n<2^40) (hm2:c.m<2^40) (hn2:n<2^29) (hpn:c.p+1≤n) (K:Nat):aA P zf K [eA c sK sK,ls k n] [] (aK (eA (DD c n k) sK sB) []):=by
 obtain⟨q,hq⟩:∃q,q=c.p.toNat:=⟨_,rfl⟩
 have hqp:c.p=(q:Int):=by omega
 refine gN (r:=aK (eA (DD c n k) sK sB) []) hT X7 hm ai6 rfl (of_decide_eq_true (by kernel_rfl)) rfl [1,1,0,1] (i:=0) (y:=part vE [1,1,0,1,0,0]) (z:=part vE [1,1,1]) (by kernel_rfl) (by kernel_rfl) (by kernel_rfl) (f1:=[]) (f2:=[19]) (f3:=[]) 60 wo 4
  (fun j:Nat=>HD n (n-c.p.toNat-1) k j) (fun j=>F5 c n k (Df c n k) j) (fun j=>j≤n-c.p.toNat-1) (fun j=>j=n-c.p.toNat-1) (fun j=>n-c.p.toNat-1-j) (fun _=>⟨⟨_,aeX,?_⟩,fun j hj=>⟨_,ajc,?_⟩,fun j hj=>⟨_,WU,?_⟩⟩) K []
 ·have e1:(n:Int)-c.p-1=((n-c.p.toNat-1:Nat):Int):=by omega
  simp only[aa.all,ax,e1]
  exact⟨⟨by omega,by omega⟩,⟨by omega,cN (Nat.le_refl _),by omega,by omega,by omega⟩,0,Nat.zero_le _,[(0,0),(1,4096),(2,24576)],rfl,rfl,rfl,mw rfl (by omega) (by omega) (aJ rfl rfl (iS ⟨⟨rfl,aI rfl⟩,⟨rfl,aI rfl⟩,⟨rfl,mH (by omega)⟩,trivial⟩) (aJ rfl rfl (aE rfl rfl) (aJ rfl rfl (aE rfl rfl) trivial)))⟩
 ·have e1:((j:Int)+1).toNat=j+1:=by omega
  have e2:((j:Int)+c.p+1).toNat=j+q+1:=by omega
  have e3:j+q+1-(j+1)=q:=by omega
  simp only[aa.all,ax,decide_eq_true_eq,decide_eq_false_iff_not,Int.toNat_natCast,e1,e2,e3,Nat.add_zero]
  have h7:ee (fun i=>aS (rat (k i) sK)) n j=ee k n j:=rfl
  have h8:∀t,fX c.n (fun i=>aS (rat (c.k i) sK)) t=fX c.n c.k t:=fun _=>rfl
  simp only[h7,h8]
  refine⟨fun h=>?_,fun h=>⟨rfl,j,by omega,[(0,0),(1,1),(2,2),(3,3)],rfl,rfl,rfl,bk rfl rfl rfl (fun _ _=>aE rfl rfl) (aJ rfl rfl (oX rfl rfl rfl) (aJ rfl rfl (aE rfl rfl) (aJ rfl rfl (aE rfl rfl) trivial)))⟩⟩
  have h1:=Qd (k:=k) (n:=n) (i:=j) (by omega)
  have h2:=Jg hk (t:=k (ee k n j))
  (repeat' with_reducible refine And.intro ?_ ?_)
  all_goals first|omega|exact cN (Nat.le_refl _)|exact hk|exact fun _ _=>.refl _|skip
  refine⟨j+1,by omega,by dsimp only;omega,[(0,0),(1,1),(2,2),(3,147460)],rfl,rfl,rfl,bk rfl rfl rfl (fun j' hj'=>AO (g:=fun j=>cK (Df c n k j) sB) (fun _ _=>⟨rfl,rfl⟩) rfl ?_ hj') (aJ rfl rfl (oX rfl rfl rfl) (aJ rfl rfl (aE rfl rfl) (aJ rfl rfl (aE rfl rfl) trivial)))⟩
  exact vX (h:=lR c (fX c.n c.k (k (ee k n j))) q (fun q=>k (q+(j+1)))) (by unfold Df;rw[hq]) (Nat.le_refl _)
 ·subst hj
  simp only[aa.all,ax]
  exact⟨⟨by omega,by omega⟩,by omega,.refl _⟩
theorem Wk:∀K args pre r,Pt K args pre=some r→aA P zf K args pre r:=cS fun⟨c,⟨n,k⟩,_⟩ K hn=>Tm hn.1 hn.2.1 hn.2.2.1 hn.2.2.2.1 hn.2.2.2.2.1 hn.2.2.2.2.2.1 hn.2.2.2.2.2.2 K
theorem XP:aY P QD:=dm (aG (adh (by decide) (by decide)) (aG Wk bh))
noncomputable def OT:Spec:=cM (kC (qc 2000 4000) (kC (kZ 2000) kN)) (fun a=>eA (rW a.1 a.2.1) sK sB) fun a=>[Kn a.1.n a.1.p.toNat a.1.k,1≤a.1.p,a.1.p≤6,a.1.n<2^28,a.1.m<2^40]
theorem Rz:∀K args pre r,OT K args pre=some r→aA P CK K args pre r:=cS fun⟨c,t,_⟩ K hn=>by
 obtain⟨h1,h2,h3,h4,h5⟩:Kn c.n c.p.toNat c.k∧1≤c.p∧c.p≤6∧c.n<2^28∧c.m<2^40:=hn
 have hl:=h1.len
 refine bJ (r:=aK (eA (rW c t) sK sB) []) hT XP hm ahd rfl (of_decide_eq_true (by kernel_rfl)) rfl 60 aaA (fun _=>?_) K []
 simp only[aa.all,ax]
 (repeat' with_reducible refine And.intro ?_ ?_)
 all_goals first|omega|exact cN (by decide)|exact h1|exact tV (by decide)|skip
 exact .refl _
theorem adv:∀K args pre r,OU K args pre=some r→aA P nk K args pre r:=cS fun⟨h,_⟩ K _=>HY (by decide) (by decide) (by decide) K
theorem Zs:aY P Dq:=dm (aG (GJ _ _) (aG adv bh))
theorem agm {c:Cu} (hn:c.n<2^40) (hm2:c.m<2^29) (K:Nat):aA P oP K [eA c sK sB] [] (aK (cI ⟨c.p,c.n,c.k,c.m,fun i=>eu (c.f i)⟩ (sK+10) (sB+sB)) []):=by
 refine gN (r:=aK (cI ⟨c.p,c.n,c.k,c.m,fun i=>eu (c.f i)⟩ (sK+10) (sB+sB)) []) hT Zs hm Ln rfl (of_decide_eq_true (by kernel_rfl)) rfl [1,1,0,1] (i:=0) (y:=part mA [1,1,0,1,0,0]) (z:=part mA [1,1,1]) (by kernel_rfl) (by kernel_rfl) (by kernel_rfl) (f1:=[]) (f2:=[16]) (f3:=[]) 60 mY 3
  (fun i:Nat=>ID c i) (fun i=>It c i) (fun i=>i≤c.m) (fun i=>i=c.m) (fun i=>c.m-i) (fun _=>⟨⟨_,aip,?_⟩,fun i hi=>⟨_,Zw,?_⟩,fun i hi=>⟨_,ZX,?_⟩⟩) K []
 ·simp only[aa.all,ax]
  exact⟨⟨by omega,by omega,cN (Nat.le_refl _),by omega,by decide,by omega,by omega⟩,by omega,0,Nat.zero_le _,[(0,4096),(1,32768)],rfl,rfl,rfl,mw rfl (by omega) (by omega) (aJ rfl rfl (iS ⟨⟨rfl,aI rfl⟩,⟨rfl,aI rfl⟩,⟨rfl,mH (by omega)⟩,trivial⟩) (aJ rfl rfl (aE rfl rfl) trivial))⟩
 ·simp only[aa.all,ax,decide_eq_true_eq,decide_eq_false_iff_not,Int.toNat_natCast,Nat.add_zero]
  refine⟨fun h=>?_,fun h=>⟨rfl,i,by omega,[(0,0),(1,1),(2,2)],rfl,rfl,rfl,bk rfl rfl rfl (fun _ _=>aE rfl rfl) (aJ rfl rfl (oX rfl rfl rfl) (aJ rfl rfl (aE rfl rfl) trivial))⟩⟩
  (repeat' with_reducible refine And.intro ?_ ?_)
  all_goals first|omega|exact Nat.le_refl _|skip
  exact⟨i+1,by omega,by dsimp only;omega,[(0,0),(1,1),(2,40963)],rfl,rfl,rfl,bk rfl rfl rfl (fun j hj=>AO (g:=fun j=>bu (eu (c.f j)) (sB+sB)) (fun _ _=>⟨rfl,rfl⟩) rfl (.refl _) hj) (aJ rfl rfl (oX rfl rfl rfl) (aJ rfl rfl (aE rfl rfl) trivial))⟩
 ·subst hi
  simp only[aa.all,ax]
  exact⟨⟨by omega,by omega⟩,by omega,.refl _⟩
def LC:Spec:=cM (kC (qc sK sB) kN) (fun a=>cI ⟨a.1.p,a.1.n,a.1.k,a.1.m,fun i=>eu (a.1.f i)⟩ (sK+10) (sB+sB)) fun a=>[a.1.n<2^40,a.1.m<2^29]
theorem aeG:∀K args pre r,LC K args pre=some r→aA P oP K args pre r:=cS fun⟨c,_⟩ K hn=>agm hn.1 hn.2 K
end Go.Am.B

/- curve.inner, curve.Insert. -/
namespace Go.Am.B
open Go Go.Am.N AV aa aj IntKind
theorem aeH:aP P Cd zJ (au zJ):=aQ agQ (by kernel_rfl) (by kernel_rfl) (by kernel_rfl)
theorem Jt:aP P sU vO (au vO):=aQ ahi (by kernel_rfl) (by kernel_rfl) (by kernel_rfl)
noncomputable def M0:aR:=nG::(tw,Bu)::fD
def K6:Spec:=cM (kC (jz 2000 2000) (kC (kZ 2000) kN)) (fun a=>.bool (decide (a.1.k 0<a.2.1)&&decide (a.2.1<a.1.k (a.1.n-1)))) fun a=>[dy a.1]
def HZ:Spec:=cM (kC (jz 2000 2000) kN) (fun a=>eA ⟨a.1.p,a.1.n,a.1.k,a.1.m,fun i=>cF (a.1.f i)⟩ 2000 4000) fun a=>[a.1.n<2^40,a.1.m<2^30]
noncomputable def Kl:aR:=nG::(Cd,K6)::(uf,D6)::(oV,HZ)::(CK,OT)::(oP,LC)::[]
def dj (c:Cu) (t:Rat):Int:=if¬(c.k 0<t∧t<c.k (c.n-1))then 7 else if c.p≤(bU c.k t c.n:Int)then 5 else if 40≤c.m then 2 else 0
def Gs (c:Cu) (t:Rat):Cu:=⟨c.p,c.n+1,gJ c.k t (fE c.k t c.n),c.n+1-c.p.toNat-1,fun i=>eu ((rW ⟨c.p,c.n,c.k,c.m,fun i=>cF (c.f i)⟩ t).f i)⟩
def qi:Cu:=⟨0,0,fun _=>0,0,fun _=>⟨⟨0,0,0⟩,0⟩⟩
def yB (c:Cu) (t:Rat):Cu:=if dj c t=0 then Gs c t else qi
theorem UW {c:Cu} {t:Rat}:bF T M0 [16] 60 zJ (au zJ) ⟨aN 0 [cI c 2000 2000,.rat t 2000],[],0⟩=
  let c9:Prop:=eI (fun i↦bu (c.f i) 2000) c.m sJ;let c8:Prop:=bG (fun i↦rat (c.k i) 2000) c.n sJ;let c7:Prop:=(0:Int)≤(0:Int)∧Int.toNat (0:Int)<c.n;let c5:Prop:=dy (Cu.mk c.p c.n (fun i↦aS (rat (c.k i) 2000)) c.m fun i↦dN (bu (c.f i) 2000));let c4:Int:=(↑c.n:Int)-(1:Int);let c3:Prop:=0<1;let c2:Int:=fc (c.k (Int.toNat (0:Int))) t;let c1:Prop:=2000<2^42;let c6:Bool:=bif true then decide (c2<(0:Int))else false;some (fork c6 (ag [c3,c8,c9,c5,c3,c7,c3,c1,c1,c6=true,c3,c3,c3,-(2:Int)^63≤c4∧c4<(2:Int)^63,(0:Int)≤c4∧c4.toNat<c.n,c1,c1] (leaf ret [AV.bool (bif true then decide (fc t (c.k c4.toNat)<(0:Int))else false)])) (ag [c3,c8,c9,c5,c3,c7,c3,c1,c1,c6=false] (leaf ret [AV.bool false]))):=by kernel_rfl
theorem Q1 {c:Cu} {t:Rat}:bF T Kl [6,12,21] 60 vO (au vO) ⟨aN 0 [cI c 2000 2000,.rat t 2000],[],0⟩=
  let no:Int→aa (List AV):=fun e=>ag [0<1] (ag [0<1] (leaf .ret [.agg [.int .i64 0,.nil,.nil],.int .i64 e]));let k:Prop:=bG (fun i=>.rat (c.k i) 2000) c.n 2000;let f:Prop:=eI (fun i=>bu (c.f i) 2000) c.m 2000
  some (ag [0<1,0<1,k,f,2000≤2000,dy c] (fork (!(decide (c.k 0<t)&&decide (t<c.k (c.n-1)))) (no 7) (ag [0<1,0<1,bG (fun i=>.rat (c.k i) 2000) c.n sK,2000≤sK,c.n<2^40,0<1] (fork (decide ((bU c.k t c.n:Int)≥c.p)) (no 5) (ag [0<1] (fork (decide ((c.m:Int)≥40)) (no 2)
   (ag [0<1,k,f,c.n<2^40,c.m<2^30,0<1,k,lT (fun i=>cK (cF (c.f i)) 4000) c.m 4000,2000≤2000,Kn c.n c.p.toNat c.k,1≤c.p,c.p≤6,c.n<2^28,c.m<2^40,bG (fun i=>.rat (gJ c.k t (fE c.k t c.n) i) sK) (c.n+1) sK,lT (fun i=>cK ((rW ⟨c.p,c.n,c.k,c.m,fun i=>cF (c.f i)⟩ t).f i) sB) (c.n+1-c.p.toNat-1) sB,c.n+1<2^40,c.n+1-c.p.toNat-1<2^29,0<1] (ag [0<1] (leaf .ret [cI (Gs c t) (sK+10) (sB+sB),.int .i64 0]))))))))):=by kernel_rfl
theorem UK:aY P M0:=dm (aG FU gk)
theorem RY {a b:Rat}:fc a b<(0:Int)↔a<b:=oA
theorem ala:∀K args pre r,K6 K args pre=some r→aA P Cd K args pre r:=cS fun⟨c,t,_⟩ K hn=>by
 have hc:dy c:=hn
 obtain⟨h1,h2,h3,h4,h5⟩:=id hc
 have hl:=h1.len
 refine bJ (r:=aK (.bool (decide (c.k 0<t)&&decide (t<c.k (c.n-1)))) []) hT UK hm aeH rfl (of_decide_eq_true (by kernel_rfl)) rfl 60 UW (fun _=>?_) K []
 have e1:((c.n:Int)-1).toNat=c.n-1:=by omega
 simp only[aa.all,ax,e1,Int.toNat_zero,cond_true,cond_false,decide_eq_true_eq,decide_eq_false_iff_not,RY]
 refine⟨fun h=>?_,fun h=>?_⟩
 ·(repeat' with_reducible refine And.intro ?_ ?_)
  all_goals first|omega|exact cN (by decide)|exact jA (by decide)|exact hc|exact h|decide|skip
  exact fS (by rw[decide_eq_true h,Bool.true_and])
 ·(repeat' with_reducible refine And.intro ?_ ?_)
  all_goals first|omega|exact cN (by decide)|exact jA (by decide)|exact hc|exact h|decide|skip
  exact fS (by rw[decide_eq_false h,Bool.false_and])
theorem JC:∀K args pre r,HZ K args pre=some r→aA P oV K args pre r:=cS fun⟨c,_⟩ K hn=>Re (by decide) (by decide) (by decide) hn.1 hn.2 K
theorem O6:aY P Kl:=dm (aG ala (aG Ou (aG JC (aG Rz (aG aeG bh)))))
theorem Em {x y:Nat}:bB (.agg [.int .i64 0,.nil,.nil]) (cI qi x y):=dr ⟨.refl _,kQ (by decide),kQ (by decide),trivial⟩
def Nt:Spec:=cM (kC (jz 2000 2000) (kC (kZ 2000) kN)) (fun a=>.tuple [cI (yB a.1 a.2.1) (sK+10) (sB+sB),.int .i64 (dj a.1 a.2.1)]) fun a=>[dy a.1]
theorem adX:∀K args pre r,Nt K args pre=some r→aA P sU K args pre r:=cS fun⟨c,t,_⟩ K hn=>by
 have hc:dy c:=hn
 obtain⟨h1,h2,h3,h4,h5⟩:=id hc
 have hl:=h1.len
 refine bJ (r:=aK (.tuple [cI (yB c t) (sK+10) (sB+sB),.int .i64 (dj c t)]) []) hT O6 hm Jt rfl (of_decide_eq_true (by kernel_rfl)) rfl 60 Q1 (fun _=>?_) K []
 have no:∀{e:Int},dj c t=e→e≠0→dY [.agg [.int .i64 0,.nil,.nil],.int .i64 e] (.tuple [cI (yB c t) (sK+10) (sB+sB),.int .i64 (dj c t)]):=fun {e} he h0=>by
  refine⟨?_,bw he.symm,trivial⟩
  rw[show yB c t=qi from if_neg (by rw[he];exact h0)]
  exact Em
 simp only[aa.all,ax,decide_eq_true_eq,decide_eq_false_iff_not,Bool.not_eq_true',Bool.not_eq_false',Bool.and_eq_true,Bool.and_eq_false_iff]
 refine⟨⟨by omega,by omega,cN (Nat.le_refl _),jA (Nat.le_refl _),Nat.le_refl _,hc⟩,fun ho=>⟨by omega,by omega,no ?_ (by decide)⟩,fun hi=>⟨?_,fun h6=>⟨by omega,by omega,no ?_ (by decide)⟩,fun h6=>⟨by omega,fun h7=>⟨by omega,by omega,no ?_ (by decide)⟩,fun h7=>⟨?_,by omega,?_⟩⟩⟩⟩
 ·unfold dj;rw[if_pos fun h=>ho.elim (fun g=>g h.1) fun g=>g h.2]
 ·exact⟨by omega,by omega,cN (by decide),by decide,by omega,by omega⟩
 ·unfold dj;rw[if_neg (fun g=>g hi),if_pos h6]
 ·unfold dj;rw[if_neg (fun g=>g hi),if_neg h6,if_pos (by omega)]
 ·(repeat' with_reducible refine And.intro ?_ ?_)
  all_goals first|omega|exact cN (by decide)|exact jA (Nat.le_refl _)|exact tV (Nat.le_refl _)|exact h1|exact Nat.le_refl _|skip
 ·have he:dj c t=0:=by unfold dj;rw[if_neg (fun g=>g hi),if_neg h6,if_neg (by omega)]
  refine⟨?_,bw he.symm,trivial⟩
  rw[show yB c t=Gs c t from if_pos he]
  exact .refl _
end Go.Am.B

/- rational.Valid, rational.Bits; the closures of curve.Check; slices.Clone, curve.numbers, curve.Check. -/
namespace Go.Am.B
open Go Go.Am.N AV aa aj IntKind
theorem YX:aP P yF zV (au zV):=aQ adI (by kernel_rfl) (by kernel_rfl) (by kernel_rfl)
theorem afQ:aP P wX zq (au zq):=aQ Xx (by kernel_rfl) (by kernel_rfl) (by kernel_rfl)
theorem adm:aP P x9 wh (au wh):=aQ RF (by kernel_rfl) (by kernel_rfl) (by kernel_rfl)
theorem ajU:aP P rG C7 (au C7):=aQ Vt (by kernel_rfl) (by kernel_rfl) (by kernel_rfl)
theorem af6:aP P iR vC (au vC):=aQ adk (by kernel_rfl) (by kernel_rfl) (by kernel_rfl)
theorem VL:aP P gx xk (au xk):=aQ VX (by kernel_rfl) (by kernel_rfl) (by kernel_rfl)
theorem ajj:aP P iD AY (au AY):=aQ ZK (by kernel_rfl) (by kernel_rfl) (by kernel_rfl)
theorem QI:aP P z9 w8 (au w8):=aQ SR (by kernel_rfl) (by kernel_rfl) (by kernel_rfl)
theorem akw:aP P vw wT (au wT):=aQ akp (by kernel_rfl) (by kernel_rfl) (by kernel_rfl)
theorem ae4:aP P DB xd (au xd):=aQ V5 (by kernel_rfl) (by kernel_rfl) (by kernel_rfl)
theorem Ru:aP P Dj xB (au xB):=aQ aa7 (by kernel_rfl) (by kernel_rfl) (by kernel_rfl)
theorem acv:aP P AG Al (au Al):=aQ ahJ (by kernel_rfl) (by kernel_rfl) (by kernel_rfl)
theorem Zg:aP P BJ xy (au xy):=aQ VS (by kernel_rfl) (by kernel_rfl) (by kernel_rfl)
def Q4:Spec:=bC fun l=>match l with
 |[.mag N]=>some (aK (.bool true) [nl N<2^40])
 |_=>none
def Ee:aR:=nG::(yF,Q4)::(s9,bC (kE Eg))::(ve,bC (gR H7))::(tG,H8)::[]
def OL:Spec:=bC fun l=>match l with
 |[.rat q n]=>some (aK (.bool true) [n<2^44])
 |_=>none
def Lx:Spec:=bC fun l=>match l with
 |[.rat q n]=>some (aK (.int .i64 (ct q:Nat)) [n<2^44])
 |_=>none
def DI:Spec:=bC fun l=>match l with
 |[.rat q n]=>some (aK (.bool false) [n≤2048])
 |_=>none
def Dy:aR:=nG::(wX,OL)::(x9,Lx)::fD
def UR (s:Nat):Kind Pl:=⟨fun v=>match By v with
 |some (a,q)=>some (a.1,q++[a.2≤s])
 |none=>none,fun a=>bu a s,fun {v a q} h hq=>by
  split at h
  ·rename_i b q' hb
   simp only[Option.some.injEq,Prod.mk.injEq]at h
   obtain⟨rfl,rfl⟩:=h
   obtain⟨q1,q2⟩:=dG.1 hq
   refine bB.trans (kPl.ok hb q1) ?_
   show bB (bu b.1 b.2) (bu b.1 s)
   exact dr ⟨dr ⟨fA q2,fA q2,fA q2,trivial⟩,fA q2,trivial⟩
  ·simp at h⟩
def NQ:Spec:=cM (kC (UR 2048) kN) (fun _=>.bool false) fun a=>[0<a.1.d]
def BM:Kind FuncId:=⟨fun v=>match v with
 |.func f []=>some (f,[])
 |_=>none,fun g=>.func g [],fun {v a q} h _=>by
  split at h
  ·simp only[Option.some.injEq,Prod.mk.injEq]at h
   obtain⟨rfl,rfl⟩:=h
   exact .refl _
  ·simp at h⟩
noncomputable def GX:aR:=nG::(iR,DI)::(iD,DI)::(gx,NQ)::[]
abbrev j9:List Nat:=[4,0,1,7,8]
abbrev xh (n i:Nat) (k:Nat→Rat) (g:FuncId):List AV:=[.int .i64 0,bt k n 2048,.func g [],.int .i64 n,.int .i64 i]
abbrev E5 (n i:Nat) (f:Nat→Pl) (g:FuncId):List AV:=[.int .i64 0,gY f n 2048,.func g [],.int .i64 n,.int .i64 i]
noncomputable abbrev o7:Code:=au w8
noncomputable abbrev yE:Code:=au wT
noncomputable def NC:Spec:=cM (kC (kL 2048) (kC BM kN)) (fun _=>.int .i64 (-1)) fun a=>[a.1.1<2^40,a.2.1=iR∨a.2.1=iD]
noncomputable def Mo:Spec:=cM (kC (kL 2048) (kC BM kN)) (fun _=>.bool false) fun a=>[a.1.1<2^40,a.2.1=iR∨a.2.1=iD]
noncomputable def GY:aR:=nG::(z9,NC)::[]
def HA:Spec:=u9 fun K l=>match l with
 |[v]=>match(kL 2048).read v with
  |some ((n,k),q)=>some ⟨.own K 3 0 n,[(K,⟨true,true,3,n,fun i=>.rat (k i) 2048⟩)],q++[1≤n,n<2^30]⟩
  |none=>none
 |_=>none
def j6 (c:Cu) (j:Nat):Rat:=if j<c.n then c.k j else fC (c.f ((j-c.n)/4)) ((j-c.n)%4)
def Dp:aR:=nG::(rG,HA)::[]
abbrev AF:List Nat:=[2,3,10,11,12]
abbrev FO (c:Cu) (i:Nat):List AV:=[.nil,.own 0 3 0 (c.n+4*i),gY c.f c.m 2048,.int .i64 c.m,.int .i64 i]
abbrev EX (c:Cu) (i:Nat):aC:=[(0,⟨true,true,3,c.n+4*i,fun j=>.rat (j6 c j) 2048⟩)]
noncomputable abbrev yg:Code:=au Al
def LI:Spec:=cM (kC (jz 2048 2048) kN) (fun a=>bt (j6 a.1) (a.1.n+4*a.1.m) 2048) fun a=>[1≤a.1.n,a.1.n<2^30,a.1.m<2^28]
theorem adF {N:Nat}:bF T [nG] [6] 60 zV (au zV) ⟨aN 0 [.mag N],[],0⟩=
  let c2:Bool:=(↑(nl N):Int)==(0:Int);let c1:Int:=(↑(nl N):Int)-(1:Int);some (fork c2 (ag [c2=true] (leaf ret [AV.bool true])) (ag [c2=false,-(2:Int)^63≤c1∧c1<(2:Int)^63,(0:Int)≤c1∧c1.toNat<nl N] (leaf ret [AV.bool (bif false then true else(↑(az N c1.toNat):Int)!=(0:Int))]))):=by kernel_rfl
theorem abH {q:Rat} {n:Nat}:bF T Ee [18,25,29,33,43] 60 zq (au zq) ⟨aN 0 [.rat q n],[],0⟩=
  let c9:aa (List AV):=leaf ret [AV.bool false];let c7:Bool:=!decide (q<0);let c6:Nat:=q.num.natAbs;let c4:Nat:=2^40;let c3:Prop:=0<1;let c2:Nat:=if q.den=1 then 0 else q.den;let c5:Int:=(↑(nl c2):Int);let c10:Bool:=c5==(1:Int);let c8:Bool:=c5==(0:Int);let c1:aa (List AV):=ag [c3] (fork ((↑(nl c6):Int)==(0:Int)) (fork c7 (ag [c3,c7=true,c3] (leaf ret [AV.bool (bif true then c8 else false)])) (ag [c3,c7=false] c9)) (fork c8 (ag [c3,c8=true] (leaf ret [AV.bool true])) (ag [c3,c8=false,c3,c3,nl c6<c4,nl c2<c4,nl (c6.gcd c2)<c4] (leaf ret [AV.bool (bif false then true else(↑(br (c6.gcd c2)):Int)==(1:Int))]))));some (fork c10 (ag [c3,nl c6<c4,c3,nl c2<c4,c3,c10=true,c3,(0:Int)≤(0:Int)∧Int.toNat (0:Int)<nl c2] (fork (bif bif !true then true else !true then true else bif true then(↑(az c2 (Int.toNat (0:Int))):Int)==(1:Int)else false) c9 c1)) (ag [c3,nl c6<c4,c3,nl c2<c4,c3,c10=false] (fork false c9 c1))):=by kernel_rfl
theorem Zo {q:Rat} {n:Nat}:bF T Ee [] 60 wh (au wh) ⟨aN 0 [.rat q n],[],0⟩=
  let c2:Int:=(↑(br q.den):Int);let c1:Int:=(↑(br q.num.natAbs):Int);some (ag [(0:Nat)<1,nl q.num.natAbs<2^40,(0:Nat)<1,nl q.den<2^40] (leaf ret [int i64 (if c1<c2 then c2 else c1)])):=by kernel_rfl
theorem ai8 {q:Rat} {n:Nat}:bF T Dy [] 60 vC (au vC) ⟨aN 0 [.rat q n],[],0⟩=
  some (ag [(0:Nat)<1,n<2^44] (leaf ret [AV.bool false])):=by kernel_rfl
theorem ahB {q:Rat} {n:Nat}:bF T Dy [] 60 AY (au AY) ⟨aN 0 [.rat q n],[],0⟩=
  some (ag [(0:Nat)<1,n<2^44] (leaf ret [AV.bool (decide ((↑(ct q):Int)>(2048:Int)))])):=by kernel_rfl
theorem abZ {p:Pl}:bF T Dy [] 60 xk (au xk) ⟨aN 0 [bu p 2048],[],0⟩=
  some (ag [(0:Nat)<1,(2048:Nat)<2^42] (leaf ret [AV.bool (decide (eG p.d≤(0:Int)))])):=by kernel_rfl
theorem aem {n s:Nat} {k:Nat→Rat}:aH T [nG] [] 60 [2] [au C7] ⟨aN 0 [.dx false 3 n (fun i=>.rat (k i) s)],[],0⟩=
  some (ag [(0:Nat)*3≤2^24,((0:Nat)+n)*((56:Nat)+1)*2≤2^47] (leaf ret ([own 20480 3 0 ((0:Nat)+n)],[((20480:Nat),ah.mk true true 3 ((0:Nat)+n) fun i↦rat (k (i-0)) s)]))):=by kernel_rfl
theorem LW {n:Nat} {k:Nat→Rat} {g:FuncId}:aH T GX [] 60 j9 (before o7 [1,0,1]) ⟨aN 0 [bt k n 2048,.func g []],[],0⟩=
  some (leaf normal ([int i64 (0:Int),ak 3 n fun i↦rat (k i) 2048,func g [],int i64 (↑n:Int),int i64 (0:Int)],[])):=by kernel_rfl
theorem XW {n i:Nat} {k:Nat→Rat}:aH T GX [9] 60 j9 [part o7 [1,0,1,0,0]] ⟨aB j9 (xh n i k iR),[],0⟩=
  let c4:Int:=(↑n:Int);let c2:AV:=ak 3 n fun i↦rat (k i) 2048;let c1:Int:=(↑i:Int);let c3:Int:=c1+(1:Int);some (fork (decide (c1<c4)) (ag [(0:Int)≤c1∧c1.toNat<n,(2048:Nat)≤2048] (ag [-(2:Int)^63≤c3∧c3<(2:Int)^63] (leaf normal ([int i64 (0:Int),c2,func iR [],int i64 c4,int i64 c3],[])))) (leaf (exit 0) ([int i64 (0:Int),c2,func iR [],int i64 c4,int i64 c1],[]))):=by kernel_rfl
theorem agX {n i:Nat} {k:Nat→Rat}:aH T GX [9] 60 j9 [part o7 [1,0,1,0,0]] ⟨aB j9 (xh n i k iD),[],0⟩=
  let c4:Int:=(↑n:Int);let c2:AV:=ak 3 n fun i↦rat (k i) 2048;let c1:Int:=(↑i:Int);let c3:Int:=c1+(1:Int);some (fork (decide (c1<c4)) (ag [(0:Int)≤c1∧c1.toNat<n,(2048:Nat)≤2048] (ag [-(2:Int)^63≤c3∧c3<(2:Int)^63] (leaf normal ([int i64 (0:Int),c2,func iD [],int i64 c4,int i64 c3],[])))) (leaf (exit 0) ([int i64 (0:Int),c2,func iD [],int i64 c4,int i64 c1],[]))):=by kernel_rfl
theorem IU {n i:Nat} {k:Nat→Rat} {g:FuncId}:cm T GX [] 60 w8 [part o7 [1,1]] ⟨aB j9 (xh n i k g),[],0⟩=
  some (leaf ret [int i64 (-1:Int)]):=by kernel_rfl
theorem Tn {n:Nat} {f:Nat→Pl}:aH T GX [] 60 j9 (before yE [1,0,1]) ⟨aN 0 [gY f n 2048,.func gx []],[],0⟩=
  some (leaf normal ([int i64 (0:Int),ak 12 n fun i↦agg [agg [rat (f i).n.x 2048,rat (f i).n.y 2048,rat (f i).n.z 2048],rat (f i).d 2048],func gx [],int i64 (↑n:Int),int i64 (0:Int)],[])):=by kernel_rfl
theorem aab {n i:Nat} {f:Nat→Pl}:aH T GX [9] 60 j9 [part yE [1,0,1,0,0]] ⟨aB j9 (E5 n i f gx),[],0⟩=
  let c5:Int:=(↑n:Int);let c3:Prop:=2048≤2048;let c2:Int:=(↑i:Int);let c1:AV:=ak 12 n fun i↦agg [agg [rat (f i).n.x 2048,rat (f i).n.y 2048,rat (f i).n.z 2048],rat (f i).d 2048];let c4:Int:=c2+(1:Int);some (fork (decide (c2<c5)) (ag [(0:Int)≤c2∧c2.toNat<n,c3,c3,Max.max 2048 2048≤2048,(0:Rat)<(f c2.toNat).d] (ag [-(2:Int)^63≤c4∧c4<(2:Int)^63] (leaf normal ([int i64 (0:Int),c1,func gx [],int i64 c5,int i64 c4],[])))) (leaf (exit 0) ([int i64 (0:Int),c1,func gx [],int i64 c5,int i64 c2],[]))):=by kernel_rfl
theorem agu {n i:Nat} {f:Nat→Pl}:cm T GX [] 60 wT [part yE [1,1]] ⟨aB j9 (E5 n i f gx),[],0⟩=
  some (leaf ret [int i64 (-1:Int)]):=by kernel_rfl
theorem ZN {n:Nat} {k:Nat→Rat} {g:FuncId}:bF T GY [] 60 xd (au xd) ⟨aN 0 [bt k n 2048,.func g []],[],0⟩=
  some (ag [bG (fun i↦rat (k i) 2048) n 2048,n<2^40,g=iR∨g=iD] (leaf ret [AV.bool false])):=by kernel_rfl
theorem RC {c:Cu}:aH T Dp [] 60 AF (before yg [1,1,0,1]) ⟨aN 0 [cI c 2048 2048],[],0⟩=
  some (ag [(0:Nat)<1,bG (fun i↦rat (c.k i) 2048) c.n 2048,(1:Nat)≤c.n,c.n<2^30] (ag [(0:Nat)<1] (leaf normal ([nil,own 16384 3 0 c.n,ak 12 c.m fun i↦agg [agg [rat (c.f i).n.x 2048,rat (c.f i).n.y 2048,rat (c.f i).n.z 2048],rat (c.f i).d 2048],int i64 (↑c.m:Int),int i64 (0:Int)],[((16384:Nat),ah.mk true true 3 c.n fun i↦rat (aS (rat (c.k i) 2048)) 2048)])))):=by kernel_rfl
theorem abG {c:Cu} {i:Nat}:aH T Dp [13] 60 AF [part yg [1,1,0,1,0,0]] ⟨aB AF (FO c i),EX c i,1⟩=
  let c7:Int:=(↑c.m:Int);let c5:Int:=(↑(3:Nat):Int);let c4:Prop:=0<1;let c3:Int:=(↑i:Int);let c2:Nat:=c.n+4*i;let c1:AV:=ak 12 c.m fun i↦agg [agg [rat (c.f i).n.x 2048,rat (c.f i).n.y 2048,rat (c.f i).n.z 2048],rat (c.f i).d 2048];let c9:Nat:=c2+4;let c8:Int:=c3+(1:Int);let c6:Pl:=c.f c3.toNat;some (fork (decide (c3<c7)) (ag [(0:Int)≤c3∧c3.toNat<c.m,c4] (ag [(0:Int)≤(0:Int)∧(0:Int)<c5,c4,(0:Int)≤(1:Int)∧(1:Int)<c5,c4,(0:Int)≤(2:Int)∧(2:Int)<c5,c4,c4,(4:Nat)*3≤2^24,c9*((56:Nat)+1)*2≤2^47] (ag [-(2:Int)^63≤c8∧c8<(2:Int)^63] (leaf normal ([nil,own 73729 3 0 c9,c1,int i64 c7,int i64 c8],[((73729:Nat),ah.mk true true 3 c9 fun i↦if i<c2 then rat (j6 c i) 2048 else nth [rat c6.n.x 2048,rat c6.n.y 2048,rat c6.n.z 2048,rat c6.d 2048] (rat 0 1) (i-c2+0))]))))) (leaf (exit 0) ([nil,own 0 3 0 c2,c1,int i64 c7,int i64 c3],[((0:Nat),ah.mk true true 3 c2 fun j↦rat (j6 c j) 2048)]))):=by kernel_rfl
theorem akS {c:Cu} {i:Nat}:cm T Dp [] 60 Al [part yg [1,1,1]] ⟨aB AF (FO c i),EX c i,1⟩=
  some (leaf ret [ak 3 (c.n+4*i) fun i↦rat (j6 c (i+0)) 2048]):=by kernel_rfl
theorem Zr {N:Nat} (hn:nl N<2^40) (K:Nat):aA P yF K [.mag N] [] (aK (.bool true) []):=by
 refine bJ hT (dm bh) hm YX rfl (of_decide_eq_true (by kernel_rfl)) rfl 60 adF (fun _=>?_) K []
 simp only[aa.all,ax]
 refine⟨fun h=>⟨h,.refl _⟩,fun h=>?_⟩
 have h0:nl N≠0:=fun he=>by rw[he]at h;exact absurd h (by decide)
 have h1:N≠0:=fun he=>h0 (jd.2 he)
 have e1:((nl N:Int)-1).toNat=nl N-1:=by omega
 have h2:=Cm h1
 rw[e1]
 refine⟨⟨h,by omega,by omega⟩,fS ?_⟩
 rw[cond_false]
 exact bne_iff_ne.2 (by omega)
theorem TW:∀K args pre r,Q4 K args pre=some r→aA P yF K args pre r:=by
 refine bW fun K args r hk hs _=>?_
 split at hs
 ·simp only[Option.some.injEq]at hs
  subst hs
  exact fun need=>Zr need K trivial
 ·simp at hs
theorem NW:aY P Ee:=dm (aG TW (aG Ku (aG Rc (aG QT bh))))
theorem abC {N:Nat} (h:nl N=1) (h1:az N 0=1):N=1:=by
 have h2:N<2^(32*1):=cT.1 (by omega)
 unfold az at h1
 omega
theorem ahq {q:Rat} {n:Nat} (hn:n<2^44) (K:Nat):aA P wX K [.rat q n] [] (aK (.bool true) []):=by
 refine jm fun⟨hs1,_⟩=>?_
 obtain⟨a1,a2,a3⟩:=Sz.jg hs1 hn
 refine bJ hT NW hm afQ rfl (of_decide_eq_true (by kernel_rfl)) rfl 60 abH (fun _=>?_) K []
 obtain⟨D,hD⟩:∃D,D=if q.den=1 then 0 else q.den:=⟨_,rfl⟩
 have hD1:D≠1:=by rw[hD];split<;>omega
 have hg:D≠0→q.num.natAbs.gcd D=1:=fun h=>by
  have:D=q.den:=by rw[hD]at h ⊢;split<;>simp_all
  rw[this];exact q.reduced
 have hz:q.num.natAbs=0→¬q<0∧D=0:=fun h=>by
  have h0:=pM.1 h
  subst h0
  exact⟨by decide,by rw[hD];rfl⟩
 rw[←hD]at a3 ⊢
 have nneg:((nl q.num.natAbs:Int)==0)=true→(!decide (q<0))=true∧((nl D:Int)==0)=true:=fun h=>by
  obtain⟨z1,z2⟩:=hz (jd.1 (by have:=beq_iff_eq.1 h;omega))
  rw[decide_eq_false z1,z2];exact⟨rfl,rfl⟩
 have last:((nl D:Int)==0)=false→D≠0:=fun h he=>by rw[he]at h;exact absurd h (by decide)
 simp only[aa.all,ax,cond_true,cond_false,Bool.not_true]
 refine⟨fun h=>⟨⟨by omega,a1,by omega,a3,by omega,h,by omega,by omega,?_⟩,fun h2=>?_,fun h2=>⟨by omega,fun h3=>⟨fun h4=>⟨⟨by omega,h4,by omega⟩,fS (nneg h3).2⟩,fun h4=>absurd (h4.symm.trans (nneg h3).1) (by decide)⟩,fun h3=>⟨fun h4=>⟨⟨by omega,h4⟩,.refl _⟩,fun h4=>?_⟩⟩⟩,
  fun h=>⟨⟨by omega,a1,by omega,a3,by omega,h⟩,fun h=>absurd h (by decide),fun _=>⟨by omega,fun h3=>⟨fun h4=>⟨⟨by omega,h4,by omega⟩,fS (nneg h3).2⟩,fun h4=>absurd (h4.symm.trans (nneg h3).1) (by decide)⟩,fun h3=>⟨fun h4=>⟨⟨by omega,h4⟩,.refl _⟩,fun h4=>?_⟩⟩⟩⟩
 ·have:=beq_iff_eq.1 h
  rw[Int.toNat_zero];omega
 ·have e1:=beq_iff_eq.1 h
  have e2:=beq_iff_eq.1 h2
  exact absurd (abC (by omega) (by rw[Int.toNat_zero]at e2;omega)) hD1
 ·rw[hg (last h4)]
  exact⟨⟨by omega,h4,by omega,by omega,a1,a3,by decide⟩,fS (by decide)⟩
 ·rw[hg (last h4)]
  exact⟨⟨by omega,h4,by omega,by omega,a1,a3,by decide⟩,fS (by decide)⟩
theorem Vj:∀K args pre r,OL K args pre=some r→aA P wX K args pre r:=by
 refine bW fun K args r hk hs _=>?_
 split at hs
 ·simp only[Option.some.injEq]at hs
  subst hs
  exact fun need=>ahq need K trivial
 ·simp at hs
theorem Y2 {q:Rat} {n:Nat} (hn:n<2^44) (K:Nat):aA P x9 K [.rat q n] [] (aK (.int .i64 (ct q:Nat)) []):=by
 refine jm fun⟨hs1,_⟩=>?_
 obtain⟨a1,a2,a3⟩:=Sz.jg hs1 hn
 refine bJ hT NW hm adm rfl (of_decide_eq_true (by kernel_rfl)) rfl 60 Zo (fun _=>?_) K []
 simp only[aa.all,ax]
 refine⟨⟨by omega,a1,by omega,a2⟩,bw ?_⟩
 unfold ct
 split<;>omega
theorem Uc:∀K args pre r,Lx K args pre=some r→aA P x9 K args pre r:=by
 refine bW fun K args r hk hs _=>?_
 split at hs
 ·simp only[Option.some.injEq]at hs
  subst hs
  exact fun need=>Y2 need K trivial
 ·simp at hs
theorem Fh:aY P Dy:=dm (aG Vj (aG Uc gk))
theorem S9:∀K args pre r,DI K args pre=some r→aA P iR K args pre r:=by
 refine bW fun K args r hk hs _=>?_
 split at hs
 ·rename_i q n
  simp only[Option.some.injEq]at hs
  subst hs
  intro need
  have hn:n≤2048:=need
  refine bJ (r:=aK (.bool false) [n≤2048]) hT Fh hm af6 rfl (of_decide_eq_true (by kernel_rfl)) rfl 60 ai8 (fun _=>?_) K [] need
  simp only[aa.all,ax]
  (repeat' with_reducible refine And.intro ?_ ?_)
  all_goals first|omega|exact .refl _|skip
 ·simp at hs
theorem Ui:∀K args pre r,DI K args pre=some r→aA P iD K args pre r:=by
 refine bW fun K args r hk hs _=>?_
 split at hs
 ·rename_i q n
  simp only[Option.some.injEq]at hs
  subst hs
  intro need
  have hn:n≤2048:=need
  refine(jm (P:=P) (f:=iD) (K:=K) (args:=[.rat q n]) (pre:=[]) (v:=.bool false) (l:=[n≤2048]) fun⟨hs1,_⟩=>?_) need
  have h1:=UN.1 hs1
  refine bJ (r:=aK (.bool false) [n≤2048]) hT Fh hm ajj rfl (of_decide_eq_true (by kernel_rfl)) rfl 60 ahB (fun _=>?_) K []
  simp only[aa.all,ax]
  (repeat' with_reducible refine And.intro ?_ ?_)
  all_goals first|omega|skip
  exact fS (decide_eq_false (by omega))
 ·simp at hs
theorem af1:∀K args pre r,NQ K args pre=some r→aA P gx K args pre r:=cS fun⟨p,_⟩ K hn=>by
 have hd:0<p.d:=hn
 refine bJ (r:=aK (.bool false) []) hT Fh hm VL rfl (of_decide_eq_true (by kernel_rfl)) rfl 60 abZ (fun _=>?_) K []
 have hs:eG p.d=1:=by
  unfold eG
  rw[if_neg (by grind),if_pos hd]
 simp only[aa.all,ax,hs]
 (repeat' with_reducible refine And.intro ?_ ?_)
 all_goals first|omega|decide|exact .refl _|skip
theorem EV:aY P GX:=dm (aG S9 (aG Ui (aG af1 bh)))
theorem acZ {n:Nat} {k:Nat→Rat} {g:FuncId} (hn:n<2^40) (hg:g=iR∨g=iD) (K:Nat):aA P z9 K [bt k n 2048,.func g []] [] (aK (.int .i64 (-1)) []):=by
 rcases hg with rfl|rfl
 ·refine gN (r:=aK (.int .i64 (-1)) []) hT EV hm QI rfl (of_decide_eq_true (by kernel_rfl)) rfl [1,0,1] (i:=0) (y:=part o7 [1,0,1,0,0]) (z:=part o7 [1,1]) (by kernel_rfl) (by kernel_rfl) (by kernel_rfl) (f1:=[]) (f2:=[9]) (f3:=[]) 60 j9 0
   (fun i:Nat=>xh n i k iR) (fun _=>[]) (fun i=>i≤n) (fun i=>i=n) (fun i=>n-i) (fun _=>⟨⟨_,LW,?_⟩,fun i hi=>⟨_,XW,?_⟩,fun i hi=>⟨_,IU,?_⟩⟩) K []
  ·simp only[aa.all,ax]
   exact⟨0,Nat.zero_le _,[],rfl,rfl,rfl,trivial⟩
  ·simp only[aa.all,ax,decide_eq_true_eq,decide_eq_false_iff_not,Int.toNat_natCast]
   exact⟨fun h=>⟨⟨by omega,by omega⟩,by omega,i+1,by omega,by dsimp only;omega,[],rfl,rfl,rfl,trivial⟩,fun h=>⟨rfl,i,by omega,[],rfl,rfl,rfl,trivial⟩⟩
  ·simp only[aa.all,ax]
   exact .refl _
 ·refine gN (r:=aK (.int .i64 (-1)) []) hT EV hm QI rfl (of_decide_eq_true (by kernel_rfl)) rfl [1,0,1] (i:=0) (y:=part o7 [1,0,1,0,0]) (z:=part o7 [1,1]) (by kernel_rfl) (by kernel_rfl) (by kernel_rfl) (f1:=[]) (f2:=[9]) (f3:=[]) 60 j9 0
   (fun i:Nat=>xh n i k iD) (fun _=>[]) (fun i=>i≤n) (fun i=>i=n) (fun i=>n-i) (fun _=>⟨⟨_,LW,?_⟩,fun i hi=>⟨_,agX,?_⟩,fun i hi=>⟨_,IU,?_⟩⟩) K []
  ·simp only[aa.all,ax]
   exact⟨0,Nat.zero_le _,[],rfl,rfl,rfl,trivial⟩
  ·simp only[aa.all,ax,decide_eq_true_eq,decide_eq_false_iff_not,Int.toNat_natCast]
   exact⟨fun h=>⟨⟨by omega,by omega⟩,by omega,i+1,by omega,by dsimp only;omega,[],rfl,rfl,rfl,trivial⟩,fun h=>⟨rfl,i,by omega,[],rfl,rfl,rfl,trivial⟩⟩
  ·simp only[aa.all,ax]
   exact .refl _
theorem Zp:∀K args pre r,NC K args pre=some r→aA P z9 K args pre r:=cS fun⟨⟨n,k⟩,g,_⟩ K hn=>acZ hn.1 hn.2 K
theorem ajI:aY P GY:=dm (aG Zp bh)
theorem ae9:∀K args pre r,Mo K args pre=some r→aA P DB K args pre r:=cS fun⟨⟨n,k⟩,g,_⟩ K hn=>by
 refine bJ (r:=aK (.bool false) []) hT ajI hm ae4 rfl (of_decide_eq_true (by kernel_rfl)) rfl 60 ZN (fun _=>?_) K []
 simp only[aa.all,ax]
 exact⟨⟨cN (Nat.le_refl _),hn.1,hn.2⟩,.refl _⟩
noncomputable def Po:Spec:=cM (kC (tU 2048) (kC BM kN)) (fun _=>.int .i64 (-1)) fun a=>[a.1.1<2^40,∀i,i<a.1.1→0<(a.1.2 i).d,a.2.1=gx]
noncomputable def Pj:Spec:=cM (kC (tU 2048) (kC BM kN)) (fun _=>.bool false) fun a=>[a.1.1<2^40,∀i,i<a.1.1→0<(a.1.2 i).d,a.2.1=gx]
noncomputable def Oa:aR:=nG::(vw,Po)::[]
noncomputable def LJ:aR:=nG::(AG,LI)::(DB,Mo)::(Dj,Pj)::(tB,Gw)::(ov,tg)::[]
theorem ah9 {n:Nat} {f:Nat→Pl} (hn:n<2^40) (hf:∀i,i<n→0<(f i).d) (K:Nat):aA P vw K [gY f n 2048,.func gx []] [] (aK (.int .i64 (-1)) []):=by
 refine gN (r:=aK (.int .i64 (-1)) []) hT EV hm akw rfl (of_decide_eq_true (by kernel_rfl)) rfl [1,0,1] (i:=0) (y:=part yE [1,0,1,0,0]) (z:=part yE [1,1]) (by kernel_rfl) (by kernel_rfl) (by kernel_rfl) (f1:=[]) (f2:=[9]) (f3:=[]) 60 j9 0
  (fun i:Nat=>E5 n i f gx) (fun _=>[]) (fun i=>i≤n) (fun i=>i=n) (fun i=>n-i) (fun _=>⟨⟨_,Tn,?_⟩,fun i hi=>⟨_,aab,?_⟩,fun i hi=>⟨_,agu,?_⟩⟩) K []
 ·simp only[aa.all,ax]
  exact⟨0,Nat.zero_le _,[],rfl,rfl,rfl,trivial⟩
 ·simp only[aa.all,ax,decide_eq_true_eq,decide_eq_false_iff_not,Int.toNat_natCast]
  exact⟨fun h=>⟨⟨by omega,by omega,by omega,by decide,hf i (by omega)⟩,by omega,i+1,by omega,by dsimp only;omega,[],rfl,rfl,rfl,trivial⟩,fun h=>⟨rfl,i,by omega,[],rfl,rfl,rfl,trivial⟩⟩
 ·simp only[aa.all,ax]
  exact .refl _
theorem aav:∀K args pre r,Po K args pre=some r→aA P vw K args pre r:=cS fun⟨⟨n,f⟩,g,_⟩ K hn=>by
 have hg:g=gx:=hn.2.2
 subst hg
 exact ah9 hn.1 hn.2.1 K
theorem afv {args:List AV} {n:Nat} {k:Nat→Rat} {l:List Prop} (ha:ax l→e9 (aT []) args [.dx false 3 n (fun i=>.rat (k i) 2048)]) (hn:ax l→1≤n∧n<2^30) (K:Nat):aA P rG K args [] ⟨jf [.own K 3 0 n],[(K,⟨true,true,3,n,fun i=>.rat (k i) 2048⟩)],l⟩:=by
 refine J6 hT ajU ha (of_decide_eq_true (by kernel_rfl)) fun need c hk=>?_
 obtain⟨h1,h2⟩:=hn need
 refine aq.bf hT (dm bh) hm 60 [2] aem (by kernel_rfl) ?_
 simp only[aa.all,ax]
 exact⟨⟨by omega,by omega⟩,fun s' hs'=>⟨.inr trivial,[2],_,[.own 20480 3 0 (0+n)],_,20480,_,hs',by kernel_rfl,⟨⟨rfl,cy (by simp[aT,look]) rfl (by omega)⟩,trivial⟩,rfl,iT (by omega) fun i hi=>aI rfl⟩⟩
theorem aj2 {n:Nat} {k:Nat→Rat} {l:List Prop} (hn:ax l→1≤n∧n<2^30) (K:Nat):aA P rG K [bt k n 2048] [] ⟨jf [.own K 3 0 n],[(K,⟨true,true,3,n,fun i=>.rat (k i) 2048⟩)],l⟩:=by
 refine PL fun b hb=>?_
 intro need
 have h1:=hn need
 cases b
 ·exact afv (args:=[.dx false 3 n (fun i=>.rat (k i) 2048)]) (fun _=>⟨⟨rfl,aI rfl⟩,trivial⟩) hn K need
 ·have:=hb rfl
  omega
theorem JT:∀K args pre r,HA K args pre=some r→aA P rG K args pre r:=by
 refine Cs fun K args r hk hs=>?_
 split at hs
 ·rename_i v
  split at hs
  ·rename_i n k q hv
   simp only[Option.some.injEq]at hs
   subst hs
   intro need
   obtain⟨hn1,hn2⟩:=dG.1 need
   exact ga (aj2 (l:=q++[1≤n,n<2^30]) (fun h=>⟨(dG.1 h).2.1,(dG.1 h).2.2⟩) K) hk ⟨(kL 2048).ok hv hn1,trivial⟩ [] need
  ·simp at hs
 ·simp at hs
theorem Y7:aY P Dp:=dm (aG JT bh)
theorem abp {c:Cu} {i j:Nat} {rl:List (Nat×Nat)} (hj:j<c.n+4*i+4):fH rl (if j<c.n+4*i then .rat (j6 c j) 2048 else nth [.rat (c.f i).n.x 2048,.rat (c.f i).n.y 2048,.rat (c.f i).n.z 2048,.rat (c.f i).d 2048] (.rat 0 1) (j-(c.n+4*i)+0)) (.rat (j6 c j) 2048):=by
 by_cases h:j<c.n+4*i
 ·rw[if_pos h];exact aE rfl rfl
 ·rw[if_neg h]
  have key:∀a,a<4→j=c.n+4*i+a→j6 c j=fC (c.f i) a:=fun a ha hj=>by
   unfold j6
   rw[if_neg (by omega),show(j-c.n)/4=i by omega,show(j-c.n)%4=a by omega]
  rcases(show j=c.n+4*i+0∨j=c.n+4*i+1∨j=c.n+4*i+2∨j=c.n+4*i+3 by omega)with h'|h'|h'|h'
  ·rw[key 0 (by omega) h',h',show c.n+4*i+0-(c.n+4*i)+0=0 by omega];exact aE rfl rfl
  ·rw[key 1 (by omega) h',h',show c.n+4*i+1-(c.n+4*i)+0=1 by omega];exact aE rfl rfl
  ·rw[key 2 (by omega) h',h',show c.n+4*i+2-(c.n+4*i)+0=2 by omega];exact aE rfl rfl
  ·rw[key 3 (by omega) h',h',show c.n+4*i+3-(c.n+4*i)+0=3 by omega];exact aE rfl rfl
theorem ad2 {c:Cu} (h1:1≤c.n) (hn:c.n<2^30) (hm2:c.m<2^28) (K:Nat):aA P AG K [cI c 2048 2048] [] (aK (bt (j6 c) (c.n+4*c.m) 2048) []):=by
 refine gN (r:=aK (bt (j6 c) (c.n+4*c.m) 2048) []) hT Y7 hm acv rfl (of_decide_eq_true (by kernel_rfl)) rfl [1,1,0,1] (i:=0) (y:=part yg [1,1,0,1,0,0]) (z:=part yg [1,1,1]) (by kernel_rfl) (by kernel_rfl) (by kernel_rfl) (f1:=[]) (f2:=[13]) (f3:=[]) 60 AF 1
  (fun i:Nat=>FO c i) (fun i=>EX c i) (fun i=>i≤c.m) (fun i=>i=c.m) (fun i=>c.m-i) (fun _=>⟨⟨_,RC,?_⟩,fun i hi=>⟨_,abG,?_⟩,fun i hi=>⟨_,akS,?_⟩⟩) K []
 ·simp only[aa.all,ax]
  exact⟨⟨by omega,cN (Nat.le_refl _),by omega,by omega⟩,by omega,0,Nat.zero_le _,[(0,16384)],rfl,rfl,rfl,bk rfl rfl rfl (fun j hj=>aE rfl (by unfold j6;rw[if_pos (by omega)];rfl)) trivial⟩
 ·simp only[aa.all,ax,decide_eq_true_eq,decide_eq_false_iff_not,Int.toNat_natCast]
  refine⟨fun h=>?_,fun h=>⟨rfl,i,by omega,[(0,0)],rfl,rfl,rfl,bk rfl rfl rfl (fun j hj=>aE rfl rfl) trivial⟩⟩
  (repeat' with_reducible refine And.intro ?_ ?_)
  all_goals first|omega|decide|skip
  refine⟨i+1,by omega,by dsimp only;omega,[(0,73729)],rfl,?_,rfl,bk rfl rfl ?_ (fun j hj=>abp (by omega)) trivial⟩
  ·show _=[_,AV.own 0 3 0 (c.n+4*(i+1)),_,_,_].map _
   rw[show c.n+4*(i+1)=c.n+4*i+4 by omega];rfl
  ·show c.n+4*(i+1)=c.n+4*i+4
   omega
 ·subst hi
  simp only[aa.all,ax]
  exact .refl _
theorem ajb:∀K args pre r,LI K args pre=some r→aA P AG K args pre r:=cS fun⟨c,_⟩ K hn=>ad2 hn.1 hn.2.1 hn.2.2 K
theorem aez {n:Nat} {f:Nat→Pl}:bF T Oa [] 60 xB (au xB) ⟨aN 0 [gY f n 2048,.func gx []],[],0⟩=
  some (ag [eI (fun i↦bu (f i) 2048) n 2048,n<2^40,∀(i:Nat),i<n→0<aS (rat (f i).d 2048),gx=gx] (leaf ret [AV.bool false])):=by kernel_rfl
theorem Wj {c:Cu}:bF T LJ [200015,200017] 60 xy (au xy) ⟨aN 0 [cI c 2048 2048],[],0⟩=
  let c5 : Nat := c.n + 4 * c.m; let c4 : Prop := eI (fun i ↦ bu (c.f i) 2048) c.m 2048; let c3 : Nat := 2 ^ 40; let c2 : Prop := 0 < 1; let c1 : Prop := bG (fun i ↦ rat (j6 (Cu.mk c.p c.n (fun i ↦ aS (rat (c.k i) 2048)) c.m fun i ↦ dN (bu (c.f i) 2048)) i) 2048) c5 2048; some (ag [c2, bG (fun i ↦ rat (c.k i) 2048) c.n 2048, c4, (1 : Nat) ≤ c.n, c.n < 2 ^ 30, c.m < 2 ^ 28] (ag [c1, c5 < c3, iR = iR ∨ iR = iD] (ag [c2, c2, bG (fun i ↦ rat (c.k i) 2048) c.n sJ, c.n < c3] (ag [(gu c.n (fun i ↦ aS (rat (c.k i) 2048)) c.p != (0 : Int)) = false] (ag [c2, c2, c2, bG (fun i ↦ rat (c.k i) 2048) c.n sK, c.n < c3, -(2 : Int) ^ 40 < c.p, c.p < (2 : Int) ^ 40] (ag [((↑c.m : Int) != (↑c.n : Int) - c.p - (1 : Int)) = false] (ag [c2, c4, c.m < c3, ∀ (i : Nat), i < c.m → 0 < aS (rat (c.f i).d 2048), gx = gx] (ag [c1, c5 < c3, iD = iR ∨ iD = iD] (leaf ret [int i64 (0 : Int)]))))))))) := by kernel_rfl
theorem SK:aY P Oa:=dm (aG aav bh)
theorem Yh:∀K args pre r,Pj K args pre=some r→aA P Dj K args pre r:=cS fun⟨⟨n,f⟩,g,_⟩ K hn=>by
 have hg:g=gx:=hn.2.2
 subst hg
 refine bJ (r:=aK (.bool false) []) hT SK hm Ru rfl (of_decide_eq_true (by kernel_rfl)) rfl 60 aez (fun _=>?_) K []
 simp only[aa.all,ax]
 exact⟨⟨jA (Nat.le_refl _),hn.1,hn.2.1,by trivial⟩,.refl _⟩
theorem Uw:aY P LJ:=dm (aG ajb (aG ae9 (aG Yh (aG On (aG vL bh)))))
noncomputable def Ja:Spec:=cM (kC (jz 2048 2048) kN) (fun _=>.int .i64 0) fun a=>[dy a.1,∀i,i<a.1.m→0<(a.1.f i).d]
theorem UX:∀K args pre r,Ja K args pre=some r→aA P BJ K args pre r:=cS fun⟨c,_⟩ K hn=>by
 obtain⟨⟨h1,h2,h3,h4,h5⟩,hw⟩:dy c∧_:=hn
 have hl:=h1.len
 refine bJ (r:=aK (.int .i64 0) []) hT Uw hm Zg rfl (of_decide_eq_true (by kernel_rfl)) rfl 60 Wj (fun _=>?_) K []
 have hc0:gu c.n c.k c.p=0:=by have:=h1.Jd (by omega) h4;rwa [Int.toNat_of_nonneg (by omega)]at this
 simp only[aa.all,ax]
 (repeat' with_reducible refine And.intro ?_ ?_)
 all_goals first|omega|exact cN (by decide)|exact jA (by decide)|exact hw|exact bne_eq_false_iff_eq.2 hc0|exact bne_eq_false_iff_eq.2 h5|exact .inl trivial|exact .inr trivial|trivial|exact .refl _|skip
end Go.Am.B

/- ref10.Check. -/
namespace Go.Am.B
open Go Go.Am.N AV aa aj IntKind
end Go.Am.B

/- brepkernelmade: Knots. -/
namespace Go.Am.B
open Go Go.Am.N AV aa aj IntKind
theorem Nh:aP P Bg Ay (au Ay):=aQ UQ (by kernel_rfl) (by kernel_rfl) (by kernel_rfl)
def og:aR:=nG::(oB,gH su)::(od,yl)::(oT,yV)::Kx
abbrev kS (n:Nat) (z:Nat→Int) (a:Int):ah:=iw n (fun i=>.int .i64 (z i)) a
abbrev tO (t:Rat):ah:=⟨false,true,3,1,fun _=>.rat t 64⟩
abbrev WE (m:Nat) (k:Nat→Rat):ah:=⟨true,true,3,m,fun i=>.rat (k i) 64⟩
abbrev qd:List Nat:=[0,1,2,7,8,9]
abbrev Cy (p m:Int) (v:AV) (i:Int):List AV:=[.ptr 0 0 2 0 [],.int .i64 p,.int .i64 m,.ptr 1 0 3 0 [],v,.int .i64 i]
noncomputable abbrev zy:Code:=au Ay
noncomputable abbrev AE:Code:=part zy [1,1,1,1]
noncomputable abbrev tJ:Code:=part AE [1]
abbrev vN:List Nat:=[0,1,7,8,10]
abbrev zw:List Nat:=[0,1,7,8,11]
abbrev ri (p:Int) (l:Nat) (i:Int):List AV:=[.ptr 0 0 2 0 [],.int .i64 p,.ptr 1 0 3 0 [],.own 2 3 0 l,.int .i64 i]
abbrev mQ (n:Nat) (z:Nat→Int) (a:Int) (t:Rat) (l:Nat) (k:Nat→Rat):aC:=[(2,WE l k),(1,tO t),(0,kS n z a)]
theorem RM {n:Nat} {z:Nat→Int} {a p m:Int}:aH T og [] 60 qd (before zy [1,1,1,0,1]) ⟨aN 0 [.ptr 0 0 2 0 [],.int .i64 p,.int .i64 m],[(0,kS n z a)],1⟩=
  let c2:Int:=(2:Int)^63;let c1:Int:=cU n (fun i↦int i64 (z i)) a (4:Int)-(2:Int);some (ag [cB n (fun i↦int i64 (z i)) a,(0:Int)<(4:Int),(4:Int)<(2:Int)^62,-c2≤c1∧c1<c2,-c2≤c1,c1<c2,(0:Nat)<1] (leaf normal ([ptr 0 0 2 0 [],int i64 p,int i64 m,ptr 20481 0 3 0 [],nil,int i64 (0:Int)],[((20481:Nat),ah.mk false true 3 1 fun j↦if(j==0)=true then bn (rat (↑c1:Rat) (Max.max 1 (br c1.natAbs)))else rat 0 1),((0:Nat),ah.mk false true 2 1 fun x↦agg [ak 1 n fun i↦int i64 (z i),int i64 (bA n a)])]))):=by kernel_rfl
theorem aad {n:Nat} {z:Nat→Int} {a p m:Int} {t:Rat}:aH T og [18] 60 qd [part zy [1,1,1,0,1,0,0]] ⟨aB qd (Cy p m .nil 0),[(1,tO t),(0,kS n z a)],3⟩=
  let c3:AV:=ptr 1 0 3 0 [];let c2:AV:=ptr 0 0 2 0 [];let c1:List (Nat×ah):=[((1:Nat),ah.mk false true 3 1 fun x↦rat t 64),((0:Nat),ah.mk false true 2 1 fun x↦agg [ak 1 n fun i↦int i64 (z i),int i64 a])];some (fork (decide ((0:Int)≤p)) (ag [(0:Nat)<1,(1:Nat)*3≤2^24,(0:Nat)<1∧1*((56:Nat)+1)*2≤2^47] (ag [-(2:Int)^63≤(0:Int)+(1:Int)∧(0:Int)+(1:Int)<(2:Int)^63] (leaf normal ([c2,int i64 p,int i64 m,c3,own 24579 3 0 1,int i64 (1:Int)],((24579:Nat),ah.mk true true 3 1 fun i↦nth [rat t 64] (rat 0 1) (i+0))::c1)))) (leaf (exit 0) ([c2,int i64 p,int i64 m,c3,nil,int i64 (0:Int)],c1))):=by kernel_rfl
theorem UH {n j:Nat} {z:Nat→Int} {a p m:Int} {t:Rat} {k:Nat→Rat}:aH T og [18] 60 qd [part zy [1,1,1,0,1,0,0]] ⟨aB qd (Cy p m (.own 2 3 0 (j+1)) ((j+1:Nat):Int)),mQ n z a t (j+1) k,3⟩=
  let c4:AV:=ptr 1 0 3 0 [];let c3:AV:=ptr 0 0 2 0 [];let c2:Nat:=j+1;let c1:List (Nat×ah):=[((1:Nat),ah.mk false true 3 1 fun x↦rat t 64),((0:Nat),ah.mk false true 2 1 fun x↦agg [ak 1 n fun i↦int i64 (z i),int i64 a])];let c7:Nat:=c2+1;let c6:Int:=(↑c2:Int);let c5:Int:=c6+(1:Int);some (fork (decide (c6≤p)) (ag [(0:Nat)<1,(1:Nat)*3≤2^24,c7*((56:Nat)+1)*2≤2^47] (ag [-(2:Int)^63≤c5∧c5<(2:Int)^63] (leaf normal ([c3,int i64 p,int i64 m,c4,own 24579 3 0 c7,int i64 c5],((24579:Nat),ah.mk true true 3 c7 fun i↦if i<c2 then rat (k i) 64 else nth [rat t 64] (rat 0 1) (i-c2+0))::c1)))) (leaf (exit 0) ([c3,int i64 p,int i64 m,c4,own 2 3 0 c2,int i64 c6],((2:Nat),ah.mk true true 3 c2 fun i↦rat (k i) 64)::c1))):=by kernel_rfl
theorem XD {n j:Nat} {z:Nat→Int} {a p m:Int} {t:Rat} {k:Nat→Rat}:aH T og [] 60 vN (before AE [0,1]) ⟨aB qd (Cy p m (.own 2 3 0 (j+1)) ((j+1:Nat):Int)),mQ n z a t (j+1) k,3⟩=
  let c1:Int:=m+(1:Int);some (ag [-(2:Int)^63≤c1∧c1<(2:Int)^63,cB n (fun i↦int i64 (z i)) a,(0:Int)<c1,c1<(2:Int)^62] (leaf normal ([ptr 0 0 2 0 [],int i64 p,ptr 1 0 3 0 [],own 2 3 0 (j+1),int i64 (cU n (fun i↦int i64 (z i)) a c1)],[((2:Nat),ah.mk true true 3 (j+1) fun i↦rat (k i) 64),((1:Nat),ah.mk false true 3 1 fun x↦rat t 64),((0:Nat),ah.mk false true 2 1 fun x↦agg [ak 1 n fun i↦int i64 (z i),int i64 (bA n a)])]))):=by kernel_rfl
theorem ai0 {n l:Nat} {z:Nat→Int} {a p i:Int} {t:Rat} {k:Nat→Rat}:aH T og [30,38,43,53] 60 vN [part AE [0,1,0,0]] ⟨aB vN (ri p l i),mQ n z a t l k,3⟩=
  let c40:Int:=i-(1:Int);let c39:Nat:=64+64+1;let c35:AV:=rat t 64;let c34:AV:=rat 0 1;let c33:Int:=bA n a;let c31:Nat:=l+1;let c30:Prop:=(0:Int)<(3:Int);let c28:Prop:=cB n (fun i↦int i64 (z i)) a;let c27:Int:=(↑l:Int);let c25:AV:=ptr 1 0 3 0 [];let c24:AV:=ptr 0 0 2 0 [];let c23:Prop:=0<1;let c21:Int:=(2:Int)^62;let c20:AV:=ak 1 n fun i↦int i64 (z i);let c18:Int:=p+(1:Int);let c16:Prop:=64<2^41;let c7:Int:=cU n (fun i↦int i64 (z i)) a (3:Int);let c5:Int:=(2:Int)^63;let c43:Int:=bA n c33;let c41:Bool:=c27==c18;let c38:Prop:=cB n (fun i↦int i64 (z i)) c33;let c37:Prop:=(3:Int)<c21;let c32:Prop:=-c5≤c18∧c18<c5;let c29:Int:=(1:Int)+c7;let c26:Nat×ah:=((1:Nat),ah.mk false true 3 1 fun x↦c35);let c22:Bool:=bif false then true else decide (c7>(0:Int));let c19:List Prop:=[-c5≤c40∧c40<c5];let c17:Nat:=(c27-p).toNat+0;let c15:Nat×ah:=((106499:Nat),ah.mk true true 3 c31 fun i↦if i<l then rat (k i) 64 else nth [c35] c34 (i-l+0));let c13:List AV:=[c24,int i64 p,c25,own 147459 3 0 c31,int i64 c40];let c12:List AV:=[c24,int i64 p,c25,own 106499 3 0 c31,int i64 c40];let c10:Int:=(1:Int)+cU n (fun i↦int i64 (z i)) c33 (2:Int);let c9:Int:=(1:Int)+cU n (fun i↦int i64 (z i)) c33 (3:Int);let c6:List Prop:=[c23,(1:Nat)*3≤2^24,c31*((56:Nat)+1)*2≤2^47];let c42:Rat:=(↑c29:Rat)/(↑c10:Rat);let c36:Bool:=bif false then true else decide (t=k c17);let c14:List (Nat×ah):=[c26,((0:Nat),ah.mk false true 2 1 fun x↦agg [c20,int i64 a])];let c11:List Prop:=[c23,-c5≤c27-p∧c27-p<c5,(0:Int)≤c27-p∧(c27-p).toNat<l,c17<l,c16,c16];let c8:Int:=(1:Int)+cU n (fun i↦int i64 (z i)) c43 (2:Int);let c3:aa (List AV×aC):=ag c6 (ag c19 (leaf normal (c12,[c15,c26,((0:Nat),ah.mk false true 2 1 fun x↦agg [c20,int i64 c33])])));let c44:Rat:=(↑c9:Rat)/(↑c8:Rat);let c4:aa (List AV×aC):=ag c6 (ag c19 (leaf normal (c12,c15::c14)));let c2:aa (List AV×aC):=ag [c23,c28,c30,c37,-c5≤c29∧c29<c5,c38,(0:Int)<(2:Int),(2:Int)<c21,-c5≤c10∧c10<c5,-c5≤c29,c29<c5,-c5≤c10,c10<c5,c16,c16,c23] (ag c6 (ag c19 (leaf normal (c13,[((147459:Nat),ah.mk true true 3 c31 fun i↦if i<l then rat (k i) 64 else nth [rat (t+c42) c39] c34 (i-l+0)),((1:Nat),ah.mk false true 3 1 fun j↦if(j==0)=true then bn (js (t,(64:Nat)) (c42,(64:Nat)))else c35),((0:Nat),ah.mk false true 2 1 fun x↦agg [c20,int i64 c43])]))));let c1:aa (List AV×aC):=ag [c23,c38,c30,c37,-c5≤c9∧c9<c5,cB n (fun i↦int i64 (z i)) c43,(0:Int)<(2:Int),(2:Int)<c21,-c5≤c8∧c8<c5,-c5≤c9,c9<c5,-c5≤c8,c8<c5,c16,c16,c23] (ag c6 (ag c19 (leaf normal (c13,[((147459:Nat),ah.mk true true 3 c31 fun i↦if i<l then rat (k i) 64 else nth [rat (t+c44) c39] c34 (i-l+0)),((1:Nat),ah.mk false true 3 1 fun j↦if(j==0)=true then bn (js (t,(64:Nat)) (c44,(64:Nat)))else c35),((0:Nat),ah.mk false true 2 1 fun x↦agg [c20,int i64 (bA n c43)])]))));some (fork (decide (i>(0:Int))) (fork c41 (fork true (ag [c32,c41=true,true=true] (fork true c2 c4)) (ag (c32::(c41=true)::(true=false)::c11) (fork c36 c2 c4))) (fork c22 (ag [c32,c41=false,c28,c30,c37,c22=true] (fork true c1 c3)) (ag (c32::(c41=false)::c28::c30::c37::(c22=false)::c11) (fork c36 c1 c3)))) (leaf (exit 2) ([c24,int i64 p,c25,own 2 3 0 l,int i64 i],((2:Nat),ah.mk true true 3 l fun i↦rat (k i) 64)::c14))):=by kernel_rfl
theorem aiq {n l:Nat} {z:Nat→Int} {a p i:Int} {t:Rat} {k:Nat→Rat}:aH T og [] 60 zw (before tJ [1,0,1]) ⟨aB vN (ri p l i),mQ n z a t l k,3⟩=
  let c1:Nat:=Max.max 1 (br (Int.natAbs (1:Int)));some (ag [(0:Nat)<1,-(2:Int)^63≤(1:Int),(1:Int)<(2:Int)^63,(64:Nat)<2^41,c1<2^41,(0:Nat)<1] (leaf normal ([ptr 0 0 2 0 [],int i64 p,ptr 1 0 3 0 [],own 2 3 0 l,int i64 (0:Int)],[((2:Nat),ah.mk true true 3 l fun i↦rat (k i) 64),((1:Nat),ah.mk false true 3 1 fun j↦if(j==0)=true then bn (js (t,(64:Nat)) ((↑(1:Int):Rat),c1))else rat t 64),((0:Nat),ah.mk false true 2 1 fun x↦agg [ak 1 n fun i↦int i64 (z i),int i64 a])]))):=by kernel_rfl
theorem V8 {n l:Nat} {z:Nat→Int} {a p i:Int} {t:Rat} {k:Nat→Rat}:aH T og [72] 60 zw [part tJ [1,0,1,0,0]] ⟨aB zw (ri p l i),mQ n z a t l k,3⟩=
  let c3:AV:=ptr 1 0 3 0 [];let c2:AV:=ptr 0 0 2 0 [];let c1:List (Nat×ah):=[((1:Nat),ah.mk false true 3 1 fun x↦rat t 64),((0:Nat),ah.mk false true 2 1 fun x↦agg [ak 1 n fun i↦int i64 (z i),int i64 a])];some (fork (decide (i≤p)) (ag [(0:Nat)<1,(1:Nat)*3≤2^24,(l+1)*((56:Nat)+1)*2≤2^47] (ag [-(2:Int)^63≤i+(1:Int)∧i+(1:Int)<(2:Int)^63] (leaf normal ([c2,int i64 p,c3,own 24579 3 0 (l+1),int i64 (i+(1:Int))],((24579:Nat),ah.mk true true 3 (l+1) fun i↦if i<l then rat (k i) 64 else nth [rat t 64] (rat 0 1) (i-l+0))::c1)))) (leaf (exit 4) ([c2,int i64 p,c3,own 2 3 0 l,int i64 i],((2:Nat),ah.mk true true 3 l fun i↦rat (k i) 64)::c1))):=by kernel_rfl
theorem abS {n l:Nat} {z:Nat→Int} {a p i:Int} {t:Rat} {k:Nat→Rat}:DR T og [] 60 Ay [part tJ [1,1]] ⟨aB zw (ri p l i),mQ n z a t l k,3⟩=
  some (leaf ret ([ak 3 l fun i↦rat (k (i+0)) 64],some (ah.mk false true 2 1 fun x↦agg [ak 1 n fun i↦int i64 (z i),int i64 a]))):=by kernel_rfl
structure sM where
 k:Nat→Rat
 t:Rat
 a:Int
def qk (n:Nat) (f:Nat→AV) (t:Rat) (a:Int):Rat:=t+((1+cU n f a 3:Int):Rat)/((1+cU n f (bA n a) 2:Int):Rat)
def rF (n:Nat) (f:Nat→AV) (p j:Nat) (s:sM):sM:=
 if j=0∨0<cU n f s.a 3∨s.t=s.k (j+1)then
  ⟨lp s.k (p+1+j) (qk n f s.t (if j=0 then s.a else bA n s.a)),qk n f s.t (if j=0 then s.a else bA n s.a),bA n (bA n (if j=0 then s.a else bA n s.a))⟩
 else⟨lp s.k (p+1+j) s.t,s.t,if j=0 then s.a else bA n s.a⟩
def oo (n:Nat) (f:Nat→AV) (p:Nat) (s0:sM):Nat→sM
 |0=>s0
 |j+1=>rF n f p j (oo n f p s0 j)
def oG (n:Nat) (f:Nat→AV) (a:Int):sM:=⟨fun _=>((cU n f a 4-2:Int):Rat),((cU n f a 4-2:Int):Rat),bA n (bA n a)⟩
def kr (n:Nat) (f:Nat→AV) (a:Int) (m:Nat):Nat:=(cU n f (bA n a) (m+1)).toNat
def Cl (n:Nat) (f:Nat→AV) (a:Int) (p m:Nat):sM:=oo n f p (oG n f a) (kr n f a m)
def nH (n:Nat) (f:Nat→AV) (a:Int) (p m:Nat):Nat:=2*p+2+kr n f a m
def nq (n:Nat) (f:Nat→AV) (a:Int) (p m:Nat):Nat→Rat:=lX p (kr n f a m) (Cl n f a p m).k (Cl n f a p m).t
def qI (n:Nat) (f:Nat→AV) (a:Int) (p m:Nat):Int:=(Cl n f a p m).a
theorem Cb {n:Nat} {f:Nat→AV} {a:Int} {p:Nat} (hd:cB n f a) (hp:1≤p):∀j,KG p j (oo n f p (oG n f a) j).k (oo n f p (oG n f a) j).t∧cB n f (oo n f p (oG n f a) j).a
 |0=>by
  have h1:=ju (n:=n) (f:=f) (a:=a) (m:=4) (by omega)
  have h2:=jv (n:=n) (f:=f) (a:=a) (m:=4) (by omega)
  exact⟨KG.start hp (by omega) (by omega),hd.next.next⟩
 |j+1=>by
  obtain⟨h1,h2⟩:=Cb hd hp j
  unfold oo rF qk
  generalize oo n f p (oG n f a) j=s at*
  obtain⟨k,t,b⟩:=s
  simp only at h1 h2 ⊢
  have hb:cB n f (if j=0 then b else bA n b):=by split;exact h2;exact h2.next
  generalize (if j=0 then b else bA n b)=a1 at*
  split
  ·have x1:=ju (n:=n) (f:=f) (a:=a1) (m:=3) (by omega)
   have x2:=jv (n:=n) (f:=f) (a:=a1) (m:=3) (by omega)
   have y1:=ju (n:=n) (f:=f) (a:=bA n a1) (m:=2) (by omega)
   have y2:=jv (n:=n) (f:=f) (a:=bA n a1) (m:=2) (by omega)
   refine⟨h1.next (.inl ?_),hb.next.next⟩
   generalize cU n f a1 3=x at*
   generalize cU n f (bA n a1) 2=y at*
   have key:∃z:Int,((1+x:Int):Rat)/((1+y:Int):Rat)=(z:Rat)/2∧1≤z∧z≤6:=by
    rcases(show y=0∨y=1 by omega)with h|h
    ·subst h
     refine⟨2*(1+x),?_,by omega,by omega⟩
     have:((2*(1+x):Int):Rat)=2*((1+x:Int):Rat):=by simp
     rw[this]
     generalize ((1+x:Int):Rat)=w
     simp;grind
    ·subst h
     exact⟨1+x,by simp,by omega,by omega⟩
   obtain⟨z,e,z1,z2⟩:=key
   rw[e]
   refine⟨?_,z,rfl,z2⟩
   have:(1:Rat)≤(z:Rat):=by exact_mod_cast z1
   grind
  ·rename_i hc
   have hc1:¬j=0:=fun h=>hc (.inl h)
   have hc2:¬t=k (j+1):=fun h=>hc (.inr (.inr h))
   exact⟨h1.next (.inr ⟨rfl,by omega,hc2⟩),hb⟩
theorem MC {z:Int} (h1:-2^63≤z) (h2:z<2^63):Sz ((z:Rat)/2) 64:=by
 have:=Ir h1 h2 (y:=2) (by omega) (by omega) (by omega)
 simpa using this
theorem KG.sz {p j:Nat} {k:Nat→Rat} {t:Rat} (h:KG p j k t) (hj:j<2^50):Sz t 64:=by
 obtain⟨z,e,h1,h2⟩:=h.half (p+j) (Nat.le_refl _)
 rw[h.top]at e
 rw[e]
 exact MC (by omega) (by omega)
theorem WD {J j:Nat} (h:j<J):((J-j:Nat):Int)-1=((J-(j+1):Nat):Int):=by omega
theorem FA {rl:List (Nat×Nat)} {l i:Nat} {k k':Nat→Rat} {t:Rat} {s:Nat} (hk:k'=lp k l t) (ht:Sz t 64) (hi:i<l+1):fH rl (if i<l then .rat (k i) 64 else nth [.rat t s] (.rat 0 1) (i-l+0)) (.rat (k' i) 64):=by
 subst hk
 by_cases h:i<l
 ·rw[if_pos h,l7 (by omega)];exact aE rfl rfl
 ·have:i=l:=by omega
  subst this
  rw[if_neg h,tA,Nat.sub_self]
  exact .inr ⟨rfl,fZ rfl ht⟩
theorem Cg:aY P og:=dm (aG Cr (aG DF (aG B9 ZT)))
theorem adS {k n p m:Nat} {z:Nat→Int} {a:Int} {o:ah} (ho:∀ρ,cu ρ o (kS n z a)) (h:cB n (fun i=>.int .i64 (z i)) a) (hp:1≤p) (hp2:p<1000) (hm2:m<1000) (K:Nat):
  aA P Bg K [.ptr k 0 2 0 [],.int .i64 p,.int .i64 m] [(k,o)] ⟨bt (nq n (fun i=>.int .i64 (z i)) a p m) (nH n (fun i=>.int .i64 (z i)) a p m) 64,[(k,kS n z (qI n (fun i=>.int .i64 (z i)) a p m))],[]⟩:=by
 refine Jl hT Nh rfl rfl (of_decide_eq_true (by kernel_rfl)) ho (fun _ c hk=>?_) K
 have a1:=ju (n:=n) (f:=fun i=>.int .i64 (z i)) (a:=a) (m:=4) (by omega)
 have a2:=jv (n:=n) (f:=fun i=>.int .i64 (z i)) (a:=a) (m:=4) (by omega)
 have b1:=ju (n:=n) (f:=fun i=>.int .i64 (z i)) (a:=bA n a) (m:=m+1) (by omega)
 have b2:=jv (n:=n) (f:=fun i=>.int .i64 (z i)) (a:=bA n a) (m:=m+1) (by omega)
 have hS:=Cb h hp
 unfold qI nq nH Cl at*
 obtain⟨J,hJ⟩:∃J,J=kr n (fun i=>.int .i64 (z i)) a m:=⟨_,rfl⟩
 have hJ2:cU n (fun i=>.int .i64 (z i)) (bA n a) (m+1)=(J:Int):=by rw[hJ];unfold kr;omega
 rw[←hJ]at*
 have hJ3:J<1000:=by omega
 obtain⟨S,hSd⟩:∃S,S=oo n (fun i=>.int .i64 (z i)) p (oG n (fun i=>.int .i64 (z i)) a):=⟨_,rfl⟩
 have h00:S 0=oG n (fun i=>.int .i64 (z i)) a:=by rw[hSd];rfl
 have hS1:∀j,S (j+1)=rF n (fun i=>.int .i64 (z i)) p j (S j):=fun j=>by rw[hSd];rfl
 rw[←hSd]at hS ⊢
 clear hSd hJ
 obtain⟨t0,ht0⟩:∃t0:Rat,t0=((cU n (fun i=>.int .i64 (z i)) a 4-2:Int):Rat):=⟨_,rfl⟩
 unfold oG at h00
 rw[←ht0]at h00
 have hs0:Sz t0 64:=by have:=(hS 0).1.sz (by omega);rw[h00]at this;exact this
 refine aq.nL hT Cg hm [1,1,1,0,1] (i:=0) (y:=part zy [1,1,1,0,1,0,0]) (z:=AE) (by kernel_rfl) (by kernel_rfl) (by kernel_rfl) Nh.dst hk (f1:=[]) (f2:=[18]) 60 qd 3
  (fun j:Nat=>Cy p m (match j with
   |0=>.nil
   |_+1=>.own 2 3 0 j) j) (fun j=>match j with
   |0=>[(1,tO t0),(0,kS n z (bA n a))]
   |_+1=>mQ n z (bA n a) t0 j (fun _=>t0)) (fun j=>j≤p+1) (fun j=>j=p+1) (fun j=>p+1-j) (fun _=>False) ⟨_,RM,?_⟩ (fun j hj=>?_) (fun j hj=>?_) (fun _ _ h=>h.elim)
 ·simp only[aa.all,ax]
  refine⟨⟨h,by omega,by omega,by omega,by omega,by omega,by omega⟩,0,by omega,[(0,0),(1,20481)],rfl,rfl,rfl,aJ rfl rfl (.inr ⟨rfl,?_⟩) (aJ rfl rfl (aE rfl rfl) trivial)⟩
  rw[←ht0]
  exact fZ rfl hs0
 ·cases j with
  |zero=>
   refine⟨_,aad,?_⟩
   simp only[aa.all,ax,decide_eq_true_eq,decide_eq_false_iff_not]
   refine⟨fun _=>⟨by omega,by omega,1,by omega,by dsimp only;omega,[(0,0),(1,1),(2,24579)],rfl,rfl,rfl,bk rfl rfl rfl (fun i hi=>?_) (aJ rfl rfl (aE rfl rfl) (aJ rfl rfl (aE rfl rfl) trivial))⟩,fun h=>by omega⟩
   have:i=0:=by omega
   subst this
   exact aE rfl rfl
  |succ j=>
   refine⟨_,UH,?_⟩
   simp only[aa.all,ax,decide_eq_true_eq,decide_eq_false_iff_not]
   refine⟨fun _=>⟨by omega,by omega,j+2,by omega,by dsimp only;omega,[(0,0),(1,1),(2,24579)],rfl,rfl,rfl,bk rfl rfl rfl (fun i hi=>FA (by funext i;unfold lp;split<;>rfl) hs0 hi) (aJ rfl rfl (aE rfl rfl) (aJ rfl rfl (aE rfl rfl) trivial))⟩,
    fun _=>⟨rfl,j+1,by omega,[(0,0),(1,1),(2,2)],rfl,rfl,rfl,bk rfl rfl rfl (fun i hi=>aE rfl rfl) (aJ rfl rfl (aE rfl rfl) (aJ rfl rfl (aE rfl rfl) trivial))⟩⟩
 subst hj
 refine aq.nL hT Cg hm [0,1] (i:=2) (y:=part AE [0,1,0,0]) (z:=tJ) (by kernel_rfl) (by kernel_rfl) (by kernel_rfl) (by kernel_rfl) hk (f1:=[]) (f2:=[30,38,43,53]) 60 vN 3
  (fun j:Nat=>ri p (p+1+j) ((J-j:Nat):Int)) (fun j=>mQ n z (S j).a (S j).t (p+1+j) (S j).k) (fun j=>j≤J) (fun j=>j=J) (fun j=>J-j) (fun _=>False) ⟨_,XD,?_⟩ (fun j hj=>?_) (fun j hj=>?_) (fun _ _ h=>h.elim)
 ·simp only[aa.all,ax]
  rw[hJ2]
  refine⟨⟨by omega,h.next,by omega,by omega⟩,0,by omega,[(0,0),(1,1),(2,2)],rfl,rfl,rfl,?_⟩
  dsimp only
  rw[h00]
  exact bk rfl rfl rfl (fun i hi=>aE rfl rfl) (aJ rfl rfl (aE rfl rfl) (aJ rfl rfl (aE rfl rfl) trivial))
 ·refine⟨_,ai0,?_⟩
  have hj1:=hS1 j
  obtain⟨hg,hd⟩:=hS j
  have hs1:∀{j},j<2000→Sz (S j).t 64:=fun hj=>(hS _).1.sz (by omega)
  have hsj:=hs1 (j:=j) (by omega)
  have hsj1:=hs1 (j:=j+1) (by omega)
  have e1:(((p+1+j:Nat):Int)-(p:Int)).toNat+0=j+1:=by omega
  simp only[aa.all,ax,decide_eq_true_eq,decide_eq_false_iff_not,beq_iff_eq,beq_eq_false_iff_ne,e1,cond_false]
  have v3:=fun a=>And.intro (ju (n:=n) (f:=fun i=>.int .i64 (z i)) (a:=a) (m:=3) (by omega)) (jv (n:=n) (f:=fun i=>.int .i64 (z i)) (a:=a) (m:=3) (by omega))
  have v2:=fun a=>And.intro (ju (n:=n) (f:=fun i=>.int .i64 (z i)) (a:=a) (m:=2) (by omega)) (jv (n:=n) (f:=fun i=>.int .i64 (z i)) (a:=a) (m:=2) (by omega))
  have q1:=v3 (S j).a
  have q2:=v3 (bA n (S j).a)
  have q3:=v2 (bA n (S j).a)
  have q4:=v2 (bA n (bA n (S j).a))
  refine⟨fun hi=>?_,fun hi=>⟨rfl,j,by omega,[(0,0),(1,1),(2,2)],rfl,rfl,rfl,bk rfl rfl rfl (fun i hi=>aE rfl rfl) (aJ rfl rfl (aE rfl rfl) (aJ rfl rfl (aE rfl rfl) trivial))⟩⟩
  have hlt:j<J:=by omega
  have fin:∀(key:Nat) (t:Rat) (s s2:Nat) (b:Int) (g:Nat→AV),S (j+1)=⟨lp (S j).k (p+1+j) t,t,b⟩→g 0=.rat t s2→(gB 3 [(0,0),(1,1),(2,key)])=true→(key==1)=false→(key==0)=false→
    Round [0] (fun j=>ri p (p+1+j) ((J-j:Nat):Int)) (fun j=>mQ n z (S j).a (S j).t (p+1+j) (S j).k) 3 (fun j=>j≤J) (fun j=>j=J) (fun j=>J-j) 2 (fun _=>False) j normal
     ([ptr 0 0 2 0 [],int i64 p,ptr 1 0 3 0 [],own key 3 0 (p+1+j+1),int i64 (((J-j:Nat):Int)-1)],[(key,⟨true,true,3,p+1+j+1,fun i=>if i<p+1+j then .rat ((S j).k i) 64 else nth [.rat t s] (.rat 0 1) (i-(p+1+j)+0)⟩),(1,⟨false,true,3,1,g⟩),(0,kS n z b)]):=by
   intro key t s s2 b g e1 e2 e3 hk1 hk0
   rw[e1]at hsj1
   refine⟨j+1,by omega,by dsimp only;omega,[(0,0),(1,1),(2,key)],by rw[e3];rfl,by rw[WD hlt];rfl,rfl,?_⟩
   dsimp only
   rw[e1]
   exact bk rfl ow rfl (fun i hi=>FA rfl hsj1 hi) (aJ rfl ((O8 hk1).trans rfl) (.inr ⟨by rw[e2];rfl,by rw[e2];exact fZ rfl hsj1⟩) (aJ rfl ((O8 hk0).trans rfl) (aE rfl rfl) trivial))
  refine⟨fun hl=>?_,fun hl=>⟨fun hc=>?_,fun hc=>?_⟩⟩
  all_goals (repeat' with_reducible first|refine And.intro ?_ ?_|intro _)
  all_goals first|omega|exact hd|exact hd.next|exact hd.next.next|skip
  all_goals try exact absurd ‹true=false› (by decide)
  ·refine fin 147459 _ _ _ _ _ ?_ rfl rfl rfl rfl
   rw[hj1];unfold rF qk
   have hj0:j=0:=by omega
   rw[if_pos (.inl hj0),if_pos hj0]
  ·refine fin 147459 _ _ _ _ _ ?_ rfl rfl rfl rfl
   rw[hj1];unfold rF qk
   have hj0:j≠0:=by omega
   rw[if_pos (.inr (.inl hc)),if_neg hj0]
  ·refine fin 147459 _ _ _ _ _ ?_ rfl rfl rfl rfl
   rw[hj1];unfold rF qk
   have hj0:j≠0:=by omega
   rename_i hk
   rw[if_pos (.inr (.inr hk)),if_neg hj0]
  ·refine fin 106499 _ _ _ _ _ ?_ rfl rfl rfl rfl
   rw[hj1];unfold rF qk
   have hj0:j≠0:=by omega
   rename_i hk
   rw[if_neg (by simp only[hj0,hk,or_false,false_or];omega),if_neg hj0]
 subst hj
 have hs1:Sz ((S j).t+1) 64:=by
  obtain⟨z,e,h1,h2⟩:=(hS j).1.W9 (p+1+j)
  unfold lX at e
  rw[if_neg (by omega)]at e
  rw[e];exact MC (by omega) (by omega)
 refine aq.nL hT Cg hm [1,0,1] (i:=4) (y:=part tJ [1,0,1,0,0]) (z:=part tJ [1,1]) (by kernel_rfl) (by kernel_rfl) (by kernel_rfl) (by kernel_rfl) hk (f1:=[]) (f2:=[72]) 60 zw 3
  (fun i:Nat=>ri p (p+1+j+i) i) (fun i=>mQ n z (S j).a ((S j).t+1) (p+1+j+i) (lX p j (S j).k (S j).t)) (fun i=>i≤p+1) (fun i=>i=p+1) (fun i=>p+1-i) (fun _=>False) ⟨_,aiq,?_⟩ (fun i hi=>?_) (fun i hi=>?_) (fun _ _ h=>h.elim)
 ·simp only[aa.all,ax]
  refine⟨⟨by omega,by omega,by omega,by omega,by decide,by omega⟩,0,by omega,[(0,0),(1,1),(2,2)],rfl,rfl,rfl,bk rfl rfl rfl (fun i hi=>?_) (aJ rfl rfl (.inr ⟨rfl,fZ rfl hs1⟩) (aJ rfl rfl (aE rfl rfl) trivial))⟩
  refine aE rfl ?_
  unfold lX
  rw[if_pos (by omega)]
 ·refine⟨_,V8,?_⟩
  simp only[aa.all,ax,decide_eq_true_eq,decide_eq_false_iff_not]
  refine⟨fun _=>⟨by omega,by omega,i+1,by omega,by dsimp only;omega,[(0,0),(1,1),(2,24579)],rfl,rfl,rfl,bk rfl rfl rfl (fun i hi=>FA ?_ hs1 hi) (aJ rfl rfl (aE rfl rfl) (aJ rfl rfl (aE rfl rfl) trivial))⟩,
   fun _=>⟨rfl,i,by omega,[(0,0),(1,1),(2,2)],rfl,rfl,rfl,bk rfl rfl rfl (fun i hi=>aE rfl rfl) (aJ rfl rfl (aE rfl rfl) (aJ rfl rfl (aE rfl rfl) trivial))⟩⟩
  funext x
  unfold lp lX
  split
  ·rename_i hx;rw[if_neg (by omega)]
  ·split<;>rfl
 ·subst hi
  refine aq.mh (aD.MW hT Cg hm 60 abS (by kernel_rfl) ⟨?_,_,rfl,rfl,mm rfl rfl⟩)
  exact pC (by omega) fun _ _=>rfl
def GH (n:Nat) (f:Nat→AV) (a:Int) (l:List AV):Option (AV×Int×List Prop):=match l with
 |[.int .i64 p,.int .i64 m]=>some (bt (nq n f a p.toNat m.toNat) (nH n f a p.toNat m.toNat) 64,qI n f a p.toNat m.toNat,[1≤p,p<1000,0≤m,m<1000])
 |_=>none
theorem Wf:∀K args pre r,gH GH K args pre=some r→aA P Bg K args pre r:=by
 refine rj fun {k n z a l v b q o} K hg ho hd hq=>?_
 unfold GH at hg
 split at hg
 ·rename_i p m
  simp only[Option.some.injEq,Prod.mk.injEq]at hg
  obtain⟨rfl,rfl,rfl⟩:=hg
  obtain⟨h1,h2,h3,h4⟩:=hq
  have h4:m<1000:=h4
  have:=adS (k:=k) (p:=p.toNat) (m:=m.toNat) ho hd (by omega) (by omega) (by omega) K
  rw[Int.toNat_of_nonneg (by omega),Int.toNat_of_nonneg h3]at this
  exact this
 ·simp at hg
end Go.Am.B

/- brepkernelmade: Number. -/
namespace Go.Am.B
open Go Go.Am.N AV
end Go.Am.B

/- law09: made, at. -/
namespace Go.Am.B
open Go Go.Am.N AV aa aj IntKind
end Go.Am.B

/- ref02.Text of a few numbers; law09.awake. -/
namespace Go.Am.B
open Go Go.Am.N AV aa aj IntKind
def sZ:aR:=[sG,(tu,Ie)]
theorem aeI:aY P sZ:=iq (aG IP bh)
theorem Kn.congr {n p:Nat} {k k':Nat→Rat} (h:Kn n p k) (e:∀i,i<n→k i=k' i):Kn n p k':=by
 have hp:=h.p1
 have hl:=h.len
 refine⟨h.p1,h.len,fun i hi=>?_,fun i hi=>?_,fun i h1 h2=>?_,fun i h1 h2=>?_⟩
 ·rw[←e i (by omega),←e (i+1) hi];exact h.sorted i hi
 ·rw[←e i (by omega),←e 0 (by omega)];exact h.first i hi
 ·rw[←e i h2,←e (n-1) (by omega)];exact h.last i h1 h2
 ·rw[←e i (by omega),←e (i+p) (by omega)];exact h.mult i h1 h2
theorem ajZ {f:Nat→Rat} (h:∀i,i<6→f i=lX 2 0 (fun _=>((0:Int):Rat)) ((0:Int):Rat) i):Kn 6 2 f:=
 ((KG.start (p:=2) (by omega) (z:=0) (by omega) (by omega)).done:Kn (2*2+2+0) 2 _).congr fun i hi=>(h i hi).symm
end Go.Am.B

/- shapes, vector, ref14: by the evaluator; law14.awake. -/
namespace Go.Am.B
open Go Go.Am.N AV aa aj IntKind
noncomputable def BO:aR:=[(Oh,fY T (sG::qA) [] 60 Lw),(MM,fY T (sG::qA) [] 60 Lf),(Lc,fY T (sG::qA) [100010,100017] 60 MN)]
theorem FX:aY P BO:=aG (gd hT (iq r4) hm (aQ SA (by kernel_rfl) (by kernel_rfl) (by kernel_rfl)) _ _) (aG (gd hT (iq r4) hm (aQ abz (by kernel_rfl) (by kernel_rfl) (by kernel_rfl)) _ _) (aG (gd hT (iq r4) hm (aQ Vp (by kernel_rfl) (by kernel_rfl) (by kernel_rfl)) _ _) bh))
end Go.Am.B

/- law10.awake. -/
namespace Go.Am.B
open Go Go.Am.N AV aa aj IntKind
theorem ac5:aP P zR y7 (au y7):=aQ UC (by kernel_rfl) (by kernel_rfl) (by kernel_rfl)
def Q8:Spec:=bC fun l=>match l with
 |[.mag 2]=>some (aK (.str [50]) [])
 |[.mag 3]=>some (aK (.str [51]) [])
 |[.mag 4]=>some (aK (.str [52]) [])
 |[.mag 5]=>some (aK (.str [53]) [])
 |_=>none
def wQ:aR:=[sG,(x5,Q8)]
def QN:Spec:=bC fun l=>match l with
 |[.rat q _]=>match decide (q=3/5),decide (q=4/5),decide (q=3/2)with
  |true,_,_=>some (aK (.str [51,47,53]) [])
  |false,true,_=>some (aK (.str [52,47,53]) [])
  |false,false,true=>some (aK (.str [51,47,50]) [])
  |_,_,_=>none
 |_=>none
noncomputable def KA:aR:=sG::(Ar,HV)::(sU,Nt)::(BJ,Ja)::(QH,fY T (sG::qA) [] 200 Mz)::(oT,yV)::(Bb,QN)::qA
theorem aar:bF T sZ [] 60 jW (au jW) ⟨aN 0 [.mag 2],[],0⟩=
  let c1:Int:=(↑(1:Nat):Int);some (ag [nl 2<2^40,(0:Int)<(1000000000:Int),(1000000000:Int)<(2:Int)^32] (ag [(10:Int)≠(0:Int),(0:Nat)<1∧1*((1:Nat)+1)*2≤2^47] (ag [(10:Int)≠(0:Int)] (ag [(0:Int)≤c1∧c1≤c1∧c1≤(2:Int)^47∧c1*c1≤(2:Int)^47] (leaf ret [str [UInt8.ofNat (u8.wrap (u32.wrap ((48:Int)+(↑((2:Nat)%Int.toNat (1000000000:Int)):Int).tmod (10:Int)))).toNat]]))))):=by kernel_rfl
theorem S6:bF T sZ [] 60 jW (au jW) ⟨aN 0 [.mag 3],[],0⟩=
  let c1:Int:=(↑(1:Nat):Int);some (ag [nl 3<2^40,(0:Int)<(1000000000:Int),(1000000000:Int)<(2:Int)^32] (ag [(10:Int)≠(0:Int),(0:Nat)<1∧1*((1:Nat)+1)*2≤2^47] (ag [(10:Int)≠(0:Int)] (ag [(0:Int)≤c1∧c1≤c1∧c1≤(2:Int)^47∧c1*c1≤(2:Int)^47] (leaf ret [str [UInt8.ofNat (u8.wrap (u32.wrap ((48:Int)+(↑((3:Nat)%Int.toNat (1000000000:Int)):Int).tmod (10:Int)))).toNat]]))))):=by kernel_rfl
theorem acP:bF T sZ [] 60 jW (au jW) ⟨aN 0 [.mag 4],[],0⟩=
  let c1:Int:=(↑(1:Nat):Int);some (ag [nl 4<2^40,(0:Int)<(1000000000:Int),(1000000000:Int)<(2:Int)^32] (ag [(10:Int)≠(0:Int),(0:Nat)<1∧1*((1:Nat)+1)*2≤2^47] (ag [(10:Int)≠(0:Int)] (ag [(0:Int)≤c1∧c1≤c1∧c1≤(2:Int)^47∧c1*c1≤(2:Int)^47] (leaf ret [str [UInt8.ofNat (u8.wrap (u32.wrap ((48:Int)+(↑((4:Nat)%Int.toNat (1000000000:Int)):Int).tmod (10:Int)))).toNat]]))))):=by kernel_rfl
theorem aaf:bF T sZ [] 60 jW (au jW) ⟨aN 0 [.mag 5],[],0⟩=
  let c1:Int:=(↑(1:Nat):Int);some (ag [nl 5<2^40,(0:Int)<(1000000000:Int),(1000000000:Int)<(2:Int)^32] (ag [(10:Int)≠(0:Int),(0:Nat)<1∧1*((1:Nat)+1)*2≤2^47] (ag [(10:Int)≠(0:Int)] (ag [(0:Int)≤c1∧c1≤c1∧c1≤(2:Int)^47∧c1*c1≤(2:Int)^47] (leaf ret [str [UInt8.ofNat (u8.wrap (u32.wrap ((48:Int)+(↑((5:Nat)%Int.toNat (1000000000:Int)):Int).tmod (10:Int)))).toNat]]))))):=by kernel_rfl
theorem abW:bF T wQ [] 60 lO (au lO) ⟨aN 0 [.agg [.bool false,.mag 3,.mag 5]],[],0⟩=
  some (leaf ret [str [(51:UInt8),(47:UInt8),(53:UInt8)]]):=by kernel_rfl
theorem af9:bF T wQ [] 60 lO (au lO) ⟨aN 0 [.agg [.bool false,.mag 4,.mag 5]],[],0⟩=
  some (leaf ret [str [(52:UInt8),(47:UInt8),(53:UInt8)]]):=by kernel_rfl
theorem Ww:bF T wQ [] 60 lO (au lO) ⟨aN 0 [.agg [.bool false,.mag 3,.mag 2]],[],0⟩=
  some (leaf ret [str [(51:UInt8),(47:UInt8),(50:UInt8)]]):=by kernel_rfl
theorem agp:bF T KA [100024,100028,100032,100038,100044,100050] 200 y7 (au y7) ⟨aN 0 [],[],0⟩=
  let c10:Rat:=(↑(1:Int):Rat)/(↑(2:Int):Rat);let c9:Int:=(2:Int)^63;let c8:List UInt8:=[(47:UInt8),(53:UInt8)];let c6:AV:=agg [AV.bool (decide ((0:Rat)<0)),mag (↑(nat_lit 0):Int).natAbs,mag (if 1=1 then 0 else 1)];let c5:AV:=rat 0 1;let c4:AV:=rat (↑(1:Int):Rat) (Max.max 1 (br (Int.natAbs (1:Int))));let c7:AV:=agg [agg [c5,c5,c5],c5];let c3:List AV:=[agg [agg [c4,c5,c5],c4],agg [agg [c4,c4,c5],c4],agg [agg [c6,c4,c5],rat (↑(2:Int):Rat) (Max.max 1 (br (Int.natAbs (2:Int))))]];let c2:List AV:=[c6,c6,c6,c4,c4,c4];let c1:Cu:=Cu.mk (2:Int) 6 (fun i↦aS (nth c2 c5 (i+0))) 3 fun i↦dN (nth c3 c7 (i+0));some (ag [(0:Nat)<1] (ag [-c9≤(1:Int),(1:Int)<c9,-c9≤(2:Int),(2:Int)<c9] (ag [bG (fun i↦nth c2 c5 (i+0)) 6 sJ,eI (fun i↦nth c3 c7 (i+0)) 3 sJ,(64:Nat)≤sK,dy c1] (ag [bG (fun i↦nth c2 c5 (i+0)) 6 2000,eI (fun i↦nth c3 c7 (i+0)) 3 2000,(64:Nat)≤2000,dy c1] (ag [bG (fun i↦nth c2 c5 (i+0)) 6 2048,eI (fun i↦nth c3 c7 (i+0)) 3 2048,dy c1,∀(i:Nat),i<3→0<(dN (nth c3 c7 (i+0))).d,((0:Int)==(0:Int))=true,(bif true then eC 6 (fun i↦aS (nth c2 c5 (i+0))) c10==(0:Int)else false)=true,(bif true then dj c1 c10==(0:Int)else false)=true,(bif true then(51:UInt8)::c8==(51:UInt8)::c8 else false)=true,(bif true then(52:UInt8)::c8==(52:UInt8)::c8 else false)=true,(bif true then(↑((6:Nat)+1-Int.toNat (2:Int)-1):Int)==(4:Int)else false)=true] (leaf ret [AV.bool true])))))):=by kernel_rfl
theorem SQ:∀K args pre r,Q8 K args pre=some r→aA P x5 K args pre r:=by
 refine bW fun K args r hk hs _=>?_
 have fin:∀{N:Nat} {t:aa (List AV)} {l:List UInt8},bF T sZ [] 60 jW (au jW) ⟨aN 0 [.mag N],[],0⟩=some t→(t.all fun _ us=>dY us (.str l))→aA P x5 K [.mag N] [] (aK (.str l) []):=fun h1 h2=>
  bJ (r:=aK _ []) hT aeI hm aaG rfl (of_decide_eq_true (by kernel_rfl)) rfl 60 h1 (fun _=>h2) K []
 split at hs<;>simp only[Option.some.injEq,reduceCtorEq]at hs
 all_goals subst hs
 ·exact fin aar (by simp only[aa.all,ax];exact⟨by decide,by decide,by decide,by decide,.refl _⟩)
 ·exact fin S6 (by simp only[aa.all,ax];exact⟨by decide,by decide,by decide,by decide,.refl _⟩)
 ·exact fin acP (by simp only[aa.all,ax];exact⟨by decide,by decide,by decide,by decide,.refl _⟩)
 ·exact fin aaf (by simp only[aa.all,ax];exact⟨by decide,by decide,by decide,by decide,.refl _⟩)
theorem acR:aY P wQ:=iq (aG SQ bh)
theorem adi:∀K args pre r,QN K args pre=some r→aA P Bb K args pre r:=by
 refine bW fun K args r hk hs _=>?_
 have fin:∀{q:Rat} {n a b:Nat} {t:aa (List AV)} {l:List UInt8},kids (.rat q n)=[.bool false,.mag a,.mag b]→bF T wQ [] 60 lO (au lO) ⟨aN 0 [.agg [.bool false,.mag a,.mag b]],[],0⟩=some t→(t.all fun _ us=>dY us (.str l))→aA P Bb K [.rat q n] [] (aK (.str l) []):=fun h0 h1 h2=>
  ga (bJ (r:=aK _ []) hT acR hm ajY rfl (of_decide_eq_true (by kernel_rfl)) rfl 60 h1 (fun _=>h2) K []) rfl (show eJ [_] [_]from⟨by rw[←h0];exact KS,trivial⟩) []
 split at hs
 ·rename_i q n
  split at hs
  all_goals simp only[Option.some.injEq,reduceCtorEq]at hs
  all_goals subst hs
  ·obtain rfl:q=3/5:=of_decide_eq_true ‹_›
   exact fin (by kernel_rfl) abW (.refl _)
  ·obtain rfl:q=4/5:=of_decide_eq_true ‹decide (q=4/5)=true›
   exact fin (by kernel_rfl) af9 (.refl _)
  ·obtain rfl:q=3/2:=of_decide_eq_true ‹decide (q=3/2)=true›
   exact fin (by kernel_rfl) Ww (.refl _)
 ·simp at hs
theorem adN:aY P KA:=iq (aG Mg (aG adX (aG UX (aG (gd hT (iq r4) hm (aQ ab9 (by kernel_rfl) (by kernel_rfl) (by kernel_rfl)) _ _) (aG B9 (aG adi r4))))))
theorem Wm (K:Nat):aA P zR K [] [] (aK (.bool true) []):=by
 refine bJ (r:=aK (.bool true) []) hT adN hm ac5 rfl (of_decide_eq_true (by kernel_rfl)) rfl 200 agp (fun _=>?_) K []
 have hR:∀s,4≤s→bG (fun i=>nth [.agg [AV.bool (decide ((0:Rat)<0)),mag (↑(nat_lit 0):Int).natAbs,mag (if 1=1 then 0 else 1)],.agg [AV.bool (decide ((0:Rat)<0)),mag (↑(nat_lit 0):Int).natAbs,mag (if 1=1 then 0 else 1)],.agg [AV.bool (decide ((0:Rat)<0)),mag (↑(nat_lit 0):Int).natAbs,mag (if 1=1 then 0 else 1)],.rat (↑(1:Int):Rat) (Max.max 1 (br (Int.natAbs (1:Int)))),.rat (↑(1:Int):Rat) (Max.max 1 (br (Int.natAbs (1:Int)))),.rat (↑(1:Int):Rat) (Max.max 1 (br (Int.natAbs (1:Int))))] (.rat 0 1) (i+0)) 6 s:=fun s hs i hi=>by
  obtain⟨s,rfl⟩:∃s',s=s'+1:=⟨s-1,by omega⟩
  match i,hi with
  |0,_|1,_|2,_=>exact lH
  |3,_|4,_|5,_=>exact fA (Nat.le_trans (by decide) hs)
 simp only[aa.all,ax]
 (repeat' with_reducible first|refine And.intro ?_ ?_)
 all_goals first|omega|decide|exact hR _ (by decide)|skip
 all_goals first|decide+kernel|exact .refl _|skip
 all_goals first|refine⟨ajZ fun i hi=>?_,by decide,by decide,by decide,by decide⟩|intro i hi
 all_goals first
  |match i,hi with
   |0,_|1,_|2,_|3,_|4,_|5,_=>decide+kernel
  |match i,hi with
   |0,_|1,_|2,_=>decide+kernel
  |skip
 all_goals match i,hi with
  |0,_|1,_=>exact dr ⟨dr ⟨fA (by decide),fA (by decide),fA (by decide),trivial⟩,fA (by decide),trivial⟩
  |2,_=>exact dr ⟨dr ⟨lH,fA (by decide),fA (by decide),trivial⟩,fA (by decide),trivial⟩
def QG:Spec:=bC fun l=>match l with
 |[]=>some (aK (.bool true) [])
 |_=>none
theorem ad8:∀K args pre r,QG K args pre=some r→aA P zR K args pre r:=by
 refine bW fun K args r hk hs _=>?_
 split at hs
 ·simp only[Option.some.injEq]at hs
  subst hs
  exact fun need=>Wm K need
 ·simp at hs
end Go.Am.B

/- ref10: MovePoles, Move; ref12: withRows, Move. -/
namespace Go.Am.B
open Go Go.Am.N AV aa aj IntKind
def ag1 (s:Nat):Kind Mp:=⟨fun v=>match Ep v with
 |some (a,q)=>some (a.1,(a.2≤s)::q)
 |none=>none,fun a=>lI a s,fun {v a q} h hq=>by
  split at h
  ·rename_i a q h1
   simp only[Option.some.injEq,Prod.mk.injEq]at h
   obtain⟨rfl,rfl⟩:=h
   obtain⟨q1,q2⟩:=(dG (a:=[_]) (b:=q)).1 hq
   exact(YA h1 q2).trans (XH rfl q1)
  ·simp at h⟩
def gU (r v:V3) (t:Rat):Rat:=0+r.x*v.x+r.y*v.y+r.z*v.z+t
def uH (m:Mp) (v:V3):V3:=⟨gU m.m.a v m.t.x,gU m.m.b v m.t.y,gU m.m.c v m.t.z⟩
def gl (m:Mp) (p:Pl):Pl:=⟨uH m p.n,p.d⟩
def de (m:Mp) (c:Cu):Cu:=⟨c.p,c.n,c.k,c.m,fun j=>gl m (c.f j)⟩
abbrev sQ:Nat:=1100
noncomputable def Jj:aR:=[(Pd,fY T (sG::BO) [] 60 JJ)]
noncomputable def OC:aR:=[(Kj,fY T (sG::(Jj++BO)) [] 60 Q7)]
theorem SY:aY P Jj:=aG (gd hT (iq FX) hm (aQ Th (by kernel_rfl) (by kernel_rfl) (by kernel_rfl)) _ _) bh
theorem R8:aY P OC:=aG (gd hT (iq (qR SY FX)) hm (aQ RR (by kernel_rfl) (by kernel_rfl) (by kernel_rfl)) _ _) bh
end Go.Am.B

/- ref10.SamePoles, Same, ref12.Same for equal arguments. -/
namespace Go.Am.B
open Go Go.Am.N AV aa aj IntKind
structure oR (c d:Cu):Prop where
 p:c.p=d.p
 n:c.n=d.n
 k:∀i,i<c.n→c.k i=d.k i
 m:c.m=d.m
 f:∀i,i<c.m→c.f i=d.f i
structure SfEq (s t:Sf):Prop where
 u:s.u=t.u
 v:s.v=t.v
 a:s.a=t.a
 ku:∀i,i<s.a→s.ku i=t.ku i
 b:s.b=t.b
 kv:∀i,i<s.b→s.kv i=t.kv i
 n:s.n=t.n
 m:s.m=t.m
 f:∀i j,i<s.n→j<s.m→s.f i j=t.f i j
end Go.Am.B

/- shapes.Revolve. -/
namespace Go.Am.B
open Go Go.Am.N AV aa aj IntKind
end Go.Am.B

/- slices.EqualFunc of numbers; curve.Move. -/
namespace Go.Am.B
open Go Go.Am.N AV aa aj IntKind
abbrev Hr:FuncId:=Km
noncomputable abbrev BX:Func:=PJ
theorem Y9:aP P Hr BX (au BX):=aQ aau (by kernel_rfl) (by kernel_rfl) (by kernel_rfl)
theorem afF:aP P vf AS (au AS):=aQ adg (by kernel_rfl) (by kernel_rfl) (by kernel_rfl)
noncomputable abbrev zc:Code:=au BX
abbrev mR:List Nat:=[0,1,2,6,15,16,17]
noncomputable def F7:aR:=[(Gj,fY T fD [] 60 Fx),(Nf,fY T fD [] 60 OJ)]
noncomputable def IQ:aR:=[(II,fY T F7 [] 60 Gt),(Pv,fY T F7 [] 60 Ji)]
noncomputable def Lz:aR:=[(O7,fY T IQ [] 60 Oy)]
noncomputable def Dc (x y:Nat):aR:=nG::(qv,Ca x y)::(Lz++fD)
abbrev Ab:List Nat:=[3,4,5,15,16,17]
abbrev FH (c:Cu) (r i:Nat):List AV:=[.ptr 1 0 36 0 [],.ptr 2 0 3 0 [],.ptr 3 0 3 0 [],gY c.f c.m r,.int .i64 c.m,.int .i64 i]
abbrev Gk (c:Cu) (m:Mp) (y w s i:Nat):aC:=[(4,⟨true,true,12,i,fun j=>bu (gl m (c.f j)) w⟩),(3,⟨false,true,3,1,fun _=>.agg [.int .i64 c.p,bt c.k c.n y,.own 4 12 0 i]⟩),(2,⟨false,true,3,1,fun _=>.agg [.int .i64 0,.nil,.nil]⟩),(1,⟨false,true,36,1,fun _=>lI m s⟩)]
noncomputable abbrev wY:Code:=au AS
theorem Sj {x y r s:Nat} {c:Cu} {m:Mp}:aH T (Dc x y) [] 60 Ab (before wY [1,1,0,1]) ⟨aN 0 [cI c x r,lI m s],[],0⟩=
  let c2:Prop:=0<1;let c1:AV:=agg [int i64 (0:Int),nil,nil];some (ag [c2,c2,bG (fun i↦rat (c.k i) x) c.n x,x+10≤y,y<2^40,c.n<2^40,c2] (ag [c2] (leaf normal ([ptr 4096 0 (bn (lI m s)).size 0 [],ptr 8192 0 3 0 [],ptr 36864 0 3 0 [],ak 12 c.m fun i↦agg [agg [rat (c.f i).n.x r,rat (c.f i).n.y r,rat (c.f i).n.z r],rat (c.f i).d r],int i64 (↑c.m:Int),int i64 (0:Int)],[((36864:Nat),ah.mk false true 3 1 fun j↦if(j==0)=true then bn (agg ((c1.kids.set 0 (bn (int i64 c.p))).set 1 (bn (bt (fun i↦aS (rat (c.k i) x)) c.n y))))else c1),((8192:Nat),ah.mk false true 3 1 fun x↦c1),((4096:Nat),ah.mk false true (bn (lI m s)).size 1 fun x↦agg [agg [agg [rat m.m.a.x s,rat m.m.a.y s,rat m.m.a.z s],agg [rat m.m.b.x s,rat m.m.b.y s,rat m.m.b.z s],agg [rat m.m.c.x s,rat m.m.c.y s,rat m.m.c.z s]],agg [rat m.t.x s,rat m.t.y s,rat m.t.z s]])])))):=by kernel_rfl
theorem aeC {x y r s w i:Nat} {c:Cu} {m:Mp}:aH T (Dc x y) [18] 60 Ab [part wY [1,1,0,1,0,0]] ⟨aB Ab (FH c r i),Gk c m y w s i,5⟩=
  let c25:Int:=(↑c.m:Int);let c24:Int:=(↑(3:Nat):Int);let c20:AV:=own 4 12 0 i;let c19:AV:=ptr 2 0 3 0 [];let c18:AV:=ptr 3 0 3 0 [];let c17:AV:=ptr 1 0 36 0 [];let c15:AV:=rat 0 1;let c14:Int:=(↑i:Int);let c12:Nat:=1+(s+r)+1;let c11:Int:=i64.wrap ((0:Int)+(1:Int));let c9:AV:=ak 12 c.m fun i↦agg [agg [rat (c.f i).n.x r,rat (c.f i).n.y r,rat (c.f i).n.z r],rat (c.f i).d r];let c6:List (Nat×ah):=[((2:Nat),ah.mk false true 3 1 fun x↦agg [int i64 (0:Int),nil,nil]),((1:Nat),ah.mk false true 36 1 fun x↦agg [agg [agg [rat m.m.a.x s,rat m.m.a.y s,rat m.m.a.z s],agg [rat m.m.b.x s,rat m.m.b.y s,rat m.m.b.z s],agg [rat m.m.c.x s,rat m.m.c.y s,rat m.m.c.z s]],agg [rat m.t.x s,rat m.t.y s,rat m.t.z s]])];let c4:Nat:=2^42;let c1:Prop:=0<1;let c28:Int:=i64.wrap (c11+(1:Int));let c27:Int:=c14+(1:Int);let c26:Prop:=r<c4;let c23:Prop:=s<c4;let c22:Prop:=1<c4;let c16:Prop:=s+r<c4;let c13:AV:=agg [int i64 c.p,bt c.k c.n y,c20];let c8:V3:=(c.f c14.toNat).n;let c7:Nat:=c12+(s+r)+1;let c5:Prop:=(0:Int)≤(0:Int)∧(0:Int)<c24;let c3:Prop:=(0:Int)≤c11∧c11<c24;let c10:Nat:=c7+(s+r)+1;let c2:Prop:=(0:Int)≤c28∧c28<c24;let c21:Nat:=c10+s+1;some (fork (decide (c14<c25)) (ag [(0:Int)≤c14∧c14.toNat<c.m,c1] (ag [c1,c1,c1,c1,c1,c1,c5,c1,c1,c1,c1,c5,c1,c5,c1,c23,c26,c22,c16,c1,c1,c3,c1,c3,c1,c23,c26,c12<c4,c16,c1,c1,c2,c1,c2,c1,c23,c26,c7<c4,c16,c1,c1,c1,c1,c5,c1,c3,c1,c1,c1,c1,c5,c1,c5,c1,c23,c26,c22,c16,c1,c1,c3,c1,c3,c1,c23,c26,c12<c4,c16,c1,c1,c2,c1,c2,c1,c23,c26,c7<c4,c16,c1,c1,c1,c1,c3,c1,c2,c1,c1,c1,c1,c5,c1,c5,c1,c23,c26,c22,c16,c1,c1,c3,c1,c3,c1,c23,c26,c12<c4,c16,c1,c1,c2,c1,c2,c1,c23,c26,c7<c4,c16,c1,c1,c1,c1,c2,c1,c1,c1,c1,c1,c1,c1,c5,c1,c5,c1,c10<c4,c23,c5,c1,c3,c1,c3,c1,c10<c4,c23,c3,c1,c2,c1,c2,c1,c10<c4,c23,c2,c1,c1,c1,c1,c1,c1,c1,c1,c1,c26,c22,(1:Nat)*12≤2^24,(i+1)*((224:Nat)+1)*2≤2^47,c1] (ag [-(2:Int)^63≤c27∧c27<(2:Int)^63] (leaf normal ([c17,c19,c18,c9,int i64 c25,int i64 c27],((69637:Nat),ah.mk true true 12 (i+1) fun i_1↦if i_1<i then bu (gl m (c.f i_1)) w else nth [agg [agg [rat ((0:Rat)+m.m.a.x*c8.x+m.m.a.y*c8.y+m.m.a.z*c8.z+m.t.x) c21,rat ((0:Rat)+m.m.b.x*c8.x+m.m.b.y*c8.y+m.m.b.z*c8.z+m.t.y) c21,rat ((0:Rat)+m.m.c.x*c8.x+m.m.c.y*c8.y+m.m.c.z*c8.z+m.t.z) c21],rat ((c.f c14.toNat).d+0) (r+1+1)]] (agg [agg [c15,c15,c15],c15]) (i_1-i+0))::((3:Nat),ah.mk false true 3 1 fun j↦if(j==0)=true then agg (c13.kids.set 2 (bn (own (nat_lit 69636+1) 12 0 (i+1))))else c13)::c6))))) (leaf (exit 0) ([c17,c19,c18,c9,int i64 c25,int i64 c14],((4:Nat),ah.mk true true 12 i fun j↦agg [agg [rat (gU m.m.a (c.f j).n m.t.x) w,rat (gU m.m.b (c.f j).n m.t.y) w,rat (gU m.m.c (c.f j).n m.t.z) w],rat (c.f j).d w])::((3:Nat),ah.mk false true 3 1 fun x↦agg [int i64 c.p,ak 3 c.n fun i↦rat (c.k i) y,c20])::c6))):=by kernel_rfl
theorem WI {x y r s w i:Nat} {c:Cu} {m:Mp}:cm T (Dc x y) [] 60 AS [part wY [1,1,1]] ⟨aB Ab (FH c r i),Gk c m y w s i,5⟩=
  let c1:Prop:=0<1;some (ag [c1,c1] (ag [c1] (leaf ret [agg [int i64 c.p,ak 3 c.n fun i↦rat (c.k i) y,ak 12 i fun i↦agg [agg [rat (gU m.m.a (c.f (i+0)).n m.t.x) w,rat (gU m.m.b (c.f (i+0)).n m.t.y) w,rat (gU m.m.c (c.f (i+0)).n m.t.z) w],rat (c.f (i+0)).d w]]]))):=by kernel_rfl
theorem JX:aY P F7:=aG (gd hT gk hm (aQ Pr (by kernel_rfl) (by kernel_rfl) (by kernel_rfl)) _ _) (aG (gd hT gk hm (aQ UE (by kernel_rfl) (by kernel_rfl) (by kernel_rfl)) _ _) bh)
theorem adu:aY P IQ:=aG (gd hT JX hm (aQ OY (by kernel_rfl) (by kernel_rfl) (by kernel_rfl)) _ _) (aG (gd hT JX hm (aQ aeg (by kernel_rfl) (by kernel_rfl) (by kernel_rfl)) _ _) bh)
theorem Wr:aY P Lz:=aG (gd hT adu hm (aQ Xj (by kernel_rfl) (by kernel_rfl) (by kernel_rfl)) _ _) bh
theorem TR {x y:Nat}:aY P (Dc x y):=dm (aG (GJ x y) (qR Wr gk))
theorem KX {rl:List (Nat×Nat)} {c:Cu} {y a i:Nat} (h:aT rl 4=some a):fH rl (.agg [.int .i64 c.p,bt c.k c.n y,.own a 12 0 i]) (.agg [.int .i64 c.p,bt c.k c.n y,.own 4 12 0 i]):=
 iS ⟨⟨rfl,aI rfl⟩,⟨rfl,aI rfl⟩,⟨rfl,cy h rfl rfl⟩,trivial⟩
theorem UU (m:Mp) (s:Nat):(bn (lI m s)).size=36:=by kernel_rfl
theorem abd {x y r s w:Nat} {c:Cu} {m:Mp} (hx:x+10≤y) (hy:y<2^40) (hw:4*s+3*r+10≤w) (hw2:w<2^40) (hn:c.n<2^30) (hm2:c.m<2^30) (K:Nat):aA P vf K [cI c x r,lI m s] [] (aK (cI (de m c) y w) []):=by
 refine gN (r:=aK (cI (de m c) y w) []) hT (TR (x:=x) (y:=y)) hm afF rfl (of_decide_eq_true (by kernel_rfl)) rfl [1,1,0,1] (i:=0) (y:=part wY [1,1,0,1,0,0]) (z:=part wY [1,1,1]) (by kernel_rfl) (by kernel_rfl) (by kernel_rfl) (f1:=[]) (f2:=[18]) (f3:=[]) 60 Ab 5
  (fun i:Nat=>FH c r i) (fun i=>Gk c m y w s i) (fun i=>i≤c.m) (fun i=>i=c.m) (fun i=>c.m-i) (fun _=>⟨⟨_,Sj,?_⟩,fun i hi=>⟨_,aeC,?_⟩,fun i hi=>⟨_,WI,?_⟩⟩) K []
 ·simp only[aa.all,ax]
  rw[UU m s]
  exact⟨⟨by omega,by omega,cN (Nat.le_refl _),by omega,by omega,by omega,by omega⟩,by omega,0,Nat.zero_le _,[(1,4096),(2,8192),(3,36864)],rfl,rfl,rfl,mw rfl (by omega) (by omega) (aJ rfl rfl (iS ⟨⟨rfl,aI rfl⟩,⟨rfl,aI rfl⟩,⟨rfl,mH (by omega)⟩,trivial⟩) (aJ rfl rfl (aE rfl rfl) (aJ rfl rfl (aE rfl rfl) trivial)))⟩
 ·set_option maxRecDepth 10000 in simp only[aa.all,ax,decide_eq_true_eq,decide_eq_false_iff_not,Int.toNat_natCast,Nat.add_zero]
  refine⟨fun h=>?_,fun h=>⟨rfl,i,by omega,[(1,1),(2,2),(3,3),(4,4)],rfl,rfl,rfl,bk rfl rfl rfl (fun _ _=>aE rfl rfl) (aJ rfl rfl (KX rfl) (aJ rfl rfl (aE rfl rfl) (aJ rfl rfl (aE rfl rfl) trivial)))⟩⟩
  have w1:i64.wrap (0+1)=1:=by decide
  have w2:i64.wrap (i64.wrap (0+1)+1)=2:=by decide
  rw[w2,w1]
  refine⟨by omega,?_,by omega,i+1,by omega,by dsimp only;omega,[(1,1),(2,2),(3,3),(4,69637)],rfl,rfl,rfl,bk rfl rfl rfl (fun k hk=>Iv (y:=fun j=>gl m (c.f j)) (fun _ _=>rfl) (s':=w) ?_ rfl (Nat.le_refl _) (Nat.le_refl _) hk) (aJ rfl rfl (KX rfl) (aJ rfl rfl (aE rfl rfl) (aJ rfl rfl (aE rfl rfl) trivial)))⟩
  ·(repeat' with_reducible refine And.intro ?_ ?_)<;>omega
  ·exact dr ⟨dr ⟨bS rfl (by omega),bS rfl (by omega),bS rfl (by omega),trivial⟩,bS (Rat.add_zero _) (by omega),trivial⟩
 ·subst hi
  simp only[aa.all,ax]
  exact⟨by omega,by omega,.refl _⟩
end Go.Am.B

/- fJ.Mirror: slices.Backward of numbers. -/
namespace Go.Am.B
open Go Go.Am.N AV aa aj IntKind
abbrev I6:FuncId:=Mh
abbrev Bl:FuncId:=yP
noncomputable abbrev rX:Code:=au G4
theorem Ss:aP P I6 Db (au Db):=aQ akJ (by kernel_rfl) (by kernel_rfl) (by kernel_rfl)
theorem ET:aP P Bl G4 rX:=aQ akq (by kernel_rfl) (by kernel_rfl) (by kernel_rfl)
theorem M8:aP P yb wP (au wP):=aQ akX (by kernel_rfl) (by kernel_rfl) (by kernel_rfl)
def loadT (o:Oper):Nat:=match o.op with
 |.load t _=>t
 |_=>0
def Ri (o:Oper):Nat:=match o.op with
 |.binOp _ t _ _ _=>t
 |_=>0
noncomputable abbrev I8:Nat:=loadT (cV rX [0] 0)
noncomputable abbrev M5:Nat:=loadT (cV rX [1,0,0,1,0,0,0] 5)
noncomputable abbrev bkI:Nat:=Ri (cV rX [0] 2)
def OD (o:Oper):Array TypeId:=match o.op with
 |.call c=>c.argTypes
 |_=>#[]
def Qo (o:Oper):Nat:=match o.op with
 |.unOp _ t _=>t
 |_=>0
theorem adq:F0 rX I8 M5 bkI:=⟨by kernel_rfl,⟨by kernel_rfl,by kernel_rfl,by kernel_rfl⟩,⟨by kernel_rfl,by kernel_rfl,by kernel_rfl⟩,⟨by kernel_rfl,by kernel_rfl,by kernel_rfl⟩,⟨by kernel_rfl,by kernel_rfl,by kernel_rfl⟩,⟨by kernel_rfl,by kernel_rfl,by kernel_rfl⟩,⟨by kernel_rfl,by kernel_rfl,by kernel_rfl⟩,⟨by kernel_rfl,by kernel_rfl,by kernel_rfl⟩,⟨by kernel_rfl,by kernel_rfl,by kernel_rfl⟩,⟨by kernel_rfl,by kernel_rfl,by kernel_rfl⟩,⟨by kernel_rfl,by kernel_rfl,by kernel_rfl⟩,⟨by kernel_rfl,by kernel_rfl,by kernel_rfl⟩,⟨by kernel_rfl,by kernel_rfl,by kernel_rfl⟩,
 ⟨OD (cV rX [1,0,0,1,0,0,0] 6),by kernel_rfl,by kernel_rfl,by kernel_rfl⟩,⟨Qo (cV rX [1,0,0,1,0,0,0] 7),by kernel_rfl,by kernel_rfl,by kernel_rfl⟩,⟨by kernel_rfl,by kernel_rfl,by kernel_rfl⟩,⟨by kernel_rfl,by kernel_rfl,by kernel_rfl⟩,⟨by kernel_rfl,by kernel_rfl,by kernel_rfl⟩⟩
theorem Xg {n s:Nat} {k:Nat→Rat} (hn:n<2^62):As P Bl [.bI (bt k n s)] n (fun i=>.int .i64 ((n:Int)-1-i)) (fun i=>.rat (k (n-1-i)) s):=
 PR hT (tiS:=(look I8 T).getD ⟨.bool,0,0,.nil⟩) (tiE:=(look M5 T).getD ⟨.bool,0,0,.nil⟩) (by kernel_rfl) (by kernel_rfl) (by kernel_rfl) (by kernel_rfl) ET.get ET.body (by kernel_rfl) (by kernel_rfl) adq (f:=fun i=>.rat (k i) s) hn (by kernel_rfl) fun i hi=>⟨rfl,rfl⟩
noncomputable def xS:aR:=nG::(I6,fY T [sG] [] 20 Db)::fD
abbrev zF:List Nat:=[1,3,7]
abbrev Gq (n:Nat) (k:Nat→Rat) (s:Nat):List AV:=[.ptr 0 0 1 0 [],.ptr 1 0 1 0 [],.func Bl [.bI (bt k n s)]]
abbrev zI (n:Nat) (k:Nat→Rat) (s i:Nat) (x:Nat→Rat) (w:Nat):aC:=[(2,C9 i x w),(1,⟨false,true,1,1,fun _=>.own 2 3 0 i⟩),(0,⟨false,true,1,1,fun _=>bt k n s⟩)]
abbrev Fc:List Nat:=[1,3,7,5]
abbrev Qy (n:Nat) (k:Nat→Rat) (s:Nat):List AV:=[.ptr 0 0 1 0 [],.ptr 1 0 1 0 [],.func Bl [.bI (bt k n s)],.ptr 3 0 3 0 []]
noncomputable abbrev rV:Code:=au wP
def C5:Code→Code×Code
 |.block _ (.rangeFunc _ _ x y)=>(x,y)
 |_=>(.skip,.skip)
noncomputable abbrev Jb:Code:=(C5 (part rV [1,1,0,1])).1
noncomputable abbrev K0:Code:=(C5 (part rV [1,1,0,1])).2
theorem Zi {n s:Nat} {k:Nat→Rat}:aH T xS [] 60 zF (before rV [1,1,0,1]) ⟨aN 0 [bt k n s],[],0⟩=
  let c1:AV:=ak 3 n fun i↦rat (k i) s;some (ag [(0:Nat)<1] (leaf normal ([ptr 0 0 (bn (bt k n s)).size 0 [],ptr 8192 0 1 0 [],func yP [c1.bI]],[((8192:Nat),ah.mk false true 1 1 fun x↦nil),((0:Nat),ah.mk false true (bn (bt k n s)).size 1 fun x↦c1)]))):=by kernel_rfl
theorem ZF {n s w i:Nat} {k x:Nat→Rat} {u:Int} {v:Rat}:aH T xS [] 60 Fc [Jb] ⟨aB (zF++[8,9]) (Gq n k s++[.int .i64 u,.rat v s]),zI n k s i x w,3⟩=
  let c1:AV:=ak 3 n fun i↦rat (k i) s;some (ag [(0:Nat)<1] (leaf normal ([ptr 0 0 1 0 [],ptr 1 0 1 0 [],func yP [c1.bI],ptr 3 0 3 0 []],[((2:Nat),ah.mk true true 3 i fun i↦rat (x i) w),((3:Nat),ah.mk false true 3 1 fun j↦if(j==0)=true then bn (rat v s)else rat 0 1),((1:Nat),ah.mk false true 1 1 fun x↦own 2 3 0 i),((0:Nat),ah.mk false true 1 1 fun x↦c1)]))):=by kernel_rfl
theorem akP {n s w i:Nat} {k x:Nat→Rat} {v:Rat}:aH T xS [] 60 zF [K0] ⟨aB Fc (Qy n k s),(3,tP v s)::zI n k s i x w,4⟩=
  let c4:AV:=ak 3 n fun i↦rat (k i) s;let c3:Nat:=2^42;let c2:Int:=(↑n:Int)-(1:Int);let c1:Prop:=0<1;some (ag [c1,c1,(0:Int)≤(0:Int)∧Int.toNat (0:Int)<n,c1,c1,-(2:Int)^63≤c2∧c2<(2:Int)^63,(0:Int)≤c2∧c2.toNat<n,s<c3,s<c3,c1,s+s+1<c3,s<c3,(1:Nat)*3≤2^24,(i+1)*((56:Nat)+1)*2≤2^47,c1] (leaf normal ([ptr 0 0 1 0 [],ptr 1 0 1 0 [],func yP [c4.bI]],[((57348:Nat),ah.mk true true 3 (i+1) fun i_1↦if i_1<i then rat (x i_1) w else nth [rat (k (Int.toNat (0:Int))+k c2.toNat-v) (s+s+1+s+1)] (rat 0 1) (i_1-i+0)),((1:Nat),ah.mk false true 1 1 fun j↦if(j==0)=true then bn (own (nat_lit 57347+1) 3 0 (i+1))else own 2 3 0 i),((0:Nat),ah.mk false true 1 1 fun x↦c4)]))):=by kernel_rfl
theorem SP {n s w i:Nat} {k x:Nat→Rat}:cm T xS [] 60 wP [part rV [1,1,1]] ⟨aB zF (Gq n k s),zI n k s i x w,3⟩=
  some (ag [(0:Nat)<1] (leaf ret [ak 3 i fun i↦rat (x (i+0)) w])):=by kernel_rfl
theorem MP:aY P xS:=dm (aG (gd hT (iq bh) hm Ss _ _) gk)
theorem aen {n s w:Nat} {k:Nat→Rat} (h:3*s+2≤w) (hw:w<2^40) (hn:n<2^40) (K:Nat):aA P yb K [bt k n s] [] (aK (bt (ia n k) n w) []):=by
 refine NM (r:=aK (bt (ia n k) n w) []) hT M8 rfl (of_decide_eq_true (by kernel_rfl)) rfl (fun _ cx hro hk=>?_) K []
 refine aq.Ld hT MP hm (x:=rV) (assign:=Jb) (body:=K0) (g:=7) (p0:=8) (p1:=9) [1,1,0,1] (i:=0) (by kernel_rfl) (by kernel_rfl) M8.dst hro hk ET.enters (Xg (s:=s) (k:=k) (by omega)) (of_decide_eq_true (by kernel_rfl)) (of_decide_eq_true (by kernel_rfl)) (by decide) (f1:=[]) (f2:=[]) (f3:=[])
  60 zF Fc (Gq n k s) (fun _=>rfl) rfl (fun i=>zI n k s i (ia n k) w) 3 4 (fun _=>Qy n k s) (fun i=>(3,tP (k (n-1-i)) s)::zI n k s i (ia n k) w) [0,1] ⟨_,Zi,?_⟩ (fun i hi=>⟨_,ZF,?_⟩) (fun i hi=>⟨_,akP,?_⟩) ?_
 ·simp only[aa.all,ax]
  exact⟨by omega,trivial,[(0,0),(1,8192)],rfl,rfl,rfl,mw rfl (by omega) (by omega) (aJ rfl rfl (.inl (.inl ⟨rfl,rfl⟩)) (aJ rfl rfl (aE rfl rfl) trivial))⟩
 ·simp only[aa.all,ax]
  exact⟨by omega,trivial,[(0,0),(1,1),(2,2),(3,3)],rfl,rfl,rfl,aJ rfl rfl (aE rfl rfl) (bk rfl rfl rfl (fun _ _=>aE rfl rfl) (aJ rfl rfl (.inl (.inl ⟨rfl,rfl⟩)) (aJ rfl rfl (aE rfl rfl) trivial)))⟩
 ·simp only[aa.all,ax,Int.toNat_zero]
  refine⟨by omega,trivial,[(0,0),(1,1),(2,57348)],rfl,rfl,rfl,bk rfl rfl rfl (fun j hj=>r6 (fun _ _=>rfl) ?_ (Nat.le_refl _) (by omega) hj) (aJ rfl rfl (.inl (.inl ⟨rfl,rfl⟩)) (aJ rfl rfl (aE rfl rfl) trivial))⟩
  rw[show((n:Int)-1).toNat=n-1 by omega];rfl
 ·rw[show behind rV [1,1,0,1]=[part rV [1,1,1]]from by kernel_rfl]
  exact(aD.fin hT MP hm 60 SP (by kernel_rfl) (by simp only[aa.all,ax];exact⟨by omega,.refl _⟩)).mono fun _ _ h=>.inl h
theorem U1 {s w:Nat} (h:3*s+2≤w) (hw:w<2^40):∀K args pre q,LQ s w K args pre=some q→aA P yb K args pre q:=cS fun⟨⟨n,k⟩,_⟩ K hn=>aen h hw hn K
end Go.Am.B
