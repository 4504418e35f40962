/- slices.Insert of one number s4 a list of just its capacity; fX.Insert, ref08.Insert. -/
import Derived.Test.YtppeigelbecpbaaGreatY38
import Derived.Test.YtppeigelbecpbaaGreatY37
import Derived.Test.YtppeigelbecpbaaGreatB33
import Derived.Test.YtppeigelbecpbaaGreatZ2
set_option linter.unusedVariables false
namespace Go.Am.B
open Go Go.Am.N AV aa ak IntKind
theorem aj4 {c:Nat} {u v:AV} (hv:v.isAgg=false) (h:bw u v):bw (.bG c u) (.bG c v):=by
 refine⟨rfl,fun M w cs hc=>?_⟩
 cases hc with
 |bG _ h1 h2=>cases h2;exact .bG hv (h.2 _ _ _ h1) .nil
def acC (s:Nat):Kind (Nat×(Nat→Rat)):=⟨fun v=>match v with
 |.bG c v=>match(kL s).read v with
  |some (a,q)=>some (a,(c=a.1)::q)
  |none=>none
 |_=>none,fun a=>.bG a.1 (bp a.2 a.1 s),fun {v a q} h hq=>by
  split at h
  ·split at h
   ·rename_i h1
    simp only[Option.some.injEq,Prod.mk.injEq]at h
    obtain⟨rfl,rfl⟩:=h
    obtain⟨q1,q2⟩:=BI.1 hq
    subst q1
    exact aj4 rfl ((kL s).ok h1 q2)
   ·simp at h
  ·simp at h⟩
abbrev BM:FuncId:=IX
noncomputable abbrev Dj:Func:=P3
def cq (k:Nat→Rat) (t:Rat):Nat→Nat
 |0=>0
 |n+1=>if cq k t n=n∧k n≤t then n+1 else cq k t n
def cE (k:Nat→Rat) (t:Rat) (p j:Nat):Rat:=if j<p then k j else if j=p then t else k (j-1)
abbrev zw:List Nat:=[3,9,10,11]
abbrev Gc (n:Nat) (k:Nat→Rat) (s i:Nat):List AV:=[.bG n (.own 0 3 0 i),bp k n s,.int .i64 n,.int .i64 i]
abbrev BU:aS:=cG::ga
abbrev zl:List Nat:=[0,3,5]
abbrev FV (n:Nat) (k:Nat→Rat) (s i:Nat):List AV:=[bp k n s,.ptr 0 0 3 0 [],.int .i64 i]
noncomputable abbrev vU:Code:=au yh
def OL (w:Nat):Spec:=cB (kC (acC w) (kC kI (kC (kL w) kN))) (fun a=>bp (cE a.1.2 (a.2.2.1.2 0) a.2.1.toNat) (a.1.1+1) w) fun a=>[0≤a.2.1,a.2.1≤a.1.1,a.2.2.1.1=1,a.1.1<2^40]
def ML (s w:Nat):Spec:=cB (kC (kL s) kN) (fun a=>.bG a.1.1 (bp a.1.2 a.1.1 w)) fun a=>[a.1.1<2^40]
def Dc (s w:Nat):aS:=cG::(pJ,ML s w)::(BM,OL w)::ga
abbrev zA:List Nat:=[0,3,5,6,7]
abbrev uS (n:Nat) (k:Nat→Rat) (s m i:Nat) (b:Bool):List AV:=[bp k n s,.ptr 0 0 3 0 [],.own 1 3 0 m,.bool b,.int .i64 i]
noncomputable abbrev wE:Code:=au zI
theorem Y7:aP P BM Dj (au Dj):=aQ aiL (by kernel_rfl) (by kernel_rfl) (by kernel_rfl)
theorem YR:aP P p8 yh (au yh):=aQ Xd (by kernel_rfl) (by kernel_rfl) (by kernel_rfl)
theorem Tw:aP P za zI (au zI):=aQ adQ (by kernel_rfl) (by kernel_rfl) (by kernel_rfl)
theorem Tg {n i s:Nat} {k:Nat→Rat} {t:Rat}:bC T [cG] [22,100031] 60 Dj (au Dj) ⟨aN 0 [.bG n (bp k n s),.int .i64 i,bp (fun _=>t) 1 s],[],0⟩=
  let c11:Nat:=Int.toNat (0:Int);let c9:Int:=(↑n:Int);let c7:Int:=(2:Int)^63;let c4:Int:=(↑i:Int);let c14:Nat:=c4.toNat-c11;let c13:Prop:=(0:Int)≤c4;let c12:Nat:=0+c4.toNat;let c3:Int:=c9+(↑(1:Nat):Int);let c2:Int:=c4+(↑(1:Nat):Int);let c10:Nat:=0+c2.toNat;let c1:Nat:=c14+(c3-c4).toNat;let c8:Int:=(↑c1:Int);let c6:Nat:=c12+Min.min 1 (c8.toNat-c4.toNat);let c5:Nat:=c10+Min.min (c9.toNat-c4.toNat) (c8.toNat-c2.toNat);some (ag [c13∧c4≤c9∧c9≤c9] (fork (c4==c9) (ag [n<n+1∧(n+1)*((56:Nat)+1)*2≤2^47] (leaf ret [aj 3 (n+1) fun i↦if i+0<n then rat (k (i+0)) s else rat t s])) (ag [-c7≤c3∧c3<c7] (ag [decide (c3>c9)=true] (ag [(0:Int)≤(0:Int)∧c13∧c4≤c9,-c7≤c3∧c3<c7,-c7≤c3-c4∧c3-c4<c7,(0:Int)<c3-c4∧n-c11<c1∧c1*((56:Nat)+1)*2≤2^47] (ag [c13∧c4≤c8∧c8≤c8∧c8≤c8] (ag [-c7≤c2∧c2<c7,(0:Int)≤c2∧c2≤c8∧c8≤c8∧c8≤c8,c13∧c4≤c9∧c9≤c9] (leaf ret [aj 3 c1 fun i↦if c10≤i+0∧i+0<c5 then rat (k (i+0-c10+c4.toNat)) s else if c12≤i+0∧i+0<c6 then rat t s else if i+0<c14 then rat (k (i+0+c11)) s else rat 0 1])))))))):=by kernel_rfl
theorem ajO {n s:Nat} {k:Nat→Rat}:aJ T BU [] 60 zw (before l7 [1,1,0,1]) ⟨aN 0 [bp k n s],[],0⟩=
  let c1:Int:=(↑n:Int);some (ag [(0:Int)≤(0:Int)∧(0:Int)≤c1∧c1≤(2:Int)^47∧c1*(↑(56:Nat):Int)≤(2:Int)^47] (leaf normal ([bG c1.toNat (own 12288 3 0 0),aj 3 n fun i↦rat (k i) s,int i64 c1,int i64 (0:Int)],[((12288:Nat),ah.mk true true 3 0 fun x↦rat 0 1)]))):=by kernel_rfl
theorem ac4 {n i s w:Nat} {k x:Nat→Rat}:aJ T BU [12] 60 zw [part l7 [1,1,0,1,0,0]] ⟨aB zw (Gc n k s i),[(0,mN i x w)],1⟩=
  let c5:Int:=(↑n:Int);let c3:Nat:=i+1;let c2:AV:=aj 3 n fun i↦rat (k i) s;let c1:Int:=(↑i:Int);let c4:Int:=c1+(1:Int);some (fork (decide (c1<c5)) (ag [(0:Int)≤c1∧c1.toNat<n,(0:Nat)<1] (ag [(0:Nat)<1,s<2^42,(1:Nat)<2^42,(1:Nat)*3≤2^24,c3≤n,c3*((56:Nat)+1)*2≤2^47] (ag [-(2:Int)^63≤c4∧c4<(2:Int)^63] (leaf normal ([bG n (own 40961 3 0 c3),c2,int i64 c5,int i64 c4],[((40961:Nat),ah.mk true true 3 c3 fun i_1↦if i_1<i then rat (x i_1) w else nth [rat (k c1.toNat+0) (s+1+1)] (rat 0 1) (i_1-i+0))]))))) (leaf (exit 0) ([bG n (own 0 3 0 i),c2,int i64 c5,int i64 c1],[((0:Nat),ah.mk true true 3 i fun i↦rat (x i) w)]))):=by kernel_rfl
theorem Zs {n i s w:Nat} {k x:Nat→Rat}:bY T BU [] 60 A4 [part l7 [1,1,1]] ⟨aB zw (Gc n k s i),[(0,mN i x w)],1⟩=
  some (leaf ret [bG n (aj 3 i fun i↦rat (x (i+0)) w)]):=by kernel_rfl
theorem abG {n s r w:Nat} {k:Nat→Rat} {t:Rat}:aJ T (Dc s w) [] 60 zl (before vU [1,1,0]) ⟨aN 0 [bp k n s,.rat t r],[],0⟩=
  some (leaf normal ([aj 3 n fun i↦rat (k i) s,ptr 0 0 (aT (rat t r)).size 0 [],int i64 (0:Int)],[((0:Nat),ah.mk false true (aT (rat t r)).size 1 fun x↦rat t r)])):=by kernel_rfl
theorem adF {n i s r w:Nat} {k:Nat→Rat} {t:Rat}:aJ T (Dc s w) [10,18] 60 zl [part vU [1,1,0,0,0]] ⟨aB zl (FV n k s i),[(0,tP t r)],1⟩=
  let c7:AV:=aj 3 n fun i↦rat (k i) s;let c5:AV:=ptr 0 0 3 0 [];let c4:Nat×ah:=((0:Nat),ah.mk false true 3 1 fun x↦rat t r);let c3:Int:=(↑i:Int);let c8:Int:=c3+(1:Int);let c6:Bool:=decide (c3<(↑n:Int));let c2:aa (List AV×aC):=leaf (exit 0) ([c7,c5,int i64 c3],[c4]);let c1:aa (List AV×aC):=ag [-(2:Int)^63≤c8∧c8<(2:Int)^63] (leaf normal ([c7,c5,int i64 c8],[c4]));some (fork c6 (ag [c6=true,(0:Int)≤c3∧c3.toNat<n,(0:Nat)<1,s<2^42,r<2^42] (fork (bif true then decide (dc (k c3.toNat) t≤(0:Int))else false) c1 c2)) (ag [c6=false] (fork false c1 c2))):=by kernel_rfl
theorem ajF {n i s r w:Nat} {k:Nat→Rat} {t:Rat}:bY T (Dc s w) [] 60 yh [part vU [1,1,1]] ⟨aB zl (FV n k s i),[(0,tP t r)],1⟩=
  let c3:AV:=rat 0 1;let c2:Prop:=n<2^40;let c1:AV:=rat (t+0) (r+1+1);some (ag [bK (fun i↦rat (k i) s) n s,c2,(0:Nat)<1,r<2^42,(1:Nat)<2^42,(1:Nat)*3≤2^24,n=n,bK (fun i↦rat (aO (rat (k i) s)) w) n w,bK (fun i↦nth [c1] c3 (i+0)) 1 w,(0:Int)≤(↑i:Int),(↑i:Int)≤(↑n:Int),(1:Nat)=1,c2] (leaf ret [aj 3 (n+1) fun i_1↦rat (cE (fun i↦aO (rat (aO (rat (k i) s)) w)) (aO (nth [c1] c3 ((0:Nat)+0))) (↑i:Int).toNat i_1) w])):=by kernel_rfl
theorem UR {n s r:Nat} {k:Nat→Rat} {t:Rat}:aJ T Ch [] 60 zA (before wE [1,1,1,0,1]) ⟨aN 0 [bp k n s,.rat t r],[],0⟩=
  some (leaf normal ([aj 3 n fun i↦rat (k i) s,ptr 0 0 (aT (rat t r)).size 0 [],nil,AV.bool false,int i64 (0:Int)],[((0:Nat),ah.mk false true (aT (rat t r)).size 1 fun x↦rat t r)])):=by kernel_rfl
theorem Zx {n s r w m i:Nat} {b:Bool} {k x:Nat→Rat} {t:Rat}:aJ T Ch [11,16,24] 60 zA [part wE [1,1,1,0,1,0,0]] ⟨aB zA (uS n k s m i b),[(1,mN m x w),(0,tP t r)],2⟩=
  let c12:AV:=rat 0 1;let c11:Prop:=1*3≤2^24;let c9:AV:=aj 3 n fun i↦rat (k i) s;let c7:Nat:=m+1;let c6:AV:=ptr 0 0 3 0 [];let c5:Nat×ah:=((0:Nat),ah.mk false true 3 1 fun x↦rat t r);let c3:Int:=(↑i:Int);let c15:Rat:=k c3.toNat;let c14:Nat:=c7+1;let c13:Int:=c3+(1:Int);let c10:Prop:=(0:Int)≤c3∧c3.toNat<n;let c4:List Prop:=[c11,c7*((56:Nat)+1)*2≤2^47];let c8:Prop:=-(2:Int)^63≤c13∧c13<(2:Int)^63;let c2:aa (List AV×aC):=ag (c10::c4) (ag [c8] (leaf normal ([c9,c6,own 86018 3 0 c7,AV.bool b,int i64 c13],[((86018:Nat),ah.mk true true 3 c7 fun i↦if i<m then rat (x i) w else nth [rat c15 s] c12 (i-m+0)),c5])));let c1:aa (List AV×aC):=ag (((0:Nat)<1)::c4) (ag [c10,c11,c14*((56:Nat)+1)*2≤2^47] (ag [c8] (leaf normal ([c9,c6,own 110594 3 0 c14,AV.bool true,int i64 c13],[((110594:Nat),ah.mk true true 3 c14 fun i↦if i<c7 then if i<m then rat (x i) w else nth [rat t r] c12 (i-m+0)else nth [rat c15 s] c12 (i-c7+0)),c5]))));some (fork (decide (c3<(↑n:Int))) (fork (!b) (ag [(!b)=true,(0:Nat)<1,c10,r<2^41,s<2^41] (fork (bif true then decide (dc t c15<(0:Int))else false) c1 c2)) (ag [(!b)=false] (fork false c1 c2))) (leaf (exit 0) ([c9,c6,own 1 3 0 m,AV.bool b,int i64 c3],[((1:Nat),ah.mk true true 3 m fun i↦rat (x i) w),c5]))):=by kernel_rfl
theorem Wu {n s r w m i:Nat} {b:Bool} {k x:Nat→Rat} {t:Rat}:bY T Ch [37] 60 zI [part wE [1,1,1,1]] ⟨aB zA (uS n k s m i b),[(1,mN m x w),(0,tP t r)],2⟩=
  some (fork (!b) (ag [(0:Nat)<1,(1:Nat)*3≤2^24,(m+1)*((56:Nat)+1)*2≤2^47] (leaf ret [aj 3 (m+1) fun i↦if i+0<m then rat (x (i+0)) w else nth [rat t r] (rat 0 1) (i+0-m+0)])) (leaf ret [aj 3 m fun i↦rat (x (i+0)) w])):=by kernel_rfl
theorem EZ {Γ:aS} (h:aY P Γ):aY P (cG::Γ):=aG (fun _ _ _ _ h=>nomatch h) h
theorem LC {a b:Rat}:dc a b≤(0:Int)↔a≤b:=by
 have:=@qf a b
 constructor
 ·intro h
  exact Rat.not_lt.1 fun h'=>by have:=qf.2 h';omega
 ·intro h
  have:¬dc a b>0:=fun h'=>Rat.not_lt.2 h (qf.1 h')
  omega
theorem IK {k:Nat→Rat} {t:Rat}:∀{n:Nat},cq k t n≤n
 |0=>Nat.le_refl _
 |n+1=>by
  have:=IK (k:=k) (t:=t) (n:=n)
  unfold cq;split<;>omega
theorem FU {k:Nat→Rat} {t:Rat} {n:Nat} (h:cq k t n=n) (h2:k n≤t):cq k t (n+1)=n+1:=by unfold cq;rw[if_pos ⟨h,h2⟩]
theorem Gt {k:Nat→Rat} {t:Rat} {i:Nat} (h:cq k t i=i) (h2:t<k i):∀{n:Nat},i≤n→cq k t n=i
 |0,hn=>by
    have:i=0:=by omega
    subst this;rfl
 |n+1,hn=>by
  by_cases he:i=n+1
  ·subst he;exact h
  ·have ih:=Gt h h2 (n:=n) (by omega)
   unfold cq
   rw[if_neg,ih]
   rintro⟨g1,g2⟩
   have:i=n:=by omega
   subst this
   exact absurd h2 (Rat.not_lt.2 g2)
theorem Yb {n i s:Nat} {k:Nat→Rat} {t:Rat} (hi:i≤n) (hn:n<2^40) (K:Nat):aA P BM K [.bG n (bp k n s),.int .i64 i,bp (fun _=>t) 1 s] [] (aH (bp (cE k t i) (n+1) s) []):=by
 refine bJ (r:=aH (bp (cE k t i) (n+1) s) []) hT (EZ bq) hm Y7 rfl (of_decide_eq_true (by kernel_rfl)) rfl 60 Tg (fun _=>?_) K []
 simp only[aa.all,ax,decide_eq_true_eq,decide_eq_false_iff_not]
 have w1:((1:Nat):Int)=1:=rfl
 simp only[w1,Int.toNat_natCast,Int.toNat_zero,Nat.sub_zero,Nat.zero_add,Nat.add_zero,beq_iff_eq,beq_eq_false_iff_ne,ne_eq,Int.ofNat_inj]
 refine⟨by omega,fun h=>⟨by omega,fT fun j hj=>cY ?_⟩,fun h=>?_⟩
 ·subst h
  unfold cE
  by_cases h1:j<i
  ·rw[if_pos h1,if_pos h1]
  ·rw[if_neg h1,if_neg h1,if_pos (by omega)]
 ·have eN:i+((n:Int)+1-i).toNat=n+1:=by omega
  have e2:((i:Int)+1).toNat=i+1:=by omega
  simp only[eN,e2]
  refine⟨by omega,by omega,by omega,by omega,by omega,fT fun j hj=>cY ?_⟩
  unfold cE
  by_cases h1:j<i
  ·rw[if_neg (by omega),if_neg (by omega),if_pos h1,if_pos h1]
  ·by_cases h2:j=i
   ·rw[if_neg (by omega),if_pos (by omega),if_neg h1,if_pos h2]
   ·rw[if_pos (by omega),if_neg h1,if_neg h2,show j-(i+1)+i=j-1 by omega]
theorem Ux:aY P BU:=EZ gY
theorem abl {n s w:Nat} {k:Nat→Rat} (h:s+2≤w) (hw:w<2^40) (hn:n<2^40) (K:Nat):aA P pJ K [bp k n s] [] (aH (.bG n (bp k n w)) []):=by
 refine fH (r:=aH (.bG n (bp k n w)) []) hT Ux hm EB rfl (of_decide_eq_true (by kernel_rfl)) rfl [1,1,0,1] (i:=0) (y:=part l7 [1,1,0,1,0,0]) (z:=part l7 [1,1,1]) (by kernel_rfl) (by kernel_rfl) (by kernel_rfl) (f1:=[]) (f2:=[12]) (f3:=[]) 60 zw 1
  (fun i:Nat=>Gc n k s i) (fun i=>[(0,mN i k w)]) (fun i=>i≤n) (fun i=>i=n) (fun i=>n-i) (fun _=>⟨⟨_,ajO,?_⟩,fun i hi=>⟨_,ac4,?_⟩,fun i hi=>⟨_,Zs,?_⟩⟩) K []
 ·simp only[aa.all,ax]
  exact⟨by omega,0,Nat.zero_le _,[(0,12288)],rfl,by rw[Int.toNat_natCast];rfl,rfl,bB rfl rfl rfl (fun j hj=>absurd hj (Nat.not_lt_zero j)) trivial⟩
 ·simp only[aa.all,ax,decide_eq_true_eq,decide_eq_false_iff_not,Int.toNat_natCast,Nat.add_zero]
  exact⟨fun h1=>⟨by omega,by omega,by omega,i+1,by omega,by dsimp only;omega,[(0,40961)],rfl,rfl,rfl,bB rfl rfl rfl (fun j hj=>jG (fun _ _=>rfl) (Rat.add_zero _) (Nat.le_refl _) (by omega) hj) trivial⟩,
   fun h1=>⟨rfl,i,by omega,[(0,0)],rfl,rfl,rfl,bB rfl rfl rfl (fun _ _=>aE rfl rfl) trivial⟩⟩
 ·subst hi
  simp only[aa.all,ax]
  exact .refl _
theorem ajd {s w:Nat} (h:s+2≤w) (hw:w<2^40):∀K args pre r,ML s w K args pre=some r→aA P pJ K args pre r:=cj fun⟨⟨n,k⟩,_⟩ K hn=>abl h hw hn K
theorem YE {w:Nat}:∀K args pre r,OL w K args pre=some r→aA P BM K args pre r:=cj fun⟨⟨n,k⟩,i,⟨m,g⟩,_⟩ K hn=>by
 obtain⟨h1,h2,h3,h4⟩:=hn
 simp only at h1 h2 h3 h4
 subst h3
 have:=fO (Yb (k:=k) (t:=g 0) (s:=w) (i:=i.toNat) (n:=n) (by omega) h4 K) (args:=[.bG n (bp k n w),.int .i64 i,bp g 1 w]) rfl ⟨.refl _,bt (by omega),fT fun j hj=>cY (by rw[Nat.lt_one_iff.1 hj]),trivial⟩ []
 exact this
theorem Yn {s w:Nat} (h:s+2≤w) (hw:w<2^40):aY P (Dc s w):=EZ (aG (ajd h hw) (aG YE gY))
theorem OQ {n s r w:Nat} {k:Nat→Rat} {t:Rat} (h:s+2≤w) (h2:r+2≤w) (hw:w<2^40) (hn:n<2^40) (K:Nat):aA P p8 K [bp k n s,.rat t r] [] (aH (bp (cE k t (cq k t n)) (n+1) w) []):=by
 refine fH (r:=aH (bp (cE k t (cq k t n)) (n+1) w) []) hT (Yn h hw) hm YR rfl (of_decide_eq_true (by kernel_rfl)) rfl [1,1,0] (i:=0) (y:=part vU [1,1,0,0,0]) (z:=part vU [1,1,1]) (by kernel_rfl) (by kernel_rfl) (by kernel_rfl) (f1:=[]) (f2:=[10,18]) (f3:=[]) 60 zl 1
  (fun i:Nat=>FV n k s i) (fun _=>[(0,tP t r)]) (fun i=>i≤n∧cq k t i=i) (fun i=>i≤n∧i=cq k t n) (fun i=>n-i) (fun _=>⟨⟨_,abG,?_⟩,fun i hi=>⟨_,adF,?_⟩,fun i hi=>⟨_,ajF,?_⟩⟩) K []
 ·simp only[aa.all,ax]
  exact⟨0,⟨Nat.zero_le _,rfl⟩,[(0,0)],rfl,rfl,rfl,aF rfl rfl (aE rfl rfl) trivial⟩
 ·simp only[aa.all,ax,decide_eq_true_eq,decide_eq_false_iff_not,Int.toNat_natCast]
  simp only[cond_true,decide_eq_true_eq,decide_eq_false_iff_not,LC]
  exact⟨fun h1=>⟨⟨h1,by omega,by omega,by omega,by omega⟩,fun h2=>⟨by omega,i+1,⟨by omega,FU hi.2 h2⟩,by dsimp only;omega,[(0,0)],rfl,rfl,rfl,aF rfl rfl (aE rfl rfl) trivial⟩,
    fun h2=>⟨rfl,i,⟨by omega,(Gt hi.2 (Rat.not_le.1 h2) (by omega)).symm⟩,[(0,0)],rfl,rfl,rfl,aF rfl rfl (aE rfl rfl) trivial⟩⟩,
   fun h1=>⟨h1,fun h=>absurd h (by decide),fun _=>⟨rfl,i,⟨hi.1,by rw[show n=i by omega];exact hi.2.symm⟩,[(0,0)],rfl,rfl,rfl,aF rfl rfl (aE rfl rfl) trivial⟩⟩⟩
 ·obtain⟨hi,rfl⟩:=hi
  simp only[aa.all,ax]
  refine⟨⟨ct (Nat.le_refl _),by omega,by omega,by omega,by omega,by omega,trivial,ct (Nat.le_refl _),fun j hj=>?_,by omega,by omega,trivial,by omega⟩,fT fun j hj=>cY ?_⟩
  ·rw[Nat.lt_one_iff.1 hj];exact fe (by omega)
  ·show AV.rat (cE k (t+0) ((cq k t n:Nat):Int).toNat j) w=_
   rw[Rat.add_zero,Int.toNat_natCast]
theorem It {k:Nat→Rat} {t:Rat}:∀{n j:Nat},j<cq k t n→k j≤t
 |0,j,h=>by simp[cq]at h
 |n+1,j,h=>by
  unfold cq at h
  split at h
  ·rename_i g
   by_cases he:j=n
   ·subst he;exact g.2
   ·exact It (n:=n) (by omega)
  ·exact It h
theorem Jq {k:Nat→Rat} {t:Rat}:∀{n:Nat},cq k t n<n→t<k (cq k t n)
 |0,h=>by omega
 |n+1,h=>by
  by_cases he:cq k t n=n
  ·by_cases h2:k n≤t
   ·rw[FU he h2]at h;omega
   ·have:cq k t (n+1)=n:=by rw[cq,if_neg (fun g=>h2 g.2),he]
    rw[this];exact Rat.not_le.1 h2
  ·have:cq k t (n+1)=cq k t n:=by rw[cq,if_neg (fun g=>he g.1)]
   rw[this]
   exact Jq (by have:=IK (k:=k) (t:=t) (n:=n);omega)
def kJ (p i:Nat):Nat:=if i≤p then i else i+1
def o4 (p i:Nat):Bool:=decide (p<i)
theorem rJ {p i:Nat} (h:i≤p):kJ p i=i∧o4 p i=false:=⟨if_pos h,decide_eq_false (by omega)⟩
theorem wJ {p i:Nat} (h:p<i):kJ p i=i+1∧o4 p i=true:=⟨if_neg (by omega),decide_eq_true h⟩
theorem Gv {n s r w p i m key:Nat} {b:Bool} {k:Nat→Rat} {t:Rat} {g:Nat→AV} (h1:gP 2 [(0,0),(1,key)]=true) (h2:(key==0)=false) (h3:m=kJ p (i+1)) (h4:b=o4 p (i+1)) (h5:∀j,j<m→fu [(0,0),(1,key)] (g j) (.rat (cE k t p j) w)):
  dM [] ([bp k n s,.ptr 0 0 3 0 [],.own key 3 0 m,.bool b,.int .i64 ((i:Int)+1)],[(key,⟨true,true,3,m,g⟩),(0,tP t r)]) (uS n k s (kJ p (i+1)) (i+1) (o4 p (i+1))) [(1,mN (kJ p (i+1)) (cE k t p) w),(0,tP t r)] 2:=by
 subst h3 h4
 exact⟨[(0,0),(1,key)],by rw[h1];rfl,rfl,rfl,bB rfl uU rfl h5 (aF rfl ((FC h2).trans uU) (aE rfl rfl) trivial)⟩
theorem abi {n s r w:Nat} {k:Nat→Rat} {t:Rat} (h:s≤w) (h2:r≤w) (hw:w<2^40) (hn:n<2^40) (K:Nat):aA P za K [bp k n s,.rat t r] [] (aH (bp (cE k t (cq k t n)) (n+1) w) []):=by
 obtain⟨p,hp⟩:∃p,cq k t n=p:=⟨_,rfl⟩
 have hpn:p≤n:=hp▸IK
 have hlt:∀j,j<p→k j≤t:=fun j hj=>It (hp▸hj)
 have hat:p<n→t<k p:=fun g=>by have:=Jq (k:=k) (t:=t) (n:=n) (by omega);rwa [hp]at this
 rw[hp]
 refine fH (r:=aH (bp (cE k t p) (n+1) w) []) hT TC hm Tw rfl (of_decide_eq_true (by kernel_rfl)) rfl [1,1,1,0,1] (i:=0) (y:=part wE [1,1,1,0,1,0,0]) (z:=part wE [1,1,1,1]) (by kernel_rfl) (by kernel_rfl) (by kernel_rfl) (f1:=[]) (f2:=[11,16,24]) (f3:=[37]) 60 zA 2
  (fun i:Nat=>uS n k s (kJ p i) i (o4 p i)) (fun i=>[(1,mN (kJ p i) (cE k t p) w),(0,tP t r)]) (fun i=>i≤n) (fun i=>i=n) (fun i=>n-i) (fun _=>⟨⟨_,UR,?_⟩,fun i hi=>⟨_,Zx,?_⟩,fun i hi=>⟨_,Wu,?_⟩⟩) K []
 ·simp only[aa.all,ax]
  refine⟨0,Nat.zero_le _,?_⟩
  show dM [] _ (uS n k s (kJ p 0) 0 (o4 p 0)) [(1,mN (kJ p 0) (cE k t p) w),(0,tP t r)] 2
  rw[(rJ (Nat.zero_le p)).1,(rJ (Nat.zero_le p)).2]
  exact⟨[(0,0)],rfl,rfl,rfl,nQ rfl (by omega) (by omega) (aF rfl rfl (aE rfl rfl) trivial)⟩
 ·simp only[aa.all,ax,decide_eq_true_eq,decide_eq_false_iff_not,Int.toNat_natCast,Nat.add_zero,cond_true,lF]
  have hx:¬(i:Int)<n→i=n:=fun h1=>by omega
  have ex:∀{b:Bool} {m:Nat},b=o4 p i→m=kJ p i→dM [] ([bp k n s,.ptr 0 0 3 0 [],.own 1 3 0 m,.bool b,.int .i64 i],[((1:Nat),mN m (cE k t p) w),(0,tP t r)]) (uS n k s (kJ p i) i (o4 p i)) [(1,mN (kJ p i) (cE k t p) w),(0,tP t r)] 2:=fun {b m} hb hm'=>by
   subst hb hm'
   exact⟨[(0,0),(1,1)],rfl,rfl,rfl,bB rfl rfl rfl (fun _ _=>aE rfl rfl) (aF rfl rfl (aE rfl rfl) trivial)⟩
  rcases Nat.lt_trichotomy i p with hc|hc|hc
  ·obtain⟨e1,e2⟩:=rJ (Nat.le_of_lt hc)
   obtain⟨e3,e4⟩:=rJ (p:=p) (i:=i+1) hc
   rw[e1,e2]
   simp only[Bool.not_false]
   have hle:=hlt i hc
   exact⟨fun h1=>⟨fun _=>⟨⟨trivial,by omega,by omega,by omega,by omega⟩,fun h2=>absurd h2 (Rat.not_lt.2 hle),fun h2=>⟨by omega,by omega,i+1,by omega,by dsimp only;omega,Gv rfl rfl e3.symm e4.symm fun j hj=>jG (fun _ _=>rfl) (by unfold cE;rw[if_pos hc]) (Nat.le_refl _) h hj⟩⟩,fun h=>absurd h (by decide)⟩,fun h1=>by omega⟩
  ·subst hc
   obtain⟨e1,e2⟩:=rJ (Nat.le_refl i)
   obtain⟨e3,e4⟩:=wJ (p:=i) (i:=i+1) (by omega)
   rw[e1,e2]
   simp only[Bool.not_false]
   have hval:∀j,j<i+1+1→fu [(0,0),(1,110594)] (if j<i+1 then if j<i then rat (cE k t i j) w else nth [rat t r] (rat 0 1) (j-i)else nth [rat (k i) s] (rat 0 1) (j-(i+1))) (.rat (cE k t i j) w):=fun j hj=>by
    by_cases h1:j<i+1
    ·rw[if_pos h1]
     exact jG (x:=cE k t i) (y:=cE k t i) (fun _ _=>rfl) (by unfold cE;rw[if_neg (by omega),if_pos rfl]) (Nat.le_refl _) h2 h1
    ·have:j=i+1:=by omega
     subst this
     rw[if_neg h1,Nat.sub_self]
     exact .inr ⟨rfl,bF (by unfold cE;rw[if_neg (by omega),if_neg (by omega)];rfl) h⟩
   exact⟨fun h1=>⟨fun _=>⟨⟨trivial,by omega,by omega,by omega,by omega⟩,fun h2=>⟨by omega,by omega,by omega,i+1,by omega,by dsimp only;omega,Gv rfl rfl e3.symm e4.symm hval⟩,fun h2=>absurd (hat (by omega)) h2⟩,fun h=>absurd h (by decide)⟩,fun h1=>⟨rfl,i,by omega,ex e2.symm e1.symm⟩⟩
  ·obtain⟨e1,e2⟩:=wJ hc
   obtain⟨e3,e4⟩:=wJ (p:=p) (i:=i+1) (by omega)
   rw[e1,e2]
   simp only[Bool.not_true]
   exact⟨fun h1=>⟨fun h=>absurd h (by decide),fun _=>⟨trivial,fun h=>absurd h (by decide),fun _=>⟨by omega,by omega,i+1,by omega,by dsimp only;omega,Gv rfl rfl e3.symm e4.symm fun j hj=>jG (fun _ _=>rfl) (by unfold cE;rw[if_neg (by omega),if_neg (by omega)];rfl) (Nat.le_refl _) h hj⟩⟩⟩,fun h1=>⟨rfl,i,by omega,ex e2.symm e1.symm⟩⟩
 ·subst hi
  simp only[aa.all,ax,Nat.add_zero]
  by_cases hc:i=p
  ·subst hc
   rw[(rJ (Nat.le_refl i)).1,(rJ (Nat.le_refl i)).2]
   refine⟨fun _=>⟨by omega,fT fun j hj=>?_⟩,fun h=>absurd h (by decide)⟩
   by_cases h1:j<i
   ·rw[if_pos h1];exact .refl _
   ·have:j=i:=by omega
    subst this
    rw[if_neg h1,Nat.sub_self]
    exact bF (by unfold cE;rw[if_neg (by omega),if_pos rfl]) h2
  ·rw[(wJ (show p<i by omega)).1,(wJ (show p<i by omega)).2]
   exact⟨fun h=>absurd h (by decide),fun _=>.refl _⟩
def C8 (s w:Nat):Spec:=cB (kC (kL s) (kC (fk s) kN)) (fun a=>bp (cE a.1.2 a.2.1 (cq a.1.2 a.2.1 a.1.1)) (a.1.1+1) w) fun a=>[a.1.1<2^40]
theorem aip {s w:Nat} (h:s+2≤w) (hw:w<2^40):∀K args pre r,C8 s w K args pre=some r→aA P p8 K args pre r:=cj fun⟨⟨n,k⟩,t,_⟩ K hn=>OQ h h hw hn K
theorem aev {s w:Nat} (h:s+2≤w) (hw:w<2^40):∀K args pre r,C8 s w K args pre=some r→aA P za K args pre r:=cj fun⟨⟨n,k⟩,t,_⟩ K hn=>abi (by omega) (by omega) hw hn K
end Go.Am.B

/- shapes.ints, ref14.ints. -/
namespace Go.Am.B
open Go Go.Am.N AV aa ak IntKind
end Go.Am.B

/- spline.Copied, shapes.clamped, shapes.Revolve. -/
namespace Go.Am.B
open Go Go.Am.N AV aa ak IntKind
theorem ac6:aP P yM x4 (au x4):=aQ aba (by kernel_rfl) (by kernel_rfl) (by kernel_rfl)
abbrev qc (y m:Nat) (k:Nat→Rat):ah:=⟨true,true,3,m,fun i=>.rat (k i) y⟩
noncomputable abbrev wq:Code:=au x4
abbrev AI:List Nat:=[3,9,10,11]
abbrev G0 (x n:Nat) (k:Nat→Rat) (i:Nat):List AV:=[.own 0 3 0 i,bp k n x,.int .i64 n,.int .i64 i]
noncomputable def Cl:aS:=nG::ga
theorem ajW {x n:Nat} {k:Nat→Rat}:aJ T Cl [] 60 AI (before wq [1,1,0,1]) ⟨aN 0 [bp k n x],[],0⟩=
  let c1:Int:=(↑n:Int);some (ag [(0:Int)≤(0:Int)∧(0:Int)≤c1∧c1≤(2:Int)^47∧c1*(↑(56:Nat):Int)≤(2:Int)^47] (leaf normal ([own 12288 3 0 0,aj 3 n fun i↦rat (k i) x,int i64 c1,int i64 (0:Int)],[((12288:Nat),ah.mk true true 3 0 fun x↦rat 0 1)]))):=by kernel_rfl
theorem ajH {x y n i:Nat} {k:Nat→Rat}:aJ T Cl [12] 60 AI [part wq [1,1,0,1,0,0]] ⟨aB AI (G0 x n k i),[(0,qc y i k)],1⟩=
  let c4:Int:=(↑n:Int);let c2:AV:=aj 3 n fun i↦rat (k i) x;let c1:Int:=(↑i:Int);let c3:Int:=c1+(1:Int);some (fork (decide (c1<c4)) (ag [(0:Int)≤c1∧c1.toNat<n,(0:Nat)<1] (ag [(0:Nat)<1,x<2^42,(1:Nat)<2^42,(1:Nat)*3≤2^24,(i+1)*((56:Nat)+1)*2≤2^47] (ag [-(2:Int)^63≤c3∧c3<(2:Int)^63] (leaf normal ([own 40961 3 0 (i+1),c2,int i64 c4,int i64 c3],[((40961:Nat),ah.mk true true 3 (i+1) fun i_1↦if i_1<i then rat (k i_1) y else nth [rat (k c1.toNat+0) (x+1+1)] (rat 0 1) (i_1-i+0))]))))) (leaf (exit 0) ([own 0 3 0 i,c2,int i64 c4,int i64 c1],[((0:Nat),ah.mk true true 3 i fun i↦rat (k i) y)]))):=by kernel_rfl
theorem abT {x y n i:Nat} {k:Nat→Rat}:bY T Cl [] 60 x4 [part wq [1,1,1]] ⟨aB AI (G0 x n k i),[(0,qc y i k)],1⟩=
  some (leaf ret [aj 3 i fun i↦rat (k (i+0)) y]):=by kernel_rfl
theorem acm:aY P Cl:=cK gY
theorem agN {x y n:Nat} {k:Nat→Rat} (hxy:x+10≤y) (hy:y<2^40) (hn:n<2^40) (K:Nat):aA P yM K [bp k n x] [] (aH (bp k n y) []):=by
 refine fH (r:=aH (bp k n y) []) hT acm hm ac6 rfl (of_decide_eq_true (by kernel_rfl)) rfl [1,1,0,1] (i:=0) (y:=part wq [1,1,0,1,0,0]) (z:=part wq [1,1,1]) (by kernel_rfl) (by kernel_rfl) (by kernel_rfl) (f1:=[]) (f2:=[12]) (f3:=[]) 60 AI 1
  (fun i:Nat=>G0 x n k i) (fun i=>[(0,qc y i k)]) (fun i=>i≤n) (fun i=>i=n) (fun i=>n-i) (fun _=>⟨⟨_,ajW,?_⟩,fun i hi=>⟨_,ajH,?_⟩,fun i hi=>⟨_,abT,?_⟩⟩) K []
 ·simp only[aa.all,ax]
  exact⟨by omega,0,Nat.zero_le _,[(0,12288)],rfl,rfl,rfl,bB rfl rfl rfl (fun i hi=>absurd hi (Nat.not_lt_zero i)) trivial⟩
 ·simp only[aa.all,ax,decide_eq_true_eq,decide_eq_false_iff_not,Int.toNat_natCast,Nat.add_zero]
  exact⟨fun h2=>⟨by omega,by omega,by omega,i+1,by omega,by dsimp only;omega,[(0,40961)],rfl,rfl,rfl,bB rfl rfl rfl (fun j hj=>jG (fun _ _=>rfl) (Rat.add_zero _) (Nat.le_refl _) (by omega) hj) trivial⟩,fun h2=>⟨rfl,i,by omega,[(0,0)],rfl,rfl,rfl,bB rfl rfl rfl (fun j hj=>aE rfl rfl) trivial⟩⟩
 ·subst hi
  simp only[aa.all,ax]
  exact lg rfl fun j hj=>rfl
def Jj (x y:Nat):Spec:=cB (kC (kL x) kN) (fun a=>bp a.1.2 a.1.1 y) fun a=>[x+10≤y,y<2^40,a.1.1<2^40]
theorem agn (x y:Nat):∀K args pre r,Jj x y K args pre=some r→aA P yM K args pre r:=cj fun⟨⟨n,k⟩,_⟩ K hn=>agN hn.1 hn.2.1 hn.2.2 K
end Go.Am.B

/- Spline.Over, Spline.Insert, curve.back. -/
namespace Go.Am.B
open Go Go.Am.N AV aa ak IntKind
theorem akc:aP P uF xA (au xA):=aQ aa1 (by kernel_rfl) (by kernel_rfl) (by kernel_rfl)
theorem aeS:aP P Dp AX (au AX):=aQ adj (by kernel_rfl) (by kernel_rfl) (by kernel_rfl)
theorem ai8:aP P pT v8 (au v8):=aQ Zo (by kernel_rfl) (by kernel_rfl) (by kernel_rfl)
def kD (c:Cu) (n:Nat) (k:Nat→Rat) (j:Nat):Pl:=nE c (fJ c.n c.k (k (fU k n j))) c.p.toNat (fun q=>k (q+(j+1)))
def jO (c:Cu) (n:Nat) (k:Nat→Rat):Cu:=⟨c.p,n,k,n-c.p.toNat-1,kD c n k⟩
noncomputable def BW:aS:=nG::(qW,pX)::(zx,Kt)::(tn,w8)::(Ac,L8)::ga
abbrev zZ:List Nat:=[1,2,4,5,17,18]
abbrev H9 (n m:Nat) (k:Nat→Rat) (j:Nat):List AV:=[ls k n,.ptr 0 0 3 0 [],.ptr 1 0 3 0 [],.ptr 2 0 3 0 [],.int .i64 m,.int .i64 j]
abbrev H6 (c:Cu) (n:Nat) (k:Nat→Rat) (h:Nat→Pl) (j:Nat):aC:=[(3,⟨true,true,12,j,fun i=>cP (h i) sB⟩),(2,⟨false,true,3,1,fun _=>.agg [.int .i64 c.p,ls k n,.own 3 12 0 j]⟩),(1,⟨false,true,3,1,fun _=>.agg [.int .i64 0,.nil,.nil]⟩),(0,oC c sK)]
noncomputable abbrev AN:Code:=au xA
theorem nF {f:Nat→Pl} {m s s':Nat} (h:s≤s'):jV (fun i=>cP (f i) s) m s':=fun _ _=>Cs rfl h
noncomputable def HQ:Spec:=cB (kC (uQ sK sK) (kC (kL sK) kN)) (fun a=>dY (jO a.1 a.2.1.1 a.2.1.2) sK sB) fun a=>[Kn a.1.n a.1.p.toNat a.1.k,1≤a.1.p,a.1.p≤6,a.1.n<2^40,a.1.m<2^40,a.2.1.1<2^29,a.1.p+1≤a.2.1.1]
def qh (c:Cu) (t:Rat):Cu:=jO c (c.n+1) (cE c.k t (cq c.k t c.n))
noncomputable def I5:aS:=nG::(p8,C8 2000 2002)::(uF,HQ)::[]
abbrev ve:List Nat:=[2,3,13,14,15]
abbrev HR (c:Cu) (i:Nat):List AV:=[.ptr 0 0 3 0 [],.ptr 1 0 3 0 [],qJ c.f c.m sB,.int .i64 c.m,.int .i64 i]
abbrev GZ (c:Cu) (i:Nat):aC:=[(2,⟨true,true,12,i,fun j=>bI (dN (c.f j)) (sB+sB)⟩),(1,⟨false,true,3,1,fun _=>.agg [.int .i64 c.p,bp c.k c.n (sK+10),.own 2 12 0 i]⟩),(0,⟨false,true,3,1,fun _=>.agg [.int .i64 0,.nil,.nil]⟩)]
noncomputable abbrev xh:Code:=au v8
def Lg:Spec:=cB (kC (Hu sB) kN) (fun a=>bI (dN a.1) (sB+sB)) fun _=>[]
def Bs:aS:=nG::(yM,Jj sK (sK+10))::(rm,Lg)::[]
theorem aeM {c:Cu} {n:Nat} {k:Nat→Rat}:aJ T BW [] 60 zZ (before AN [1,1,0,1]) ⟨aN 0 [dY c sK sK,ls k n],[],0⟩=
  let c3:Nat:=(aT (dY c sK sK)).size;let c2:Prop:=0<1;let c1:AV:=agg [int i64 (0:Int),nil,nil];some (ag [c2,c2] (ag [c2,bK (fun i↦rat (k i) sK) n sK,n<2^40,-(2:Int)^40<c.p,c.p<(2:Int)^40] (leaf normal ([aj 3 n fun i↦rat (k i) 4096,ptr 0 0 c3 0 [],ptr 4096 0 3 0 [],ptr 24576 0 3 0 [],int i64 ((↑n:Int)-c.p-(1:Int)),int i64 (0:Int)],[((24576:Nat),ah.mk false true 3 1 fun j↦if(j==0)=true then aT (agg ((c1.kids.set 0 (aT (int i64 c.p))).set 1 (aT (ls k n))))else c1),((4096:Nat),ah.mk false true 3 1 fun x↦c1),((0:Nat),ah.mk false true c3 1 fun x↦agg [int i64 c.p,aj 3 c.n fun i↦rat (c.k i) 4096,aj 12 c.m fun i↦agg [rat (c.f i).n.x 4096,rat (c.f i).n.y 4096,rat (c.f i).n.z 4096,rat (c.f i).d 4096]])])))):=by kernel_rfl
theorem ah5 {c:Cu} {n m j:Nat} {k:Nat→Rat} {h:Nat→Pl}:aJ T BW [19] 60 zZ [part AN [1,1,0,1,0,0]] ⟨aB zZ (H9 n m k j),H6 c n k h j,4⟩=
  let c20:Int:=(↑m:Int);let c18:Prop:=bK (fun i↦rat (c.k i) sK) c.n sK;let c17:AV:=ptr 2 0 3 0 [];let c16:AV:=ptr 1 0 3 0 [];let c15:AV:=ptr 0 0 3 0 [];let c14:Nat:=2^40;let c13:AV:=rat 0 1;let c12:Int:=(↑j:Int);let c10:AV:=own 3 12 0 j;let c9:AV:=aj 3 n fun i↦rat (k i) 4096;let c8:Prop:=0<1;let c6:Int:=(2:Int)^63;let c5:Cu:=Cu.mk c.p c.n (fun i↦aO (rat (c.k i) sK)) c.m fun i↦qB (cP (c.f i) sK);let c2:List (Nat×ah):=[((1:Nat),ah.mk false true 3 1 fun x↦agg [int i64 (0:Int),nil,nil]),((0:Nat),ah.mk false true 3 1 fun x↦agg [int i64 c.p,aj 3 c.n fun i↦rat (c.k i) 4096,aj 12 c.m fun i↦agg [rat (c.f i).n.x 4096,rat (c.f i).n.y 4096,rat (c.f i).n.z 4096,rat (c.f i).d 4096]])];let c19:AV:=agg [int i64 c.p,ls k n,c10];let c7:Int:=(↑(fU (fun i↦aO (rat (k i) sK)) n c12.toNat):Int);let c4:Int:=c12+c.p+(1:Int);let c3:Int:=c12+(1:Int);let c11:Nat:=c4.toNat-c3.toNat;let c1:Int:=(↑(fJ c.n (fun i↦aO (rat (c.k i) sK)) (k c7.toNat)):Int);some (fork (decide (c12<c20)) (ag [bK (fun i↦rat (k i) sK) n sK,(0:Int)≤c12,c12≤(↑n:Int),n<c14] (ag [c8,c8,(0:Int)≤c7∧c7.toNat<n,c18,sK≤sK,Kn c.n c.p.toNat fun i↦aO (rat (c.k i) sK),(0:Int)≤c.p,c.n<c14] (ag [c8,c8,-c6≤c3∧c3<c6,c8,-c6≤c12+c.p∧c12+c.p<c6,-c6≤c4∧c4<c6,(0:Int)≤c3∧c3≤c4∧c4≤c4∧c4≤(↑n:Int),c18,jV (fun i↦cP (c.f i) sK) c.m sK,bK (fun i↦rat (k (i+c3.toNat)) sK) c11 sK,(1:Int)≤c.p,c.p≤(6:Int),c.n<c14,c.m<c14,-(2:Int)^40<c1,c1<(2:Int)^40,(1:Nat)*12≤2^24,(j+1)*((224:Nat)+1)*2≤2^47,c8] (ag [-c6≤c3∧c3<c6] (leaf normal ([c9,c15,c16,c17,int i64 c20,int i64 c3],((147460:Nat),ah.mk true true 12 (j+1) fun i↦if i<j then cP (h i) sB else nth [agg [rat (gd c5 c1 c11 (fun i↦aO (rat (k (i+c3.toNat)) sK)) 0) sB,rat (gd c5 c1 c11 (fun i↦aO (rat (k (i+c3.toNat)) sK)) 1) sB,rat (gd c5 c1 c11 (fun i↦aO (rat (k (i+c3.toNat)) sK)) 2) sB,rat (gd c5 c1 c11 (fun i↦aO (rat (k (i+c3.toNat)) sK)) 3) sB]] (agg [c13,c13,c13,c13]) (i-j+0))::((2:Nat),ah.mk false true 3 1 fun j_1↦if(j_1==0)=true then agg (c19.kids.set 2 (aT (own (nat_lit 147459+1) 12 0 (j+1))))else c19)::c2)))))) (leaf (exit 0) ([c9,c15,c16,c17,int i64 c20,int i64 c12],((3:Nat),ah.mk true true 12 j fun i↦agg [rat (h i).n.x 536870912,rat (h i).n.y 536870912,rat (h i).n.z 536870912,rat (h i).d 536870912])::((2:Nat),ah.mk false true 3 1 fun x↦agg [int i64 c.p,c9,c10])::c2))):=by kernel_rfl
theorem W3 {c:Cu} {n m j:Nat} {k:Nat→Rat} {h:Nat→Pl}:bY T BW [] 60 xA [part AN [1,1,1]] ⟨aB zZ (H9 n m k j),H6 c n k h j,4⟩=
  let c1:Prop:=0<1;some (ag [c1,c1] (ag [c1] (leaf ret [agg [int i64 c.p,aj 3 n fun i↦rat (k i) 4096,aj 12 j fun i↦agg [rat (h (i+0)).n.x 536870912,rat (h (i+0)).n.y 536870912,rat (h (i+0)).n.z 536870912,rat (h (i+0)).d 536870912]]]))):=by kernel_rfl
theorem Ui {c:Cu} {t:Rat}:bC T I5 [] 60 AX (au AX) ⟨aN 0 [dY c 2000 4000,.rat t 2000],[],0⟩=
  some (ag [0<1,0<1,0<1,bK (fun i=>.rat (c.k i) 2000) c.n 2000,2000≤2000,c.n<2^40,bK (fun i=>.rat (c.k i) 2000) c.n sK,jV (fun i=>cP (c.f i) 4000) c.m sK,bK (fun i=>.rat (cE c.k t (cq c.k t c.n) i) 2002) (c.n+1) sK,Kn c.n c.p.toNat c.k,1≤c.p,c.p≤6,c.n<2^40,c.m<2^40,c.n+1<2^29,c.p+1≤(c.n+1:Nat),0<1]
   (ag [0<1] (leaf .ret [dY (qh c t) sK sB]))):=by kernel_rfl
theorem ac7 {c:Cu}:aJ T Bs [] 60 ve (before xh [1,1,0,1]) ⟨aN 0 [dY c sK sB],[],0⟩=
  let c3:Nat:=sK+10;let c2:Prop:=0<1;let c1:AV:=agg [int i64 (0:Int),nil,nil];some (ag [c2,c2,bK (fun i↦rat (c.k i) sK) c.n sK,c3≤c3,c3<2^40,c.n<2^40,c2] (ag [c2] (leaf normal ([ptr 4096 0 3 0 [],ptr 32768 0 3 0 [],aj 12 c.m fun i↦agg [rat (c.f i).n.x 536870912,rat (c.f i).n.y 536870912,rat (c.f i).n.z 536870912,rat (c.f i).d 536870912],int i64 (↑c.m:Int),int i64 (0:Int)],[((32768:Nat),ah.mk false true 3 1 fun j↦if(j==0)=true then aT (agg ((c1.kids.set 0 (aT (int i64 c.p))).set 1 (aT (bp (fun i↦aO (rat (c.k i) sK)) c.n c3))))else c1),((4096:Nat),ah.mk false true 3 1 fun x↦c1)])))):=by kernel_rfl
theorem acF {c:Cu} {i:Nat}:aJ T Bs [16] 60 ve [part xh [1,1,0,1,0,0]] ⟨aB ve (HR c i),GZ c i,3⟩=
  let c11:Int:=(↑c.m:Int);let c10:AV:=own 2 12 0 i;let c9:AV:=ptr 1 0 3 0 [];let c8:AV:=ptr 0 0 3 0 [];let c7:Prop:=0<1;let c6:Int:=(↑i:Int);let c5:AV:=rat 0 1;let c4:Nat×ah:=((0:Nat),ah.mk false true 3 1 fun x↦agg [int i64 (0:Int),nil,nil]);let c1:AV:=aj 12 c.m fun i↦agg [rat (c.f i).n.x 536870912,rat (c.f i).n.y 536870912,rat (c.f i).n.z 536870912,rat (c.f i).d 536870912];let c12:Int:=c6+(1:Int);let c3:AV:=agg [int i64 c.p,bp c.k c.n (sK+10),c10];let c2:Pl:=c.f c6.toNat;some (fork (decide (c6<c11)) (ag [(0:Int)≤c6∧c6.toNat<c.m,c7] (ag [c7,c7,sB≤sB,sB≤sB,sB≤sB,sB≤sB,(1:Nat)*12≤2^24,(i+1)*((224:Nat)+1)*2≤2^47,c7] (ag [-(2:Int)^63≤c12∧c12<(2:Int)^63] (leaf normal ([c8,c9,c1,int i64 c11,int i64 c12],[((40963:Nat),ah.mk true true 12 (i+1) fun i_1↦if i_1<i then bI (dN (c.f i_1)) (sB+sB)else nth [agg [agg [rat (c2.n.x/c2.d) (sB+sB),rat (c2.n.y/c2.d) (sB+sB),rat (c2.n.z/c2.d) (sB+sB)],rat c2.d (sB+sB)]] (agg [agg [c5,c5,c5],c5]) (i_1-i+0)),((1:Nat),ah.mk false true 3 1 fun j↦if(j==0)=true then agg (c3.kids.set 2 (aT (own (nat_lit 40962+1) 12 0 (i+1))))else c3),c4]))))) (leaf (exit 0) ([c8,c9,c1,int i64 c11,int i64 c6],[((2:Nat),ah.mk true true 12 i fun j↦agg [agg [rat ((c.f j).n.x/(c.f j).d) 1073741824,rat ((c.f j).n.y/(c.f j).d) 1073741824,rat ((c.f j).n.z/(c.f j).d) 1073741824],rat (c.f j).d 1073741824]),((1:Nat),ah.mk false true 3 1 fun x↦agg [int i64 c.p,aj 3 c.n fun i↦rat (c.k i) 4106,c10]),c4]))):=by kernel_rfl
theorem ZF {c:Cu} {i:Nat}:bY T Bs [] 60 v8 [part xh [1,1,1]] ⟨aB ve (HR c i),GZ c i,3⟩=
  let c1:Prop:=0<1;some (ag [c1,c1] (ag [c1] (leaf ret [agg [int i64 c.p,aj 3 c.n fun i↦rat (c.k i) 4106,aj 12 i fun i↦agg [agg [rat ((c.f (i+0)).n.x/(c.f (i+0)).d) 1073741824,rat ((c.f (i+0)).n.y/(c.f (i+0)).d) 1073741824,rat ((c.f (i+0)).n.z/(c.f (i+0)).d) 1073741824],rat (c.f (i+0)).d 1073741824]]]))):=by kernel_rfl
theorem LL {k:Nat→Rat} {n:Nat}:∀{f i:Nat},i<n→pK k n f i<n
 |0,_,h=>h
 |f+1,i,h=>by
  unfold pK
  split
  ·exact LL (by omega)
  ·exact h
theorem ad5 {k:Nat→Rat} {n i:Nat} (h:i<n):fU k n i<n:=LL h
theorem RB {n p:Nat} {k:Nat→Rat} (h:Kn n p k) {t:Rat}:fJ n k t<n:=by
 have hl:=h.len
 unfold fJ
 split
 ·omega
 ·have:=h.IF ‹_›
  omega
theorem aaB:aY P BW:=cK (aG D3 (aG aeX (aG NO (aG abC gY))))
theorem abb {c:Cu} {n:Nat} {k:Nat→Rat} (hk:Kn c.n c.p.toNat c.k) (hp1:1≤c.p) (hp6:c.p≤6) (hn:c.n<2^40) (hm2:c.m<2^40) (hn2:n<2^29) (hpn:c.p+1≤n) (K:Nat):aA P uF K [dY c sK sK,ls k n] [] (aH (dY (jO c n k) sK sB) []):=by
 obtain⟨q,hq⟩:∃q,q=c.p.toNat:=⟨_,rfl⟩
 have hqp:c.p=(q:Int):=by omega
 refine fH (r:=aH (dY (jO c n k) sK sB) []) hT aaB hm akc rfl (of_decide_eq_true (by kernel_rfl)) rfl [1,1,0,1] (i:=0) (y:=part AN [1,1,0,1,0,0]) (z:=part AN [1,1,1]) (by kernel_rfl) (by kernel_rfl) (by kernel_rfl) (f1:=[]) (f2:=[19]) (f3:=[]) 60 zZ 4
  (fun j:Nat=>H9 n (n-c.p.toNat-1) k j) (fun j=>H6 c n k (kD c n k) j) (fun j=>j≤n-c.p.toNat-1) (fun j=>j=n-c.p.toNat-1) (fun j=>n-c.p.toNat-1-j) (fun _=>⟨⟨_,aeM,?_⟩,fun j hj=>⟨_,ah5,?_⟩,fun j hj=>⟨_,W3,?_⟩⟩) K []
 ·have e1:(n:Int)-c.p-1=((n-c.p.toNat-1:Nat):Int):=by omega
  simp only[aa.all,ax,e1]
  exact⟨⟨by omega,by omega⟩,⟨by omega,ct (Nat.le_refl _),by omega,by omega,by omega⟩,0,Nat.zero_le _,[(0,0),(1,4096),(2,24576)],rfl,rfl,rfl,nQ rfl (by omega) (by omega) (aF rfl rfl (kG ⟨⟨rfl,aK rfl⟩,⟨rfl,aK rfl⟩,⟨rfl,pe (by omega)⟩,trivial⟩) (aF rfl rfl (aE rfl rfl) (aF rfl rfl (aE rfl rfl) trivial)))⟩
 ·have e1:((j:Int)+1).toNat=j+1:=by omega
  have e2:((j:Int)+c.p+1).toNat=j+q+1:=by omega
  have e3:j+q+1-(j+1)=q:=by omega
  simp only[aa.all,ax,decide_eq_true_eq,decide_eq_false_iff_not,Int.toNat_natCast,e1,e2,e3,Nat.add_zero]
  have h7:fU (fun i=>aO (rat (k i) sK)) n j=fU k n j:=rfl
  have h8:∀t,fJ c.n (fun i=>aO (rat (c.k i) sK)) t=fJ c.n c.k t:=fun _=>rfl
  simp only[h7,h8]
  refine⟨fun h=>?_,fun h=>⟨rfl,j,by omega,[(0,0),(1,1),(2,2),(3,3)],rfl,rfl,rfl,bB rfl rfl rfl (fun _ _=>aE rfl rfl) (aF rfl rfl (uJ rfl rfl rfl) (aF rfl rfl (aE rfl rfl) (aF rfl rfl (aE rfl rfl) trivial)))⟩⟩
  have h1:=ad5 (k:=k) (n:=n) (i:=j) (by omega)
  have h2:=RB hk (t:=k (fU k n j))
  (repeat' with_reducible refine And.intro ?_ ?_)
  all_goals first|omega|exact ct (Nat.le_refl _)|exact hk|exact fun _ _=>.refl _|skip
  refine⟨j+1,by omega,by dsimp only;omega,[(0,0),(1,1),(2,2),(3,147460)],rfl,rfl,rfl,bB rfl rfl rfl (fun j' hj'=>GC (g:=fun j=>cP (kD c n k j) sB) (fun _ _=>⟨rfl,rfl⟩) rfl ?_ hj') (aF rfl rfl (uJ rfl rfl rfl) (aF rfl rfl (aE rfl rfl) (aF rfl rfl (aE rfl rfl) trivial)))⟩
  exact Cs (h:=nE c (fJ c.n c.k (k (fU k n j))) q (fun q=>k (q+(j+1)))) (by unfold kD;rw[hq]) (Nat.le_refl _)
 ·subst hj
  simp only[aa.all,ax]
  exact⟨⟨by omega,by omega⟩,by omega,.refl _⟩
theorem Jn:∀K args pre r,HQ K args pre=some r→aA P uF K args pre r:=cj fun⟨c,⟨n,k⟩,_⟩ K hn=>abb hn.1 hn.2.1 hn.2.2.1 hn.2.2.2.1 hn.2.2.2.2.1 hn.2.2.2.2.2.1 hn.2.2.2.2.2.2 K
theorem ajl:aY P I5:=cK (aG (aip (by decide) (by decide)) (aG Jn bq))
noncomputable def Je:Spec:=cB (kC (uQ 2000 4000) (kC (fk 2000) kN)) (fun a=>dY (qh a.1 a.2.1) sK sB) fun a=>[Kn a.1.n a.1.p.toNat a.1.k,1≤a.1.p,a.1.p≤6,a.1.n<2^28,a.1.m<2^40]
theorem afo:∀K args pre r,Je K args pre=some r→aA P Dp K args pre r:=cj fun⟨c,t,_⟩ K hn=>by
 obtain⟨h1,h2,h3,h4,h5⟩:Kn c.n c.p.toNat c.k∧1≤c.p∧c.p≤6∧c.n<2^28∧c.m<2^40:=hn
 have hl:=h1.len
 refine bJ (r:=aH (dY (qh c t) sK sB) []) hT ajl hm aeS rfl (of_decide_eq_true (by kernel_rfl)) rfl 60 Ui (fun _=>?_) K []
 simp only[aa.all,ax]
 (repeat' with_reducible refine And.intro ?_ ?_)
 all_goals first|omega|exact ct (by decide)|exact h1|exact nF (by decide)|skip
 exact .refl _
theorem Zy:∀K args pre r,Lg K args pre=some r→aA P rm K args pre r:=cj fun⟨h,_⟩ K _=>PW (by decide) (by decide) (by decide) K
theorem aiv:aY P Bs:=cK (aG (agn _ _) (aG Zy bq))
theorem aer {c:Cu} (hn:c.n<2^40) (hm2:c.m<2^29) (K:Nat):aA P pT K [dY c sK sB] [] (aH (bg ⟨c.p,c.n,c.k,c.m,fun i=>dN (c.f i)⟩ (sK+10) (sB+sB)) []):=by
 refine fH (r:=aH (bg ⟨c.p,c.n,c.k,c.m,fun i=>dN (c.f i)⟩ (sK+10) (sB+sB)) []) hT aiv hm ai8 rfl (of_decide_eq_true (by kernel_rfl)) rfl [1,1,0,1] (i:=0) (y:=part xh [1,1,0,1,0,0]) (z:=part xh [1,1,1]) (by kernel_rfl) (by kernel_rfl) (by kernel_rfl) (f1:=[]) (f2:=[16]) (f3:=[]) 60 ve 3
  (fun i:Nat=>HR c i) (fun i=>GZ c i) (fun i=>i≤c.m) (fun i=>i=c.m) (fun i=>c.m-i) (fun _=>⟨⟨_,ac7,?_⟩,fun i hi=>⟨_,acF,?_⟩,fun i hi=>⟨_,ZF,?_⟩⟩) K []
 ·simp only[aa.all,ax]
  exact⟨⟨by omega,by omega,ct (Nat.le_refl _),by omega,by decide,by omega,by omega⟩,by omega,0,Nat.zero_le _,[(0,4096),(1,32768)],rfl,rfl,rfl,nQ rfl (by omega) (by omega) (aF rfl rfl (kG ⟨⟨rfl,aK rfl⟩,⟨rfl,aK rfl⟩,⟨rfl,pe (by omega)⟩,trivial⟩) (aF rfl rfl (aE rfl rfl) trivial))⟩
 ·simp only[aa.all,ax,decide_eq_true_eq,decide_eq_false_iff_not,Int.toNat_natCast,Nat.add_zero]
  refine⟨fun h=>?_,fun h=>⟨rfl,i,by omega,[(0,0),(1,1),(2,2)],rfl,rfl,rfl,bB rfl rfl rfl (fun _ _=>aE rfl rfl) (aF rfl rfl (uJ rfl rfl rfl) (aF rfl rfl (aE rfl rfl) trivial))⟩⟩
  (repeat' with_reducible refine And.intro ?_ ?_)
  all_goals first|omega|exact Nat.le_refl _|skip
  exact⟨i+1,by omega,by dsimp only;omega,[(0,0),(1,1),(2,40963)],rfl,rfl,rfl,bB rfl rfl rfl (fun j hj=>GC (g:=fun j=>bI (dN (c.f j)) (sB+sB)) (fun _ _=>⟨rfl,rfl⟩) rfl (.refl _) hj) (aF rfl rfl (uJ rfl rfl rfl) (aF rfl rfl (aE rfl rfl) trivial))⟩
 ·subst hi
  simp only[aa.all,ax]
  exact⟨⟨by omega,by omega⟩,by omega,.refl _⟩
def DT:Spec:=cB (kC (uQ sK sB) kN) (fun a=>bg ⟨a.1.p,a.1.n,a.1.k,a.1.m,fun i=>dN (a.1.f i)⟩ (sK+10) (sB+sB)) fun a=>[a.1.n<2^40,a.1.m<2^29]
theorem GI:∀K args pre r,DT K args pre=some r→aA P pT K args pre r:=cj fun⟨c,_⟩ K hn=>aer hn.1 hn.2 K
end Go.Am.B

/- curve.inner, curve.Insert. -/
namespace Go.Am.B
open Go Go.Am.N AV aa ak IntKind
theorem Yh:aP P wG Bc (au Bc):=aQ Yz (by kernel_rfl) (by kernel_rfl) (by kernel_rfl)
theorem OG:aP P o5 u5 (au u5):=aQ Vc (by kernel_rfl) (by kernel_rfl) (by kernel_rfl)
noncomputable def Mb:aS:=nG::(AG,Hw)::ga
def Gl:Spec:=cB (kC (hH 2000 2000) (kC (fk 2000) kN)) (fun a=>.bool (decide (a.1.k 0<a.2.1)&&decide (a.2.1<a.1.k (a.1.n-1)))) fun a=>[ec a.1]
def Gd:Spec:=cB (kC (hH 2000 2000) kN) (fun a=>dY ⟨a.1.p,a.1.n,a.1.k,a.1.m,fun i=>b9 (a.1.f i)⟩ 2000 4000) fun a=>[a.1.n<2^40,a.1.m<2^30]
noncomputable def JK:aS:=nG::(wG,Gl)::(rP,pE)::(nJ,Gd)::(Dp,Je)::(pT,DT)::[]
def cr (c:Cu) (t:Rat):Int:=if¬(c.k 0<t∧t<c.k (c.n-1))then 7 else if c.p≤(aU c.k t c.n:Int)then 5 else if 40≤c.m then 2 else 0
def Gx (c:Cu) (t:Rat):Cu:=⟨c.p,c.n+1,cE c.k t (cq c.k t c.n),c.n+1-c.p.toNat-1,fun i=>dN ((qh ⟨c.p,c.n,c.k,c.m,fun i=>b9 (c.f i)⟩ t).f i)⟩
def gJ:Cu:=⟨0,0,fun _=>0,0,fun _=>⟨⟨0,0,0⟩,0⟩⟩
def wg (c:Cu) (t:Rat):Cu:=if cr c t=0 then Gx c t else gJ
theorem aeL {c:Cu} {t:Rat}:bC T Mb [16] 60 Bc (au Bc) ⟨aN 0 [bg c 2000 2000,.rat t 2000],[],0⟩=
  let c9:Prop:=fo (fun i↦bI (c.f i) 2000) c.m sJ;let c8:Prop:=bK (fun i↦rat (c.k i) 2000) c.n sJ;let c7:Prop:=(0:Int)≤(0:Int)∧Int.toNat (0:Int)<c.n;let c5:Prop:=ec (Cu.mk c.p c.n (fun i↦aO (rat (c.k i) 2000)) c.m fun i↦fA (bI (c.f i) 2000));let c4:Int:=(↑c.n:Int)-(1:Int);let c3:Prop:=0<1;let c2:Int:=dc (c.k (Int.toNat (0:Int))) t;let c1:Prop:=2000<2^42;let c6:Bool:=bif true then decide (c2<(0:Int))else false;some (fork c6 (ag [c3,c8,c9,c5,c3,c7,c3,c1,c1,c6=true,c3,c3,c3,-(2:Int)^63≤c4∧c4<(2:Int)^63,(0:Int)≤c4∧c4.toNat<c.n,c1,c1] (leaf ret [AV.bool (bif true then decide (dc t (c.k c4.toNat)<(0:Int))else false)])) (ag [c3,c8,c9,c5,c3,c7,c3,c1,c1,c6=false] (leaf ret [AV.bool false]))):=by kernel_rfl
theorem NW {c:Cu} {t:Rat}:bC T JK [6,12,21] 60 u5 (au u5) ⟨aN 0 [bg c 2000 2000,.rat t 2000],[],0⟩=
  let no:Int→aa (List AV):=fun e=>ag [0<1] (ag [0<1] (leaf .ret [.agg [.int .i64 0,.nil,.nil],.int .i64 e]));let k:Prop:=bK (fun i=>.rat (c.k i) 2000) c.n 2000;let f:Prop:=fo (fun i=>bI (c.f i) 2000) c.m 2000
  some (ag [0<1,0<1,k,f,2000≤2000,ec c] (fork (!(decide (c.k 0<t)&&decide (t<c.k (c.n-1)))) (no 7) (ag [0<1,0<1,bK (fun i=>.rat (c.k i) 2000) c.n sK,2000≤sK,c.n<2^40,0<1] (fork (decide ((aU c.k t c.n:Int)≥c.p)) (no 5) (ag [0<1] (fork (decide ((c.m:Int)≥40)) (no 2)
   (ag [0<1,k,f,c.n<2^40,c.m<2^30,0<1,k,jV (fun i=>cP (b9 (c.f i)) 4000) c.m 4000,2000≤2000,Kn c.n c.p.toNat c.k,1≤c.p,c.p≤6,c.n<2^28,c.m<2^40,bK (fun i=>.rat (cE c.k t (cq c.k t c.n) i) sK) (c.n+1) sK,jV (fun i=>cP ((qh ⟨c.p,c.n,c.k,c.m,fun i=>b9 (c.f i)⟩ t).f i) sB) (c.n+1-c.p.toNat-1) sB,c.n+1<2^40,c.n+1-c.p.toNat-1<2^29,0<1] (ag [0<1] (leaf .ret [bg (Gx c t) (sK+10) (sB+sB),.int .i64 0]))))))))):=by kernel_rfl
theorem Xx:aY P Mb:=cK (aG LV gY)
theorem LB {a b:Rat}:dc a b<(0:Int)↔a<b:=lF
theorem Mj:∀K args pre r,Gl K args pre=some r→aA P wG K args pre r:=cj fun⟨c,t,_⟩ K hn=>by
 have hc:ec c:=hn
 obtain⟨h1,h2,h3,h4,h5⟩:=id hc
 have hl:=h1.len
 refine bJ (r:=aH (.bool (decide (c.k 0<t)&&decide (t<c.k (c.n-1)))) []) hT Xx hm Yh rfl (of_decide_eq_true (by kernel_rfl)) rfl 60 aeL (fun _=>?_) K []
 have e1:((c.n:Int)-1).toNat=c.n-1:=by omega
 simp only[aa.all,ax,e1,Int.toNat_zero,cond_true,cond_false,decide_eq_true_eq,decide_eq_false_iff_not,LB]
 refine⟨fun h=>?_,fun h=>?_⟩
 ·(repeat' with_reducible refine And.intro ?_ ?_)
  all_goals first|omega|exact ct (by decide)|exact gO (by decide)|exact hc|exact h|decide|skip
  exact eM (by rw[decide_eq_true h,Bool.true_and])
 ·(repeat' with_reducible refine And.intro ?_ ?_)
  all_goals first|omega|exact ct (by decide)|exact gO (by decide)|exact hc|exact h|decide|skip
  exact eM (by rw[decide_eq_false h,Bool.false_and])
theorem Ld:∀K args pre r,Gd K args pre=some r→aA P nJ K args pre r:=cj fun⟨c,_⟩ K hn=>Ou (by decide) (by decide) (by decide) hn.1 hn.2 K
theorem NQ:aY P JK:=cK (aG Mj (aG EU (aG Ld (aG afo (aG GI bq)))))
theorem mY {x y:Nat}:bw (.agg [.int .i64 0,.nil,.nil]) (bg gJ x y):=cC ⟨.refl _,jZ (by decide),jZ (by decide),trivial⟩
def Nx:Spec:=cB (kC (hH 2000 2000) (kC (fk 2000) kN)) (fun a=>.tuple [bg (wg a.1 a.2.1) (sK+10) (sB+sB),.int .i64 (cr a.1 a.2.1)]) fun a=>[ec a.1]
theorem aa9:∀K args pre r,Nx K args pre=some r→aA P o5 K args pre r:=cj fun⟨c,t,_⟩ K hn=>by
 have hc:ec c:=hn
 obtain⟨h1,h2,h3,h4,h5⟩:=id hc
 have hl:=h1.len
 refine bJ (r:=aH (.tuple [bg (wg c t) (sK+10) (sB+sB),.int .i64 (cr c t)]) []) hT NQ hm OG rfl (of_decide_eq_true (by kernel_rfl)) rfl 60 NW (fun _=>?_) K []
 have no:∀{e:Int},cr c t=e→e≠0→dL [.agg [.int .i64 0,.nil,.nil],.int .i64 e] (.tuple [bg (wg c t) (sK+10) (sB+sB),.int .i64 (cr c t)]):=fun {e} he h0=>by
  refine⟨?_,bt he.symm,trivial⟩
  rw[show wg c t=gJ from if_neg (by rw[he];exact h0)]
  exact mY
 simp only[aa.all,ax,decide_eq_true_eq,decide_eq_false_iff_not,Bool.not_eq_true',Bool.not_eq_false',Bool.and_eq_true,Bool.and_eq_false_iff]
 refine⟨⟨by omega,by omega,ct (Nat.le_refl _),gO (Nat.le_refl _),Nat.le_refl _,hc⟩,fun ho=>⟨by omega,by omega,no ?_ (by decide)⟩,fun hi=>⟨?_,fun h6=>⟨by omega,by omega,no ?_ (by decide)⟩,fun h6=>⟨by omega,fun h7=>⟨by omega,by omega,no ?_ (by decide)⟩,fun h7=>⟨?_,by omega,?_⟩⟩⟩⟩
 ·unfold cr;rw[if_pos fun h=>ho.elim (fun g=>g h.1) fun g=>g h.2]
 ·exact⟨by omega,by omega,ct (by decide),by decide,by omega,by omega⟩
 ·unfold cr;rw[if_neg (fun g=>g hi),if_pos h6]
 ·unfold cr;rw[if_neg (fun g=>g hi),if_neg h6,if_pos (by omega)]
 ·(repeat' with_reducible refine And.intro ?_ ?_)
  all_goals first|omega|exact ct (by decide)|exact gO (Nat.le_refl _)|exact nF (Nat.le_refl _)|exact h1|exact Nat.le_refl _|skip
 ·have he:cr c t=0:=by unfold cr;rw[if_neg (fun g=>g hi),if_neg h6,if_neg (by omega)]
  refine⟨?_,bt he.symm,trivial⟩
  rw[show wg c t=Gx c t from if_pos he]
  exact .refl _
end Go.Am.B

/- rational.Valid, rational.Bits; the closures of curve.Check; slices.Clone, curve.numbers, curve.Check. -/
namespace Go.Am.B
open Go Go.Am.N AV aa ak IntKind
theorem aeU:aP P AF xx (au xx):=aQ UH (by kernel_rfl) (by kernel_rfl) (by kernel_rfl)
theorem UB:aP P vH vw (au vw):=aQ QT (by kernel_rfl) (by kernel_rfl) (by kernel_rfl)
theorem Xa:aP P wm zm (au zm):=aQ ad9 (by kernel_rfl) (by kernel_rfl) (by kernel_rfl)
theorem af0:aP P sZ DF (au DF):=aQ Up (by kernel_rfl) (by kernel_rfl) (by kernel_rfl)
theorem aaH:aP P iA xo (au xo):=aQ Z4 (by kernel_rfl) (by kernel_rfl) (by kernel_rfl)
theorem agR:aP P gl y8 (au y8):=aQ SM (by kernel_rfl) (by kernel_rfl) (by kernel_rfl)
theorem aaJ:aP P ij vh (au vh):=aQ ab8 (by kernel_rfl) (by kernel_rfl) (by kernel_rfl)
theorem JJ:aP P mK mQ (au mQ):=aQ Ja (by kernel_rfl) (by kernel_rfl) (by kernel_rfl)
theorem aha:aP P ye A0 (au A0):=aQ Y1 (by kernel_rfl) (by kernel_rfl) (by kernel_rfl)
theorem ab6:aP P Ec wQ (au wQ):=aQ aiO (by kernel_rfl) (by kernel_rfl) (by kernel_rfl)
theorem ads:aP P Cv vP (au vP):=aQ abP (by kernel_rfl) (by kernel_rfl) (by kernel_rfl)
theorem ahw:aP P x3 AU (au AU):=aQ aj2 (by kernel_rfl) (by kernel_rfl) (by kernel_rfl)
theorem TV:aP P Bo yo (au yo):=aQ aeE (by kernel_rfl) (by kernel_rfl) (by kernel_rfl)
def Oz:Spec:=bE fun l=>match l with
 |[.mag N]=>some (aH (.bool true) [nl N<2^40])
 |_=>none
def IC:aS:=nG::(AF,Oz)::(uD,bE (kO Fy))::(s6,bE (gM IM))::(tS,IJ)::[]
def Lc:Spec:=bE fun l=>match l with
 |[.rat q n]=>some (aH (.bool true) [n<2^44])
 |_=>none
def PI:Spec:=bE fun l=>match l with
 |[.rat q n]=>some (aH (.int .i64 (cz q:Nat)) [n<2^44])
 |_=>none
def BT:Spec:=bE fun l=>match l with
 |[.rat q n]=>some (aH (.bool false) [n≤2048])
 |_=>none
def BS:aS:=nG::(vH,Lc)::(wm,PI)::ga
def WU (s:Nat):Kind Pl:=⟨fun v=>match C9 v with
 |some (a,q)=>some (a.1,q++[a.2≤s])
 |none=>none,fun a=>bI a s,fun {v a q} h hq=>by
  split at h
  ·rename_i b q' hb
   simp only[Option.some.injEq,Prod.mk.injEq]at h
   obtain⟨rfl,rfl⟩:=h
   obtain⟨q1,q2⟩:=en.1 hq
   refine bw.trans (kPl.ok hb q1) ?_
   show bw (bI b.1 b.2) (bI b.1 s)
   exact cC ⟨cC ⟨fe q2,fe q2,fe q2,trivial⟩,fe q2,trivial⟩
  ·simp at h⟩
def LD:Spec:=cB (kC (WU 2048) kN) (fun _=>.bool false) fun a=>[0<a.1.d]
def C6:Kind FuncId:=⟨fun v=>match v with
 |.func f []=>some (f,[])
 |_=>none,fun g=>.func g [],fun {v a q} h _=>by
  split at h
  ·simp only[Option.some.injEq,Prod.mk.injEq]at h
   obtain⟨rfl,rfl⟩:=h
   exact .refl _
  ·simp at h⟩
noncomputable def GX:aS:=nG::(iA,BT)::(ij,BT)::(gl,LD)::[]
abbrev jK:List Nat:=[4,0,1,7,8]
abbrev Ab (n i:Nat) (k:Nat→Rat) (g:FuncId):List AV:=[.int .i64 0,bp k n 2048,.func g [],.int .i64 n,.int .i64 i]
abbrev El (n i:Nat) (f:Nat→Pl) (g:FuncId):List AV:=[.int .i64 0,jj f n 2048,.func g [],.int .i64 n,.int .i64 i]
noncomputable abbrev oq:Code:=au mQ
noncomputable abbrev zU:Code:=au A0
noncomputable def Lv:Spec:=cB (kC (kL 2048) (kC C6 kN)) (fun _=>.int .i64 (-1)) fun a=>[a.1.1<2^40,a.2.1=iA∨a.2.1=ij]
noncomputable def Qo:Spec:=cB (kC (kL 2048) (kC C6 kN)) (fun _=>.bool false) fun a=>[a.1.1<2^40,a.2.1=iA∨a.2.1=ij]
noncomputable def GY:aS:=nG::(mK,Lv)::[]
def QI:Spec:=sN fun K l=>match l with
 |[v]=>match(kL 2048).read v with
  |some ((n,k),q)=>some ⟨.own K 3 0 n,[(K,⟨true,true,3,n,fun i=>.rat (k i) 2048⟩)],q++[1≤n,n<2^30]⟩
  |none=>none
 |_=>none
def jM (c:Cu) (j:Nat):Rat:=if j<c.n then c.k j else gX (c.f ((j-c.n)/4)) ((j-c.n)%4)
def Di:aS:=nG::(sZ,QI)::[]
abbrev zN:List Nat:=[2,3,10,11,12]
abbrev Eo (c:Cu) (i:Nat):List AV:=[.nil,.own 0 3 0 (c.n+4*i),jj c.f c.m 2048,.int .i64 c.m,.int .i64 i]
abbrev Gs (c:Cu) (i:Nat):aC:=[(0,⟨true,true,3,c.n+4*i,fun j=>.rat (jM c j) 2048⟩)]
noncomputable abbrev yQ:Code:=au AU
def Pp:Spec:=cB (kC (hH 2048 2048) kN) (fun a=>bp (jM a.1) (a.1.n+4*a.1.m) 2048) fun a=>[1≤a.1.n,a.1.n<2^30,a.1.m<2^28]
theorem So {N:Nat}:bC T [nG] [6] 60 xx (au xx) ⟨aN 0 [.mag N],[],0⟩=
  let c2:Bool:=(↑(nl N):Int)==(0:Int);let c1:Int:=(↑(nl N):Int)-(1:Int);some (fork c2 (ag [c2=true] (leaf ret [AV.bool true])) (ag [c2=false,-(2:Int)^63≤c1∧c1<(2:Int)^63,(0:Int)≤c1∧c1.toNat<nl N] (leaf ret [AV.bool (bif false then true else(↑(az N c1.toNat):Int)!=(0:Int))]))):=by kernel_rfl
theorem R9 {q:Rat} {n:Nat}:bC T IC [18,25,29,33,43] 60 vw (au vw) ⟨aN 0 [.rat q n],[],0⟩=
  let c9:aa (List AV):=leaf ret [AV.bool false];let c7:Bool:=!decide (q<0);let c6:Nat:=q.num.natAbs;let c4:Nat:=2^40;let c3:Prop:=0<1;let c2:Nat:=if q.den=1 then 0 else q.den;let c5:Int:=(↑(nl c2):Int);let c10:Bool:=c5==(1:Int);let c8:Bool:=c5==(0:Int);let c1:aa (List AV):=ag [c3] (fork ((↑(nl c6):Int)==(0:Int)) (fork c7 (ag [c3,c7=true,c3] (leaf ret [AV.bool (bif true then c8 else false)])) (ag [c3,c7=false] c9)) (fork c8 (ag [c3,c8=true] (leaf ret [AV.bool true])) (ag [c3,c8=false,c3,c3,nl c6<c4,nl c2<c4,nl (c6.gcd c2)<c4] (leaf ret [AV.bool (bif false then true else(↑(bu (c6.gcd c2)):Int)==(1:Int))]))));some (fork c10 (ag [c3,nl c6<c4,c3,nl c2<c4,c3,c10=true,c3,(0:Int)≤(0:Int)∧Int.toNat (0:Int)<nl c2] (fork (bif bif !true then true else !true then true else bif true then(↑(az c2 (Int.toNat (0:Int))):Int)==(1:Int)else false) c9 c1)) (ag [c3,nl c6<c4,c3,nl c2<c4,c3,c10=false] (fork false c9 c1))):=by kernel_rfl
theorem ah9 {q:Rat} {n:Nat}:bC T IC [] 60 zm (au zm) ⟨aN 0 [.rat q n],[],0⟩=
  let c2:Int:=(↑(bu q.den):Int);let c1:Int:=(↑(bu q.num.natAbs):Int);some (ag [(0:Nat)<1,nl q.num.natAbs<2^40,(0:Nat)<1,nl q.den<2^40] (leaf ret [int i64 (if c1<c2 then c2 else c1)])):=by kernel_rfl
theorem YL {q:Rat} {n:Nat}:bC T BS [] 60 xo (au xo) ⟨aN 0 [.rat q n],[],0⟩=
  some (ag [(0:Nat)<1,n<2^44] (leaf ret [AV.bool false])):=by kernel_rfl
theorem ahE {q:Rat} {n:Nat}:bC T BS [] 60 vh (au vh) ⟨aN 0 [.rat q n],[],0⟩=
  some (ag [(0:Nat)<1,n<2^44] (leaf ret [AV.bool (decide ((↑(cz q):Int)>(2048:Int)))])):=by kernel_rfl
theorem ahP {p:Pl}:bC T BS [] 60 y8 (au y8) ⟨aN 0 [bI p 2048],[],0⟩=
  some (ag [(0:Nat)<1,(2048:Nat)<2^42] (leaf ret [AV.bool (decide (ew p.d≤(0:Int)))])):=by kernel_rfl
theorem acA {n s:Nat} {k:Nat→Rat}:aJ T [nG] [] 60 [2] [au DF] ⟨aN 0 [.de false 3 n (fun i=>.rat (k i) s)],[],0⟩=
  some (ag [(0:Nat)*3≤2^24,((0:Nat)+n)*((56:Nat)+1)*2≤2^47] (leaf ret ([own 20480 3 0 ((0:Nat)+n)],[((20480:Nat),ah.mk true true 3 ((0:Nat)+n) fun i↦rat (k (i-0)) s)]))):=by kernel_rfl
theorem KL {n:Nat} {k:Nat→Rat} {g:FuncId}:aJ T GX [] 60 jK (before oq [1,0,1]) ⟨aN 0 [bp k n 2048,.func g []],[],0⟩=
  some (leaf normal ([int i64 (0:Int),aj 3 n fun i↦rat (k i) 2048,func g [],int i64 (↑n:Int),int i64 (0:Int)],[])):=by kernel_rfl
theorem UK {n i:Nat} {k:Nat→Rat}:aJ T GX [9] 60 jK [part oq [1,0,1,0,0]] ⟨aB jK (Ab n i k iA),[],0⟩=
  let c4:Int:=(↑n:Int);let c2:AV:=aj 3 n fun i↦rat (k i) 2048;let c1:Int:=(↑i:Int);let c3:Int:=c1+(1:Int);some (fork (decide (c1<c4)) (ag [(0:Int)≤c1∧c1.toNat<n,(2048:Nat)≤2048] (ag [-(2:Int)^63≤c3∧c3<(2:Int)^63] (leaf normal ([int i64 (0:Int),c2,func iA [],int i64 c4,int i64 c3],[])))) (leaf (exit 0) ([int i64 (0:Int),c2,func iA [],int i64 c4,int i64 c1],[]))):=by kernel_rfl
theorem agl {n i:Nat} {k:Nat→Rat}:aJ T GX [9] 60 jK [part oq [1,0,1,0,0]] ⟨aB jK (Ab n i k ij),[],0⟩=
  let c4:Int:=(↑n:Int);let c2:AV:=aj 3 n fun i↦rat (k i) 2048;let c1:Int:=(↑i:Int);let c3:Int:=c1+(1:Int);some (fork (decide (c1<c4)) (ag [(0:Int)≤c1∧c1.toNat<n,(2048:Nat)≤2048] (ag [-(2:Int)^63≤c3∧c3<(2:Int)^63] (leaf normal ([int i64 (0:Int),c2,func ij [],int i64 c4,int i64 c3],[])))) (leaf (exit 0) ([int i64 (0:Int),c2,func ij [],int i64 c4,int i64 c1],[]))):=by kernel_rfl
theorem QD {n i:Nat} {k:Nat→Rat} {g:FuncId}:bY T GX [] 60 mQ [part oq [1,1]] ⟨aB jK (Ab n i k g),[],0⟩=
  some (leaf ret [int i64 (-1:Int)]):=by kernel_rfl
theorem Rv {n:Nat} {f:Nat→Pl}:aJ T GX [] 60 jK (before zU [1,0,1]) ⟨aN 0 [jj f n 2048,.func gl []],[],0⟩=
  some (leaf normal ([int i64 (0:Int),aj 12 n fun i↦agg [agg [rat (f i).n.x 2048,rat (f i).n.y 2048,rat (f i).n.z 2048],rat (f i).d 2048],func gl [],int i64 (↑n:Int),int i64 (0:Int)],[])):=by kernel_rfl
theorem Xk {n i:Nat} {f:Nat→Pl}:aJ T GX [9] 60 jK [part zU [1,0,1,0,0]] ⟨aB jK (El n i f gl),[],0⟩=
  let c5:Int:=(↑n:Int);let c3:Prop:=2048≤2048;let c2:Int:=(↑i:Int);let c1:AV:=aj 12 n fun i↦agg [agg [rat (f i).n.x 2048,rat (f i).n.y 2048,rat (f i).n.z 2048],rat (f i).d 2048];let c4:Int:=c2+(1:Int);some (fork (decide (c2<c5)) (ag [(0:Int)≤c2∧c2.toNat<n,c3,c3,Max.max 2048 2048≤2048,(0:Rat)<(f c2.toNat).d] (ag [-(2:Int)^63≤c4∧c4<(2:Int)^63] (leaf normal ([int i64 (0:Int),c1,func gl [],int i64 c5,int i64 c4],[])))) (leaf (exit 0) ([int i64 (0:Int),c1,func gl [],int i64 c5,int i64 c2],[]))):=by kernel_rfl
theorem ae1 {n i:Nat} {f:Nat→Pl}:bY T GX [] 60 A0 [part zU [1,1]] ⟨aB jK (El n i f gl),[],0⟩=
  some (leaf ret [int i64 (-1:Int)]):=by kernel_rfl
theorem afz {n:Nat} {k:Nat→Rat} {g:FuncId}:bC T GY [] 60 wQ (au wQ) ⟨aN 0 [bp k n 2048,.func g []],[],0⟩=
  some (ag [bK (fun i↦rat (k i) 2048) n 2048,n<2^40,g=iA∨g=ij] (leaf ret [AV.bool false])):=by kernel_rfl
theorem ad0 {c:Cu}:aJ T Di [] 60 zN (before yQ [1,1,0,1]) ⟨aN 0 [bg c 2048 2048],[],0⟩=
  some (ag [(0:Nat)<1,bK (fun i↦rat (c.k i) 2048) c.n 2048,(1:Nat)≤c.n,c.n<2^30] (ag [(0:Nat)<1] (leaf normal ([nil,own 16384 3 0 c.n,aj 12 c.m fun i↦agg [agg [rat (c.f i).n.x 2048,rat (c.f i).n.y 2048,rat (c.f i).n.z 2048],rat (c.f i).d 2048],int i64 (↑c.m:Int),int i64 (0:Int)],[((16384:Nat),ah.mk true true 3 c.n fun i↦rat (aO (rat (c.k i) 2048)) 2048)])))):=by kernel_rfl
theorem abh {c:Cu} {i:Nat}:aJ T Di [13] 60 zN [part yQ [1,1,0,1,0,0]] ⟨aB zN (Eo c i),Gs c i,1⟩=
  let c7:Int:=(↑c.m:Int);let c5:Int:=(↑(3:Nat):Int);let c4:Prop:=0<1;let c3:Int:=(↑i:Int);let c2:Nat:=c.n+4*i;let c1:AV:=aj 12 c.m fun i↦agg [agg [rat (c.f i).n.x 2048,rat (c.f i).n.y 2048,rat (c.f i).n.z 2048],rat (c.f i).d 2048];let c9:Nat:=c2+4;let c8:Int:=c3+(1:Int);let c6:Pl:=c.f c3.toNat;some (fork (decide (c3<c7)) (ag [(0:Int)≤c3∧c3.toNat<c.m,c4] (ag [(0:Int)≤(0:Int)∧(0:Int)<c5,c4,(0:Int)≤(1:Int)∧(1:Int)<c5,c4,(0:Int)≤(2:Int)∧(2:Int)<c5,c4,c4,(4:Nat)*3≤2^24,c9*((56:Nat)+1)*2≤2^47] (ag [-(2:Int)^63≤c8∧c8<(2:Int)^63] (leaf normal ([nil,own 73729 3 0 c9,c1,int i64 c7,int i64 c8],[((73729:Nat),ah.mk true true 3 c9 fun i↦if i<c2 then rat (jM c i) 2048 else nth [rat c6.n.x 2048,rat c6.n.y 2048,rat c6.n.z 2048,rat c6.d 2048] (rat 0 1) (i-c2+0))]))))) (leaf (exit 0) ([nil,own 0 3 0 c2,c1,int i64 c7,int i64 c3],[((0:Nat),ah.mk true true 3 c2 fun j↦rat (jM c j) 2048)]))):=by kernel_rfl
theorem ajN {c:Cu} {i:Nat}:bY T Di [] 60 AU [part yQ [1,1,1]] ⟨aB zN (Eo c i),Gs c i,1⟩=
  some (leaf ret [aj 3 (c.n+4*i) fun i↦rat (jM c (i+0)) 2048]):=by kernel_rfl
theorem W6 {N:Nat} (hn:nl N<2^40) (K:Nat):aA P AF K [.mag N] [] (aH (.bool true) []):=by
 refine bJ hT (cK bq) hm aeU rfl (of_decide_eq_true (by kernel_rfl)) rfl 60 So (fun _=>?_) K []
 simp only[aa.all,ax]
 refine⟨fun h=>⟨h,.refl _⟩,fun h=>?_⟩
 have h0:nl N≠0:=fun he=>by rw[he]at h;exact absurd h (by decide)
 have h1:N≠0:=fun he=>h0 (iC.2 he)
 have e1:((nl N:Int)-1).toNat=nl N-1:=by omega
 have h2:=CB h1
 rw[e1]
 refine⟨⟨h,by omega,by omega⟩,eM ?_⟩
 rw[cond_false]
 exact bne_iff_ne.2 (by omega)
theorem UC:∀K args pre r,Oz K args pre=some r→aA P AF K args pre r:=by
 refine bV fun K args r hk hs _=>?_
 split at hs
 ·simp only[Option.some.injEq]at hs
  subst hs
  exact fun need=>W6 need K trivial
 ·simp at hs
theorem NV:aY P IC:=cK (aG UC (aG L4 (aG PU (aG Nc bq))))
theorem aij {N:Nat} (h:nl N=1) (h1:az N 0=1):N=1:=by
 have h2:N<2^(32*1):=cU.1 (by omega)
 unfold az at h1
 omega
theorem Zf {q:Rat} {n:Nat} (hn:n<2^44) (K:Nat):aA P vH K [.rat q n] [] (aH (.bool true) []):=by
 refine iK fun⟨hs1,_⟩=>?_
 obtain⟨a1,a2,a3⟩:=Sz.iQ hs1 hn
 refine bJ hT NV hm UB rfl (of_decide_eq_true (by kernel_rfl)) rfl 60 R9 (fun _=>?_) K []
 obtain⟨D,hD⟩:∃D,D=if q.den=1 then 0 else q.den:=⟨_,rfl⟩
 have hD1:D≠1:=by rw[hD];split<;>omega
 have hg:D≠0→q.num.natAbs.gcd D=1:=fun h=>by
  have:D=q.den:=by rw[hD]at h ⊢;split<;>simp_all
  rw[this];exact q.reduced
 have hz:q.num.natAbs=0→¬q<0∧D=0:=fun h=>by
  have h0:=mB.1 h
  subst h0
  exact⟨by decide,by rw[hD];rfl⟩
 rw[←hD]at a3 ⊢
 have nneg:((nl q.num.natAbs:Int)==0)=true→(!decide (q<0))=true∧((nl D:Int)==0)=true:=fun h=>by
  obtain⟨z1,z2⟩:=hz (iC.1 (by have:=beq_iff_eq.1 h;omega))
  rw[decide_eq_false z1,z2];exact⟨rfl,rfl⟩
 have last:((nl D:Int)==0)=false→D≠0:=fun h he=>by rw[he]at h;exact absurd h (by decide)
 simp only[aa.all,ax,cond_true,cond_false,Bool.not_true]
 refine⟨fun h=>⟨⟨by omega,a1,by omega,a3,by omega,h,by omega,by omega,?_⟩,fun h2=>?_,fun h2=>⟨by omega,fun h3=>⟨fun h4=>⟨⟨by omega,h4,by omega⟩,eM (nneg h3).2⟩,fun h4=>absurd (h4.symm.trans (nneg h3).1) (by decide)⟩,fun h3=>⟨fun h4=>⟨⟨by omega,h4⟩,.refl _⟩,fun h4=>?_⟩⟩⟩,
  fun h=>⟨⟨by omega,a1,by omega,a3,by omega,h⟩,fun h=>absurd h (by decide),fun _=>⟨by omega,fun h3=>⟨fun h4=>⟨⟨by omega,h4,by omega⟩,eM (nneg h3).2⟩,fun h4=>absurd (h4.symm.trans (nneg h3).1) (by decide)⟩,fun h3=>⟨fun h4=>⟨⟨by omega,h4⟩,.refl _⟩,fun h4=>?_⟩⟩⟩⟩
 ·have:=beq_iff_eq.1 h
  rw[Int.toNat_zero];omega
 ·have e1:=beq_iff_eq.1 h
  have e2:=beq_iff_eq.1 h2
  exact absurd (aij (by omega) (by rw[Int.toNat_zero]at e2;omega)) hD1
 ·rw[hg (last h4)]
  exact⟨⟨by omega,h4,by omega,by omega,a1,a3,by decide⟩,eM (by decide)⟩
 ·rw[hg (last h4)]
  exact⟨⟨by omega,h4,by omega,by omega,a1,a3,by decide⟩,eM (by decide)⟩
theorem TG:∀K args pre r,Lc K args pre=some r→aA P vH K args pre r:=by
 refine bV fun K args r hk hs _=>?_
 split at hs
 ·simp only[Option.some.injEq]at hs
  subst hs
  exact fun need=>Zf need K trivial
 ·simp at hs
theorem aiI {q:Rat} {n:Nat} (hn:n<2^44) (K:Nat):aA P wm K [.rat q n] [] (aH (.int .i64 (cz q:Nat)) []):=by
 refine iK fun⟨hs1,_⟩=>?_
 obtain⟨a1,a2,a3⟩:=Sz.iQ hs1 hn
 refine bJ hT NV hm Xa rfl (of_decide_eq_true (by kernel_rfl)) rfl 60 ah9 (fun _=>?_) K []
 simp only[aa.all,ax]
 refine⟨⟨by omega,a1,by omega,a2⟩,bt ?_⟩
 unfold cz
 split<;>omega
theorem ad2:∀K args pre r,PI K args pre=some r→aA P wm K args pre r:=by
 refine bV fun K args r hk hs _=>?_
 split at hs
 ·simp only[Option.some.injEq]at hs
  subst hs
  exact fun need=>aiI need K trivial
 ·simp at hs
theorem Ex:aY P BS:=cK (aG TG (aG ad2 gY))
theorem acd:∀K args pre r,BT K args pre=some r→aA P iA K args pre r:=by
 refine bV fun K args r hk hs _=>?_
 split at hs
 ·rename_i q n
  simp only[Option.some.injEq]at hs
  subst hs
  intro need
  have hn:n≤2048:=need
  refine bJ (r:=aH (.bool false) [n≤2048]) hT Ex hm aaH rfl (of_decide_eq_true (by kernel_rfl)) rfl 60 YL (fun _=>?_) K [] need
  simp only[aa.all,ax]
  (repeat' with_reducible refine And.intro ?_ ?_)
  all_goals first|omega|exact .refl _|skip
 ·simp at hs
theorem ajz:∀K args pre r,BT K args pre=some r→aA P ij K args pre r:=by
 refine bV fun K args r hk hs _=>?_
 split at hs
 ·rename_i q n
  simp only[Option.some.injEq]at hs
  subst hs
  intro need
  have hn:n≤2048:=need
  refine(iK (P:=P) (f:=ij) (K:=K) (args:=[.rat q n]) (pre:=[]) (v:=.bool false) (l:=[n≤2048]) fun⟨hs1,_⟩=>?_) need
  have h1:=WI.1 hs1
  refine bJ (r:=aH (.bool false) [n≤2048]) hT Ex hm aaJ rfl (of_decide_eq_true (by kernel_rfl)) rfl 60 ahE (fun _=>?_) K []
  simp only[aa.all,ax]
  (repeat' with_reducible refine And.intro ?_ ?_)
  all_goals first|omega|skip
  exact eM (decide_eq_false (by omega))
 ·simp at hs
theorem acN:∀K args pre r,LD K args pre=some r→aA P gl K args pre r:=cj fun⟨p,_⟩ K hn=>by
 have hd:0<p.d:=hn
 refine bJ (r:=aH (.bool false) []) hT Ex hm agR rfl (of_decide_eq_true (by kernel_rfl)) rfl 60 ahP (fun _=>?_) K []
 have hs:ew p.d=1:=by
  unfold ew
  rw[if_neg (by grind),if_pos hd]
 simp only[aa.all,ax,hs]
 (repeat' with_reducible refine And.intro ?_ ?_)
 all_goals first|omega|decide|exact .refl _|skip
theorem Ey:aY P GX:=cK (aG acd (aG ajz (aG acN bq)))
theorem aal {n:Nat} {k:Nat→Rat} {g:FuncId} (hn:n<2^40) (hg:g=iA∨g=ij) (K:Nat):aA P mK K [bp k n 2048,.func g []] [] (aH (.int .i64 (-1)) []):=by
 rcases hg with rfl|rfl
 ·refine fH (r:=aH (.int .i64 (-1)) []) hT Ey hm JJ rfl (of_decide_eq_true (by kernel_rfl)) rfl [1,0,1] (i:=0) (y:=part oq [1,0,1,0,0]) (z:=part oq [1,1]) (by kernel_rfl) (by kernel_rfl) (by kernel_rfl) (f1:=[]) (f2:=[9]) (f3:=[]) 60 jK 0
   (fun i:Nat=>Ab n i k iA) (fun _=>[]) (fun i=>i≤n) (fun i=>i=n) (fun i=>n-i) (fun _=>⟨⟨_,KL,?_⟩,fun i hi=>⟨_,UK,?_⟩,fun i hi=>⟨_,QD,?_⟩⟩) K []
  ·simp only[aa.all,ax]
   exact⟨0,Nat.zero_le _,[],rfl,rfl,rfl,trivial⟩
  ·simp only[aa.all,ax,decide_eq_true_eq,decide_eq_false_iff_not,Int.toNat_natCast]
   exact⟨fun h=>⟨⟨by omega,by omega⟩,by omega,i+1,by omega,by dsimp only;omega,[],rfl,rfl,rfl,trivial⟩,fun h=>⟨rfl,i,by omega,[],rfl,rfl,rfl,trivial⟩⟩
  ·simp only[aa.all,ax]
   exact .refl _
 ·refine fH (r:=aH (.int .i64 (-1)) []) hT Ey hm JJ rfl (of_decide_eq_true (by kernel_rfl)) rfl [1,0,1] (i:=0) (y:=part oq [1,0,1,0,0]) (z:=part oq [1,1]) (by kernel_rfl) (by kernel_rfl) (by kernel_rfl) (f1:=[]) (f2:=[9]) (f3:=[]) 60 jK 0
   (fun i:Nat=>Ab n i k ij) (fun _=>[]) (fun i=>i≤n) (fun i=>i=n) (fun i=>n-i) (fun _=>⟨⟨_,KL,?_⟩,fun i hi=>⟨_,agl,?_⟩,fun i hi=>⟨_,QD,?_⟩⟩) K []
  ·simp only[aa.all,ax]
   exact⟨0,Nat.zero_le _,[],rfl,rfl,rfl,trivial⟩
  ·simp only[aa.all,ax,decide_eq_true_eq,decide_eq_false_iff_not,Int.toNat_natCast]
   exact⟨fun h=>⟨⟨by omega,by omega⟩,by omega,i+1,by omega,by dsimp only;omega,[],rfl,rfl,rfl,trivial⟩,fun h=>⟨rfl,i,by omega,[],rfl,rfl,rfl,trivial⟩⟩
  ·simp only[aa.all,ax]
   exact .refl _
theorem VJ:∀K args pre r,Lv K args pre=some r→aA P mK K args pre r:=cj fun⟨⟨n,k⟩,g,_⟩ K hn=>aal hn.1 hn.2 K
theorem WZ:aY P GY:=cK (aG VJ bq)
theorem U8:∀K args pre r,Qo K args pre=some r→aA P Ec K args pre r:=cj fun⟨⟨n,k⟩,g,_⟩ K hn=>by
 refine bJ (r:=aH (.bool false) []) hT WZ hm ab6 rfl (of_decide_eq_true (by kernel_rfl)) rfl 60 afz (fun _=>?_) K []
 simp only[aa.all,ax]
 exact⟨⟨ct (Nat.le_refl _),hn.1,hn.2⟩,.refl _⟩
noncomputable def PY:Spec:=cB (kC (tD 2048) (kC C6 kN)) (fun _=>.int .i64 (-1)) fun a=>[a.1.1<2^40,∀i,i<a.1.1→0<(a.1.2 i).d,a.2.1=gl]
noncomputable def JG:Spec:=cB (kC (tD 2048) (kC C6 kN)) (fun _=>.bool false) fun a=>[a.1.1<2^40,∀i,i<a.1.1→0<(a.1.2 i).d,a.2.1=gl]
noncomputable def MS:aS:=nG::(ye,PY)::[]
noncomputable def JL:aS:=nG::(x3,Pp)::(Ec,Qo)::(Cv,JG)::(uh,G4)::(qW,pX)::[]
theorem Rs {n:Nat} {f:Nat→Pl} (hn:n<2^40) (hf:∀i,i<n→0<(f i).d) (K:Nat):aA P ye K [jj f n 2048,.func gl []] [] (aH (.int .i64 (-1)) []):=by
 refine fH (r:=aH (.int .i64 (-1)) []) hT Ey hm aha rfl (of_decide_eq_true (by kernel_rfl)) rfl [1,0,1] (i:=0) (y:=part zU [1,0,1,0,0]) (z:=part zU [1,1]) (by kernel_rfl) (by kernel_rfl) (by kernel_rfl) (f1:=[]) (f2:=[9]) (f3:=[]) 60 jK 0
  (fun i:Nat=>El n i f gl) (fun _=>[]) (fun i=>i≤n) (fun i=>i=n) (fun i=>n-i) (fun _=>⟨⟨_,Rv,?_⟩,fun i hi=>⟨_,Xk,?_⟩,fun i hi=>⟨_,ae1,?_⟩⟩) K []
 ·simp only[aa.all,ax]
  exact⟨0,Nat.zero_le _,[],rfl,rfl,rfl,trivial⟩
 ·simp only[aa.all,ax,decide_eq_true_eq,decide_eq_false_iff_not,Int.toNat_natCast]
  exact⟨fun h=>⟨⟨by omega,by omega,by omega,by decide,hf i (by omega)⟩,by omega,i+1,by omega,by dsimp only;omega,[],rfl,rfl,rfl,trivial⟩,fun h=>⟨rfl,i,by omega,[],rfl,rfl,rfl,trivial⟩⟩
 ·simp only[aa.all,ax]
  exact .refl _
theorem Vo:∀K args pre r,PY K args pre=some r→aA P ye K args pre r:=cj fun⟨⟨n,f⟩,g,_⟩ K hn=>by
 have hg:g=gl:=hn.2.2
 subst hg
 exact Rs hn.1 hn.2.1 K
theorem Zq {args:List AV} {n:Nat} {k:Nat→Rat} {l:List Prop} (ha:ax l→fj (aV []) args [.de false 3 n (fun i=>.rat (k i) 2048)]) (hn:ax l→1≤n∧n<2^30) (K:Nat):aA P sZ K args [] ⟨ko [.own K 3 0 n],[(K,⟨true,true,3,n,fun i=>.rat (k i) 2048⟩)],l⟩:=by
 refine JR hT af0 ha (of_decide_eq_true (by kernel_rfl)) fun need c hk=>?_
 obtain⟨h1,h2⟩:=hn need
 refine aq.bk hT (cK bq) hm 60 [2] acA (by kernel_rfl) ?_
 simp only[aa.all,ax]
 exact⟨⟨by omega,by omega⟩,fun s' hs'=>⟨.inr trivial,[2],_,[.own 20480 3 0 (0+n)],_,20480,_,hs',by kernel_rfl,⟨⟨rfl,cT (by simp[aV,look]) rfl (by omega)⟩,trivial⟩,rfl,iT (by omega) fun i hi=>aK rfl⟩⟩
theorem UM {n:Nat} {k:Nat→Rat} {l:List Prop} (hn:ax l→1≤n∧n<2^30) (K:Nat):aA P sZ K [bp k n 2048] [] ⟨ko [.own K 3 0 n],[(K,⟨true,true,3,n,fun i=>.rat (k i) 2048⟩)],l⟩:=by
 refine PG fun b hb=>?_
 intro need
 have h1:=hn need
 cases b
 ·exact Zq (args:=[.de false 3 n (fun i=>.rat (k i) 2048)]) (fun _=>⟨⟨rfl,aK rfl⟩,trivial⟩) hn K need
 ·have:=hb rfl
  omega
theorem YG:∀K args pre r,QI K args pre=some r→aA P sZ K args pre r:=by
 refine DJ fun K args r hk hs=>?_
 split at hs
 ·rename_i v
  split at hs
  ·rename_i n k q hv
   simp only[Option.some.injEq]at hs
   subst hs
   intro need
   obtain⟨hn1,hn2⟩:=en.1 need
   exact fO (UM (l:=q++[1≤n,n<2^30]) (fun h=>⟨(en.1 h).2.1,(en.1 h).2.2⟩) K) hk ⟨(kL 2048).ok hv hn1,trivial⟩ [] need
  ·simp at hs
 ·simp at hs
theorem afn:aY P Di:=cK (aG YG bq)
theorem Wp {c:Cu} {i j:Nat} {rl:List (Nat×Nat)} (hj:j<c.n+4*i+4):fu rl (if j<c.n+4*i then .rat (jM c j) 2048 else nth [.rat (c.f i).n.x 2048,.rat (c.f i).n.y 2048,.rat (c.f i).n.z 2048,.rat (c.f i).d 2048] (.rat 0 1) (j-(c.n+4*i)+0)) (.rat (jM c j) 2048):=by
 by_cases h:j<c.n+4*i
 ·rw[if_pos h];exact aE rfl rfl
 ·rw[if_neg h]
  have key:∀a,a<4→j=c.n+4*i+a→jM c j=gX (c.f i) a:=fun a ha hj=>by
   unfold jM
   rw[if_neg (by omega),show(j-c.n)/4=i by omega,show(j-c.n)%4=a by omega]
  rcases(show j=c.n+4*i+0∨j=c.n+4*i+1∨j=c.n+4*i+2∨j=c.n+4*i+3 by omega)with h'|h'|h'|h'
  ·rw[key 0 (by omega) h',h',show c.n+4*i+0-(c.n+4*i)+0=0 by omega];exact aE rfl rfl
  ·rw[key 1 (by omega) h',h',show c.n+4*i+1-(c.n+4*i)+0=1 by omega];exact aE rfl rfl
  ·rw[key 2 (by omega) h',h',show c.n+4*i+2-(c.n+4*i)+0=2 by omega];exact aE rfl rfl
  ·rw[key 3 (by omega) h',h',show c.n+4*i+3-(c.n+4*i)+0=3 by omega];exact aE rfl rfl
theorem Uu {c:Cu} (h1:1≤c.n) (hn:c.n<2^30) (hm2:c.m<2^28) (K:Nat):aA P x3 K [bg c 2048 2048] [] (aH (bp (jM c) (c.n+4*c.m) 2048) []):=by
 refine fH (r:=aH (bp (jM c) (c.n+4*c.m) 2048) []) hT afn hm ahw rfl (of_decide_eq_true (by kernel_rfl)) rfl [1,1,0,1] (i:=0) (y:=part yQ [1,1,0,1,0,0]) (z:=part yQ [1,1,1]) (by kernel_rfl) (by kernel_rfl) (by kernel_rfl) (f1:=[]) (f2:=[13]) (f3:=[]) 60 zN 1
  (fun i:Nat=>Eo c i) (fun i=>Gs c i) (fun i=>i≤c.m) (fun i=>i=c.m) (fun i=>c.m-i) (fun _=>⟨⟨_,ad0,?_⟩,fun i hi=>⟨_,abh,?_⟩,fun i hi=>⟨_,ajN,?_⟩⟩) K []
 ·simp only[aa.all,ax]
  exact⟨⟨by omega,ct (Nat.le_refl _),by omega,by omega⟩,by omega,0,Nat.zero_le _,[(0,16384)],rfl,rfl,rfl,bB rfl rfl rfl (fun j hj=>aE rfl (by unfold jM;rw[if_pos (by omega)];rfl)) trivial⟩
 ·simp only[aa.all,ax,decide_eq_true_eq,decide_eq_false_iff_not,Int.toNat_natCast]
  refine⟨fun h=>?_,fun h=>⟨rfl,i,by omega,[(0,0)],rfl,rfl,rfl,bB rfl rfl rfl (fun j hj=>aE rfl rfl) trivial⟩⟩
  (repeat' with_reducible refine And.intro ?_ ?_)
  all_goals first|omega|decide|skip
  refine⟨i+1,by omega,by dsimp only;omega,[(0,73729)],rfl,?_,rfl,bB rfl rfl ?_ (fun j hj=>Wp (by omega)) trivial⟩
  ·show _=[_,AV.own 0 3 0 (c.n+4*(i+1)),_,_,_].map _
   rw[show c.n+4*(i+1)=c.n+4*i+4 by omega];rfl
  ·show c.n+4*(i+1)=c.n+4*i+4
   omega
 ·subst hi
  simp only[aa.all,ax]
  exact .refl _
theorem acE:∀K args pre r,Pp K args pre=some r→aA P x3 K args pre r:=cj fun⟨c,_⟩ K hn=>Uu hn.1 hn.2.1 hn.2.2 K
theorem VE {n:Nat} {f:Nat→Pl}:bC T MS [] 60 vP (au vP) ⟨aN 0 [jj f n 2048,.func gl []],[],0⟩=
  some (ag [fo (fun i↦bI (f i) 2048) n 2048,n<2^40,∀(i:Nat),i<n→0<aO (rat (f i).d 2048),gl=gl] (leaf ret [AV.bool false])):=by kernel_rfl
theorem aeA {c:Cu}:bC T JL [200015,200017] 60 yo (au yo) ⟨aN 0 [bg c 2048 2048],[],0⟩=
  let c5 : Nat := c.n + 4 * c.m; let c4 : Prop := fo (fun i ↦ bI (c.f i) 2048) c.m 2048; let c3 : Nat := 2 ^ 40; let c2 : Prop := 0 < 1; let c1 : Prop := bK (fun i ↦ rat (jM (Cu.mk c.p c.n (fun i ↦ aO (rat (c.k i) 2048)) c.m fun i ↦ fA (bI (c.f i) 2048)) i) 2048) c5 2048; some (ag [c2, bK (fun i ↦ rat (c.k i) 2048) c.n 2048, c4, (1 : Nat) ≤ c.n, c.n < 2 ^ 30, c.m < 2 ^ 28] (ag [c1, c5 < c3, iA = iA ∨ iA = ij] (ag [c2, c2, bK (fun i ↦ rat (c.k i) 2048) c.n sJ, c.n < c3] (ag [(gm c.n (fun i ↦ aO (rat (c.k i) 2048)) c.p != (0 : Int)) = false] (ag [c2, c2, c2, bK (fun i ↦ rat (c.k i) 2048) c.n sK, c.n < c3, -(2 : Int) ^ 40 < c.p, c.p < (2 : Int) ^ 40] (ag [((↑c.m : Int) != (↑c.n : Int) - c.p - (1 : Int)) = false] (ag [c2, c4, c.m < c3, ∀ (i : Nat), i < c.m → 0 < aO (rat (c.f i).d 2048), gl = gl] (ag [c1, c5 < c3, ij = iA ∨ ij = ij] (leaf ret [int i64 (0 : Int)]))))))))) := by kernel_rfl
theorem aki:aY P MS:=cK (aG Vo bq)
theorem Zu:∀K args pre r,JG K args pre=some r→aA P Cv K args pre r:=cj fun⟨⟨n,f⟩,g,_⟩ K hn=>by
 have hg:g=gl:=hn.2.2
 subst hg
 refine bJ (r:=aH (.bool false) []) hT aki hm ads rfl (of_decide_eq_true (by kernel_rfl)) rfl 60 VE (fun _=>?_) K []
 simp only[aa.all,ax]
 exact⟨⟨gO (Nat.le_refl _),hn.1,hn.2.1,by trivial⟩,.refl _⟩
theorem aaU:aY P JL:=cK (aG acE (aG U8 (aG Zu (aG Ke (aG D3 bq)))))
noncomputable def Na:Spec:=cB (kC (hH 2048 2048) kN) (fun _=>.int .i64 0) fun a=>[ec a.1,∀i,i<a.1.m→0<(a.1.f i).d]
theorem Za:∀K args pre r,Na K args pre=some r→aA P Bo K args pre r:=cj fun⟨c,_⟩ K hn=>by
 obtain⟨⟨h1,h2,h3,h4,h5⟩,hw⟩:ec c∧_:=hn
 have hl:=h1.len
 refine bJ (r:=aH (.int .i64 0) []) hT aaU hm TV rfl (of_decide_eq_true (by kernel_rfl)) rfl 60 aeA (fun _=>?_) K []
 have hc0:gm c.n c.k c.p=0:=by have:=h1.KH (by omega) h4;rwa [Int.toNat_of_nonneg (by omega)]at this
 simp only[aa.all,ax]
 (repeat' with_reducible refine And.intro ?_ ?_)
 all_goals first|omega|exact ct (by decide)|exact gO (by decide)|exact hw|exact bne_eq_false_iff_eq.2 hc0|exact bne_eq_false_iff_eq.2 h5|exact .inl trivial|exact .inr trivial|trivial|exact .refl _|skip
end Go.Am.B

/- ref10.Check. -/
namespace Go.Am.B
open Go Go.Am.N AV aa ak IntKind
end Go.Am.B

/- brepkernelmade: Knots. -/
namespace Go.Am.B
open Go Go.Am.N AV aa ak IntKind
theorem Jl:aP P yB wK (au wK):=aQ XM (by kernel_rfl) (by kernel_rfl) (by kernel_rfl)
def nZ:aS:=nG::(oE,iy uy)::(nu,y7)::(pO,x8)::pI
abbrev kB (n:Nat) (z:Nat→Int) (a:Int):ah:=iR n (fun i=>.int .i64 (z i)) a
abbrev tO (t:Rat):ah:=⟨false,true,3,1,fun _=>.rat t 64⟩
abbrev S1 (m:Nat) (k:Nat→Rat):ah:=⟨true,true,3,m,fun i=>.rat (k i) 64⟩
abbrev qv:List Nat:=[0,1,2,7,8,9]
abbrev Dx (p m:Int) (v:AV) (i:Int):List AV:=[.ptr 0 0 2 0 [],.int .i64 p,.int .i64 m,.ptr 1 0 3 0 [],v,.int .i64 i]
noncomputable abbrev wV:Code:=au wK
noncomputable abbrev yJ:Code:=part wV [1,1,1,1]
noncomputable abbrev ur:Code:=part yJ [1]
abbrev xE:List Nat:=[0,1,7,8,10]
abbrev zn:List Nat:=[0,1,7,8,11]
abbrev rR (p:Int) (l:Nat) (i:Int):List AV:=[.ptr 0 0 2 0 [],.int .i64 p,.ptr 1 0 3 0 [],.own 2 3 0 l,.int .i64 i]
abbrev lZ (n:Nat) (z:Nat→Int) (a:Int) (t:Rat) (l:Nat) (k:Nat→Rat):aC:=[(2,S1 l k),(1,tO t),(0,kB n z a)]
theorem aiJ {n:Nat} {z:Nat→Int} {a p m:Int}:aJ T nZ [] 60 qv (before wV [1,1,1,0,1]) ⟨aN 0 [.ptr 0 0 2 0 [],.int .i64 p,.int .i64 m],[(0,kB n z a)],1⟩=
  let c2:Int:=(2:Int)^63;let c1:Int:=cS n (fun i↦int i64 (z i)) a (4:Int)-(2:Int);some (ag [cM n (fun i↦int i64 (z i)) a,(0:Int)<(4:Int),(4:Int)<(2:Int)^62,-c2≤c1∧c1<c2,-c2≤c1,c1<c2,(0:Nat)<1] (leaf normal ([ptr 0 0 2 0 [],int i64 p,int i64 m,ptr 20481 0 3 0 [],nil,int i64 (0:Int)],[((20481:Nat),ah.mk false true 3 1 fun j↦if(j==0)=true then aT (rat (↑c1:Rat) (Max.max 1 (bu c1.natAbs)))else rat 0 1),((0:Nat),ah.mk false true 2 1 fun x↦agg [aj 1 n fun i↦int i64 (z i),int i64 (bA n a)])]))):=by kernel_rfl
theorem ahu {n:Nat} {z:Nat→Int} {a p m:Int} {t:Rat}:aJ T nZ [18] 60 qv [part wV [1,1,1,0,1,0,0]] ⟨aB qv (Dx p m .nil 0),[(1,tO t),(0,kB n z a)],3⟩=
  let c3:AV:=ptr 1 0 3 0 [];let c2:AV:=ptr 0 0 2 0 [];let c1:List (Nat×ah):=[((1:Nat),ah.mk false true 3 1 fun x↦rat t 64),((0:Nat),ah.mk false true 2 1 fun x↦agg [aj 1 n fun i↦int i64 (z i),int i64 a])];some (fork (decide ((0:Int)≤p)) (ag [(0:Nat)<1,(1:Nat)*3≤2^24,(0:Nat)<1∧1*((56:Nat)+1)*2≤2^47] (ag [-(2:Int)^63≤(0:Int)+(1:Int)∧(0:Int)+(1:Int)<(2:Int)^63] (leaf normal ([c2,int i64 p,int i64 m,c3,own 24579 3 0 1,int i64 (1:Int)],((24579:Nat),ah.mk true true 3 1 fun i↦nth [rat t 64] (rat 0 1) (i+0))::c1)))) (leaf (exit 0) ([c2,int i64 p,int i64 m,c3,nil,int i64 (0:Int)],c1))):=by kernel_rfl
theorem X7 {n j:Nat} {z:Nat→Int} {a p m:Int} {t:Rat} {k:Nat→Rat}:aJ T nZ [18] 60 qv [part wV [1,1,1,0,1,0,0]] ⟨aB qv (Dx p m (.own 2 3 0 (j+1)) ((j+1:Nat):Int)),lZ n z a t (j+1) k,3⟩=
  let c4:AV:=ptr 1 0 3 0 [];let c3:AV:=ptr 0 0 2 0 [];let c2:Nat:=j+1;let c1:List (Nat×ah):=[((1:Nat),ah.mk false true 3 1 fun x↦rat t 64),((0:Nat),ah.mk false true 2 1 fun x↦agg [aj 1 n fun i↦int i64 (z i),int i64 a])];let c7:Nat:=c2+1;let c6:Int:=(↑c2:Int);let c5:Int:=c6+(1:Int);some (fork (decide (c6≤p)) (ag [(0:Nat)<1,(1:Nat)*3≤2^24,c7*((56:Nat)+1)*2≤2^47] (ag [-(2:Int)^63≤c5∧c5<(2:Int)^63] (leaf normal ([c3,int i64 p,int i64 m,c4,own 24579 3 0 c7,int i64 c5],((24579:Nat),ah.mk true true 3 c7 fun i↦if i<c2 then rat (k i) 64 else nth [rat t 64] (rat 0 1) (i-c2+0))::c1)))) (leaf (exit 0) ([c3,int i64 p,int i64 m,c4,own 2 3 0 c2,int i64 c6],((2:Nat),ah.mk true true 3 c2 fun i↦rat (k i) 64)::c1))):=by kernel_rfl
theorem acH {n j:Nat} {z:Nat→Int} {a p m:Int} {t:Rat} {k:Nat→Rat}:aJ T nZ [] 60 xE (before yJ [0,1]) ⟨aB qv (Dx p m (.own 2 3 0 (j+1)) ((j+1:Nat):Int)),lZ n z a t (j+1) k,3⟩=
  let c1:Int:=m+(1:Int);some (ag [-(2:Int)^63≤c1∧c1<(2:Int)^63,cM n (fun i↦int i64 (z i)) a,(0:Int)<c1,c1<(2:Int)^62] (leaf normal ([ptr 0 0 2 0 [],int i64 p,ptr 1 0 3 0 [],own 2 3 0 (j+1),int i64 (cS n (fun i↦int i64 (z i)) a c1)],[((2:Nat),ah.mk true true 3 (j+1) fun i↦rat (k i) 64),((1:Nat),ah.mk false true 3 1 fun x↦rat t 64),((0:Nat),ah.mk false true 2 1 fun x↦agg [aj 1 n fun i↦int i64 (z i),int i64 (bA n a)])]))):=by kernel_rfl
theorem ai4 {n l:Nat} {z:Nat→Int} {a p i:Int} {t:Rat} {k:Nat→Rat}:aJ T nZ [30,38,43,53] 60 xE [part yJ [0,1,0,0]] ⟨aB xE (rR p l i),lZ n z a t l k,3⟩=
  let c40:Int:=i-(1:Int);let c39:Nat:=64+64+1;let c35:AV:=rat t 64;let c34:AV:=rat 0 1;let c33:Int:=bA n a;let c31:Nat:=l+1;let c30:Prop:=(0:Int)<(3:Int);let c28:Prop:=cM n (fun i↦int i64 (z i)) a;let c27:Int:=(↑l:Int);let c25:AV:=ptr 1 0 3 0 [];let c24:AV:=ptr 0 0 2 0 [];let c23:Prop:=0<1;let c21:Int:=(2:Int)^62;let c20:AV:=aj 1 n fun i↦int i64 (z i);let c18:Int:=p+(1:Int);let c16:Prop:=64<2^41;let c7:Int:=cS n (fun i↦int i64 (z i)) a (3:Int);let c5:Int:=(2:Int)^63;let c43:Int:=bA n c33;let c41:Bool:=c27==c18;let c38:Prop:=cM n (fun i↦int i64 (z i)) c33;let c37:Prop:=(3:Int)<c21;let c32:Prop:=-c5≤c18∧c18<c5;let c29:Int:=(1:Int)+c7;let c26:Nat×ah:=((1:Nat),ah.mk false true 3 1 fun x↦c35);let c22:Bool:=bif false then true else decide (c7>(0:Int));let c19:List Prop:=[-c5≤c40∧c40<c5];let c17:Nat:=(c27-p).toNat+0;let c15:Nat×ah:=((106499:Nat),ah.mk true true 3 c31 fun i↦if i<l then rat (k i) 64 else nth [c35] c34 (i-l+0));let c13:List AV:=[c24,int i64 p,c25,own 147459 3 0 c31,int i64 c40];let c12:List AV:=[c24,int i64 p,c25,own 106499 3 0 c31,int i64 c40];let c10:Int:=(1:Int)+cS n (fun i↦int i64 (z i)) c33 (2:Int);let c9:Int:=(1:Int)+cS n (fun i↦int i64 (z i)) c33 (3:Int);let c6:List Prop:=[c23,(1:Nat)*3≤2^24,c31*((56:Nat)+1)*2≤2^47];let c42:Rat:=(↑c29:Rat)/(↑c10:Rat);let c36:Bool:=bif false then true else decide (t=k c17);let c14:List (Nat×ah):=[c26,((0:Nat),ah.mk false true 2 1 fun x↦agg [c20,int i64 a])];let c11:List Prop:=[c23,-c5≤c27-p∧c27-p<c5,(0:Int)≤c27-p∧(c27-p).toNat<l,c17<l,c16,c16];let c8:Int:=(1:Int)+cS n (fun i↦int i64 (z i)) c43 (2:Int);let c3:aa (List AV×aC):=ag c6 (ag c19 (leaf normal (c12,[c15,c26,((0:Nat),ah.mk false true 2 1 fun x↦agg [c20,int i64 c33])])));let c44:Rat:=(↑c9:Rat)/(↑c8:Rat);let c4:aa (List AV×aC):=ag c6 (ag c19 (leaf normal (c12,c15::c14)));let c2:aa (List AV×aC):=ag [c23,c28,c30,c37,-c5≤c29∧c29<c5,c38,(0:Int)<(2:Int),(2:Int)<c21,-c5≤c10∧c10<c5,-c5≤c29,c29<c5,-c5≤c10,c10<c5,c16,c16,c23] (ag c6 (ag c19 (leaf normal (c13,[((147459:Nat),ah.mk true true 3 c31 fun i↦if i<l then rat (k i) 64 else nth [rat (t+c42) c39] c34 (i-l+0)),((1:Nat),ah.mk false true 3 1 fun j↦if(j==0)=true then aT (lH (t,(64:Nat)) (c42,(64:Nat)))else c35),((0:Nat),ah.mk false true 2 1 fun x↦agg [c20,int i64 c43])]))));let c1:aa (List AV×aC):=ag [c23,c38,c30,c37,-c5≤c9∧c9<c5,cM n (fun i↦int i64 (z i)) c43,(0:Int)<(2:Int),(2:Int)<c21,-c5≤c8∧c8<c5,-c5≤c9,c9<c5,-c5≤c8,c8<c5,c16,c16,c23] (ag c6 (ag c19 (leaf normal (c13,[((147459:Nat),ah.mk true true 3 c31 fun i↦if i<l then rat (k i) 64 else nth [rat (t+c44) c39] c34 (i-l+0)),((1:Nat),ah.mk false true 3 1 fun j↦if(j==0)=true then aT (lH (t,(64:Nat)) (c44,(64:Nat)))else c35),((0:Nat),ah.mk false true 2 1 fun x↦agg [c20,int i64 (bA n c43)])]))));some (fork (decide (i>(0:Int))) (fork c41 (fork true (ag [c32,c41=true,true=true] (fork true c2 c4)) (ag (c32::(c41=true)::(true=false)::c11) (fork c36 c2 c4))) (fork c22 (ag [c32,c41=false,c28,c30,c37,c22=true] (fork true c1 c3)) (ag (c32::(c41=false)::c28::c30::c37::(c22=false)::c11) (fork c36 c1 c3)))) (leaf (exit 2) ([c24,int i64 p,c25,own 2 3 0 l,int i64 i],((2:Nat),ah.mk true true 3 l fun i↦rat (k i) 64)::c14))):=by kernel_rfl
theorem Us {n l:Nat} {z:Nat→Int} {a p i:Int} {t:Rat} {k:Nat→Rat}:aJ T nZ [] 60 zn (before ur [1,0,1]) ⟨aB xE (rR p l i),lZ n z a t l k,3⟩=
  let c1:Nat:=Max.max 1 (bu (Int.natAbs (1:Int)));some (ag [(0:Nat)<1,-(2:Int)^63≤(1:Int),(1:Int)<(2:Int)^63,(64:Nat)<2^41,c1<2^41,(0:Nat)<1] (leaf normal ([ptr 0 0 2 0 [],int i64 p,ptr 1 0 3 0 [],own 2 3 0 l,int i64 (0:Int)],[((2:Nat),ah.mk true true 3 l fun i↦rat (k i) 64),((1:Nat),ah.mk false true 3 1 fun j↦if(j==0)=true then aT (lH (t,(64:Nat)) ((↑(1:Int):Rat),c1))else rat t 64),((0:Nat),ah.mk false true 2 1 fun x↦agg [aj 1 n fun i↦int i64 (z i),int i64 a])]))):=by kernel_rfl
theorem aeG {n l:Nat} {z:Nat→Int} {a p i:Int} {t:Rat} {k:Nat→Rat}:aJ T nZ [72] 60 zn [part ur [1,0,1,0,0]] ⟨aB zn (rR p l i),lZ n z a t l k,3⟩=
  let c3:AV:=ptr 1 0 3 0 [];let c2:AV:=ptr 0 0 2 0 [];let c1:List (Nat×ah):=[((1:Nat),ah.mk false true 3 1 fun x↦rat t 64),((0:Nat),ah.mk false true 2 1 fun x↦agg [aj 1 n fun i↦int i64 (z i),int i64 a])];some (fork (decide (i≤p)) (ag [(0:Nat)<1,(1:Nat)*3≤2^24,(l+1)*((56:Nat)+1)*2≤2^47] (ag [-(2:Int)^63≤i+(1:Int)∧i+(1:Int)<(2:Int)^63] (leaf normal ([c2,int i64 p,c3,own 24579 3 0 (l+1),int i64 (i+(1:Int))],((24579:Nat),ah.mk true true 3 (l+1) fun i↦if i<l then rat (k i) 64 else nth [rat t 64] (rat 0 1) (i-l+0))::c1)))) (leaf (exit 4) ([c2,int i64 p,c3,own 2 3 0 l,int i64 i],((2:Nat),ah.mk true true 3 l fun i↦rat (k i) 64)::c1))):=by kernel_rfl
theorem ach {n l:Nat} {z:Nat→Int} {a p i:Int} {t:Rat} {k:Nat→Rat}:DH T nZ [] 60 wK [part ur [1,1]] ⟨aB zn (rR p l i),lZ n z a t l k,3⟩=
  some (leaf ret ([aj 3 l fun i↦rat (k (i+0)) 64],some (ah.mk false true 2 1 fun x↦agg [aj 1 n fun i↦int i64 (z i),int i64 a]))):=by kernel_rfl
structure rY where
 k:Nat→Rat
 t:Rat
 a:Int
def qR (n:Nat) (f:Nat→AV) (t:Rat) (a:Int):Rat:=t+((1+cS n f a 3:Int):Rat)/((1+cS n f (bA n a) 2:Int):Rat)
def rI (n:Nat) (f:Nat→AV) (p j:Nat) (s:rY):rY:=
 if j=0∨0<cS n f s.a 3∨s.t=s.k (j+1)then
  ⟨kE s.k (p+1+j) (qR n f s.t (if j=0 then s.a else bA n s.a)),qR n f s.t (if j=0 then s.a else bA n s.a),bA n (bA n (if j=0 then s.a else bA n s.a))⟩
 else⟨kE s.k (p+1+j) s.t,s.t,if j=0 then s.a else bA n s.a⟩
def oN (n:Nat) (f:Nat→AV) (p:Nat) (s0:rY):Nat→rY
 |0=>s0
 |j+1=>rI n f p j (oN n f p s0 j)
def oK (n:Nat) (f:Nat→AV) (a:Int):rY:=⟨fun _=>((cS n f a 4-2:Int):Rat),((cS n f a 4-2:Int):Rat),bA n (bA n a)⟩
def jt (n:Nat) (f:Nat→AV) (a:Int) (m:Nat):Nat:=(cS n f (bA n a) (m+1)).toNat
def BE (n:Nat) (f:Nat→AV) (a:Int) (p m:Nat):rY:=oN n f p (oK n f a) (jt n f a m)
def nc (n:Nat) (f:Nat→AV) (a:Int) (p m:Nat):Nat:=2*p+2+jt n f a m
def kW (n:Nat) (f:Nat→AV) (a:Int) (p m:Nat):Nat→Rat:=lK p (jt n f a m) (BE n f a p m).k (BE n f a p m).t
def qC (n:Nat) (f:Nat→AV) (a:Int) (p m:Nat):Int:=(BE n f a p m).a
theorem xV {n:Nat} {f:Nat→AV} {a:Int} {p:Nat} (hd:cM n f a) (hp:1≤p):∀j,KG p j (oN n f p (oK n f a) j).k (oN n f p (oK n f a) j).t∧cM n f (oN n f p (oK n f a) j).a
 |0=>by
  have h1:=gR (n:=n) (f:=f) (a:=a) (m:=4) (by omega)
  have h2:=iq (n:=n) (f:=f) (a:=a) (m:=4) (by omega)
  exact⟨KG.start hp (by omega) (by omega),hd.next.next⟩
 |j+1=>by
  obtain⟨h1,h2⟩:=xV hd hp j
  unfold oN rI qR
  generalize oN n f p (oK n f a) j=s at*
  obtain⟨k,t,b⟩:=s
  simp only at h1 h2 ⊢
  have hb:cM n f (if j=0 then b else bA n b):=by split;exact h2;exact h2.next
  generalize (if j=0 then b else bA n b)=a1 at*
  split
  ·have x1:=gR (n:=n) (f:=f) (a:=a1) (m:=3) (by omega)
   have x2:=iq (n:=n) (f:=f) (a:=a1) (m:=3) (by omega)
   have y1:=gR (n:=n) (f:=f) (a:=bA n a1) (m:=2) (by omega)
   have y2:=iq (n:=n) (f:=f) (a:=bA n a1) (m:=2) (by omega)
   refine⟨h1.next (.inl ?_),hb.next.next⟩
   generalize cS n f a1 3=x at*
   generalize cS n f (bA n a1) 2=y at*
   have key:∃z:Int,((1+x:Int):Rat)/((1+y:Int):Rat)=(z:Rat)/2∧1≤z∧z≤6:=by
    rcases(show y=0∨y=1 by omega)with h|h
    ·subst h
     refine⟨2*(1+x),?_,by omega,by omega⟩
     have:((2*(1+x):Int):Rat)=2*((1+x:Int):Rat):=by simp
     rw[this]
     generalize ((1+x:Int):Rat)=w
     simp;grind
    ·subst h
     exact⟨1+x,by simp,by omega,by omega⟩
   obtain⟨z,e,z1,z2⟩:=key
   rw[e]
   refine⟨?_,z,rfl,z2⟩
   have:(1:Rat)≤(z:Rat):=by exact_mod_cast z1
   grind
  ·rename_i hc
   have hc1:¬j=0:=fun h=>hc (.inl h)
   have hc2:¬t=k (j+1):=fun h=>hc (.inr (.inr h))
   exact⟨h1.next (.inr ⟨rfl,by omega,hc2⟩),hb⟩
theorem Pc {z:Int} (h1:-2^63≤z) (h2:z<2^63):Sz ((z:Rat)/2) 64:=by
 have:=KT h1 h2 (y:=2) (by omega) (by omega) (by omega)
 simpa using this
theorem KG.sz {p j:Nat} {k:Nat→Rat} {t:Rat} (h:KG p j k t) (hj:j<2^50):Sz t 64:=by
 obtain⟨z,e,h1,h2⟩:=h.half (p+j) (Nat.le_refl _)
 rw[h.top]at e
 rw[e]
 exact Pc (by omega) (by omega)
theorem acD {J j:Nat} (h:j<J):((J-j:Nat):Int)-1=((J-(j+1):Nat):Int):=by omega
theorem E3 {rl:List (Nat×Nat)} {l i:Nat} {k k':Nat→Rat} {t:Rat} {s:Nat} (hk:k'=kE k l t) (ht:Sz t 64) (hi:i<l+1):fu rl (if i<l then .rat (k i) 64 else nth [.rat t s] (.rat 0 1) (i-l+0)) (.rat (k' i) 64):=by
 subst hk
 by_cases h:i<l
 ·rw[if_pos h,kY (by omega)];exact aE rfl rfl
 ·have:i=l:=by omega
  subst this
  rw[if_neg h,tq,Nat.sub_self]
  exact .inr ⟨rfl,ey rfl ht⟩
theorem By:aY P nZ:=cK (aG CJ (aG B9 (aG BN qp)))
theorem afb {k n p m:Nat} {z:Nat→Int} {a:Int} {o:ah} (ho:∀ρ,cI ρ o (kB n z a)) (h:cM n (fun i=>.int .i64 (z i)) a) (hp:1≤p) (hp2:p<1000) (hm2:m<1000) (K:Nat):
  aA P yB K [.ptr k 0 2 0 [],.int .i64 p,.int .i64 m] [(k,o)] ⟨bp (kW n (fun i=>.int .i64 (z i)) a p m) (nc n (fun i=>.int .i64 (z i)) a p m) 64,[(k,kB n z (qC n (fun i=>.int .i64 (z i)) a p m))],[]⟩:=by
 refine Ka hT Jl rfl rfl (of_decide_eq_true (by kernel_rfl)) ho (fun _ c hk=>?_) K
 have a1:=gR (n:=n) (f:=fun i=>.int .i64 (z i)) (a:=a) (m:=4) (by omega)
 have a2:=iq (n:=n) (f:=fun i=>.int .i64 (z i)) (a:=a) (m:=4) (by omega)
 have b1:=gR (n:=n) (f:=fun i=>.int .i64 (z i)) (a:=bA n a) (m:=m+1) (by omega)
 have b2:=iq (n:=n) (f:=fun i=>.int .i64 (z i)) (a:=bA n a) (m:=m+1) (by omega)
 have hS:=xV h hp
 unfold qC kW nc BE at*
 obtain⟨J,hJ⟩:∃J,J=jt n (fun i=>.int .i64 (z i)) a m:=⟨_,rfl⟩
 have hJ2:cS n (fun i=>.int .i64 (z i)) (bA n a) (m+1)=(J:Int):=by rw[hJ];unfold jt;omega
 rw[←hJ]at*
 have hJ3:J<1000:=by omega
 obtain⟨S,hSd⟩:∃S,S=oN n (fun i=>.int .i64 (z i)) p (oK n (fun i=>.int .i64 (z i)) a):=⟨_,rfl⟩
 have h00:S 0=oK n (fun i=>.int .i64 (z i)) a:=by rw[hSd];rfl
 have hS1:∀j,S (j+1)=rI n (fun i=>.int .i64 (z i)) p j (S j):=fun j=>by rw[hSd];rfl
 rw[←hSd]at hS ⊢
 clear hSd hJ
 obtain⟨t0,ht0⟩:∃t0:Rat,t0=((cS n (fun i=>.int .i64 (z i)) a 4-2:Int):Rat):=⟨_,rfl⟩
 unfold oK at h00
 rw[←ht0]at h00
 have hs0:Sz t0 64:=by have:=(hS 0).1.sz (by omega);rw[h00]at this;exact this
 refine aq.jC hT By hm [1,1,1,0,1] (i:=0) (y:=part wV [1,1,1,0,1,0,0]) (z:=yJ) (by kernel_rfl) (by kernel_rfl) (by kernel_rfl) Jl.dst hk (f1:=[]) (f2:=[18]) 60 qv 3
  (fun j:Nat=>Dx p m (match j with
   |0=>.nil
   |_+1=>.own 2 3 0 j) j) (fun j=>match j with
   |0=>[(1,tO t0),(0,kB n z (bA n a))]
   |_+1=>lZ n z (bA n a) t0 j (fun _=>t0)) (fun j=>j≤p+1) (fun j=>j=p+1) (fun j=>p+1-j) (fun _=>False) ⟨_,aiJ,?_⟩ (fun j hj=>?_) (fun j hj=>?_) (fun _ _ h=>h.elim)
 ·simp only[aa.all,ax]
  refine⟨⟨h,by omega,by omega,by omega,by omega,by omega,by omega⟩,0,by omega,[(0,0),(1,20481)],rfl,rfl,rfl,aF rfl rfl (.inr ⟨rfl,?_⟩) (aF rfl rfl (aE rfl rfl) trivial)⟩
  rw[←ht0]
  exact ey rfl hs0
 ·cases j with
  |zero=>
   refine⟨_,ahu,?_⟩
   simp only[aa.all,ax,decide_eq_true_eq,decide_eq_false_iff_not]
   refine⟨fun _=>⟨by omega,by omega,1,by omega,by dsimp only;omega,[(0,0),(1,1),(2,24579)],rfl,rfl,rfl,bB rfl rfl rfl (fun i hi=>?_) (aF rfl rfl (aE rfl rfl) (aF rfl rfl (aE rfl rfl) trivial))⟩,fun h=>by omega⟩
   have:i=0:=by omega
   subst this
   exact aE rfl rfl
  |succ j=>
   refine⟨_,X7,?_⟩
   simp only[aa.all,ax,decide_eq_true_eq,decide_eq_false_iff_not]
   refine⟨fun _=>⟨by omega,by omega,j+2,by omega,by dsimp only;omega,[(0,0),(1,1),(2,24579)],rfl,rfl,rfl,bB rfl rfl rfl (fun i hi=>E3 (by funext i;unfold kE;split<;>rfl) hs0 hi) (aF rfl rfl (aE rfl rfl) (aF rfl rfl (aE rfl rfl) trivial))⟩,
    fun _=>⟨rfl,j+1,by omega,[(0,0),(1,1),(2,2)],rfl,rfl,rfl,bB rfl rfl rfl (fun i hi=>aE rfl rfl) (aF rfl rfl (aE rfl rfl) (aF rfl rfl (aE rfl rfl) trivial))⟩⟩
 subst hj
 refine aq.jC hT By hm [0,1] (i:=2) (y:=part yJ [0,1,0,0]) (z:=ur) (by kernel_rfl) (by kernel_rfl) (by kernel_rfl) (by kernel_rfl) hk (f1:=[]) (f2:=[30,38,43,53]) 60 xE 3
  (fun j:Nat=>rR p (p+1+j) ((J-j:Nat):Int)) (fun j=>lZ n z (S j).a (S j).t (p+1+j) (S j).k) (fun j=>j≤J) (fun j=>j=J) (fun j=>J-j) (fun _=>False) ⟨_,acH,?_⟩ (fun j hj=>?_) (fun j hj=>?_) (fun _ _ h=>h.elim)
 ·simp only[aa.all,ax]
  rw[hJ2]
  refine⟨⟨by omega,h.next,by omega,by omega⟩,0,by omega,[(0,0),(1,1),(2,2)],rfl,rfl,rfl,?_⟩
  dsimp only
  rw[h00]
  exact bB rfl rfl rfl (fun i hi=>aE rfl rfl) (aF rfl rfl (aE rfl rfl) (aF rfl rfl (aE rfl rfl) trivial))
 ·refine⟨_,ai4,?_⟩
  have hj1:=hS1 j
  obtain⟨hg,hd⟩:=hS j
  have hs1:∀{j},j<2000→Sz (S j).t 64:=fun hj=>(hS _).1.sz (by omega)
  have hsj:=hs1 (j:=j) (by omega)
  have hsj1:=hs1 (j:=j+1) (by omega)
  have e1:(((p+1+j:Nat):Int)-(p:Int)).toNat+0=j+1:=by omega
  simp only[aa.all,ax,decide_eq_true_eq,decide_eq_false_iff_not,beq_iff_eq,beq_eq_false_iff_ne,e1,cond_false]
  have v3:=fun a=>And.intro (gR (n:=n) (f:=fun i=>.int .i64 (z i)) (a:=a) (m:=3) (by omega)) (iq (n:=n) (f:=fun i=>.int .i64 (z i)) (a:=a) (m:=3) (by omega))
  have v2:=fun a=>And.intro (gR (n:=n) (f:=fun i=>.int .i64 (z i)) (a:=a) (m:=2) (by omega)) (iq (n:=n) (f:=fun i=>.int .i64 (z i)) (a:=a) (m:=2) (by omega))
  have q1:=v3 (S j).a
  have q2:=v3 (bA n (S j).a)
  have q3:=v2 (bA n (S j).a)
  have q4:=v2 (bA n (bA n (S j).a))
  refine⟨fun hi=>?_,fun hi=>⟨rfl,j,by omega,[(0,0),(1,1),(2,2)],rfl,rfl,rfl,bB rfl rfl rfl (fun i hi=>aE rfl rfl) (aF rfl rfl (aE rfl rfl) (aF rfl rfl (aE rfl rfl) trivial))⟩⟩
  have hlt:j<J:=by omega
  have fin:∀(key:Nat) (t:Rat) (s s2:Nat) (b:Int) (g:Nat→AV),S (j+1)=⟨kE (S j).k (p+1+j) t,t,b⟩→g 0=.rat t s2→(gP 3 [(0,0),(1,1),(2,key)])=true→(key==1)=false→(key==0)=false→
    Round [0] (fun j=>rR p (p+1+j) ((J-j:Nat):Int)) (fun j=>lZ n z (S j).a (S j).t (p+1+j) (S j).k) 3 (fun j=>j≤J) (fun j=>j=J) (fun j=>J-j) 2 (fun _=>False) j normal
     ([ptr 0 0 2 0 [],int i64 p,ptr 1 0 3 0 [],own key 3 0 (p+1+j+1),int i64 (((J-j:Nat):Int)-1)],[(key,⟨true,true,3,p+1+j+1,fun i=>if i<p+1+j then .rat ((S j).k i) 64 else nth [.rat t s] (.rat 0 1) (i-(p+1+j)+0)⟩),(1,⟨false,true,3,1,g⟩),(0,kB n z b)]):=by
   intro key t s s2 b g e1 e2 e3 hk1 hk0
   rw[e1]at hsj1
   refine⟨j+1,by omega,by dsimp only;omega,[(0,0),(1,1),(2,key)],by rw[e3];rfl,by rw[acD hlt];rfl,rfl,?_⟩
   dsimp only
   rw[e1]
   exact bB rfl uU rfl (fun i hi=>E3 rfl hsj1 hi) (aF rfl ((FC hk1).trans rfl) (.inr ⟨by rw[e2];rfl,by rw[e2];exact ey rfl hsj1⟩) (aF rfl ((FC hk0).trans rfl) (aE rfl rfl) trivial))
  refine⟨fun hl=>?_,fun hl=>⟨fun hc=>?_,fun hc=>?_⟩⟩
  all_goals (repeat' with_reducible first|refine And.intro ?_ ?_|intro _)
  all_goals first|omega|exact hd|exact hd.next|exact hd.next.next|skip
  all_goals try exact absurd ‹true=false› (by decide)
  ·refine fin 147459 _ _ _ _ _ ?_ rfl rfl rfl rfl
   rw[hj1];unfold rI qR
   have hj0:j=0:=by omega
   rw[if_pos (.inl hj0),if_pos hj0]
  ·refine fin 147459 _ _ _ _ _ ?_ rfl rfl rfl rfl
   rw[hj1];unfold rI qR
   have hj0:j≠0:=by omega
   rw[if_pos (.inr (.inl hc)),if_neg hj0]
  ·refine fin 147459 _ _ _ _ _ ?_ rfl rfl rfl rfl
   rw[hj1];unfold rI qR
   have hj0:j≠0:=by omega
   rename_i hk
   rw[if_pos (.inr (.inr hk)),if_neg hj0]
  ·refine fin 106499 _ _ _ _ _ ?_ rfl rfl rfl rfl
   rw[hj1];unfold rI qR
   have hj0:j≠0:=by omega
   rename_i hk
   rw[if_neg (by simp only[hj0,hk,or_false,false_or];omega),if_neg hj0]
 subst hj
 have hs1:Sz ((S j).t+1) 64:=by
  obtain⟨z,e,h1,h2⟩:=(hS j).1.ME (p+1+j)
  unfold lK at e
  rw[if_neg (by omega)]at e
  rw[e];exact Pc (by omega) (by omega)
 refine aq.jC hT By hm [1,0,1] (i:=4) (y:=part ur [1,0,1,0,0]) (z:=part ur [1,1]) (by kernel_rfl) (by kernel_rfl) (by kernel_rfl) (by kernel_rfl) hk (f1:=[]) (f2:=[72]) 60 zn 3
  (fun i:Nat=>rR p (p+1+j+i) i) (fun i=>lZ n z (S j).a ((S j).t+1) (p+1+j+i) (lK p j (S j).k (S j).t)) (fun i=>i≤p+1) (fun i=>i=p+1) (fun i=>p+1-i) (fun _=>False) ⟨_,Us,?_⟩ (fun i hi=>?_) (fun i hi=>?_) (fun _ _ h=>h.elim)
 ·simp only[aa.all,ax]
  refine⟨⟨by omega,by omega,by omega,by omega,by decide,by omega⟩,0,by omega,[(0,0),(1,1),(2,2)],rfl,rfl,rfl,bB rfl rfl rfl (fun i hi=>?_) (aF rfl rfl (.inr ⟨rfl,ey rfl hs1⟩) (aF rfl rfl (aE rfl rfl) trivial))⟩
  refine aE rfl ?_
  unfold lK
  rw[if_pos (by omega)]
 ·refine⟨_,aeG,?_⟩
  simp only[aa.all,ax,decide_eq_true_eq,decide_eq_false_iff_not]
  refine⟨fun _=>⟨by omega,by omega,i+1,by omega,by dsimp only;omega,[(0,0),(1,1),(2,24579)],rfl,rfl,rfl,bB rfl rfl rfl (fun i hi=>E3 ?_ hs1 hi) (aF rfl rfl (aE rfl rfl) (aF rfl rfl (aE rfl rfl) trivial))⟩,
   fun _=>⟨rfl,i,by omega,[(0,0),(1,1),(2,2)],rfl,rfl,rfl,bB rfl rfl rfl (fun i hi=>aE rfl rfl) (aF rfl rfl (aE rfl rfl) (aF rfl rfl (aE rfl rfl) trivial))⟩⟩
  funext x
  unfold kE lK
  split
  ·rename_i hx;rw[if_neg (by omega)]
  ·split<;>rfl
 ·subst hi
  refine aq.jJ (aD.Lm hT By hm 60 ach (by kernel_rfl) ⟨?_,_,rfl,rfl,nV rfl rfl⟩)
  exact lg (by omega) fun _ _=>rfl
def Ej (n:Nat) (f:Nat→AV) (a:Int) (l:List AV):Option (AV×Int×List Prop):=match l with
 |[.int .i64 p,.int .i64 m]=>some (bp (kW n f a p.toNat m.toNat) (nc n f a p.toNat m.toNat) 64,qC n f a p.toNat m.toNat,[1≤p,p<1000,0≤m,m<1000])
 |_=>none
theorem ada:∀K args pre r,iy Ej K args pre=some r→aA P yB K args pre r:=by
 refine tI fun {k n z a l v b q o} K hg ho hd hq=>?_
 unfold Ej at hg
 split at hg
 ·rename_i p m
  simp only[Option.some.injEq,Prod.mk.injEq]at hg
  obtain⟨rfl,rfl,rfl⟩:=hg
  obtain⟨h1,h2,h3,h4⟩:=hq
  have h4:m<1000:=h4
  have:=afb (k:=k) (p:=p.toNat) (m:=m.toNat) ho hd (by omega) (by omega) (by omega) K
  rw[Int.toNat_of_nonneg (by omega),Int.toNat_of_nonneg h3]at this
  exact this
 ·simp at hg
end Go.Am.B

/- brepkernelmade: Number. -/
namespace Go.Am.B
open Go Go.Am.N AV
end Go.Am.B

/- law09: made, at. -/
namespace Go.Am.B
open Go Go.Am.N AV aa ak IntKind
end Go.Am.B

/- ref02.Text of a few numbers; law09.awake. -/
namespace Go.Am.B
open Go Go.Am.N AV aa ak IntKind
def sP:aS:=[sG,(ug,EF)]
theorem acg:aY P sP:=nO (aG KD bq)
theorem Kn.congr {n p:Nat} {k k':Nat→Rat} (h:Kn n p k) (e:∀i,i<n→k i=k' i):Kn n p k':=by
 have hp:=h.p1
 have hl:=h.len
 refine⟨h.p1,h.len,fun i hi=>?_,fun i hi=>?_,fun i h1 h2=>?_,fun i h1 h2=>?_⟩
 ·rw[←e i (by omega),←e (i+1) hi];exact h.sorted i hi
 ·rw[←e i (by omega),←e 0 (by omega)];exact h.first i hi
 ·rw[←e i h2,←e (n-1) (by omega)];exact h.last i h1 h2
 ·rw[←e i (by omega),←e (i+p) (by omega)];exact h.mult i h1 h2
theorem XG {f:Nat→Rat} (h:∀i,i<6→f i=lK 2 0 (fun _=>((0:Int):Rat)) ((0:Int):Rat) i):Kn 6 2 f:=
 ((KG.start (p:=2) (by omega) (z:=0) (by omega) (by omega)).done:Kn (2*2+2+0) 2 _).congr fun i hi=>(h i hi).symm
end Go.Am.B

/- shapes, vector, ref14: by the evaluator; law14.awake. -/
namespace Go.Am.B
open Go Go.Am.N AV aa ak IntKind
end Go.Am.B

/- law10.awake. -/
namespace Go.Am.B
open Go Go.Am.N AV aa ak IntKind
theorem adt:aP P z7 v7 (au v7):=aQ VX (by kernel_rfl) (by kernel_rfl) (by kernel_rfl)
def IY:Spec:=bE fun l=>match l with
 |[.mag 2]=>some (aH (.str [50]) [])
 |[.mag 3]=>some (aH (.str [51]) [])
 |[.mag 4]=>some (aH (.str [52]) [])
 |[.mag 5]=>some (aH (.str [53]) [])
 |_=>none
def u7:aS:=[sG,(xU,IY)]
def M6:Spec:=bE fun l=>match l with
 |[.rat q _]=>match decide (q=3/5),decide (q=4/5),decide (q=3/2)with
  |true,_,_=>some (aH (.str [51,47,53]) [])
  |false,true,_=>some (aH (.str [52,47,53]) [])
  |false,false,true=>some (aH (.str [51,47,50]) [])
  |_,_,_=>none
 |_=>none
noncomputable def Mz:aS:=sG::(BO,MY)::(o5,Nx)::(Bo,Na)::(KQ,kZ T (sG::nX) [] 200 KU)::(pO,x8)::(xb,M6)::nX
theorem abp:bC T sP [] 60 jL (au jL) ⟨aN 0 [.mag 2],[],0⟩=
  let c1:Int:=(↑(1:Nat):Int);some (ag [nl 2<2^40,(0:Int)<(1000000000:Int),(1000000000:Int)<(2:Int)^32] (ag [(10:Int)≠(0:Int),(0:Nat)<1∧1*((1:Nat)+1)*2≤2^47] (ag [(10:Int)≠(0:Int)] (ag [(0:Int)≤c1∧c1≤c1∧c1≤(2:Int)^47∧c1*c1≤(2:Int)^47] (leaf ret [str [UInt8.ofNat (u8.wrap (u32.wrap ((48:Int)+(↑((2:Nat)%Int.toNat (1000000000:Int)):Int).tmod (10:Int)))).toNat]]))))):=by kernel_rfl
theorem adf:bC T sP [] 60 jL (au jL) ⟨aN 0 [.mag 3],[],0⟩=
  let c1:Int:=(↑(1:Nat):Int);some (ag [nl 3<2^40,(0:Int)<(1000000000:Int),(1000000000:Int)<(2:Int)^32] (ag [(10:Int)≠(0:Int),(0:Nat)<1∧1*((1:Nat)+1)*2≤2^47] (ag [(10:Int)≠(0:Int)] (ag [(0:Int)≤c1∧c1≤c1∧c1≤(2:Int)^47∧c1*c1≤(2:Int)^47] (leaf ret [str [UInt8.ofNat (u8.wrap (u32.wrap ((48:Int)+(↑((3:Nat)%Int.toNat (1000000000:Int)):Int).tmod (10:Int)))).toNat]]))))):=by kernel_rfl
theorem Xu:bC T sP [] 60 jL (au jL) ⟨aN 0 [.mag 4],[],0⟩=
  let c1:Int:=(↑(1:Nat):Int);some (ag [nl 4<2^40,(0:Int)<(1000000000:Int),(1000000000:Int)<(2:Int)^32] (ag [(10:Int)≠(0:Int),(0:Nat)<1∧1*((1:Nat)+1)*2≤2^47] (ag [(10:Int)≠(0:Int)] (ag [(0:Int)≤c1∧c1≤c1∧c1≤(2:Int)^47∧c1*c1≤(2:Int)^47] (leaf ret [str [UInt8.ofNat (u8.wrap (u32.wrap ((48:Int)+(↑((4:Nat)%Int.toNat (1000000000:Int)):Int).tmod (10:Int)))).toNat]]))))):=by kernel_rfl
theorem aj7:bC T sP [] 60 jL (au jL) ⟨aN 0 [.mag 5],[],0⟩=
  let c1:Int:=(↑(1:Nat):Int);some (ag [nl 5<2^40,(0:Int)<(1000000000:Int),(1000000000:Int)<(2:Int)^32] (ag [(10:Int)≠(0:Int),(0:Nat)<1∧1*((1:Nat)+1)*2≤2^47] (ag [(10:Int)≠(0:Int)] (ag [(0:Int)≤c1∧c1≤c1∧c1≤(2:Int)^47∧c1*c1≤(2:Int)^47] (leaf ret [str [UInt8.ofNat (u8.wrap (u32.wrap ((48:Int)+(↑((5:Nat)%Int.toNat (1000000000:Int)):Int).tmod (10:Int)))).toNat]]))))):=by kernel_rfl
theorem Q0:bC T u7 [] 60 lG (au lG) ⟨aN 0 [.agg [.bool false,.mag 3,.mag 5]],[],0⟩=
  some (leaf ret [str [(51:UInt8),(47:UInt8),(53:UInt8)]]):=by kernel_rfl
theorem QO:bC T u7 [] 60 lG (au lG) ⟨aN 0 [.agg [.bool false,.mag 4,.mag 5]],[],0⟩=
  some (leaf ret [str [(52:UInt8),(47:UInt8),(53:UInt8)]]):=by kernel_rfl
theorem Z8:bC T u7 [] 60 lG (au lG) ⟨aN 0 [.agg [.bool false,.mag 3,.mag 2]],[],0⟩=
  some (leaf ret [str [(51:UInt8),(47:UInt8),(50:UInt8)]]):=by kernel_rfl
theorem ZX:bC T Mz [100024,100028,100032,100038,100044,100050] 200 v7 (au v7) ⟨aN 0 [],[],0⟩=
  let c10:Rat:=(↑(1:Int):Rat)/(↑(2:Int):Rat);let c9:Int:=(2:Int)^63;let c8:List UInt8:=[(47:UInt8),(53:UInt8)];let c6:AV:=agg [AV.bool (decide ((0:Rat)<0)),mag (↑(nat_lit 0):Int).natAbs,mag (if 1=1 then 0 else 1)];let c5:AV:=rat 0 1;let c4:AV:=rat (↑(1:Int):Rat) (Max.max 1 (bu (Int.natAbs (1:Int))));let c7:AV:=agg [agg [c5,c5,c5],c5];let c3:List AV:=[agg [agg [c4,c5,c5],c4],agg [agg [c4,c4,c5],c4],agg [agg [c6,c4,c5],rat (↑(2:Int):Rat) (Max.max 1 (bu (Int.natAbs (2:Int))))]];let c2:List AV:=[c6,c6,c6,c4,c4,c4];let c1:Cu:=Cu.mk (2:Int) 6 (fun i↦aO (nth c2 c5 (i+0))) 3 fun i↦fA (nth c3 c7 (i+0));some (ag [(0:Nat)<1] (ag [-c9≤(1:Int),(1:Int)<c9,-c9≤(2:Int),(2:Int)<c9] (ag [bK (fun i↦nth c2 c5 (i+0)) 6 sJ,fo (fun i↦nth c3 c7 (i+0)) 3 sJ,(64:Nat)≤sK,ec c1] (ag [bK (fun i↦nth c2 c5 (i+0)) 6 2000,fo (fun i↦nth c3 c7 (i+0)) 3 2000,(64:Nat)≤2000,ec c1] (ag [bK (fun i↦nth c2 c5 (i+0)) 6 2048,fo (fun i↦nth c3 c7 (i+0)) 3 2048,ec c1,∀(i:Nat),i<3→0<(fA (nth c3 c7 (i+0))).d,((0:Int)==(0:Int))=true,(bif true then eW 6 (fun i↦aO (nth c2 c5 (i+0))) c10==(0:Int)else false)=true,(bif true then cr c1 c10==(0:Int)else false)=true,(bif true then(51:UInt8)::c8==(51:UInt8)::c8 else false)=true,(bif true then(52:UInt8)::c8==(52:UInt8)::c8 else false)=true,(bif true then(↑((6:Nat)+1-Int.toNat (2:Int)-1):Int)==(4:Int)else false)=true] (leaf ret [AV.bool true])))))):=by kernel_rfl
theorem aaK:∀K args pre r,IY K args pre=some r→aA P xU K args pre r:=by
 refine bV fun K args r hk hs _=>?_
 have fin:∀{N:Nat} {t:aa (List AV)} {l:List UInt8},bC T sP [] 60 jL (au jL) ⟨aN 0 [.mag N],[],0⟩=some t→(t.all fun _ us=>dL us (.str l))→aA P xU K [.mag N] [] (aH (.str l) []):=fun h1 h2=>
  bJ (r:=aH _ []) hT acg hm TT rfl (of_decide_eq_true (by kernel_rfl)) rfl 60 h1 (fun _=>h2) K []
 split at hs<;>simp only[Option.some.injEq,reduceCtorEq]at hs
 all_goals subst hs
 ·exact fin abp (by simp only[aa.all,ax];exact⟨by decide,by decide,by decide,by decide,.refl _⟩)
 ·exact fin adf (by simp only[aa.all,ax];exact⟨by decide,by decide,by decide,by decide,.refl _⟩)
 ·exact fin Xu (by simp only[aa.all,ax];exact⟨by decide,by decide,by decide,by decide,.refl _⟩)
 ·exact fin aj7 (by simp only[aa.all,ax];exact⟨by decide,by decide,by decide,by decide,.refl _⟩)
theorem St:aY P u7:=nO (aG aaK bq)
theorem W5:∀K args pre r,M6 K args pre=some r→aA P xb K args pre r:=by
 refine bV fun K args r hk hs _=>?_
 have fin:∀{q:Rat} {n a b:Nat} {t:aa (List AV)} {l:List UInt8},kids (.rat q n)=[.bool false,.mag a,.mag b]→bC T u7 [] 60 lG (au lG) ⟨aN 0 [.agg [.bool false,.mag a,.mag b]],[],0⟩=some t→(t.all fun _ us=>dL us (.str l))→aA P xb K [.rat q n] [] (aH (.str l) []):=fun h0 h1 h2=>
  fO (bJ (r:=aH _ []) hT St hm Rj rfl (of_decide_eq_true (by kernel_rfl)) rfl 60 h1 (fun _=>h2) K []) rfl (show eC [_] [_]from⟨by rw[←h0];exact Ji,trivial⟩) []
 split at hs
 ·rename_i q n
  split at hs
  all_goals simp only[Option.some.injEq,reduceCtorEq]at hs
  all_goals subst hs
  ·obtain rfl:q=3/5:=of_decide_eq_true ‹_›
   exact fin (by kernel_rfl) Q0 (.refl _)
  ·obtain rfl:q=4/5:=of_decide_eq_true ‹decide (q=4/5)=true›
   exact fin (by kernel_rfl) QO (.refl _)
  ·obtain rfl:q=3/2:=of_decide_eq_true ‹decide (q=3/2)=true›
   exact fin (by kernel_rfl) Z8 (.refl _)
 ·simp at hs
theorem WG:aY P Mz:=nO (aG afV (aG aa9 (aG Za (aG (mC hT (nO oR) hm (aQ Vw (by kernel_rfl) (by kernel_rfl) (by kernel_rfl)) _ _) (aG BN (aG W5 oR))))))
theorem adZ (K:Nat):aA P z7 K [] [] (aH (.bool true) []):=by
 refine bJ (r:=aH (.bool true) []) hT WG hm adt rfl (of_decide_eq_true (by kernel_rfl)) rfl 200 ZX (fun _=>?_) K []
 have hR:∀s,4≤s→bK (fun i=>nth [.agg [AV.bool (decide ((0:Rat)<0)),mag (↑(nat_lit 0):Int).natAbs,mag (if 1=1 then 0 else 1)],.agg [AV.bool (decide ((0:Rat)<0)),mag (↑(nat_lit 0):Int).natAbs,mag (if 1=1 then 0 else 1)],.agg [AV.bool (decide ((0:Rat)<0)),mag (↑(nat_lit 0):Int).natAbs,mag (if 1=1 then 0 else 1)],.rat (↑(1:Int):Rat) (Max.max 1 (bu (Int.natAbs (1:Int)))),.rat (↑(1:Int):Rat) (Max.max 1 (bu (Int.natAbs (1:Int)))),.rat (↑(1:Int):Rat) (Max.max 1 (bu (Int.natAbs (1:Int))))] (.rat 0 1) (i+0)) 6 s:=fun s hs i hi=>by
  obtain⟨s,rfl⟩:∃s',s=s'+1:=⟨s-1,by omega⟩
  match i,hi with
  |0,_|1,_|2,_=>exact lR
  |3,_|4,_|5,_=>exact fe (Nat.le_trans (by decide) hs)
 simp only[aa.all,ax]
 (repeat' with_reducible first|refine And.intro ?_ ?_)
 all_goals first|omega|decide|exact hR _ (by decide)|skip
 all_goals first|decide+kernel|exact .refl _|skip
 all_goals first|refine⟨XG fun i hi=>?_,by decide,by decide,by decide,by decide⟩|intro i hi
 all_goals first
  |match i,hi with
   |0,_|1,_|2,_|3,_|4,_|5,_=>decide+kernel
  |match i,hi with
   |0,_|1,_|2,_=>decide+kernel
  |skip
 all_goals match i,hi with
  |0,_|1,_=>exact cC ⟨cC ⟨fe (by decide),fe (by decide),fe (by decide),trivial⟩,fe (by decide),trivial⟩
  |2,_=>exact cC ⟨cC ⟨lR,fe (by decide),fe (by decide),trivial⟩,fe (by decide),trivial⟩
def IV:Spec:=bE fun l=>match l with
 |[]=>some (aH (.bool true) [])
 |_=>none
theorem Ru:∀K args pre r,IV K args pre=some r→aA P z7 K args pre r:=by
 refine bV fun K args r hk hs _=>?_
 split at hs
 ·simp only[Option.some.injEq]at hs
  subst hs
  exact fun need=>adZ K need
 ·simp at hs
end Go.Am.B

/- surface: transposed, alongU. -/
namespace Go.Am.B
open Go Go.Am.N AV aa ak IntKind
end Go.Am.B

/- ref12.Check. -/
namespace Go.Am.B
open Go Go.Am.N AV aa ak IntKind
structure vv (s:Sf):Prop where
 ku:Kn s.a s.u.toNat s.ku
 kv:Kn s.b s.v.toNat s.kv
 u0:0≤s.u
 u6:s.u≤6
 v0:0≤s.v
 v6:s.v≤6
 a:s.a≤s.u.toNat+41
 b:s.b≤s.v.toNat+41
 n:(s.n:Int)=(s.a:Int)-s.u-1
 m:(s.m:Int)=(s.b:Int)-s.v-1
 w:∀i j,i<s.n→j<s.m→0<(s.f i j).d
end Go.Am.B

/- surface: closures over rows, rectangular, sound. -/
namespace Go.Am.B
open Go Go.Am.N AV aa ak IntKind
end Go.Am.B

/- surface: iso, Eval, IsoU. -/
namespace Go.Am.B
open Go Go.Am.N AV aa ak IntKind
end Go.Am.B
