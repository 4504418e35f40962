/- slices.Insert of one number uI a list of just its capacity; gl.Insert, ref08.Insert. -/
import Derived.Test.YtppeigelbecpbaaGreatY38
import Derived.Test.YtppeigelbecpbaaGreatY37
import Derived.Test.YtppeigelbecpbaaGreatB33
import Derived.Test.YtppeigelbecpbaaGreatZ2
set_option linter.unusedVariables false
namespace Go.Am.B
open Go Go.Am.N AV aa ak IntKind
theorem ajZ {c:Nat} {u v:AV} (hv:v.isAgg=false) (h:bw u v):bw (.bF c u) (.bF c v):=by
 refine⟨rfl,fun M w cs hc=>?_⟩
 cases hc with
 |bF _ h1 h2=>cases h2;exact .bF hv (h.2 _ _ _ h1) .nil
def ajB (s:Nat):Kind (Nat×(Nat→Rat)):=⟨fun v=>match v with
 |.bF c v=>match(kL s).read v with
  |some (a,q)=>some (a,(c=a.1)::q)
  |none=>none
 |_=>none,fun a=>.bF a.1 (bq a.2 a.1 s),fun {v a q} h hq=>by
  split at h
  ·split at h
   ·rename_i h1
    simp only[Option.some.injEq,Prod.mk.injEq]at h
    obtain⟨rfl,rfl⟩:=h
    obtain⟨q1,q2⟩:=BR.1 hq
    subst q1
    exact ajZ rfl ((kL s).ok h1 q2)
   ·simp at h
  ·simp at h⟩
abbrev Cp:FuncId:=LR
noncomputable abbrev BL:Func:=Py
def cy (k:Nat→Rat) (t:Rat):Nat→Nat
 |0=>0
 |n+1=>if cy k t n=n∧k n≤t then n+1 else cy k t n
def cF (k:Nat→Rat) (t:Rat) (p j:Nat):Rat:=if j<p then k j else if j=p then t else k (j-1)
abbrev zk:List Nat:=[3,9,10,11]
abbrev EP (n:Nat) (k:Nat→Rat) (s i:Nat):List AV:=[.bF n (.own 0 3 0 i),bq k n s,.int .i64 n,.int .i64 i]
abbrev DR:aS:=cG::gb
abbrev AA:List Nat:=[0,3,5]
abbrev FZ (n:Nat) (k:Nat→Rat) (s i:Nat):List AV:=[bq k n s,.ptr 0 0 3 0 [],.int .i64 i]
noncomputable abbrev wA:Code:=au Al
def QD (w:Nat):Spec:=cD (kC (ajB w) (kC kI (kC (kL w) kN))) (fun a=>bq (cF a.1.2 (a.2.2.1.2 0) a.2.1.toNat) (a.1.1+1) w) fun a=>[0≤a.2.1,a.2.1≤a.1.1,a.2.2.1.1=1,a.1.1<2^40]
def OK (s w:Nat):Spec:=cD (kC (kL s) kN) (fun a=>.bF a.1.1 (bq a.1.2 a.1.1 w)) fun a=>[a.1.1<2^40]
def Dd (s w:Nat):aS:=cG::(pM,OK s w)::(Cp,QD w)::gb
abbrev An:List Nat:=[0,3,5,6,7]
abbrev tf (n:Nat) (k:Nat→Rat) (s m i:Nat) (b:Bool):List AV:=[bq k n s,.ptr 0 0 3 0 [],.own 1 3 0 m,.bool b,.int .i64 i]
noncomputable abbrev wh:Code:=au yH
theorem abR:aP P Cp BL (au BL):=aQ aaE (by kernel_rfl) (by kernel_rfl) (by kernel_rfl)
theorem abd:aP P pY Al (au Al):=aQ Rg (by kernel_rfl) (by kernel_rfl) (by kernel_rfl)
theorem Xz:aP P zf yH (au yH):=aQ ahH (by kernel_rfl) (by kernel_rfl) (by kernel_rfl)
theorem agc {n i s:Nat} {k:Nat→Rat} {t:Rat}:bC T [cG] [22,100031] 60 BL (au BL) ⟨aN 0 [.bF n (bq k n s),.int .i64 i,bq (fun _=>t) 1 s],[],0⟩=
  let c11:Nat:=Int.toNat (0:Int);let c9:Int:=(↑n:Int);let c7:Int:=(2:Int)^63;let c4:Int:=(↑i:Int);let c14:Nat:=c4.toNat-c11;let c13:Prop:=(0:Int)≤c4;let c12:Nat:=0+c4.toNat;let c3:Int:=c9+(↑(1:Nat):Int);let c2:Int:=c4+(↑(1:Nat):Int);let c10:Nat:=0+c2.toNat;let c1:Nat:=c14+(c3-c4).toNat;let c8:Int:=(↑c1:Int);let c6:Nat:=c12+Min.min 1 (c8.toNat-c4.toNat);let c5:Nat:=c10+Min.min (c9.toNat-c4.toNat) (c8.toNat-c2.toNat);some (ag [c13∧c4≤c9∧c9≤c9] (fork (c4==c9) (ag [n<n+1∧(n+1)*((56:Nat)+1)*2≤2^47] (leaf ret [aj 3 (n+1) fun i↦if i+0<n then rat (k (i+0)) s else rat t s])) (ag [-c7≤c3∧c3<c7] (ag [decide (c3>c9)=true] (ag [(0:Int)≤(0:Int)∧c13∧c4≤c9,-c7≤c3∧c3<c7,-c7≤c3-c4∧c3-c4<c7,(0:Int)<c3-c4∧n-c11<c1∧c1*((56:Nat)+1)*2≤2^47] (ag [c13∧c4≤c8∧c8≤c8∧c8≤c8] (ag [-c7≤c2∧c2<c7,(0:Int)≤c2∧c2≤c8∧c8≤c8∧c8≤c8,c13∧c4≤c9∧c9≤c9] (leaf ret [aj 3 c1 fun i↦if c10≤i+0∧i+0<c5 then rat (k (i+0-c10+c4.toNat)) s else if c12≤i+0∧i+0<c6 then rat t s else if i+0<c14 then rat (k (i+0+c11)) s else rat 0 1])))))))):=by kernel_rfl
theorem Uz {n s:Nat} {k:Nat→Rat}:aJ T DR [] 60 zk (before mH [1,1,0,1]) ⟨aN 0 [bq k n s],[],0⟩=
  let c1:Int:=(↑n:Int);some (ag [(0:Int)≤(0:Int)∧(0:Int)≤c1∧c1≤(2:Int)^47∧c1*(↑(56:Nat):Int)≤(2:Int)^47] (leaf normal ([bF c1.toNat (own 12288 3 0 0),aj 3 n fun i↦rat (k i) s,int i64 c1,int i64 (0:Int)],[((12288:Nat),ah.mk true true 3 0 fun x↦rat 0 1)]))):=by kernel_rfl
theorem Tn {n i s w:Nat} {k x:Nat→Rat}:aJ T DR [12] 60 zk [part mH [1,1,0,1,0,0]] ⟨aB zk (EP n k s i),[(0,mc i x w)],1⟩=
  let c5:Int:=(↑n:Int);let c3:Nat:=i+1;let c2:AV:=aj 3 n fun i↦rat (k i) s;let c1:Int:=(↑i:Int);let c4:Int:=c1+(1:Int);some (fork (decide (c1<c5)) (ag [(0:Int)≤c1∧c1.toNat<n,(0:Nat)<1] (ag [(0:Nat)<1,s<2^42,(1:Nat)<2^42,(1:Nat)*3≤2^24,c3≤n,c3*((56:Nat)+1)*2≤2^47] (ag [-(2:Int)^63≤c4∧c4<(2:Int)^63] (leaf normal ([bF n (own 40961 3 0 c3),c2,int i64 c5,int i64 c4],[((40961:Nat),ah.mk true true 3 c3 fun i_1↦if i_1<i then rat (x i_1) w else nth [rat (k c1.toNat+0) (s+1+1)] (rat 0 1) (i_1-i+0))]))))) (leaf (exit 0) ([bF n (own 0 3 0 i),c2,int i64 c5,int i64 c1],[((0:Nat),ah.mk true true 3 i fun i↦rat (x i) w)]))):=by kernel_rfl
theorem ZQ {n i s w:Nat} {k x:Nat→Rat}:bY T DR [] 60 z8 [part mH [1,1,1]] ⟨aB zk (EP n k s i),[(0,mc i x w)],1⟩=
  some (leaf ret [bF n (aj 3 i fun i↦rat (x (i+0)) w)]):=by kernel_rfl
theorem ade {n s r w:Nat} {k:Nat→Rat} {t:Rat}:aJ T (Dd s w) [] 60 AA (before wA [1,1,0]) ⟨aN 0 [bq k n s,.rat t r],[],0⟩=
  some (leaf normal ([aj 3 n fun i↦rat (k i) s,ptr 0 0 (aT (rat t r)).size 0 [],int i64 (0:Int)],[((0:Nat),ah.mk false true (aT (rat t r)).size 1 fun x↦rat t r)])):=by kernel_rfl
theorem abN {n i s r w:Nat} {k:Nat→Rat} {t:Rat}:aJ T (Dd s w) [10,18] 60 AA [part wA [1,1,0,0,0]] ⟨aB AA (FZ n k s i),[(0,tP t r)],1⟩=
  let c7:AV:=aj 3 n fun i↦rat (k i) s;let c5:AV:=ptr 0 0 3 0 [];let c4:Nat×ah:=((0:Nat),ah.mk false true 3 1 fun x↦rat t r);let c3:Int:=(↑i:Int);let c8:Int:=c3+(1:Int);let c6:Bool:=decide (c3<(↑n:Int));let c2:aa (List AV×aC):=leaf (exit 0) ([c7,c5,int i64 c3],[c4]);let c1:aa (List AV×aC):=ag [-(2:Int)^63≤c8∧c8<(2:Int)^63] (leaf normal ([c7,c5,int i64 c8],[c4]));some (fork c6 (ag [c6=true,(0:Int)≤c3∧c3.toNat<n,(0:Nat)<1,s<2^42,r<2^42] (fork (bif true then decide (dc (k c3.toNat) t≤(0:Int))else false) c1 c2)) (ag [c6=false] (fork false c1 c2))):=by kernel_rfl
theorem ZG {n i s r w:Nat} {k:Nat→Rat} {t:Rat}:bY T (Dd s w) [] 60 Al [part wA [1,1,1]] ⟨aB AA (FZ n k s i),[(0,tP t r)],1⟩=
  let c3:AV:=rat 0 1;let c2:Prop:=n<2^40;let c1:AV:=rat (t+0) (r+1+1);some (ag [bK (fun i↦rat (k i) s) n s,c2,(0:Nat)<1,r<2^42,(1:Nat)<2^42,(1:Nat)*3≤2^24,n=n,bK (fun i↦rat (aO (rat (k i) s)) w) n w,bK (fun i↦nth [c1] c3 (i+0)) 1 w,(0:Int)≤(↑i:Int),(↑i:Int)≤(↑n:Int),(1:Nat)=1,c2] (leaf ret [aj 3 (n+1) fun i_1↦rat (cF (fun i↦aO (rat (aO (rat (k i) s)) w)) (aO (nth [c1] c3 ((0:Nat)+0))) (↑i:Int).toNat i_1) w])):=by kernel_rfl
theorem ad5 {n s r:Nat} {k:Nat→Rat} {t:Rat}:aJ T DS [] 60 An (before wh [1,1,1,0,1]) ⟨aN 0 [bq k n s,.rat t r],[],0⟩=
  some (leaf normal ([aj 3 n fun i↦rat (k i) s,ptr 0 0 (aT (rat t r)).size 0 [],nil,AV.bool false,int i64 (0:Int)],[((0:Nat),ah.mk false true (aT (rat t r)).size 1 fun x↦rat t r)])):=by kernel_rfl
theorem Xe {n s r w m i:Nat} {b:Bool} {k x:Nat→Rat} {t:Rat}:aJ T DS [11,16,24] 60 An [part wh [1,1,1,0,1,0,0]] ⟨aB An (tf n k s m i b),[(1,mc m x w),(0,tP t r)],2⟩=
  let c12:AV:=rat 0 1;let c11:Prop:=1*3≤2^24;let c9:AV:=aj 3 n fun i↦rat (k i) s;let c7:Nat:=m+1;let c6:AV:=ptr 0 0 3 0 [];let c5:Nat×ah:=((0:Nat),ah.mk false true 3 1 fun x↦rat t r);let c3:Int:=(↑i:Int);let c15:Rat:=k c3.toNat;let c14:Nat:=c7+1;let c13:Int:=c3+(1:Int);let c10:Prop:=(0:Int)≤c3∧c3.toNat<n;let c4:List Prop:=[c11,c7*((56:Nat)+1)*2≤2^47];let c8:Prop:=-(2:Int)^63≤c13∧c13<(2:Int)^63;let c2:aa (List AV×aC):=ag (c10::c4) (ag [c8] (leaf normal ([c9,c6,own 86018 3 0 c7,AV.bool b,int i64 c13],[((86018:Nat),ah.mk true true 3 c7 fun i↦if i<m then rat (x i) w else nth [rat c15 s] c12 (i-m+0)),c5])));let c1:aa (List AV×aC):=ag (((0:Nat)<1)::c4) (ag [c10,c11,c14*((56:Nat)+1)*2≤2^47] (ag [c8] (leaf normal ([c9,c6,own 110594 3 0 c14,AV.bool true,int i64 c13],[((110594:Nat),ah.mk true true 3 c14 fun i↦if i<c7 then if i<m then rat (x i) w else nth [rat t r] c12 (i-m+0)else nth [rat c15 s] c12 (i-c7+0)),c5]))));some (fork (decide (c3<(↑n:Int))) (fork (!b) (ag [(!b)=true,(0:Nat)<1,c10,r<2^41,s<2^41] (fork (bif true then decide (dc t c15<(0:Int))else false) c1 c2)) (ag [(!b)=false] (fork false c1 c2))) (leaf (exit 0) ([c9,c6,own 1 3 0 m,AV.bool b,int i64 c3],[((1:Nat),ah.mk true true 3 m fun i↦rat (x i) w),c5]))):=by kernel_rfl
theorem RM {n s r w m i:Nat} {b:Bool} {k x:Nat→Rat} {t:Rat}:bY T DS [37] 60 yH [part wh [1,1,1,1]] ⟨aB An (tf n k s m i b),[(1,mc m x w),(0,tP t r)],2⟩=
  some (fork (!b) (ag [(0:Nat)<1,(1:Nat)*3≤2^24,(m+1)*((56:Nat)+1)*2≤2^47] (leaf ret [aj 3 (m+1) fun i↦if i+0<m then rat (x (i+0)) w else nth [rat t r] (rat 0 1) (i+0-m+0)])) (leaf ret [aj 3 m fun i↦rat (x (i+0)) w])):=by kernel_rfl
theorem ID {Γ:aS} (h:aW P Γ):aW P (cG::Γ):=aH (fun _ _ _ _ h=>nomatch h) h
theorem Ju {a b:Rat}:dc a b≤(0:Int)↔a≤b:=by
 have:=@qe a b
 constructor
 ·intro h
  exact Rat.not_lt.1 fun h'=>by have:=qe.2 h';omega
 ·intro h
  have:¬dc a b>0:=fun h'=>Rat.not_lt.2 h (qe.1 h')
  omega
theorem ET {k:Nat→Rat} {t:Rat}:∀{n:Nat},cy k t n≤n
 |0=>Nat.le_refl _
 |n+1=>by
  have:=ET (k:=k) (t:=t) (n:=n)
  unfold cy;split<;>omega
theorem HJ {k:Nat→Rat} {t:Rat} {n:Nat} (h:cy k t n=n) (h2:k n≤t):cy k t (n+1)=n+1:=by unfold cy;rw[if_pos ⟨h,h2⟩]
theorem HT {k:Nat→Rat} {t:Rat} {i:Nat} (h:cy k t i=i) (h2:t<k i):∀{n:Nat},i≤n→cy k t n=i
 |0,hn=>by
    have:i=0:=by omega
    subst this;rfl
 |n+1,hn=>by
  by_cases he:i=n+1
  ·subst he;exact h
  ·have ih:=HT h h2 (n:=n) (by omega)
   unfold cy
   rw[if_neg,ih]
   rintro⟨g1,g2⟩
   have:i=n:=by omega
   subst this
   exact absurd h2 (Rat.not_lt.2 g2)
theorem afq {n i s:Nat} {k:Nat→Rat} {t:Rat} (hi:i≤n) (hn:n<2^40) (K:Nat):aA P Cp K [.bF n (bq k n s),.int .i64 i,bq (fun _=>t) 1 s] [] (aG (bq (cF k t i) (n+1) s) []):=by
 refine bJ (r:=aG (bq (cF k t i) (n+1) s) []) hT (ID bp) hm abR rfl (of_decide_eq_true (by kernel_rfl)) rfl 60 agc (fun _=>?_) K []
 simp only[aa.all,ax,decide_eq_true_eq,decide_eq_false_iff_not]
 have w1:((1:Nat):Int)=1:=rfl
 simp only[w1,Int.toNat_natCast,Int.toNat_zero,Nat.sub_zero,Nat.zero_add,Nat.add_zero,beq_iff_eq,beq_eq_false_iff_ne,ne_eq,Int.ofNat_inj]
 refine⟨by omega,fun h=>⟨by omega,fT fun j hj=>cX ?_⟩,fun h=>?_⟩
 ·subst h
  unfold cF
  by_cases h1:j<i
  ·rw[if_pos h1,if_pos h1]
  ·rw[if_neg h1,if_neg h1,if_pos (by omega)]
 ·have eN:i+((n:Int)+1-i).toNat=n+1:=by omega
  have e2:((i:Int)+1).toNat=i+1:=by omega
  simp only[eN,e2]
  refine⟨by omega,by omega,by omega,by omega,by omega,fT fun j hj=>cX ?_⟩
  unfold cF
  by_cases h1:j<i
  ·rw[if_neg (by omega),if_neg (by omega),if_pos h1,if_pos h1]
  ·by_cases h2:j=i
   ·rw[if_neg (by omega),if_pos (by omega),if_neg h1,if_pos h2]
   ·rw[if_pos (by omega),if_neg h1,if_neg h2,show j-(i+1)+i=j-1 by omega]
theorem W4:aW P DR:=ID gY
theorem VN {n s w:Nat} {k:Nat→Rat} (h:s+2≤w) (hw:w<2^40) (hn:n<2^40) (K:Nat):aA P pM K [bq k n s] [] (aG (.bF n (bq k n w)) []):=by
 refine fD (r:=aG (.bF n (bq k n w)) []) hT W4 hm Fb rfl (of_decide_eq_true (by kernel_rfl)) rfl [1,1,0,1] (i:=0) (y:=part mH [1,1,0,1,0,0]) (z:=part mH [1,1,1]) (by kernel_rfl) (by kernel_rfl) (by kernel_rfl) (f1:=[]) (f2:=[12]) (f3:=[]) 60 zk 1
  (fun i:Nat=>EP n k s i) (fun i=>[(0,mc i k w)]) (fun i=>i≤n) (fun i=>i=n) (fun i=>n-i) (fun _=>⟨⟨_,Uz,?_⟩,fun i hi=>⟨_,Tn,?_⟩,fun i hi=>⟨_,ZQ,?_⟩⟩) K []
 ·simp only[aa.all,ax]
  exact⟨by omega,0,Nat.zero_le _,[(0,12288)],rfl,by rw[Int.toNat_natCast];rfl,rfl,bB rfl rfl rfl (fun j hj=>absurd hj (Nat.not_lt_zero j)) trivial⟩
 ·simp only[aa.all,ax,decide_eq_true_eq,decide_eq_false_iff_not,Int.toNat_natCast,Nat.add_zero]
  exact⟨fun h1=>⟨by omega,by omega,by omega,i+1,by omega,by dsimp only;omega,[(0,40961)],rfl,rfl,rfl,bB rfl rfl rfl (fun j hj=>jL (fun _ _=>rfl) (Rat.add_zero _) (Nat.le_refl _) (by omega) hj) trivial⟩,
   fun h1=>⟨rfl,i,by omega,[(0,0)],rfl,rfl,rfl,bB rfl rfl rfl (fun _ _=>aE rfl rfl) trivial⟩⟩
 ·subst hi
  simp only[aa.all,ax]
  exact .refl _
theorem agr {s w:Nat} (h:s+2≤w) (hw:w<2^40):∀K args pre r,OK s w K args pre=some r→aA P pM K args pre r:=cj fun⟨⟨n,k⟩,_⟩ K hn=>VN h hw hn K
theorem ahz {w:Nat}:∀K args pre r,QD w K args pre=some r→aA P Cp K args pre r:=cj fun⟨⟨n,k⟩,i,⟨m,g⟩,_⟩ K hn=>by
 obtain⟨h1,h2,h3,h4⟩:=hn
 simp only at h1 h2 h3 h4
 subst h3
 have:=fO (afq (k:=k) (t:=g 0) (s:=w) (i:=i.toNat) (n:=n) (by omega) h4 K) (args:=[.bF n (bq k n w),.int .i64 i,bq g 1 w]) rfl ⟨.refl _,bt (by omega),fT fun j hj=>cX (by rw[Nat.lt_one_iff.1 hj]),trivial⟩ []
 exact this
theorem afw {s w:Nat} (h:s+2≤w) (hw:w<2^40):aW P (Dd s w):=ID (aH (agr h hw) (aH ahz gY))
theorem Mr {n s r w:Nat} {k:Nat→Rat} {t:Rat} (h:s+2≤w) (h2:r+2≤w) (hw:w<2^40) (hn:n<2^40) (K:Nat):aA P pY K [bq k n s,.rat t r] [] (aG (bq (cF k t (cy k t n)) (n+1) w) []):=by
 refine fD (r:=aG (bq (cF k t (cy k t n)) (n+1) w) []) hT (afw h hw) hm abd rfl (of_decide_eq_true (by kernel_rfl)) rfl [1,1,0] (i:=0) (y:=part wA [1,1,0,0,0]) (z:=part wA [1,1,1]) (by kernel_rfl) (by kernel_rfl) (by kernel_rfl) (f1:=[]) (f2:=[10,18]) (f3:=[]) 60 AA 1
  (fun i:Nat=>FZ n k s i) (fun _=>[(0,tP t r)]) (fun i=>i≤n∧cy k t i=i) (fun i=>i≤n∧i=cy k t n) (fun i=>n-i) (fun _=>⟨⟨_,ade,?_⟩,fun i hi=>⟨_,abN,?_⟩,fun i hi=>⟨_,ZG,?_⟩⟩) K []
 ·simp only[aa.all,ax]
  exact⟨0,⟨Nat.zero_le _,rfl⟩,[(0,0)],rfl,rfl,rfl,aF rfl rfl (aE rfl rfl) trivial⟩
 ·simp only[aa.all,ax,decide_eq_true_eq,decide_eq_false_iff_not,Int.toNat_natCast]
  simp only[cond_true,decide_eq_true_eq,decide_eq_false_iff_not,Ju]
  exact⟨fun h1=>⟨⟨h1,by omega,by omega,by omega,by omega⟩,fun h2=>⟨by omega,i+1,⟨by omega,HJ hi.2 h2⟩,by dsimp only;omega,[(0,0)],rfl,rfl,rfl,aF rfl rfl (aE rfl rfl) trivial⟩,
    fun h2=>⟨rfl,i,⟨by omega,(HT hi.2 (Rat.not_le.1 h2) (by omega)).symm⟩,[(0,0)],rfl,rfl,rfl,aF rfl rfl (aE rfl rfl) trivial⟩⟩,
   fun h1=>⟨h1,fun h=>absurd h (by decide),fun _=>⟨rfl,i,⟨hi.1,by rw[show n=i by omega];exact hi.2.symm⟩,[(0,0)],rfl,rfl,rfl,aF rfl rfl (aE rfl rfl) trivial⟩⟩⟩
 ·obtain⟨hi,rfl⟩:=hi
  simp only[aa.all,ax]
  refine⟨⟨ct (Nat.le_refl _),by omega,by omega,by omega,by omega,by omega,trivial,ct (Nat.le_refl _),fun j hj=>?_,by omega,by omega,trivial,by omega⟩,fT fun j hj=>cX ?_⟩
  ·rw[Nat.lt_one_iff.1 hj];exact fe (by omega)
  ·show AV.rat (cF k (t+0) ((cy k t n:Nat):Int).toNat j) w=_
   rw[Rat.add_zero,Int.toNat_natCast]
theorem F8 {k:Nat→Rat} {t:Rat}:∀{n j:Nat},j<cy k t n→k j≤t
 |0,j,h=>by simp[cy]at h
 |n+1,j,h=>by
  unfold cy at h
  split at h
  ·rename_i g
   by_cases he:j=n
   ·subst he;exact g.2
   ·exact F8 (n:=n) (by omega)
  ·exact F8 h
theorem QJ {k:Nat→Rat} {t:Rat}:∀{n:Nat},cy k t n<n→t<k (cy k t n)
 |0,h=>by omega
 |n+1,h=>by
  by_cases he:cy k t n=n
  ·by_cases h2:k n≤t
   ·rw[HJ he h2]at h;omega
   ·have:cy k t (n+1)=n:=by rw[cy,if_neg (fun g=>h2 g.2),he]
    rw[this];exact Rat.not_le.1 h2
  ·have:cy k t (n+1)=cy k t n:=by rw[cy,if_neg (fun g=>he g.1)]
   rw[this]
   exact QJ (by have:=ET (k:=k) (t:=t) (n:=n);omega)
def ko (p i:Nat):Nat:=if i≤p then i else i+1
def pg (p i:Nat):Bool:=decide (p<i)
theorem rV {p i:Nat} (h:i≤p):ko p i=i∧pg p i=false:=⟨if_pos h,decide_eq_false (by omega)⟩
theorem vI {p i:Nat} (h:p<i):ko p i=i+1∧pg p i=true:=⟨if_neg (by omega),decide_eq_true h⟩
theorem Iy {n s r w p i m key:Nat} {b:Bool} {k:Nat→Rat} {t:Rat} {g:Nat→AV} (h1:gR 2 [(0,0),(1,key)]=true) (h2:(key==0)=false) (h3:m=ko p (i+1)) (h4:b=pg p (i+1)) (h5:∀j,j<m→fz [(0,0),(1,key)] (g j) (.rat (cF k t p j) w)):
  dN [] ([bq k n s,.ptr 0 0 3 0 [],.own key 3 0 m,.bool b,.int .i64 ((i:Int)+1)],[(key,⟨true,true,3,m,g⟩),(0,tP t r)]) (tf n k s (ko p (i+1)) (i+1) (pg p (i+1))) [(1,mc (ko p (i+1)) (cF k t p) w),(0,tP t r)] 2:=by
 subst h3 h4
 exact⟨[(0,0),(1,key)],by rw[h1];rfl,rfl,rfl,bB rfl tM rfl h5 (aF rfl ((Hj h2).trans tM) (aE rfl rfl) trivial)⟩
theorem R9 {n s r w:Nat} {k:Nat→Rat} {t:Rat} (h:s≤w) (h2:r≤w) (hw:w<2^40) (hn:n<2^40) (K:Nat):aA P zf K [bq k n s,.rat t r] [] (aG (bq (cF k t (cy k t n)) (n+1) w) []):=by
 obtain⟨p,hp⟩:∃p,cy k t n=p:=⟨_,rfl⟩
 have hpn:p≤n:=hp▸ET
 have hlt:∀j,j<p→k j≤t:=fun j hj=>F8 (hp▸hj)
 have hat:p<n→t<k p:=fun g=>by have:=QJ (k:=k) (t:=t) (n:=n) (by omega);rwa [hp]at this
 rw[hp]
 refine fD (r:=aG (bq (cF k t p) (n+1) w) []) hT abw hm Xz rfl (of_decide_eq_true (by kernel_rfl)) rfl [1,1,1,0,1] (i:=0) (y:=part wh [1,1,1,0,1,0,0]) (z:=part wh [1,1,1,1]) (by kernel_rfl) (by kernel_rfl) (by kernel_rfl) (f1:=[]) (f2:=[11,16,24]) (f3:=[37]) 60 An 2
  (fun i:Nat=>tf n k s (ko p i) i (pg p i)) (fun i=>[(1,mc (ko p i) (cF k t p) w),(0,tP t r)]) (fun i=>i≤n) (fun i=>i=n) (fun i=>n-i) (fun _=>⟨⟨_,ad5,?_⟩,fun i hi=>⟨_,Xe,?_⟩,fun i hi=>⟨_,RM,?_⟩⟩) K []
 ·simp only[aa.all,ax]
  refine⟨0,Nat.zero_le _,?_⟩
  show dN [] _ (tf n k s (ko p 0) 0 (pg p 0)) [(1,mc (ko p 0) (cF k t p) w),(0,tP t r)] 2
  rw[(rV (Nat.zero_le p)).1,(rV (Nat.zero_le p)).2]
  exact⟨[(0,0)],rfl,rfl,rfl,nT rfl (by omega) (by omega) (aF rfl rfl (aE rfl rfl) trivial)⟩
 ·simp only[aa.all,ax,decide_eq_true_eq,decide_eq_false_iff_not,Int.toNat_natCast,Nat.add_zero,cond_true,lG]
  have hx:¬(i:Int)<n→i=n:=fun h1=>by omega
  have ex:∀{b:Bool} {m:Nat},b=pg p i→m=ko p i→dN [] ([bq k n s,.ptr 0 0 3 0 [],.own 1 3 0 m,.bool b,.int .i64 i],[((1:Nat),mc m (cF k t p) w),(0,tP t r)]) (tf n k s (ko p i) i (pg p i)) [(1,mc (ko p i) (cF k t p) w),(0,tP t r)] 2:=fun {b m} hb hm'=>by
   subst hb hm'
   exact⟨[(0,0),(1,1)],rfl,rfl,rfl,bB rfl rfl rfl (fun _ _=>aE rfl rfl) (aF rfl rfl (aE rfl rfl) trivial)⟩
  rcases Nat.lt_trichotomy i p with hc|hc|hc
  ·obtain⟨e1,e2⟩:=rV (Nat.le_of_lt hc)
   obtain⟨e3,e4⟩:=rV (p:=p) (i:=i+1) hc
   rw[e1,e2]
   simp only[Bool.not_false]
   have hle:=hlt i hc
   exact⟨fun h1=>⟨fun _=>⟨⟨trivial,by omega,by omega,by omega,by omega⟩,fun h2=>absurd h2 (Rat.not_lt.2 hle),fun h2=>⟨by omega,by omega,i+1,by omega,by dsimp only;omega,Iy rfl rfl e3.symm e4.symm fun j hj=>jL (fun _ _=>rfl) (by unfold cF;rw[if_pos hc]) (Nat.le_refl _) h hj⟩⟩,fun h=>absurd h (by decide)⟩,fun h1=>by omega⟩
  ·subst hc
   obtain⟨e1,e2⟩:=rV (Nat.le_refl i)
   obtain⟨e3,e4⟩:=vI (p:=i) (i:=i+1) (by omega)
   rw[e1,e2]
   simp only[Bool.not_false]
   have hval:∀j,j<i+1+1→fz [(0,0),(1,110594)] (if j<i+1 then if j<i then rat (cF k t i j) w else nth [rat t r] (rat 0 1) (j-i)else nth [rat (k i) s] (rat 0 1) (j-(i+1))) (.rat (cF k t i j) w):=fun j hj=>by
    by_cases h1:j<i+1
    ·rw[if_pos h1]
     exact jL (x:=cF k t i) (y:=cF k t i) (fun _ _=>rfl) (by unfold cF;rw[if_neg (by omega),if_pos rfl]) (Nat.le_refl _) h2 h1
    ·have:j=i+1:=by omega
     subst this
     rw[if_neg h1,Nat.sub_self]
     exact .inr ⟨rfl,bG (by unfold cF;rw[if_neg (by omega),if_neg (by omega)];rfl) h⟩
   exact⟨fun h1=>⟨fun _=>⟨⟨trivial,by omega,by omega,by omega,by omega⟩,fun h2=>⟨by omega,by omega,by omega,i+1,by omega,by dsimp only;omega,Iy rfl rfl e3.symm e4.symm hval⟩,fun h2=>absurd (hat (by omega)) h2⟩,fun h=>absurd h (by decide)⟩,fun h1=>⟨rfl,i,by omega,ex e2.symm e1.symm⟩⟩
  ·obtain⟨e1,e2⟩:=vI hc
   obtain⟨e3,e4⟩:=vI (p:=p) (i:=i+1) (by omega)
   rw[e1,e2]
   simp only[Bool.not_true]
   exact⟨fun h1=>⟨fun h=>absurd h (by decide),fun _=>⟨trivial,fun h=>absurd h (by decide),fun _=>⟨by omega,by omega,i+1,by omega,by dsimp only;omega,Iy rfl rfl e3.symm e4.symm fun j hj=>jL (fun _ _=>rfl) (by unfold cF;rw[if_neg (by omega),if_neg (by omega)];rfl) (Nat.le_refl _) h hj⟩⟩⟩,fun h1=>⟨rfl,i,by omega,ex e2.symm e1.symm⟩⟩
 ·subst hi
  simp only[aa.all,ax,Nat.add_zero]
  by_cases hc:i=p
  ·subst hc
   rw[(rV (Nat.le_refl i)).1,(rV (Nat.le_refl i)).2]
   refine⟨fun _=>⟨by omega,fT fun j hj=>?_⟩,fun h=>absurd h (by decide)⟩
   by_cases h1:j<i
   ·rw[if_pos h1];exact .refl _
   ·have:j=i:=by omega
    subst this
    rw[if_neg h1,Nat.sub_self]
    exact bG (by unfold cF;rw[if_neg (by omega),if_pos rfl]) h2
  ·rw[(vI (show p<i by omega)).1,(vI (show p<i by omega)).2]
   exact⟨fun h=>absurd h (by decide),fun _=>.refl _⟩
def B5 (s w:Nat):Spec:=cD (kC (kL s) (kC (fq s) kN)) (fun a=>bq (cF a.1.2 a.2.1 (cy a.1.2 a.2.1 a.1.1)) (a.1.1+1) w) fun a=>[a.1.1<2^40]
theorem afA {s w:Nat} (h:s+2≤w) (hw:w<2^40):∀K args pre r,B5 s w K args pre=some r→aA P pY K args pre r:=cj fun⟨⟨n,k⟩,t,_⟩ K hn=>Mr h h hw hn K
theorem ady {s w:Nat} (h:s+2≤w) (hw:w<2^40):∀K args pre r,B5 s w K args pre=some r→aA P zf K args pre r:=cj fun⟨⟨n,k⟩,t,_⟩ K hn=>R9 (by omega) (by omega) hw hn K
end Go.Am.B

/- shapes.ints, ref14.ints. -/
namespace Go.Am.B
open Go Go.Am.N AV aa ak IntKind
end Go.Am.B

/- spline.Copied, shapes.clamped, shapes.Revolve. -/
namespace Go.Am.B
open Go Go.Am.N AV aa ak IntKind
theorem ah1:aP P wX wR (au wR):=aQ ahR (by kernel_rfl) (by kernel_rfl) (by kernel_rfl)
abbrev qM (y m:Nat) (k:Nat→Rat):ah:=⟨true,true,3,m,fun i=>.rat (k i) y⟩
noncomputable abbrev wM:Code:=au wR
abbrev AJ:List Nat:=[3,9,10,11]
abbrev FB (x n:Nat) (k:Nat→Rat) (i:Nat):List AV:=[.own 0 3 0 i,bq k n x,.int .i64 n,.int .i64 i]
noncomputable def Ct:aS:=nG::gb
theorem Q1 {x n:Nat} {k:Nat→Rat}:aJ T Ct [] 60 AJ (before wM [1,1,0,1]) ⟨aN 0 [bq k n x],[],0⟩=
  let c1:Int:=(↑n:Int);some (ag [(0:Int)≤(0:Int)∧(0:Int)≤c1∧c1≤(2:Int)^47∧c1*(↑(56:Nat):Int)≤(2:Int)^47] (leaf normal ([own 12288 3 0 0,aj 3 n fun i↦rat (k i) x,int i64 c1,int i64 (0:Int)],[((12288:Nat),ah.mk true true 3 0 fun x↦rat 0 1)]))):=by kernel_rfl
theorem W0 {x y n i:Nat} {k:Nat→Rat}:aJ T Ct [12] 60 AJ [part wM [1,1,0,1,0,0]] ⟨aB AJ (FB x n k i),[(0,qM y i k)],1⟩=
  let c4:Int:=(↑n:Int);let c2:AV:=aj 3 n fun i↦rat (k i) x;let c1:Int:=(↑i:Int);let c3:Int:=c1+(1:Int);some (fork (decide (c1<c4)) (ag [(0:Int)≤c1∧c1.toNat<n,(0:Nat)<1] (ag [(0:Nat)<1,x<2^42,(1:Nat)<2^42,(1:Nat)*3≤2^24,(i+1)*((56:Nat)+1)*2≤2^47] (ag [-(2:Int)^63≤c3∧c3<(2:Int)^63] (leaf normal ([own 40961 3 0 (i+1),c2,int i64 c4,int i64 c3],[((40961:Nat),ah.mk true true 3 (i+1) fun i_1↦if i_1<i then rat (k i_1) y else nth [rat (k c1.toNat+0) (x+1+1)] (rat 0 1) (i_1-i+0))]))))) (leaf (exit 0) ([own 0 3 0 i,c2,int i64 c4,int i64 c1],[((0:Nat),ah.mk true true 3 i fun i↦rat (k i) y)]))):=by kernel_rfl
theorem Ys {x y n i:Nat} {k:Nat→Rat}:bY T Ct [] 60 wR [part wM [1,1,1]] ⟨aB AJ (FB x n k i),[(0,qM y i k)],1⟩=
  some (leaf ret [aj 3 i fun i↦rat (k (i+0)) y]):=by kernel_rfl
theorem Uc:aW P Ct:=cL gY
theorem Rk {x y n:Nat} {k:Nat→Rat} (hxy:x+10≤y) (hy:y<2^40) (hn:n<2^40) (K:Nat):aA P wX K [bq k n x] [] (aG (bq k n y) []):=by
 refine fD (r:=aG (bq k n y) []) hT Uc hm ah1 rfl (of_decide_eq_true (by kernel_rfl)) rfl [1,1,0,1] (i:=0) (y:=part wM [1,1,0,1,0,0]) (z:=part wM [1,1,1]) (by kernel_rfl) (by kernel_rfl) (by kernel_rfl) (f1:=[]) (f2:=[12]) (f3:=[]) 60 AJ 1
  (fun i:Nat=>FB x n k i) (fun i=>[(0,qM y i k)]) (fun i=>i≤n) (fun i=>i=n) (fun i=>n-i) (fun _=>⟨⟨_,Q1,?_⟩,fun i hi=>⟨_,W0,?_⟩,fun i hi=>⟨_,Ys,?_⟩⟩) K []
 ·simp only[aa.all,ax]
  exact⟨by omega,0,Nat.zero_le _,[(0,12288)],rfl,rfl,rfl,bB rfl rfl rfl (fun i hi=>absurd hi (Nat.not_lt_zero i)) trivial⟩
 ·simp only[aa.all,ax,decide_eq_true_eq,decide_eq_false_iff_not,Int.toNat_natCast,Nat.add_zero]
  exact⟨fun h2=>⟨by omega,by omega,by omega,i+1,by omega,by dsimp only;omega,[(0,40961)],rfl,rfl,rfl,bB rfl rfl rfl (fun j hj=>jL (fun _ _=>rfl) (Rat.add_zero _) (Nat.le_refl _) (by omega) hj) trivial⟩,fun h2=>⟨rfl,i,by omega,[(0,0)],rfl,rfl,rfl,bB rfl rfl rfl (fun j hj=>aE rfl rfl) trivial⟩⟩
 ·subst hi
  simp only[aa.all,ax]
  exact lH rfl fun j hj=>rfl
def L4 (x y:Nat):Spec:=cD (kC (kL x) kN) (fun a=>bq a.1.2 a.1.1 y) fun a=>[x+10≤y,y<2^40,a.1.1<2^40]
theorem Ym (x y:Nat):∀K args pre r,L4 x y K args pre=some r→aA P wX K args pre r:=cj fun⟨⟨n,k⟩,_⟩ K hn=>Rk hn.1 hn.2.1 hn.2.2 K
end Go.Am.B

/- Spline.Over, Spline.Insert, curve.back. -/
namespace Go.Am.B
open Go Go.Am.N AV aa ak IntKind
theorem ah3:aP P sL A1 (au A1):=aQ ZC (by kernel_rfl) (by kernel_rfl) (by kernel_rfl)
theorem agf:aP P Dk Az (au Az):=aQ abr (by kernel_rfl) (by kernel_rfl) (by kernel_rfl)
theorem ZT:aP P p7 wz (au wz):=aQ aie (by kernel_rfl) (by kernel_rfl) (by kernel_rfl)
def j7 (c:Cu) (n:Nat) (k:Nat→Rat) (j:Nat):Pl:=nh c (fK c.n c.k (k (fR k n j))) c.p.toNat (fun q=>k (q+(j+1)))
def jQ (c:Cu) (n:Nat) (k:Nat→Rat):Cu:=⟨c.p,n,k,n-c.p.toNat-1,j7 c n k⟩
noncomputable def BO:aS:=nG::(qS,pU)::(yw,KA)::(sq,zB)::(xu,JB)::gb
abbrev vK:List Nat:=[1,2,4,5,17,18]
abbrev Ip (n m:Nat) (k:Nat→Rat) (j:Nat):List AV:=[ls k n,.ptr 0 0 3 0 [],.ptr 1 0 3 0 [],.ptr 2 0 3 0 [],.int .i64 m,.int .i64 j]
abbrev FL (c:Cu) (n:Nat) (k:Nat→Rat) (h:Nat→Pl) (j:Nat):aC:=[(3,⟨true,true,12,j,fun i=>cP (h i) sB⟩),(2,⟨false,true,3,1,fun _=>.agg [.int .i64 c.p,ls k n,.own 3 12 0 j]⟩),(1,⟨false,true,3,1,fun _=>.agg [.int .i64 0,.nil,.nil]⟩),(0,pq c sK)]
noncomputable abbrev zZ:Code:=au A1
theorem m9 {f:Nat→Pl} {m s s':Nat} (h:s≤s'):jF (fun i=>cP (f i) s) m s':=fun _ _=>B3 rfl h
noncomputable def FP:Spec:=cD (kC (tw sK sK) (kC (kL sK) kN)) (fun a=>dQ (jQ a.1 a.2.1.1 a.2.1.2) sK sB) fun a=>[Kn a.1.n a.1.p.toNat a.1.k,1≤a.1.p,a.1.p≤6,a.1.n<2^40,a.1.m<2^40,a.2.1.1<2^29,a.1.p+1≤a.2.1.1]
def qv (c:Cu) (t:Rat):Cu:=jQ c (c.n+1) (cF c.k t (cy c.k t c.n))
noncomputable def MI:aS:=nG::(pY,B5 2000 2002)::(sL,FP)::[]
abbrev zw:List Nat:=[2,3,13,14,15]
abbrev Gx (c:Cu) (i:Nat):List AV:=[.ptr 0 0 3 0 [],.ptr 1 0 3 0 [],qd c.f c.m sB,.int .i64 c.m,.int .i64 i]
abbrev Ik (c:Cu) (i:Nat):aC:=[(2,⟨true,true,12,i,fun j=>bI (dZ (c.f j)) (sB+sB)⟩),(1,⟨false,true,3,1,fun _=>.agg [.int .i64 c.p,bq c.k c.n (sK+10),.own 2 12 0 i]⟩),(0,⟨false,true,3,1,fun _=>.agg [.int .i64 0,.nil,.nil]⟩)]
noncomputable abbrev zL:Code:=au wz
def Ow:Spec:=cD (kC (F7 sB) kN) (fun a=>bI (dZ a.1) (sB+sB)) fun _=>[]
def Du:aS:=nG::(wX,L4 sK (sK+10))::(rQ,Ow)::[]
theorem Yq {c:Cu} {n:Nat} {k:Nat→Rat}:aJ T BO [] 60 vK (before zZ [1,1,0,1]) ⟨aN 0 [dQ c sK sK,ls k n],[],0⟩=
  let c3:Nat:=(aT (dQ c sK sK)).size;let c2:Prop:=0<1;let c1:AV:=agg [int i64 (0:Int),nil,nil];some (ag [c2,c2] (ag [c2,bK (fun i↦rat (k i) sK) n sK,n<2^40,-(2:Int)^40<c.p,c.p<(2:Int)^40] (leaf normal ([aj 3 n fun i↦rat (k i) 4096,ptr 0 0 c3 0 [],ptr 4096 0 3 0 [],ptr 24576 0 3 0 [],int i64 ((↑n:Int)-c.p-(1:Int)),int i64 (0:Int)],[((24576:Nat),ah.mk false true 3 1 fun j↦if(j==0)=true then aT (agg ((c1.kids.set 0 (aT (int i64 c.p))).set 1 (aT (ls k n))))else c1),((4096:Nat),ah.mk false true 3 1 fun x↦c1),((0:Nat),ah.mk false true c3 1 fun x↦agg [int i64 c.p,aj 3 c.n fun i↦rat (c.k i) 4096,aj 12 c.m fun i↦agg [rat (c.f i).n.x 4096,rat (c.f i).n.y 4096,rat (c.f i).n.z 4096,rat (c.f i).d 4096]])])))):=by kernel_rfl
theorem ag7 {c:Cu} {n m j:Nat} {k:Nat→Rat} {h:Nat→Pl}:aJ T BO [19] 60 vK [part zZ [1,1,0,1,0,0]] ⟨aB vK (Ip n m k j),FL c n k h j,4⟩=
  let c20:Int:=(↑m:Int);let c18:Prop:=bK (fun i↦rat (c.k i) sK) c.n sK;let c17:AV:=ptr 2 0 3 0 [];let c16:AV:=ptr 1 0 3 0 [];let c15:AV:=ptr 0 0 3 0 [];let c14:Nat:=2^40;let c13:AV:=rat 0 1;let c12:Int:=(↑j:Int);let c10:AV:=own 3 12 0 j;let c9:AV:=aj 3 n fun i↦rat (k i) 4096;let c8:Prop:=0<1;let c6:Int:=(2:Int)^63;let c5:Cu:=Cu.mk c.p c.n (fun i↦aO (rat (c.k i) sK)) c.m fun i↦qW (cP (c.f i) sK);let c2:List (Nat×ah):=[((1:Nat),ah.mk false true 3 1 fun x↦agg [int i64 (0:Int),nil,nil]),((0:Nat),ah.mk false true 3 1 fun x↦agg [int i64 c.p,aj 3 c.n fun i↦rat (c.k i) 4096,aj 12 c.m fun i↦agg [rat (c.f i).n.x 4096,rat (c.f i).n.y 4096,rat (c.f i).n.z 4096,rat (c.f i).d 4096]])];let c19:AV:=agg [int i64 c.p,ls k n,c10];let c7:Int:=(↑(fR (fun i↦aO (rat (k i) sK)) n c12.toNat):Int);let c4:Int:=c12+c.p+(1:Int);let c3:Int:=c12+(1:Int);let c11:Nat:=c4.toNat-c3.toNat;let c1:Int:=(↑(fK c.n (fun i↦aO (rat (c.k i) sK)) (k c7.toNat)):Int);some (fork (decide (c12<c20)) (ag [bK (fun i↦rat (k i) sK) n sK,(0:Int)≤c12,c12≤(↑n:Int),n<c14] (ag [c8,c8,(0:Int)≤c7∧c7.toNat<n,c18,sK≤sK,Kn c.n c.p.toNat fun i↦aO (rat (c.k i) sK),(0:Int)≤c.p,c.n<c14] (ag [c8,c8,-c6≤c3∧c3<c6,c8,-c6≤c12+c.p∧c12+c.p<c6,-c6≤c4∧c4<c6,(0:Int)≤c3∧c3≤c4∧c4≤c4∧c4≤(↑n:Int),c18,jF (fun i↦cP (c.f i) sK) c.m sK,bK (fun i↦rat (k (i+c3.toNat)) sK) c11 sK,(1:Int)≤c.p,c.p≤(6:Int),c.n<c14,c.m<c14,-(2:Int)^40<c1,c1<(2:Int)^40,(1:Nat)*12≤2^24,(j+1)*((224:Nat)+1)*2≤2^47,c8] (ag [-c6≤c3∧c3<c6] (leaf normal ([c9,c15,c16,c17,int i64 c20,int i64 c3],((147460:Nat),ah.mk true true 12 (j+1) fun i↦if i<j then cP (h i) sB else nth [agg [rat (fY c5 c1 c11 (fun i↦aO (rat (k (i+c3.toNat)) sK)) 0) sB,rat (fY c5 c1 c11 (fun i↦aO (rat (k (i+c3.toNat)) sK)) 1) sB,rat (fY c5 c1 c11 (fun i↦aO (rat (k (i+c3.toNat)) sK)) 2) sB,rat (fY c5 c1 c11 (fun i↦aO (rat (k (i+c3.toNat)) sK)) 3) sB]] (agg [c13,c13,c13,c13]) (i-j+0))::((2:Nat),ah.mk false true 3 1 fun j_1↦if(j_1==0)=true then agg (c19.kids.set 2 (aT (own (nat_lit 147459+1) 12 0 (j+1))))else c19)::c2)))))) (leaf (exit 0) ([c9,c15,c16,c17,int i64 c20,int i64 c12],((3:Nat),ah.mk true true 12 j fun i↦agg [rat (h i).n.x 536870912,rat (h i).n.y 536870912,rat (h i).n.z 536870912,rat (h i).d 536870912])::((2:Nat),ah.mk false true 3 1 fun x↦agg [int i64 c.p,c9,c10])::c2))):=by kernel_rfl
theorem ZP {c:Cu} {n m j:Nat} {k:Nat→Rat} {h:Nat→Pl}:bY T BO [] 60 A1 [part zZ [1,1,1]] ⟨aB vK (Ip n m k j),FL c n k h j,4⟩=
  let c1:Prop:=0<1;some (ag [c1,c1] (ag [c1] (leaf ret [agg [int i64 c.p,aj 3 n fun i↦rat (k i) 4096,aj 12 j fun i↦agg [rat (h (i+0)).n.x 536870912,rat (h (i+0)).n.y 536870912,rat (h (i+0)).n.z 536870912,rat (h (i+0)).d 536870912]]]))):=by kernel_rfl
theorem TX {c:Cu} {t:Rat}:bC T MI [] 60 Az (au Az) ⟨aN 0 [dQ c 2000 4000,.rat t 2000],[],0⟩=
  some (ag [0<1,0<1,0<1,bK (fun i=>.rat (c.k i) 2000) c.n 2000,2000≤2000,c.n<2^40,bK (fun i=>.rat (c.k i) 2000) c.n sK,jF (fun i=>cP (c.f i) 4000) c.m sK,bK (fun i=>.rat (cF c.k t (cy c.k t c.n) i) 2002) (c.n+1) sK,Kn c.n c.p.toNat c.k,1≤c.p,c.p≤6,c.n<2^40,c.m<2^40,c.n+1<2^29,c.p+1≤(c.n+1:Nat),0<1]
   (ag [0<1] (leaf .ret [dQ (qv c t) sK sB]))):=by kernel_rfl
theorem SC {c:Cu}:aJ T Du [] 60 zw (before zL [1,1,0,1]) ⟨aN 0 [dQ c sK sB],[],0⟩=
  let c3:Nat:=sK+10;let c2:Prop:=0<1;let c1:AV:=agg [int i64 (0:Int),nil,nil];some (ag [c2,c2,bK (fun i↦rat (c.k i) sK) c.n sK,c3≤c3,c3<2^40,c.n<2^40,c2] (ag [c2] (leaf normal ([ptr 4096 0 3 0 [],ptr 32768 0 3 0 [],aj 12 c.m fun i↦agg [rat (c.f i).n.x 536870912,rat (c.f i).n.y 536870912,rat (c.f i).n.z 536870912,rat (c.f i).d 536870912],int i64 (↑c.m:Int),int i64 (0:Int)],[((32768:Nat),ah.mk false true 3 1 fun j↦if(j==0)=true then aT (agg ((c1.kids.set 0 (aT (int i64 c.p))).set 1 (aT (bq (fun i↦aO (rat (c.k i) sK)) c.n c3))))else c1),((4096:Nat),ah.mk false true 3 1 fun x↦c1)])))):=by kernel_rfl
theorem acm {c:Cu} {i:Nat}:aJ T Du [16] 60 zw [part zL [1,1,0,1,0,0]] ⟨aB zw (Gx c i),Ik c i,3⟩=
  let c11:Int:=(↑c.m:Int);let c10:AV:=own 2 12 0 i;let c9:AV:=ptr 1 0 3 0 [];let c8:AV:=ptr 0 0 3 0 [];let c7:Prop:=0<1;let c6:Int:=(↑i:Int);let c5:AV:=rat 0 1;let c4:Nat×ah:=((0:Nat),ah.mk false true 3 1 fun x↦agg [int i64 (0:Int),nil,nil]);let c1:AV:=aj 12 c.m fun i↦agg [rat (c.f i).n.x 536870912,rat (c.f i).n.y 536870912,rat (c.f i).n.z 536870912,rat (c.f i).d 536870912];let c12:Int:=c6+(1:Int);let c3:AV:=agg [int i64 c.p,bq c.k c.n (sK+10),c10];let c2:Pl:=c.f c6.toNat;some (fork (decide (c6<c11)) (ag [(0:Int)≤c6∧c6.toNat<c.m,c7] (ag [c7,c7,sB≤sB,sB≤sB,sB≤sB,sB≤sB,(1:Nat)*12≤2^24,(i+1)*((224:Nat)+1)*2≤2^47,c7] (ag [-(2:Int)^63≤c12∧c12<(2:Int)^63] (leaf normal ([c8,c9,c1,int i64 c11,int i64 c12],[((40963:Nat),ah.mk true true 12 (i+1) fun i_1↦if i_1<i then bI (dZ (c.f i_1)) (sB+sB)else nth [agg [agg [rat (c2.n.x/c2.d) (sB+sB),rat (c2.n.y/c2.d) (sB+sB),rat (c2.n.z/c2.d) (sB+sB)],rat c2.d (sB+sB)]] (agg [agg [c5,c5,c5],c5]) (i_1-i+0)),((1:Nat),ah.mk false true 3 1 fun j↦if(j==0)=true then agg (c3.kids.set 2 (aT (own (nat_lit 40962+1) 12 0 (i+1))))else c3),c4]))))) (leaf (exit 0) ([c8,c9,c1,int i64 c11,int i64 c6],[((2:Nat),ah.mk true true 12 i fun j↦agg [agg [rat ((c.f j).n.x/(c.f j).d) 1073741824,rat ((c.f j).n.y/(c.f j).d) 1073741824,rat ((c.f j).n.z/(c.f j).d) 1073741824],rat (c.f j).d 1073741824]),((1:Nat),ah.mk false true 3 1 fun x↦agg [int i64 c.p,aj 3 c.n fun i↦rat (c.k i) 4106,c10]),c4]))):=by kernel_rfl
theorem akp {c:Cu} {i:Nat}:bY T Du [] 60 wz [part zL [1,1,1]] ⟨aB zw (Gx c i),Ik c i,3⟩=
  let c1:Prop:=0<1;some (ag [c1,c1] (ag [c1] (leaf ret [agg [int i64 c.p,aj 3 c.n fun i↦rat (c.k i) 4106,aj 12 i fun i↦agg [agg [rat ((c.f (i+0)).n.x/(c.f (i+0)).d) 1073741824,rat ((c.f (i+0)).n.y/(c.f (i+0)).d) 1073741824,rat ((c.f (i+0)).n.z/(c.f (i+0)).d) 1073741824],rat (c.f (i+0)).d 1073741824]]]))):=by kernel_rfl
theorem QH {k:Nat→Rat} {n:Nat}:∀{f i:Nat},i<n→oN k n f i<n
 |0,_,h=>h
 |f+1,i,h=>by
  unfold oN
  split
  ·exact QH (by omega)
  ·exact h
theorem agh {k:Nat→Rat} {n i:Nat} (h:i<n):fR k n i<n:=QH h
theorem Zy {n p:Nat} {k:Nat→Rat} (h:Kn n p k) {t:Rat}:fK n k t<n:=by
 have hl:=h.len
 unfold fK
 split
 ·omega
 ·have:=h.HH ‹_›
  omega
theorem Wf:aW P BO:=cL (aH Dg (aH Xv (aH OP (aH RF gY))))
theorem aiE {c:Cu} {n:Nat} {k:Nat→Rat} (hk:Kn c.n c.p.toNat c.k) (hp1:1≤c.p) (hp6:c.p≤6) (hn:c.n<2^40) (hm2:c.m<2^40) (hn2:n<2^29) (hpn:c.p+1≤n) (K:Nat):aA P sL K [dQ c sK sK,ls k n] [] (aG (dQ (jQ c n k) sK sB) []):=by
 obtain⟨q,hq⟩:∃q,q=c.p.toNat:=⟨_,rfl⟩
 have hqp:c.p=(q:Int):=by omega
 refine fD (r:=aG (dQ (jQ c n k) sK sB) []) hT Wf hm ah3 rfl (of_decide_eq_true (by kernel_rfl)) rfl [1,1,0,1] (i:=0) (y:=part zZ [1,1,0,1,0,0]) (z:=part zZ [1,1,1]) (by kernel_rfl) (by kernel_rfl) (by kernel_rfl) (f1:=[]) (f2:=[19]) (f3:=[]) 60 vK 4
  (fun j:Nat=>Ip n (n-c.p.toNat-1) k j) (fun j=>FL c n k (j7 c n k) j) (fun j=>j≤n-c.p.toNat-1) (fun j=>j=n-c.p.toNat-1) (fun j=>n-c.p.toNat-1-j) (fun _=>⟨⟨_,Yq,?_⟩,fun j hj=>⟨_,ag7,?_⟩,fun j hj=>⟨_,ZP,?_⟩⟩) K []
 ·have e1:(n:Int)-c.p-1=((n-c.p.toNat-1:Nat):Int):=by omega
  simp only[aa.all,ax,e1]
  exact⟨⟨by omega,by omega⟩,⟨by omega,ct (Nat.le_refl _),by omega,by omega,by omega⟩,0,Nat.zero_le _,[(0,0),(1,4096),(2,24576)],rfl,rfl,rfl,nT rfl (by omega) (by omega) (aF rfl rfl (kP ⟨⟨rfl,aK rfl⟩,⟨rfl,aK rfl⟩,⟨rfl,oW (by omega)⟩,trivial⟩) (aF rfl rfl (aE rfl rfl) (aF rfl rfl (aE rfl rfl) trivial)))⟩
 ·have e1:((j:Int)+1).toNat=j+1:=by omega
  have e2:((j:Int)+c.p+1).toNat=j+q+1:=by omega
  have e3:j+q+1-(j+1)=q:=by omega
  simp only[aa.all,ax,decide_eq_true_eq,decide_eq_false_iff_not,Int.toNat_natCast,e1,e2,e3,Nat.add_zero]
  have h7:fR (fun i=>aO (rat (k i) sK)) n j=fR k n j:=rfl
  have h8:∀t,fK c.n (fun i=>aO (rat (c.k i) sK)) t=fK c.n c.k t:=fun _=>rfl
  simp only[h7,h8]
  refine⟨fun h=>?_,fun h=>⟨rfl,j,by omega,[(0,0),(1,1),(2,2),(3,3)],rfl,rfl,rfl,bB rfl rfl rfl (fun _ _=>aE rfl rfl) (aF rfl rfl (tJ rfl rfl rfl) (aF rfl rfl (aE rfl rfl) (aF rfl rfl (aE rfl rfl) trivial)))⟩⟩
  have h1:=agh (k:=k) (n:=n) (i:=j) (by omega)
  have h2:=Zy hk (t:=k (fR k n j))
  (repeat' with_reducible refine And.intro ?_ ?_)
  all_goals first|omega|exact ct (Nat.le_refl _)|exact hk|exact fun _ _=>.refl _|skip
  refine⟨j+1,by omega,by dsimp only;omega,[(0,0),(1,1),(2,2),(3,147460)],rfl,rfl,rfl,bB rfl rfl rfl (fun j' hj'=>EY (g:=fun j=>cP (j7 c n k j) sB) (fun _ _=>⟨rfl,rfl⟩) rfl ?_ hj') (aF rfl rfl (tJ rfl rfl rfl) (aF rfl rfl (aE rfl rfl) (aF rfl rfl (aE rfl rfl) trivial)))⟩
  exact B3 (h:=nh c (fK c.n c.k (k (fR k n j))) q (fun q=>k (q+(j+1)))) (by unfold j7;rw[hq]) (Nat.le_refl _)
 ·subst hj
  simp only[aa.all,ax]
  exact⟨⟨by omega,by omega⟩,by omega,.refl _⟩
theorem PM:∀K args pre r,FP K args pre=some r→aA P sL K args pre r:=cj fun⟨c,⟨n,k⟩,_⟩ K hn=>aiE hn.1 hn.2.1 hn.2.2.1 hn.2.2.2.1 hn.2.2.2.2.1 hn.2.2.2.2.2.1 hn.2.2.2.2.2.2 K
theorem ags:aW P MI:=cL (aH (afA (by decide) (by decide)) (aH PM bp))
noncomputable def Nr:Spec:=cD (kC (tw 2000 4000) (kC (fq 2000) kN)) (fun a=>dQ (qv a.1 a.2.1) sK sB) fun a=>[Kn a.1.n a.1.p.toNat a.1.k,1≤a.1.p,a.1.p≤6,a.1.n<2^28,a.1.m<2^40]
theorem VC:∀K args pre r,Nr K args pre=some r→aA P Dk K args pre r:=cj fun⟨c,t,_⟩ K hn=>by
 obtain⟨h1,h2,h3,h4,h5⟩:Kn c.n c.p.toNat c.k∧1≤c.p∧c.p≤6∧c.n<2^28∧c.m<2^40:=hn
 have hl:=h1.len
 refine bJ (r:=aG (dQ (qv c t) sK sB) []) hT ags hm agf rfl (of_decide_eq_true (by kernel_rfl)) rfl 60 TX (fun _=>?_) K []
 simp only[aa.all,ax]
 (repeat' with_reducible refine And.intro ?_ ?_)
 all_goals first|omega|exact ct (by decide)|exact h1|exact m9 (by decide)|skip
 exact .refl _
theorem agV:∀K args pre r,Ow K args pre=some r→aA P rQ K args pre r:=cj fun⟨h,_⟩ K _=>Ka (by decide) (by decide) (by decide) K
theorem W2:aW P Du:=cL (aH (Ym _ _) (aH agV bp))
theorem ajm {c:Cu} (hn:c.n<2^40) (hm2:c.m<2^29) (K:Nat):aA P p7 K [dQ c sK sB] [] (aG (bh ⟨c.p,c.n,c.k,c.m,fun i=>dZ (c.f i)⟩ (sK+10) (sB+sB)) []):=by
 refine fD (r:=aG (bh ⟨c.p,c.n,c.k,c.m,fun i=>dZ (c.f i)⟩ (sK+10) (sB+sB)) []) hT W2 hm ZT rfl (of_decide_eq_true (by kernel_rfl)) rfl [1,1,0,1] (i:=0) (y:=part zL [1,1,0,1,0,0]) (z:=part zL [1,1,1]) (by kernel_rfl) (by kernel_rfl) (by kernel_rfl) (f1:=[]) (f2:=[16]) (f3:=[]) 60 zw 3
  (fun i:Nat=>Gx c i) (fun i=>Ik c i) (fun i=>i≤c.m) (fun i=>i=c.m) (fun i=>c.m-i) (fun _=>⟨⟨_,SC,?_⟩,fun i hi=>⟨_,acm,?_⟩,fun i hi=>⟨_,akp,?_⟩⟩) K []
 ·simp only[aa.all,ax]
  exact⟨⟨by omega,by omega,ct (Nat.le_refl _),by omega,by decide,by omega,by omega⟩,by omega,0,Nat.zero_le _,[(0,4096),(1,32768)],rfl,rfl,rfl,nT rfl (by omega) (by omega) (aF rfl rfl (kP ⟨⟨rfl,aK rfl⟩,⟨rfl,aK rfl⟩,⟨rfl,oW (by omega)⟩,trivial⟩) (aF rfl rfl (aE rfl rfl) trivial))⟩
 ·simp only[aa.all,ax,decide_eq_true_eq,decide_eq_false_iff_not,Int.toNat_natCast,Nat.add_zero]
  refine⟨fun h=>?_,fun h=>⟨rfl,i,by omega,[(0,0),(1,1),(2,2)],rfl,rfl,rfl,bB rfl rfl rfl (fun _ _=>aE rfl rfl) (aF rfl rfl (tJ rfl rfl rfl) (aF rfl rfl (aE rfl rfl) trivial))⟩⟩
  (repeat' with_reducible refine And.intro ?_ ?_)
  all_goals first|omega|exact Nat.le_refl _|skip
  exact⟨i+1,by omega,by dsimp only;omega,[(0,0),(1,1),(2,40963)],rfl,rfl,rfl,bB rfl rfl rfl (fun j hj=>EY (g:=fun j=>bI (dZ (c.f j)) (sB+sB)) (fun _ _=>⟨rfl,rfl⟩) rfl (.refl _) hj) (aF rfl rfl (tJ rfl rfl rfl) (aF rfl rfl (aE rfl rfl) trivial))⟩
 ·subst hi
  simp only[aa.all,ax]
  exact⟨⟨by omega,by omega⟩,by omega,.refl _⟩
def Bp:Spec:=cD (kC (tw sK sB) kN) (fun a=>bh ⟨a.1.p,a.1.n,a.1.k,a.1.m,fun i=>dZ (a.1.f i)⟩ (sK+10) (sB+sB)) fun a=>[a.1.n<2^40,a.1.m<2^29]
theorem Hv:∀K args pre r,Bp K args pre=some r→aA P p7 K args pre r:=cj fun⟨c,_⟩ K hn=>ajm hn.1 hn.2 K
end Go.Am.B

/- curve.inner, curve.Insert. -/
namespace Go.Am.B
open Go Go.Am.N AV aa ak IntKind
theorem Sa:aP P yN vN (au vN):=aQ Vc (by kernel_rfl) (by kernel_rfl) (by kernel_rfl)
theorem LM:aP P oT yV (au yV):=aQ aao (by kernel_rfl) (by kernel_rfl) (by kernel_rfl)
noncomputable def Pg:aS:=nG::(xD,FU)::gb
def H8:Spec:=cD (kC (ij 2000 2000) (kC (fq 2000) kN)) (fun a=>.bool (decide (a.1.k 0<a.2.1)&&decide (a.2.1<a.1.k (a.1.n-1)))) fun a=>[dU a.1]
def HI:Spec:=cD (kC (ij 2000 2000) kN) (fun a=>dQ ⟨a.1.p,a.1.n,a.1.k,a.1.m,fun i=>b9 (a.1.f i)⟩ 2000 4000) fun a=>[a.1.n<2^40,a.1.m<2^30]
noncomputable def P4:aS:=nG::(yN,H8)::(qc,oX)::(mY,HI)::(Dk,Nr)::(p7,Bp)::[]
def cw (c:Cu) (t:Rat):Int:=if¬(c.k 0<t∧t<c.k (c.n-1))then 7 else if c.p≤(aU c.k t c.n:Int)then 5 else if 40≤c.m then 2 else 0
def HN (c:Cu) (t:Rat):Cu:=⟨c.p,c.n+1,cF c.k t (cy c.k t c.n),c.n+1-c.p.toNat-1,fun i=>dZ ((qv ⟨c.p,c.n,c.k,c.m,fun i=>b9 (c.f i)⟩ t).f i)⟩
def gM:Cu:=⟨0,0,fun _=>0,0,fun _=>⟨⟨0,0,0⟩,0⟩⟩
def wW (c:Cu) (t:Rat):Cu:=if cw c t=0 then HN c t else gM
theorem aea {c:Cu} {t:Rat}:bC T Pg [16] 60 vN (au vN) ⟨aN 0 [bh c 2000 2000,.rat t 2000],[],0⟩=
  let c9:Prop:=fj (fun i↦bI (c.f i) 2000) c.m sJ;let c8:Prop:=bK (fun i↦rat (c.k i) 2000) c.n sJ;let c7:Prop:=(0:Int)≤(0:Int)∧Int.toNat (0:Int)<c.n;let c5:Prop:=dU (Cu.mk c.p c.n (fun i↦aO (rat (c.k i) 2000)) c.m fun i↦fI (bI (c.f i) 2000));let c4:Int:=(↑c.n:Int)-(1:Int);let c3:Prop:=0<1;let c2:Int:=dc (c.k (Int.toNat (0:Int))) t;let c1:Prop:=2000<2^42;let c6:Bool:=bif true then decide (c2<(0:Int))else false;some (fork c6 (ag [c3,c8,c9,c5,c3,c7,c3,c1,c1,c6=true,c3,c3,c3,-(2:Int)^63≤c4∧c4<(2:Int)^63,(0:Int)≤c4∧c4.toNat<c.n,c1,c1] (leaf ret [AV.bool (bif true then decide (dc t (c.k c4.toNat)<(0:Int))else false)])) (ag [c3,c8,c9,c5,c3,c7,c3,c1,c1,c6=false] (leaf ret [AV.bool false]))):=by kernel_rfl
theorem Pj {c:Cu} {t:Rat}:bC T P4 [6,12,21] 60 yV (au yV) ⟨aN 0 [bh c 2000 2000,.rat t 2000],[],0⟩=
  let no:Int→aa (List AV):=fun e=>ag [0<1] (ag [0<1] (leaf .ret [.agg [.int .i64 0,.nil,.nil],.int .i64 e]));let k:Prop:=bK (fun i=>.rat (c.k i) 2000) c.n 2000;let f:Prop:=fj (fun i=>bI (c.f i) 2000) c.m 2000
  some (ag [0<1,0<1,k,f,2000≤2000,dU c] (fork (!(decide (c.k 0<t)&&decide (t<c.k (c.n-1)))) (no 7) (ag [0<1,0<1,bK (fun i=>.rat (c.k i) 2000) c.n sK,2000≤sK,c.n<2^40,0<1] (fork (decide ((aU c.k t c.n:Int)≥c.p)) (no 5) (ag [0<1] (fork (decide ((c.m:Int)≥40)) (no 2)
   (ag [0<1,k,f,c.n<2^40,c.m<2^30,0<1,k,jF (fun i=>cP (b9 (c.f i)) 4000) c.m 4000,2000≤2000,Kn c.n c.p.toNat c.k,1≤c.p,c.p≤6,c.n<2^28,c.m<2^40,bK (fun i=>.rat (cF c.k t (cy c.k t c.n) i) sK) (c.n+1) sK,jF (fun i=>cP ((qv ⟨c.p,c.n,c.k,c.m,fun i=>b9 (c.f i)⟩ t).f i) sB) (c.n+1-c.p.toNat-1) sB,c.n+1<2^40,c.n+1-c.p.toNat-1<2^29,0<1] (ag [0<1] (leaf .ret [bh (HN c t) (sK+10) (sB+sB),.int .i64 0]))))))))):=by kernel_rfl
theorem afI:aW P Pg:=cL (aH IV gY)
theorem LC {a b:Rat}:dc a b<(0:Int)↔a<b:=lG
theorem Jk:∀K args pre r,H8 K args pre=some r→aA P yN K args pre r:=cj fun⟨c,t,_⟩ K hn=>by
 have hc:dU c:=hn
 obtain⟨h1,h2,h3,h4,h5⟩:=id hc
 have hl:=h1.len
 refine bJ (r:=aG (.bool (decide (c.k 0<t)&&decide (t<c.k (c.n-1)))) []) hT afI hm Sa rfl (of_decide_eq_true (by kernel_rfl)) rfl 60 aea (fun _=>?_) K []
 have e1:((c.n:Int)-1).toNat=c.n-1:=by omega
 simp only[aa.all,ax,e1,Int.toNat_zero,cond_true,cond_false,decide_eq_true_eq,decide_eq_false_iff_not,LC]
 refine⟨fun h=>?_,fun h=>?_⟩
 ·(repeat' with_reducible refine And.intro ?_ ?_)
  all_goals first|omega|exact ct (by decide)|exact gU (by decide)|exact hc|exact h|decide|skip
  exact eP (by rw[decide_eq_true h,Bool.true_and])
 ·(repeat' with_reducible refine And.intro ?_ ?_)
  all_goals first|omega|exact ct (by decide)|exact gU (by decide)|exact hc|exact h|decide|skip
  exact eP (by rw[decide_eq_false h,Bool.false_and])
theorem Lf:∀K args pre r,HI K args pre=some r→aA P mY K args pre r:=cj fun⟨c,_⟩ K hn=>P5 (by decide) (by decide) (by decide) hn.1 hn.2 K
theorem Pd:aW P P4:=cL (aH Jk (aH Im (aH Lf (aH VC (aH Hv bp)))))
theorem mQ {x y:Nat}:bw (.agg [.int .i64 0,.nil,.nil]) (bh gM x y):=cB ⟨.refl _,kS (by decide),kS (by decide),trivial⟩
def PL:Spec:=cD (kC (ij 2000 2000) (kC (fq 2000) kN)) (fun a=>.tuple [bh (wW a.1 a.2.1) (sK+10) (sB+sB),.int .i64 (cw a.1 a.2.1)]) fun a=>[dU a.1]
theorem ad4:∀K args pre r,PL K args pre=some r→aA P oT K args pre r:=cj fun⟨c,t,_⟩ K hn=>by
 have hc:dU c:=hn
 obtain⟨h1,h2,h3,h4,h5⟩:=id hc
 have hl:=h1.len
 refine bJ (r:=aG (.tuple [bh (wW c t) (sK+10) (sB+sB),.int .i64 (cw c t)]) []) hT Pd hm LM rfl (of_decide_eq_true (by kernel_rfl)) rfl 60 Pj (fun _=>?_) K []
 have no:∀{e:Int},cw c t=e→e≠0→dI [.agg [.int .i64 0,.nil,.nil],.int .i64 e] (.tuple [bh (wW c t) (sK+10) (sB+sB),.int .i64 (cw c t)]):=fun {e} he h0=>by
  refine⟨?_,bt he.symm,trivial⟩
  rw[show wW c t=gM from if_neg (by rw[he];exact h0)]
  exact mQ
 simp only[aa.all,ax,decide_eq_true_eq,decide_eq_false_iff_not,Bool.not_eq_true',Bool.not_eq_false',Bool.and_eq_true,Bool.and_eq_false_iff]
 refine⟨⟨by omega,by omega,ct (Nat.le_refl _),gU (Nat.le_refl _),Nat.le_refl _,hc⟩,fun ho=>⟨by omega,by omega,no ?_ (by decide)⟩,fun hi=>⟨?_,fun h6=>⟨by omega,by omega,no ?_ (by decide)⟩,fun h6=>⟨by omega,fun h7=>⟨by omega,by omega,no ?_ (by decide)⟩,fun h7=>⟨?_,by omega,?_⟩⟩⟩⟩
 ·unfold cw;rw[if_pos fun h=>ho.elim (fun g=>g h.1) fun g=>g h.2]
 ·exact⟨by omega,by omega,ct (by decide),by decide,by omega,by omega⟩
 ·unfold cw;rw[if_neg (fun g=>g hi),if_pos h6]
 ·unfold cw;rw[if_neg (fun g=>g hi),if_neg h6,if_pos (by omega)]
 ·(repeat' with_reducible refine And.intro ?_ ?_)
  all_goals first|omega|exact ct (by decide)|exact gU (Nat.le_refl _)|exact m9 (Nat.le_refl _)|exact h1|exact Nat.le_refl _|skip
 ·have he:cw c t=0:=by unfold cw;rw[if_neg (fun g=>g hi),if_neg h6,if_neg (by omega)]
  refine⟨?_,bt he.symm,trivial⟩
  rw[show wW c t=HN c t from if_pos he]
  exact .refl _
end Go.Am.B

/- rational.Valid, rational.Bits; the closures of curve.Check; slices.Clone, curve.numbers, curve.Check. -/
namespace Go.Am.B
open Go Go.Am.N AV aa ak IntKind
theorem U9:aP P zC zX (au zX):=aQ TZ (by kernel_rfl) (by kernel_rfl) (by kernel_rfl)
theorem ake:aP P AU wJ (au wJ):=aQ ah6 (by kernel_rfl) (by kernel_rfl) (by kernel_rfl)
theorem X4:aP P AQ vv (au vv):=aQ Wc (by kernel_rfl) (by kernel_rfl) (by kernel_rfl)
theorem ajS:aP P ux CB (au CB):=aQ Q6 (by kernel_rfl) (by kernel_rfl) (by kernel_rfl)
theorem aaM:aP P iI yL (au yL):=aQ X2 (by kernel_rfl) (by kernel_rfl) (by kernel_rfl)
theorem aa5:aP P gd vP (au vP):=aQ XI (by kernel_rfl) (by kernel_rfl) (by kernel_rfl)
theorem abb:aP P hU AE (au AE):=aQ Yo (by kernel_rfl) (by kernel_rfl) (by kernel_rfl)
theorem MD:aP P mq m7 (au m7):=aQ Jh (by kernel_rfl) (by kernel_rfl) (by kernel_rfl)
theorem TS:aP P y5 wS (au wS):=aQ Uu (by kernel_rfl) (by kernel_rfl) (by kernel_rfl)
theorem aaT:aP P Cs wk (au wk):=aQ W5 (by kernel_rfl) (by kernel_rfl) (by kernel_rfl)
theorem aiy:aP P DO ve (au ve):=aQ aiC (by kernel_rfl) (by kernel_rfl) (by kernel_rfl)
theorem ajY:aP P z5 vp (au vp):=aQ ajL (by kernel_rfl) (by kernel_rfl) (by kernel_rfl)
theorem acp:aP P Co xR (au xR):=aQ ahX (by kernel_rfl) (by kernel_rfl) (by kernel_rfl)
def J0:Spec:=bE fun l=>match l with
 |[.mag N]=>some (aG (.bool true) [nl N<2^40])
 |_=>none
def Fo:aS:=nG::(zC,J0)::(sn,bE (kQ H9))::(tg,bE (gD Gz))::(tC,Ga)::[]
def IP:Spec:=bE fun l=>match l with
 |[.rat q n]=>some (aG (.bool true) [n<2^44])
 |_=>none
def PT:Spec:=bE fun l=>match l with
 |[.rat q n]=>some (aG (.int .i64 (cz q:Nat)) [n<2^44])
 |_=>none
def B0:Spec:=bE fun l=>match l with
 |[.rat q n]=>some (aG (.bool false) [n≤2048])
 |_=>none
def BX:aS:=nG::(AU,IP)::(AQ,PT)::gb
def abp (s:Nat):Kind Pl:=⟨fun v=>match Cl v with
 |some (a,q)=>some (a.1,q++[a.2≤s])
 |none=>none,fun a=>bI a s,fun {v a q} h hq=>by
  split at h
  ·rename_i b q' hb
   simp only[Option.some.injEq,Prod.mk.injEq]at h
   obtain⟨rfl,rfl⟩:=h
   obtain⟨q1,q2⟩:=er.1 hq
   refine bw.trans (ZH.ok hb q1) ?_
   show bw (bI b.1 b.2) (bI b.1 s)
   exact cB ⟨cB ⟨fe q2,fe q2,fe q2,trivial⟩,fe q2,trivial⟩
  ·simp at h⟩
def Qu:Spec:=cD (kC (abp 2048) kN) (fun _=>.bool false) fun a=>[0<a.1.d]
def B8:Kind FuncId:=⟨fun v=>match v with
 |.func f []=>some (f,[])
 |_=>none,fun g=>.func g [],fun {v a q} h _=>by
  split at h
  ·simp only[Option.some.injEq,Prod.mk.injEq]at h
   obtain⟨rfl,rfl⟩:=h
   exact .refl _
  ·simp at h⟩
noncomputable def GX:aS:=nG::(iI,B0)::(hU,B0)::(gd,Qu)::[]
abbrev jW:List Nat:=[4,0,1,7,8]
abbrev wL (n i:Nat) (k:Nat→Rat) (g:FuncId):List AV:=[.int .i64 0,bq k n 2048,.func g [],.int .i64 n,.int .i64 i]
abbrev EO (n i:Nat) (f:Nat→Pl) (g:FuncId):List AV:=[.int .i64 0,iW f n 2048,.func g [],.int .i64 n,.int .i64 i]
noncomputable abbrev pJ:Code:=au m7
noncomputable abbrev As:Code:=au wS
noncomputable def JA:Spec:=cD (kC (kL 2048) (kC B8 kN)) (fun _=>.int .i64 (-1)) fun a=>[a.1.1<2^40,a.2.1=iI∨a.2.1=hU]
noncomputable def OH:Spec:=cD (kC (kL 2048) (kC B8 kN)) (fun _=>.bool false) fun a=>[a.1.1<2^40,a.2.1=iI∨a.2.1=hU]
noncomputable def GY:aS:=nG::(mq,JA)::[]
def Nt:Spec:=tG fun K l=>match l with
 |[v]=>match(kL 2048).read v with
  |some ((n,k),q)=>some ⟨.own K 3 0 n,[(K,⟨true,true,3,n,fun i=>.rat (k i) 2048⟩)],q++[1≤n,n<2^30]⟩
  |none=>none
 |_=>none
def jX (c:Cu) (j:Nat):Rat:=if j<c.n then c.k j else gV (c.f ((j-c.n)/4)) ((j-c.n)%4)
def CC:aS:=nG::(ux,Nt)::[]
abbrev v5:List Nat:=[2,3,10,11,12]
abbrev Hz (c:Cu) (i:Nat):List AV:=[.nil,.own 0 3 0 (c.n+4*i),iW c.f c.m 2048,.int .i64 c.m,.int .i64 i]
abbrev G7 (c:Cu) (i:Nat):aC:=[(0,⟨true,true,3,c.n+4*i,fun j=>.rat (jX c j) 2048⟩)]
noncomputable abbrev xk:Code:=au vp
def JM:Spec:=cD (kC (ij 2048 2048) kN) (fun a=>bq (jX a.1) (a.1.n+4*a.1.m) 2048) fun a=>[1≤a.1.n,a.1.n<2^30,a.1.m<2^28]
theorem abq {N:Nat}:bC T [nG] [6] 60 zX (au zX) ⟨aN 0 [.mag N],[],0⟩=
  let c2:Bool:=(↑(nl N):Int)==(0:Int);let c1:Int:=(↑(nl N):Int)-(1:Int);some (fork c2 (ag [c2=true] (leaf ret [AV.bool true])) (ag [c2=false,-(2:Int)^63≤c1∧c1<(2:Int)^63,(0:Int)≤c1∧c1.toNat<nl N] (leaf ret [AV.bool (bif false then true else(↑(az N c1.toNat):Int)!=(0:Int))]))):=by kernel_rfl
theorem abE {q:Rat} {n:Nat}:bC T Fo [18,25,29,33,43] 60 wJ (au wJ) ⟨aN 0 [.rat q n],[],0⟩=
  let c9:aa (List AV):=leaf ret [AV.bool false];let c7:Bool:=!decide (q<0);let c6:Nat:=q.num.natAbs;let c4:Nat:=2^40;let c3:Prop:=0<1;let c2:Nat:=if q.den=1 then 0 else q.den;let c5:Int:=(↑(nl c2):Int);let c10:Bool:=c5==(1:Int);let c8:Bool:=c5==(0:Int);let c1:aa (List AV):=ag [c3] (fork ((↑(nl c6):Int)==(0:Int)) (fork c7 (ag [c3,c7=true,c3] (leaf ret [AV.bool (bif true then c8 else false)])) (ag [c3,c7=false] c9)) (fork c8 (ag [c3,c8=true] (leaf ret [AV.bool true])) (ag [c3,c8=false,c3,c3,nl c6<c4,nl c2<c4,nl (c6.gcd c2)<c4] (leaf ret [AV.bool (bif false then true else(↑(bu (c6.gcd c2)):Int)==(1:Int))]))));some (fork c10 (ag [c3,nl c6<c4,c3,nl c2<c4,c3,c10=true,c3,(0:Int)≤(0:Int)∧Int.toNat (0:Int)<nl c2] (fork (bif bif !true then true else !true then true else bif true then(↑(az c2 (Int.toNat (0:Int))):Int)==(1:Int)else false) c9 c1)) (ag [c3,nl c6<c4,c3,nl c2<c4,c3,c10=false] (fork false c9 c1))):=by kernel_rfl
theorem aka {q:Rat} {n:Nat}:bC T Fo [] 60 vv (au vv) ⟨aN 0 [.rat q n],[],0⟩=
  let c2:Int:=(↑(bu q.den):Int);let c1:Int:=(↑(bu q.num.natAbs):Int);some (ag [(0:Nat)<1,nl q.num.natAbs<2^40,(0:Nat)<1,nl q.den<2^40] (leaf ret [int i64 (if c1<c2 then c2 else c1)])):=by kernel_rfl
theorem UA {q:Rat} {n:Nat}:bC T BX [] 60 yL (au yL) ⟨aN 0 [.rat q n],[],0⟩=
  some (ag [(0:Nat)<1,n<2^44] (leaf ret [AV.bool false])):=by kernel_rfl
theorem TO {q:Rat} {n:Nat}:bC T BX [] 60 AE (au AE) ⟨aN 0 [.rat q n],[],0⟩=
  some (ag [(0:Nat)<1,n<2^44] (leaf ret [AV.bool (decide ((↑(cz q):Int)>(2048:Int)))])):=by kernel_rfl
theorem Yl {p:Pl}:bC T BX [] 60 vP (au vP) ⟨aN 0 [bI p 2048],[],0⟩=
  some (ag [(0:Nat)<1,(2048:Nat)<2^42] (leaf ret [AV.bool (decide (ey p.d≤(0:Int)))])):=by kernel_rfl
theorem Y6 {n s:Nat} {k:Nat→Rat}:aJ T [nG] [] 60 [2] [au CB] ⟨aN 0 [.dg false 3 n (fun i=>.rat (k i) s)],[],0⟩=
  some (ag [(0:Nat)*3≤2^24,((0:Nat)+n)*((56:Nat)+1)*2≤2^47] (leaf ret ([own 20480 3 0 ((0:Nat)+n)],[((20480:Nat),ah.mk true true 3 ((0:Nat)+n) fun i↦rat (k (i-0)) s)]))):=by kernel_rfl
theorem Kt {n:Nat} {k:Nat→Rat} {g:FuncId}:aJ T GX [] 60 jW (before pJ [1,0,1]) ⟨aN 0 [bq k n 2048,.func g []],[],0⟩=
  some (leaf normal ([int i64 (0:Int),aj 3 n fun i↦rat (k i) 2048,func g [],int i64 (↑n:Int),int i64 (0:Int)],[])):=by kernel_rfl
theorem ag6 {n i:Nat} {k:Nat→Rat}:aJ T GX [9] 60 jW [part pJ [1,0,1,0,0]] ⟨aB jW (wL n i k iI),[],0⟩=
  let c4:Int:=(↑n:Int);let c2:AV:=aj 3 n fun i↦rat (k i) 2048;let c1:Int:=(↑i:Int);let c3:Int:=c1+(1:Int);some (fork (decide (c1<c4)) (ag [(0:Int)≤c1∧c1.toNat<n,(2048:Nat)≤2048] (ag [-(2:Int)^63≤c3∧c3<(2:Int)^63] (leaf normal ([int i64 (0:Int),c2,func iI [],int i64 c4,int i64 c3],[])))) (leaf (exit 0) ([int i64 (0:Int),c2,func iI [],int i64 c4,int i64 c1],[]))):=by kernel_rfl
theorem R5 {n i:Nat} {k:Nat→Rat}:aJ T GX [9] 60 jW [part pJ [1,0,1,0,0]] ⟨aB jW (wL n i k hU),[],0⟩=
  let c4:Int:=(↑n:Int);let c2:AV:=aj 3 n fun i↦rat (k i) 2048;let c1:Int:=(↑i:Int);let c3:Int:=c1+(1:Int);some (fork (decide (c1<c4)) (ag [(0:Int)≤c1∧c1.toNat<n,(2048:Nat)≤2048] (ag [-(2:Int)^63≤c3∧c3<(2:Int)^63] (leaf normal ([int i64 (0:Int),c2,func hU [],int i64 c4,int i64 c3],[])))) (leaf (exit 0) ([int i64 (0:Int),c2,func hU [],int i64 c4,int i64 c1],[]))):=by kernel_rfl
theorem Ng {n i:Nat} {k:Nat→Rat} {g:FuncId}:bY T GX [] 60 m7 [part pJ [1,1]] ⟨aB jW (wL n i k g),[],0⟩=
  some (leaf ret [int i64 (-1:Int)]):=by kernel_rfl
theorem YY {n:Nat} {f:Nat→Pl}:aJ T GX [] 60 jW (before As [1,0,1]) ⟨aN 0 [iW f n 2048,.func gd []],[],0⟩=
  some (leaf normal ([int i64 (0:Int),aj 12 n fun i↦agg [agg [rat (f i).n.x 2048,rat (f i).n.y 2048,rat (f i).n.z 2048],rat (f i).d 2048],func gd [],int i64 (↑n:Int),int i64 (0:Int)],[])):=by kernel_rfl
theorem aeR {n i:Nat} {f:Nat→Pl}:aJ T GX [9] 60 jW [part As [1,0,1,0,0]] ⟨aB jW (EO n i f gd),[],0⟩=
  let c5:Int:=(↑n:Int);let c3:Prop:=2048≤2048;let c2:Int:=(↑i:Int);let c1:AV:=aj 12 n fun i↦agg [agg [rat (f i).n.x 2048,rat (f i).n.y 2048,rat (f i).n.z 2048],rat (f i).d 2048];let c4:Int:=c2+(1:Int);some (fork (decide (c2<c5)) (ag [(0:Int)≤c2∧c2.toNat<n,c3,c3,Max.max 2048 2048≤2048,(0:Rat)<(f c2.toNat).d] (ag [-(2:Int)^63≤c4∧c4<(2:Int)^63] (leaf normal ([int i64 (0:Int),c1,func gd [],int i64 c5,int i64 c4],[])))) (leaf (exit 0) ([int i64 (0:Int),c1,func gd [],int i64 c5,int i64 c2],[]))):=by kernel_rfl
theorem aiw {n i:Nat} {f:Nat→Pl}:bY T GX [] 60 wS [part As [1,1]] ⟨aB jW (EO n i f gd),[],0⟩=
  some (leaf ret [int i64 (-1:Int)]):=by kernel_rfl
theorem WO {n:Nat} {k:Nat→Rat} {g:FuncId}:bC T GY [] 60 wk (au wk) ⟨aN 0 [bq k n 2048,.func g []],[],0⟩=
  some (ag [bK (fun i↦rat (k i) 2048) n 2048,n<2^40,g=iI∨g=hU] (leaf ret [AV.bool false])):=by kernel_rfl
theorem Sq {c:Cu}:aJ T CC [] 60 v5 (before xk [1,1,0,1]) ⟨aN 0 [bh c 2048 2048],[],0⟩=
  some (ag [(0:Nat)<1,bK (fun i↦rat (c.k i) 2048) c.n 2048,(1:Nat)≤c.n,c.n<2^30] (ag [(0:Nat)<1] (leaf normal ([nil,own 16384 3 0 c.n,aj 12 c.m fun i↦agg [agg [rat (c.f i).n.x 2048,rat (c.f i).n.y 2048,rat (c.f i).n.z 2048],rat (c.f i).d 2048],int i64 (↑c.m:Int),int i64 (0:Int)],[((16384:Nat),ah.mk true true 3 c.n fun i↦rat (aO (rat (c.k i) 2048)) 2048)])))):=by kernel_rfl
theorem Zl {c:Cu} {i:Nat}:aJ T CC [13] 60 v5 [part xk [1,1,0,1,0,0]] ⟨aB v5 (Hz c i),G7 c i,1⟩=
  let c7:Int:=(↑c.m:Int);let c5:Int:=(↑(3:Nat):Int);let c4:Prop:=0<1;let c3:Int:=(↑i:Int);let c2:Nat:=c.n+4*i;let c1:AV:=aj 12 c.m fun i↦agg [agg [rat (c.f i).n.x 2048,rat (c.f i).n.y 2048,rat (c.f i).n.z 2048],rat (c.f i).d 2048];let c9:Nat:=c2+4;let c8:Int:=c3+(1:Int);let c6:Pl:=c.f c3.toNat;some (fork (decide (c3<c7)) (ag [(0:Int)≤c3∧c3.toNat<c.m,c4] (ag [(0:Int)≤(0:Int)∧(0:Int)<c5,c4,(0:Int)≤(1:Int)∧(1:Int)<c5,c4,(0:Int)≤(2:Int)∧(2:Int)<c5,c4,c4,(4:Nat)*3≤2^24,c9*((56:Nat)+1)*2≤2^47] (ag [-(2:Int)^63≤c8∧c8<(2:Int)^63] (leaf normal ([nil,own 73729 3 0 c9,c1,int i64 c7,int i64 c8],[((73729:Nat),ah.mk true true 3 c9 fun i↦if i<c2 then rat (jX c i) 2048 else nth [rat c6.n.x 2048,rat c6.n.y 2048,rat c6.n.z 2048,rat c6.d 2048] (rat 0 1) (i-c2+0))]))))) (leaf (exit 0) ([nil,own 0 3 0 c2,c1,int i64 c7,int i64 c3],[((0:Nat),ah.mk true true 3 c2 fun j↦rat (jX c j) 2048)]))):=by kernel_rfl
theorem aco {c:Cu} {i:Nat}:bY T CC [] 60 vp [part xk [1,1,1]] ⟨aB v5 (Hz c i),G7 c i,1⟩=
  some (leaf ret [aj 3 (c.n+4*i) fun i↦rat (jX c (i+0)) 2048]):=by kernel_rfl
theorem Wr {N:Nat} (hn:nl N<2^40) (K:Nat):aA P zC K [.mag N] [] (aG (.bool true) []):=by
 refine bJ hT (cL bp) hm U9 rfl (of_decide_eq_true (by kernel_rfl)) rfl 60 abq (fun _=>?_) K []
 simp only[aa.all,ax]
 refine⟨fun h=>⟨h,.refl _⟩,fun h=>?_⟩
 have h0:nl N≠0:=fun he=>by rw[he]at h;exact absurd h (by decide)
 have h1:N≠0:=fun he=>h0 (iL.2 he)
 have e1:((nl N:Int)-1).toNat=nl N-1:=by omega
 have h2:=DD h1
 rw[e1]
 refine⟨⟨h,by omega,by omega⟩,eP ?_⟩
 rw[cond_false]
 exact bne_iff_ne.2 (by omega)
theorem ac5:∀K args pre r,J0 K args pre=some r→aA P zC K args pre r:=by
 refine bX fun K args r hk hs _=>?_
 split at hs
 ·simp only[Option.some.injEq]at hs
  subst hs
  exact fun need=>Wr need K trivial
 ·simp at hs
theorem Kv:aW P Fo:=cL (aH ac5 (aH Pf (aH JD (aH J9 bp))))
theorem WX {N:Nat} (h:nl N=1) (h1:az N 0=1):N=1:=by
 have h2:N<2^(32*1):=cT.1 (by omega)
 unfold az at h1
 omega
theorem abu {q:Rat} {n:Nat} (hn:n<2^44) (K:Nat):aA P AU K [.rat q n] [] (aG (.bool true) []):=by
 refine iC fun⟨hs1,_⟩=>?_
 obtain⟨a1,a2,a3⟩:=Sz.iJ hs1 hn
 refine bJ hT Kv hm ake rfl (of_decide_eq_true (by kernel_rfl)) rfl 60 abE (fun _=>?_) K []
 obtain⟨D,hD⟩:∃D,D=if q.den=1 then 0 else q.den:=⟨_,rfl⟩
 have hD1:D≠1:=by rw[hD];split<;>omega
 have hg:D≠0→q.num.natAbs.gcd D=1:=fun h=>by
  have:D=q.den:=by rw[hD]at h ⊢;split<;>simp_all
  rw[this];exact q.reduced
 have hz:q.num.natAbs=0→¬q<0∧D=0:=fun h=>by
  have h0:=me.1 h
  subst h0
  exact⟨by decide,by rw[hD];rfl⟩
 rw[←hD]at a3 ⊢
 have nneg:((nl q.num.natAbs:Int)==0)=true→(!decide (q<0))=true∧((nl D:Int)==0)=true:=fun h=>by
  obtain⟨z1,z2⟩:=hz (iL.1 (by have:=beq_iff_eq.1 h;omega))
  rw[decide_eq_false z1,z2];exact⟨rfl,rfl⟩
 have last:((nl D:Int)==0)=false→D≠0:=fun h he=>by rw[he]at h;exact absurd h (by decide)
 simp only[aa.all,ax,cond_true,cond_false,Bool.not_true]
 refine⟨fun h=>⟨⟨by omega,a1,by omega,a3,by omega,h,by omega,by omega,?_⟩,fun h2=>?_,fun h2=>⟨by omega,fun h3=>⟨fun h4=>⟨⟨by omega,h4,by omega⟩,eP (nneg h3).2⟩,fun h4=>absurd (h4.symm.trans (nneg h3).1) (by decide)⟩,fun h3=>⟨fun h4=>⟨⟨by omega,h4⟩,.refl _⟩,fun h4=>?_⟩⟩⟩,
  fun h=>⟨⟨by omega,a1,by omega,a3,by omega,h⟩,fun h=>absurd h (by decide),fun _=>⟨by omega,fun h3=>⟨fun h4=>⟨⟨by omega,h4,by omega⟩,eP (nneg h3).2⟩,fun h4=>absurd (h4.symm.trans (nneg h3).1) (by decide)⟩,fun h3=>⟨fun h4=>⟨⟨by omega,h4⟩,.refl _⟩,fun h4=>?_⟩⟩⟩⟩
 ·have:=beq_iff_eq.1 h
  rw[Int.toNat_zero];omega
 ·have e1:=beq_iff_eq.1 h
  have e2:=beq_iff_eq.1 h2
  exact absurd (WX (by omega) (by rw[Int.toNat_zero]at e2;omega)) hD1
 ·rw[hg (last h4)]
  exact⟨⟨by omega,h4,by omega,by omega,a1,a3,by decide⟩,eP (by decide)⟩
 ·rw[hg (last h4)]
  exact⟨⟨by omega,h4,by omega,by omega,a1,a3,by decide⟩,eP (by decide)⟩
theorem abL:∀K args pre r,IP K args pre=some r→aA P AU K args pre r:=by
 refine bX fun K args r hk hs _=>?_
 split at hs
 ·simp only[Option.some.injEq]at hs
  subst hs
  exact fun need=>abu need K trivial
 ·simp at hs
theorem ajV {q:Rat} {n:Nat} (hn:n<2^44) (K:Nat):aA P AQ K [.rat q n] [] (aG (.int .i64 (cz q:Nat)) []):=by
 refine iC fun⟨hs1,_⟩=>?_
 obtain⟨a1,a2,a3⟩:=Sz.iJ hs1 hn
 refine bJ hT Kv hm X4 rfl (of_decide_eq_true (by kernel_rfl)) rfl 60 aka (fun _=>?_) K []
 simp only[aa.all,ax]
 refine⟨⟨by omega,a1,by omega,a2⟩,bt ?_⟩
 unfold cz
 split<;>omega
theorem Q8:∀K args pre r,PT K args pre=some r→aA P AQ K args pre r:=by
 refine bX fun K args r hk hs _=>?_
 split at hs
 ·simp only[Option.some.injEq]at hs
  subst hs
  exact fun need=>ajV need K trivial
 ·simp at hs
theorem EE:aW P BX:=cL (aH abL (aH Q8 gY))
theorem ab0:∀K args pre r,B0 K args pre=some r→aA P iI K args pre r:=by
 refine bX fun K args r hk hs _=>?_
 split at hs
 ·rename_i q n
  simp only[Option.some.injEq]at hs
  subst hs
  intro need
  have hn:n≤2048:=need
  refine bJ (r:=aG (.bool false) [n≤2048]) hT EE hm aaM rfl (of_decide_eq_true (by kernel_rfl)) rfl 60 UA (fun _=>?_) K [] need
  simp only[aa.all,ax]
  (repeat' with_reducible refine And.intro ?_ ?_)
  all_goals first|omega|exact .refl _|skip
 ·simp at hs
theorem RD:∀K args pre r,B0 K args pre=some r→aA P hU K args pre r:=by
 refine bX fun K args r hk hs _=>?_
 split at hs
 ·rename_i q n
  simp only[Option.some.injEq]at hs
  subst hs
  intro need
  have hn:n≤2048:=need
  refine(iC (P:=P) (f:=hU) (K:=K) (args:=[.rat q n]) (pre:=[]) (v:=.bool false) (l:=[n≤2048]) fun⟨hs1,_⟩=>?_) need
  have h1:=TG.1 hs1
  refine bJ (r:=aG (.bool false) [n≤2048]) hT EE hm abb rfl (of_decide_eq_true (by kernel_rfl)) rfl 60 TO (fun _=>?_) K []
  simp only[aa.all,ax]
  (repeat' with_reducible refine And.intro ?_ ?_)
  all_goals first|omega|skip
  exact eP (decide_eq_false (by omega))
 ·simp at hs
theorem adX:∀K args pre r,Qu K args pre=some r→aA P gd K args pre r:=cj fun⟨p,_⟩ K hn=>by
 have hd:0<p.d:=hn
 refine bJ (r:=aG (.bool false) []) hT EE hm aa5 rfl (of_decide_eq_true (by kernel_rfl)) rfl 60 Yl (fun _=>?_) K []
 have hs:ey p.d=1:=by
  unfold ey
  rw[if_neg (by grind),if_pos hd]
 simp only[aa.all,ax,hs]
 (repeat' with_reducible refine And.intro ?_ ?_)
 all_goals first|omega|decide|exact .refl _|skip
theorem FI:aW P GX:=cL (aH ab0 (aH RD (aH adX bp)))
theorem akt {n:Nat} {k:Nat→Rat} {g:FuncId} (hn:n<2^40) (hg:g=iI∨g=hU) (K:Nat):aA P mq K [bq k n 2048,.func g []] [] (aG (.int .i64 (-1)) []):=by
 rcases hg with rfl|rfl
 ·refine fD (r:=aG (.int .i64 (-1)) []) hT FI hm MD rfl (of_decide_eq_true (by kernel_rfl)) rfl [1,0,1] (i:=0) (y:=part pJ [1,0,1,0,0]) (z:=part pJ [1,1]) (by kernel_rfl) (by kernel_rfl) (by kernel_rfl) (f1:=[]) (f2:=[9]) (f3:=[]) 60 jW 0
   (fun i:Nat=>wL n i k iI) (fun _=>[]) (fun i=>i≤n) (fun i=>i=n) (fun i=>n-i) (fun _=>⟨⟨_,Kt,?_⟩,fun i hi=>⟨_,ag6,?_⟩,fun i hi=>⟨_,Ng,?_⟩⟩) K []
  ·simp only[aa.all,ax]
   exact⟨0,Nat.zero_le _,[],rfl,rfl,rfl,trivial⟩
  ·simp only[aa.all,ax,decide_eq_true_eq,decide_eq_false_iff_not,Int.toNat_natCast]
   exact⟨fun h=>⟨⟨by omega,by omega⟩,by omega,i+1,by omega,by dsimp only;omega,[],rfl,rfl,rfl,trivial⟩,fun h=>⟨rfl,i,by omega,[],rfl,rfl,rfl,trivial⟩⟩
  ·simp only[aa.all,ax]
   exact .refl _
 ·refine fD (r:=aG (.int .i64 (-1)) []) hT FI hm MD rfl (of_decide_eq_true (by kernel_rfl)) rfl [1,0,1] (i:=0) (y:=part pJ [1,0,1,0,0]) (z:=part pJ [1,1]) (by kernel_rfl) (by kernel_rfl) (by kernel_rfl) (f1:=[]) (f2:=[9]) (f3:=[]) 60 jW 0
   (fun i:Nat=>wL n i k hU) (fun _=>[]) (fun i=>i≤n) (fun i=>i=n) (fun i=>n-i) (fun _=>⟨⟨_,Kt,?_⟩,fun i hi=>⟨_,R5,?_⟩,fun i hi=>⟨_,Ng,?_⟩⟩) K []
  ·simp only[aa.all,ax]
   exact⟨0,Nat.zero_le _,[],rfl,rfl,rfl,trivial⟩
  ·simp only[aa.all,ax,decide_eq_true_eq,decide_eq_false_iff_not,Int.toNat_natCast]
   exact⟨fun h=>⟨⟨by omega,by omega⟩,by omega,i+1,by omega,by dsimp only;omega,[],rfl,rfl,rfl,trivial⟩,fun h=>⟨rfl,i,by omega,[],rfl,rfl,rfl,trivial⟩⟩
  ·simp only[aa.all,ax]
   exact .refl _
theorem aeY:∀K args pre r,JA K args pre=some r→aA P mq K args pre r:=cj fun⟨⟨n,k⟩,g,_⟩ K hn=>akt hn.1 hn.2 K
theorem Uv:aW P GY:=cL (aH aeY bp)
theorem adi:∀K args pre r,OH K args pre=some r→aA P Cs K args pre r:=cj fun⟨⟨n,k⟩,g,_⟩ K hn=>by
 refine bJ (r:=aG (.bool false) []) hT Uv hm aaT rfl (of_decide_eq_true (by kernel_rfl)) rfl 60 WO (fun _=>?_) K []
 simp only[aa.all,ax]
 exact⟨⟨ct (Nat.le_refl _),hn.1,hn.2⟩,.refl _⟩
noncomputable def P0:Spec:=cD (kC (rZ 2048) (kC B8 kN)) (fun _=>.int .i64 (-1)) fun a=>[a.1.1<2^40,∀i,i<a.1.1→0<(a.1.2 i).d,a.2.1=gd]
noncomputable def Qr:Spec:=cD (kC (rZ 2048) (kC B8 kN)) (fun _=>.bool false) fun a=>[a.1.1<2^40,∀i,i<a.1.1→0<(a.1.2 i).d,a.2.1=gd]
noncomputable def KC:aS:=nG::(y5,P0)::[]
noncomputable def LU:aS:=nG::(z5,JM)::(Cs,OH)::(DO,Qr)::(sC,GI)::(qS,pU)::[]
theorem Vf {n:Nat} {f:Nat→Pl} (hn:n<2^40) (hf:∀i,i<n→0<(f i).d) (K:Nat):aA P y5 K [iW f n 2048,.func gd []] [] (aG (.int .i64 (-1)) []):=by
 refine fD (r:=aG (.int .i64 (-1)) []) hT FI hm TS rfl (of_decide_eq_true (by kernel_rfl)) rfl [1,0,1] (i:=0) (y:=part As [1,0,1,0,0]) (z:=part As [1,1]) (by kernel_rfl) (by kernel_rfl) (by kernel_rfl) (f1:=[]) (f2:=[9]) (f3:=[]) 60 jW 0
  (fun i:Nat=>EO n i f gd) (fun _=>[]) (fun i=>i≤n) (fun i=>i=n) (fun i=>n-i) (fun _=>⟨⟨_,YY,?_⟩,fun i hi=>⟨_,aeR,?_⟩,fun i hi=>⟨_,aiw,?_⟩⟩) K []
 ·simp only[aa.all,ax]
  exact⟨0,Nat.zero_le _,[],rfl,rfl,rfl,trivial⟩
 ·simp only[aa.all,ax,decide_eq_true_eq,decide_eq_false_iff_not,Int.toNat_natCast]
  exact⟨fun h=>⟨⟨by omega,by omega,by omega,by decide,hf i (by omega)⟩,by omega,i+1,by omega,by dsimp only;omega,[],rfl,rfl,rfl,trivial⟩,fun h=>⟨rfl,i,by omega,[],rfl,rfl,rfl,trivial⟩⟩
 ·simp only[aa.all,ax]
  exact .refl _
theorem Re:∀K args pre r,P0 K args pre=some r→aA P y5 K args pre r:=cj fun⟨⟨n,f⟩,g,_⟩ K hn=>by
 have hg:g=gd:=hn.2.2
 subst hg
 exact Vf hn.1 hn.2.1 K
theorem acC {args:List AV} {n:Nat} {k:Nat→Rat} {l:List Prop} (ha:ax l→fm (aV []) args [.dg false 3 n (fun i=>.rat (k i) 2048)]) (hn:ax l→1≤n∧n<2^30) (K:Nat):aA P ux K args [] ⟨kA [.own K 3 0 n],[(K,⟨true,true,3,n,fun i=>.rat (k i) 2048⟩)],l⟩:=by
 refine Qg hT ajS ha (of_decide_eq_true (by kernel_rfl)) fun need c hk=>?_
 obtain⟨h1,h2⟩:=hn need
 refine aq.bk hT (cL bp) hm 60 [2] Y6 (by kernel_rfl) ?_
 simp only[aa.all,ax]
 exact⟨⟨by omega,by omega⟩,fun s' hs'=>⟨.inr trivial,[2],_,[.own 20480 3 0 (0+n)],_,20480,_,hs',by kernel_rfl,⟨⟨rfl,cV (by simp[aV,look]) rfl (by omega)⟩,trivial⟩,rfl,je (by omega) fun i hi=>aK rfl⟩⟩
theorem UO {n:Nat} {k:Nat→Rat} {l:List Prop} (hn:ax l→1≤n∧n<2^30) (K:Nat):aA P ux K [bq k n 2048] [] ⟨kA [.own K 3 0 n],[(K,⟨true,true,3,n,fun i=>.rat (k i) 2048⟩)],l⟩:=by
 refine Qp fun b hb=>?_
 intro need
 have h1:=hn need
 cases b
 ·exact acC (args:=[.dg false 3 n (fun i=>.rat (k i) 2048)]) (fun _=>⟨⟨rfl,aK rfl⟩,trivial⟩) hn K need
 ·have:=hb rfl
  omega
theorem Wq:∀K args pre r,Nt K args pre=some r→aA P ux K args pre r:=by
 refine Bo fun K args r hk hs=>?_
 split at hs
 ·rename_i v
  split at hs
  ·rename_i n k q hv
   simp only[Option.some.injEq]at hs
   subst hs
   intro need
   obtain⟨hn1,hn2⟩:=er.1 need
   exact fO (UO (l:=q++[1≤n,n<2^30]) (fun h=>⟨(er.1 h).2.1,(er.1 h).2.2⟩) K) hk ⟨(kL 2048).ok hv hn1,trivial⟩ [] need
  ·simp at hs
 ·simp at hs
theorem Xg:aW P CC:=cL (aH Wq bp)
theorem W1 {c:Cu} {i j:Nat} {rl:List (Nat×Nat)} (hj:j<c.n+4*i+4):fz rl (if j<c.n+4*i then .rat (jX c j) 2048 else nth [.rat (c.f i).n.x 2048,.rat (c.f i).n.y 2048,.rat (c.f i).n.z 2048,.rat (c.f i).d 2048] (.rat 0 1) (j-(c.n+4*i)+0)) (.rat (jX c j) 2048):=by
 by_cases h:j<c.n+4*i
 ·rw[if_pos h];exact aE rfl rfl
 ·rw[if_neg h]
  have key:∀a,a<4→j=c.n+4*i+a→jX c j=gV (c.f i) a:=fun a ha hj=>by
   unfold jX
   rw[if_neg (by omega),show(j-c.n)/4=i by omega,show(j-c.n)%4=a by omega]
  rcases(show j=c.n+4*i+0∨j=c.n+4*i+1∨j=c.n+4*i+2∨j=c.n+4*i+3 by omega)with h'|h'|h'|h'
  ·rw[key 0 (by omega) h',h',show c.n+4*i+0-(c.n+4*i)+0=0 by omega];exact aE rfl rfl
  ·rw[key 1 (by omega) h',h',show c.n+4*i+1-(c.n+4*i)+0=1 by omega];exact aE rfl rfl
  ·rw[key 2 (by omega) h',h',show c.n+4*i+2-(c.n+4*i)+0=2 by omega];exact aE rfl rfl
  ·rw[key 3 (by omega) h',h',show c.n+4*i+3-(c.n+4*i)+0=3 by omega];exact aE rfl rfl
theorem adl {c:Cu} (h1:1≤c.n) (hn:c.n<2^30) (hm2:c.m<2^28) (K:Nat):aA P z5 K [bh c 2048 2048] [] (aG (bq (jX c) (c.n+4*c.m) 2048) []):=by
 refine fD (r:=aG (bq (jX c) (c.n+4*c.m) 2048) []) hT Xg hm ajY rfl (of_decide_eq_true (by kernel_rfl)) rfl [1,1,0,1] (i:=0) (y:=part xk [1,1,0,1,0,0]) (z:=part xk [1,1,1]) (by kernel_rfl) (by kernel_rfl) (by kernel_rfl) (f1:=[]) (f2:=[13]) (f3:=[]) 60 v5 1
  (fun i:Nat=>Hz c i) (fun i=>G7 c i) (fun i=>i≤c.m) (fun i=>i=c.m) (fun i=>c.m-i) (fun _=>⟨⟨_,Sq,?_⟩,fun i hi=>⟨_,Zl,?_⟩,fun i hi=>⟨_,aco,?_⟩⟩) K []
 ·simp only[aa.all,ax]
  exact⟨⟨by omega,ct (Nat.le_refl _),by omega,by omega⟩,by omega,0,Nat.zero_le _,[(0,16384)],rfl,rfl,rfl,bB rfl rfl rfl (fun j hj=>aE rfl (by unfold jX;rw[if_pos (by omega)];rfl)) trivial⟩
 ·simp only[aa.all,ax,decide_eq_true_eq,decide_eq_false_iff_not,Int.toNat_natCast]
  refine⟨fun h=>?_,fun h=>⟨rfl,i,by omega,[(0,0)],rfl,rfl,rfl,bB rfl rfl rfl (fun j hj=>aE rfl rfl) trivial⟩⟩
  (repeat' with_reducible refine And.intro ?_ ?_)
  all_goals first|omega|decide|skip
  refine⟨i+1,by omega,by dsimp only;omega,[(0,73729)],rfl,?_,rfl,bB rfl rfl ?_ (fun j hj=>W1 (by omega)) trivial⟩
  ·show _=[_,AV.own 0 3 0 (c.n+4*(i+1)),_,_,_].map _
   rw[show c.n+4*(i+1)=c.n+4*i+4 by omega];rfl
  ·show c.n+4*(i+1)=c.n+4*i+4
   omega
 ·subst hi
  simp only[aa.all,ax]
  exact .refl _
theorem Yn:∀K args pre r,JM K args pre=some r→aA P z5 K args pre r:=cj fun⟨c,_⟩ K hn=>adl hn.1 hn.2.1 hn.2.2 K
theorem ag4 {n:Nat} {f:Nat→Pl}:bC T KC [] 60 ve (au ve) ⟨aN 0 [iW f n 2048,.func gd []],[],0⟩=
  some (ag [fj (fun i↦bI (f i) 2048) n 2048,n<2^40,∀(i:Nat),i<n→0<aO (rat (f i).d 2048),gd=gd] (leaf ret [AV.bool false])):=by kernel_rfl
theorem ack {c:Cu}:bC T LU [200015,200017] 60 xR (au xR) ⟨aN 0 [bh c 2048 2048],[],0⟩=
  let c5 : Nat := c.n + 4 * c.m; let c4 : Prop := fj (fun i ↦ bI (c.f i) 2048) c.m 2048; let c3 : Nat := 2 ^ 40; let c2 : Prop := 0 < 1; let c1 : Prop := bK (fun i ↦ rat (jX (Cu.mk c.p c.n (fun i ↦ aO (rat (c.k i) 2048)) c.m fun i ↦ fI (bI (c.f i) 2048)) i) 2048) c5 2048; some (ag [c2, bK (fun i ↦ rat (c.k i) 2048) c.n 2048, c4, (1 : Nat) ≤ c.n, c.n < 2 ^ 30, c.m < 2 ^ 28] (ag [c1, c5 < c3, iI = iI ∨ iI = hU] (ag [c2, c2, bK (fun i ↦ rat (c.k i) 2048) c.n sJ, c.n < c3] (ag [(fZ c.n (fun i ↦ aO (rat (c.k i) 2048)) c.p != (0 : Int)) = false] (ag [c2, c2, c2, bK (fun i ↦ rat (c.k i) 2048) c.n sK, c.n < c3, -(2 : Int) ^ 40 < c.p, c.p < (2 : Int) ^ 40] (ag [((↑c.m : Int) != (↑c.n : Int) - c.p - (1 : Int)) = false] (ag [c2, c4, c.m < c3, ∀ (i : Nat), i < c.m → 0 < aO (rat (c.f i).d 2048), gd = gd] (ag [c1, c5 < c3, hU = iI ∨ hU = hU] (leaf ret [int i64 (0 : Int)]))))))))) := by kernel_rfl
theorem acz:aW P KC:=cL (aH Re bp)
theorem ads:∀K args pre r,Qr K args pre=some r→aA P DO K args pre r:=cj fun⟨⟨n,f⟩,g,_⟩ K hn=>by
 have hg:g=gd:=hn.2.2
 subst hg
 refine bJ (r:=aG (.bool false) []) hT acz hm aiy rfl (of_decide_eq_true (by kernel_rfl)) rfl 60 ag4 (fun _=>?_) K []
 simp only[aa.all,ax]
 exact⟨⟨gU (Nat.le_refl _),hn.1,hn.2.1,by trivial⟩,.refl _⟩
theorem QS:aW P LU:=cL (aH Yn (aH adi (aH ads (aH Nl (aH Dg bp)))))
noncomputable def Mt:Spec:=cD (kC (ij 2048 2048) kN) (fun _=>.int .i64 0) fun a=>[dU a.1,∀i,i<a.1.m→0<(a.1.f i).d]
theorem Ro:∀K args pre r,Mt K args pre=some r→aA P Co K args pre r:=cj fun⟨c,_⟩ K hn=>by
 obtain⟨⟨h1,h2,h3,h4,h5⟩,hw⟩:dU c∧_:=hn
 have hl:=h1.len
 refine bJ (r:=aG (.int .i64 0) []) hT QS hm acp rfl (of_decide_eq_true (by kernel_rfl)) rfl 60 ack (fun _=>?_) K []
 have hc0:fZ c.n c.k c.p=0:=by have:=h1.IW (by omega) h4;rwa [Int.toNat_of_nonneg (by omega)]at this
 simp only[aa.all,ax]
 (repeat' with_reducible refine And.intro ?_ ?_)
 all_goals first|omega|exact ct (by decide)|exact gU (by decide)|exact hw|exact bne_eq_false_iff_eq.2 hc0|exact bne_eq_false_iff_eq.2 h5|exact .inl trivial|exact .inr trivial|trivial|exact .refl _|skip
end Go.Am.B

/- ref10.Check. -/
namespace Go.Am.B
open Go Go.Am.N AV aa ak IntKind
end Go.Am.B

/- brepkernelmade: Knots. -/
namespace Go.Am.B
open Go Go.Am.N AV aa ak IntKind
theorem MO:aP P vY Au (au Au):=aQ QX (by kernel_rfl) (by kernel_rfl) (by kernel_rfl)
def nv:aS:=nG::(pS,iy sw)::(mR,AG)::(oR,uZ)::o7
abbrev kz (n:Nat) (z:Nat→Int) (a:Int):ah:=iS n (fun i=>.int .i64 (z i)) a
abbrev tO (t:Rat):ah:=⟨false,true,3,1,fun _=>.rat t 64⟩
abbrev Vd (m:Nat) (k:Nat→Rat):ah:=⟨true,true,3,m,fun i=>.rat (k i) 64⟩
abbrev pX:List Nat:=[0,1,2,7,8,9]
abbrev D3 (p m:Int) (v:AV) (i:Int):List AV:=[.ptr 0 0 2 0 [],.int .i64 p,.int .i64 m,.ptr 1 0 3 0 [],v,.int .i64 i]
noncomputable abbrev xE:Code:=au Au
noncomputable abbrev we:Code:=part xE [1,1,1,1]
noncomputable abbrev tu:Code:=part we [1]
abbrev zc:List Nat:=[0,1,7,8,10]
abbrev vM:List Nat:=[0,1,7,8,11]
abbrev qE (p:Int) (l:Nat) (i:Int):List AV:=[.ptr 0 0 2 0 [],.int .i64 p,.ptr 1 0 3 0 [],.own 2 3 0 l,.int .i64 i]
abbrev mw (n:Nat) (z:Nat→Int) (a:Int) (t:Rat) (l:Nat) (k:Nat→Rat):aC:=[(2,Vd l k),(1,tO t),(0,kz n z a)]
theorem W9 {n:Nat} {z:Nat→Int} {a p m:Int}:aJ T nv [] 60 pX (before xE [1,1,1,0,1]) ⟨aN 0 [.ptr 0 0 2 0 [],.int .i64 p,.int .i64 m],[(0,kz n z a)],1⟩=
  let c2:Int:=(2:Int)^63;let c1:Int:=cS n (fun i↦int i64 (z i)) a (4:Int)-(2:Int);some (ag [cN n (fun i↦int i64 (z i)) a,(0:Int)<(4:Int),(4:Int)<(2:Int)^62,-c2≤c1∧c1<c2,-c2≤c1,c1<c2,(0:Nat)<1] (leaf normal ([ptr 0 0 2 0 [],int i64 p,int i64 m,ptr 20481 0 3 0 [],nil,int i64 (0:Int)],[((20481:Nat),ah.mk false true 3 1 fun j↦if(j==0)=true then aT (rat (↑c1:Rat) (Max.max 1 (bu c1.natAbs)))else rat 0 1),((0:Nat),ah.mk false true 2 1 fun x↦agg [aj 1 n fun i↦int i64 (z i),int i64 (bA n a)])]))):=by kernel_rfl
theorem ag5 {n:Nat} {z:Nat→Int} {a p m:Int} {t:Rat}:aJ T nv [18] 60 pX [part xE [1,1,1,0,1,0,0]] ⟨aB pX (D3 p m .nil 0),[(1,tO t),(0,kz n z a)],3⟩=
  let c3:AV:=ptr 1 0 3 0 [];let c2:AV:=ptr 0 0 2 0 [];let c1:List (Nat×ah):=[((1:Nat),ah.mk false true 3 1 fun x↦rat t 64),((0:Nat),ah.mk false true 2 1 fun x↦agg [aj 1 n fun i↦int i64 (z i),int i64 a])];some (fork (decide ((0:Int)≤p)) (ag [(0:Nat)<1,(1:Nat)*3≤2^24,(0:Nat)<1∧1*((56:Nat)+1)*2≤2^47] (ag [-(2:Int)^63≤(0:Int)+(1:Int)∧(0:Int)+(1:Int)<(2:Int)^63] (leaf normal ([c2,int i64 p,int i64 m,c3,own 24579 3 0 1,int i64 (1:Int)],((24579:Nat),ah.mk true true 3 1 fun i↦nth [rat t 64] (rat 0 1) (i+0))::c1)))) (leaf (exit 0) ([c2,int i64 p,int i64 m,c3,nil,int i64 (0:Int)],c1))):=by kernel_rfl
theorem agH {n j:Nat} {z:Nat→Int} {a p m:Int} {t:Rat} {k:Nat→Rat}:aJ T nv [18] 60 pX [part xE [1,1,1,0,1,0,0]] ⟨aB pX (D3 p m (.own 2 3 0 (j+1)) ((j+1:Nat):Int)),mw n z a t (j+1) k,3⟩=
  let c4:AV:=ptr 1 0 3 0 [];let c3:AV:=ptr 0 0 2 0 [];let c2:Nat:=j+1;let c1:List (Nat×ah):=[((1:Nat),ah.mk false true 3 1 fun x↦rat t 64),((0:Nat),ah.mk false true 2 1 fun x↦agg [aj 1 n fun i↦int i64 (z i),int i64 a])];let c7:Nat:=c2+1;let c6:Int:=(↑c2:Int);let c5:Int:=c6+(1:Int);some (fork (decide (c6≤p)) (ag [(0:Nat)<1,(1:Nat)*3≤2^24,c7*((56:Nat)+1)*2≤2^47] (ag [-(2:Int)^63≤c5∧c5<(2:Int)^63] (leaf normal ([c3,int i64 p,int i64 m,c4,own 24579 3 0 c7,int i64 c5],((24579:Nat),ah.mk true true 3 c7 fun i↦if i<c2 then rat (k i) 64 else nth [rat t 64] (rat 0 1) (i-c2+0))::c1)))) (leaf (exit 0) ([c3,int i64 p,int i64 m,c4,own 2 3 0 c2,int i64 c6],((2:Nat),ah.mk true true 3 c2 fun i↦rat (k i) 64)::c1))):=by kernel_rfl
theorem aei {n j:Nat} {z:Nat→Int} {a p m:Int} {t:Rat} {k:Nat→Rat}:aJ T nv [] 60 zc (before we [0,1]) ⟨aB pX (D3 p m (.own 2 3 0 (j+1)) ((j+1:Nat):Int)),mw n z a t (j+1) k,3⟩=
  let c1:Int:=m+(1:Int);some (ag [-(2:Int)^63≤c1∧c1<(2:Int)^63,cN n (fun i↦int i64 (z i)) a,(0:Int)<c1,c1<(2:Int)^62] (leaf normal ([ptr 0 0 2 0 [],int i64 p,ptr 1 0 3 0 [],own 2 3 0 (j+1),int i64 (cS n (fun i↦int i64 (z i)) a c1)],[((2:Nat),ah.mk true true 3 (j+1) fun i↦rat (k i) 64),((1:Nat),ah.mk false true 3 1 fun x↦rat t 64),((0:Nat),ah.mk false true 2 1 fun x↦agg [aj 1 n fun i↦int i64 (z i),int i64 (bA n a)])]))):=by kernel_rfl
theorem Ur {n l:Nat} {z:Nat→Int} {a p i:Int} {t:Rat} {k:Nat→Rat}:aJ T nv [30,38,43,53] 60 zc [part we [0,1,0,0]] ⟨aB zc (qE p l i),mw n z a t l k,3⟩=
  let c40:Int:=i-(1:Int);let c39:Nat:=64+64+1;let c35:AV:=rat t 64;let c34:AV:=rat 0 1;let c33:Int:=bA n a;let c31:Nat:=l+1;let c30:Prop:=(0:Int)<(3:Int);let c28:Prop:=cN n (fun i↦int i64 (z i)) a;let c27:Int:=(↑l:Int);let c25:AV:=ptr 1 0 3 0 [];let c24:AV:=ptr 0 0 2 0 [];let c23:Prop:=0<1;let c21:Int:=(2:Int)^62;let c20:AV:=aj 1 n fun i↦int i64 (z i);let c18:Int:=p+(1:Int);let c16:Prop:=64<2^41;let c7:Int:=cS n (fun i↦int i64 (z i)) a (3:Int);let c5:Int:=(2:Int)^63;let c43:Int:=bA n c33;let c41:Bool:=c27==c18;let c38:Prop:=cN n (fun i↦int i64 (z i)) c33;let c37:Prop:=(3:Int)<c21;let c32:Prop:=-c5≤c18∧c18<c5;let c29:Int:=(1:Int)+c7;let c26:Nat×ah:=((1:Nat),ah.mk false true 3 1 fun x↦c35);let c22:Bool:=bif false then true else decide (c7>(0:Int));let c19:List Prop:=[-c5≤c40∧c40<c5];let c17:Nat:=(c27-p).toNat+0;let c15:Nat×ah:=((106499:Nat),ah.mk true true 3 c31 fun i↦if i<l then rat (k i) 64 else nth [c35] c34 (i-l+0));let c13:List AV:=[c24,int i64 p,c25,own 147459 3 0 c31,int i64 c40];let c12:List AV:=[c24,int i64 p,c25,own 106499 3 0 c31,int i64 c40];let c10:Int:=(1:Int)+cS n (fun i↦int i64 (z i)) c33 (2:Int);let c9:Int:=(1:Int)+cS n (fun i↦int i64 (z i)) c33 (3:Int);let c6:List Prop:=[c23,(1:Nat)*3≤2^24,c31*((56:Nat)+1)*2≤2^47];let c42:Rat:=(↑c29:Rat)/(↑c10:Rat);let c36:Bool:=bif false then true else decide (t=k c17);let c14:List (Nat×ah):=[c26,((0:Nat),ah.mk false true 2 1 fun x↦agg [c20,int i64 a])];let c11:List Prop:=[c23,-c5≤c27-p∧c27-p<c5,(0:Int)≤c27-p∧(c27-p).toNat<l,c17<l,c16,c16];let c8:Int:=(1:Int)+cS n (fun i↦int i64 (z i)) c43 (2:Int);let c3:aa (List AV×aC):=ag c6 (ag c19 (leaf normal (c12,[c15,c26,((0:Nat),ah.mk false true 2 1 fun x↦agg [c20,int i64 c33])])));let c44:Rat:=(↑c9:Rat)/(↑c8:Rat);let c4:aa (List AV×aC):=ag c6 (ag c19 (leaf normal (c12,c15::c14)));let c2:aa (List AV×aC):=ag [c23,c28,c30,c37,-c5≤c29∧c29<c5,c38,(0:Int)<(2:Int),(2:Int)<c21,-c5≤c10∧c10<c5,-c5≤c29,c29<c5,-c5≤c10,c10<c5,c16,c16,c23] (ag c6 (ag c19 (leaf normal (c13,[((147459:Nat),ah.mk true true 3 c31 fun i↦if i<l then rat (k i) 64 else nth [rat (t+c42) c39] c34 (i-l+0)),((1:Nat),ah.mk false true 3 1 fun j↦if(j==0)=true then aT (lF (t,(64:Nat)) (c42,(64:Nat)))else c35),((0:Nat),ah.mk false true 2 1 fun x↦agg [c20,int i64 c43])]))));let c1:aa (List AV×aC):=ag [c23,c38,c30,c37,-c5≤c9∧c9<c5,cN n (fun i↦int i64 (z i)) c43,(0:Int)<(2:Int),(2:Int)<c21,-c5≤c8∧c8<c5,-c5≤c9,c9<c5,-c5≤c8,c8<c5,c16,c16,c23] (ag c6 (ag c19 (leaf normal (c13,[((147459:Nat),ah.mk true true 3 c31 fun i↦if i<l then rat (k i) 64 else nth [rat (t+c44) c39] c34 (i-l+0)),((1:Nat),ah.mk false true 3 1 fun j↦if(j==0)=true then aT (lF (t,(64:Nat)) (c44,(64:Nat)))else c35),((0:Nat),ah.mk false true 2 1 fun x↦agg [c20,int i64 (bA n c43)])]))));some (fork (decide (i>(0:Int))) (fork c41 (fork true (ag [c32,c41=true,true=true] (fork true c2 c4)) (ag (c32::(c41=true)::(true=false)::c11) (fork c36 c2 c4))) (fork c22 (ag [c32,c41=false,c28,c30,c37,c22=true] (fork true c1 c3)) (ag (c32::(c41=false)::c28::c30::c37::(c22=false)::c11) (fork c36 c1 c3)))) (leaf (exit 2) ([c24,int i64 p,c25,own 2 3 0 l,int i64 i],((2:Nat),ah.mk true true 3 l fun i↦rat (k i) 64)::c14))):=by kernel_rfl
theorem adt {n l:Nat} {z:Nat→Int} {a p i:Int} {t:Rat} {k:Nat→Rat}:aJ T nv [] 60 vM (before tu [1,0,1]) ⟨aB zc (qE p l i),mw n z a t l k,3⟩=
  let c1:Nat:=Max.max 1 (bu (Int.natAbs (1:Int)));some (ag [(0:Nat)<1,-(2:Int)^63≤(1:Int),(1:Int)<(2:Int)^63,(64:Nat)<2^41,c1<2^41,(0:Nat)<1] (leaf normal ([ptr 0 0 2 0 [],int i64 p,ptr 1 0 3 0 [],own 2 3 0 l,int i64 (0:Int)],[((2:Nat),ah.mk true true 3 l fun i↦rat (k i) 64),((1:Nat),ah.mk false true 3 1 fun j↦if(j==0)=true then aT (lF (t,(64:Nat)) ((↑(1:Int):Rat),c1))else rat t 64),((0:Nat),ah.mk false true 2 1 fun x↦agg [aj 1 n fun i↦int i64 (z i),int i64 a])]))):=by kernel_rfl
theorem acG {n l:Nat} {z:Nat→Int} {a p i:Int} {t:Rat} {k:Nat→Rat}:aJ T nv [72] 60 vM [part tu [1,0,1,0,0]] ⟨aB vM (qE p l i),mw n z a t l k,3⟩=
  let c3:AV:=ptr 1 0 3 0 [];let c2:AV:=ptr 0 0 2 0 [];let c1:List (Nat×ah):=[((1:Nat),ah.mk false true 3 1 fun x↦rat t 64),((0:Nat),ah.mk false true 2 1 fun x↦agg [aj 1 n fun i↦int i64 (z i),int i64 a])];some (fork (decide (i≤p)) (ag [(0:Nat)<1,(1:Nat)*3≤2^24,(l+1)*((56:Nat)+1)*2≤2^47] (ag [-(2:Int)^63≤i+(1:Int)∧i+(1:Int)<(2:Int)^63] (leaf normal ([c2,int i64 p,c3,own 24579 3 0 (l+1),int i64 (i+(1:Int))],((24579:Nat),ah.mk true true 3 (l+1) fun i↦if i<l then rat (k i) 64 else nth [rat t 64] (rat 0 1) (i-l+0))::c1)))) (leaf (exit 4) ([c2,int i64 p,c3,own 2 3 0 l,int i64 i],((2:Nat),ah.mk true true 3 l fun i↦rat (k i) 64)::c1))):=by kernel_rfl
theorem ajn {n l:Nat} {z:Nat→Int} {a p i:Int} {t:Rat} {k:Nat→Rat}:B7 T nv [] 60 Au [part tu [1,1]] ⟨aB vM (qE p l i),mw n z a t l k,3⟩=
  some (leaf ret ([aj 3 l fun i↦rat (k (i+0)) 64],some (ah.mk false true 2 1 fun x↦agg [aj 1 n fun i↦int i64 (z i),int i64 a]))):=by kernel_rfl
structure sZ where
 k:Nat→Rat
 t:Rat
 a:Int
def rS (n:Nat) (f:Nat→AV) (t:Rat) (a:Int):Rat:=t+((1+cS n f a 3:Int):Rat)/((1+cS n f (bA n a) 2:Int):Rat)
def rU (n:Nat) (f:Nat→AV) (p j:Nat) (s:sZ):sZ:=
 if j=0∨0<cS n f s.a 3∨s.t=s.k (j+1)then
  ⟨kJ s.k (p+1+j) (rS n f s.t (if j=0 then s.a else bA n s.a)),rS n f s.t (if j=0 then s.a else bA n s.a),bA n (bA n (if j=0 then s.a else bA n s.a))⟩
 else⟨kJ s.k (p+1+j) s.t,s.t,if j=0 then s.a else bA n s.a⟩
def oH (n:Nat) (f:Nat→AV) (p:Nat) (s0:sZ):Nat→sZ
 |0=>s0
 |j+1=>rU n f p j (oH n f p s0 j)
def pA (n:Nat) (f:Nat→AV) (a:Int):sZ:=⟨fun _=>((cS n f a 4-2:Int):Rat),((cS n f a 4-2:Int):Rat),bA n (bA n a)⟩
def jv (n:Nat) (f:Nat→AV) (a:Int) (m:Nat):Nat:=(cS n f (bA n a) (m+1)).toNat
def CI (n:Nat) (f:Nat→AV) (a:Int) (p m:Nat):sZ:=oH n f p (pA n f a) (jv n f a m)
def mW (n:Nat) (f:Nat→AV) (a:Int) (p m:Nat):Nat:=2*p+2+jv n f a m
def lR (n:Nat) (f:Nat→AV) (a:Int) (p m:Nat):Nat→Rat:=lP p (jv n f a m) (CI n f a p m).k (CI n f a p m).t
def qw (n:Nat) (f:Nat→AV) (a:Int) (p m:Nat):Int:=(CI n f a p m).a
theorem vh {n:Nat} {f:Nat→AV} {a:Int} {p:Nat} (hd:cN n f a) (hp:1≤p):∀j,KG p j (oH n f p (pA n f a) j).k (oH n f p (pA n f a) j).t∧cN n f (oH n f p (pA n f a) j).a
 |0=>by
  have h1:=gX (n:=n) (f:=f) (a:=a) (m:=4) (by omega)
  have h2:=ia (n:=n) (f:=f) (a:=a) (m:=4) (by omega)
  exact⟨KG.start hp (by omega) (by omega),hd.next.next⟩
 |j+1=>by
  obtain⟨h1,h2⟩:=vh hd hp j
  unfold oH rU rS
  generalize oH n f p (pA n f a) j=s at*
  obtain⟨k,t,b⟩:=s
  simp only at h1 h2 ⊢
  have hb:cN n f (if j=0 then b else bA n b):=by split;exact h2;exact h2.next
  generalize (if j=0 then b else bA n b)=a1 at*
  split
  ·have x1:=gX (n:=n) (f:=f) (a:=a1) (m:=3) (by omega)
   have x2:=ia (n:=n) (f:=f) (a:=a1) (m:=3) (by omega)
   have y1:=gX (n:=n) (f:=f) (a:=bA n a1) (m:=2) (by omega)
   have y2:=ia (n:=n) (f:=f) (a:=bA n a1) (m:=2) (by omega)
   refine⟨h1.next (.inl ?_),hb.next.next⟩
   generalize cS n f a1 3=x at*
   generalize cS n f (bA n a1) 2=y at*
   have key:∃z:Int,((1+x:Int):Rat)/((1+y:Int):Rat)=(z:Rat)/2∧1≤z∧z≤6:=by
    rcases(show y=0∨y=1 by omega)with h|h
    ·subst h
     refine⟨2*(1+x),?_,by omega,by omega⟩
     have:((2*(1+x):Int):Rat)=2*((1+x:Int):Rat):=by simp
     rw[this]
     generalize ((1+x:Int):Rat)=w
     simp;grind
    ·subst h
     exact⟨1+x,by simp,by omega,by omega⟩
   obtain⟨z,e,z1,z2⟩:=key
   rw[e]
   refine⟨?_,z,rfl,z2⟩
   have:(1:Rat)≤(z:Rat):=by exact_mod_cast z1
   grind
  ·rename_i hc
   have hc1:¬j=0:=fun h=>hc (.inl h)
   have hc2:¬t=k (j+1):=fun h=>hc (.inr (.inr h))
   exact⟨h1.next (.inr ⟨rfl,by omega,hc2⟩),hb⟩
theorem JS {z:Int} (h1:-2^63≤z) (h2:z<2^63):Sz ((z:Rat)/2) 64:=by
 have:=OL h1 h2 (y:=2) (by omega) (by omega) (by omega)
 simpa using this
theorem KG.sz {p j:Nat} {k:Nat→Rat} {t:Rat} (h:KG p j k t) (hj:j<2^50):Sz t 64:=by
 obtain⟨z,e,h1,h2⟩:=h.half (p+j) (Nat.le_refl _)
 rw[h.top]at e
 rw[e]
 exact JS (by omega) (by omega)
theorem YX {J j:Nat} (h:j<J):((J-j:Nat):Int)-1=((J-(j+1):Nat):Int):=by omega
theorem HQ {rl:List (Nat×Nat)} {l i:Nat} {k k':Nat→Rat} {t:Rat} {s:Nat} (hk:k'=kJ k l t) (ht:Sz t 64) (hi:i<l+1):fz rl (if i<l then .rat (k i) 64 else nth [.rat t s] (.rat 0 1) (i-l+0)) (.rat (k' i) 64):=by
 subst hk
 by_cases h:i<l
 ·rw[if_pos h,lD (by omega)];exact aE rfl rfl
 ·have:i=l:=by omega
  subst this
  rw[if_neg h,uP,Nat.sub_self]
  exact .inr ⟨rfl,ew rfl ht⟩
theorem BZ:aW P nv:=cL (aH DI (aH D8 (aH DU qJ)))
theorem aiL {k n p m:Nat} {z:Nat→Int} {a:Int} {o:ah} (ho:∀ρ,cJ ρ o (kz n z a)) (h:cN n (fun i=>.int .i64 (z i)) a) (hp:1≤p) (hp2:p<1000) (hm2:m<1000) (K:Nat):
  aA P vY K [.ptr k 0 2 0 [],.int .i64 p,.int .i64 m] [(k,o)] ⟨bq (lR n (fun i=>.int .i64 (z i)) a p m) (mW n (fun i=>.int .i64 (z i)) a p m) 64,[(k,kz n z (qw n (fun i=>.int .i64 (z i)) a p m))],[]⟩:=by
 refine MJ hT MO rfl rfl (of_decide_eq_true (by kernel_rfl)) ho (fun _ c hk=>?_) K
 have a1:=gX (n:=n) (f:=fun i=>.int .i64 (z i)) (a:=a) (m:=4) (by omega)
 have a2:=ia (n:=n) (f:=fun i=>.int .i64 (z i)) (a:=a) (m:=4) (by omega)
 have b1:=gX (n:=n) (f:=fun i=>.int .i64 (z i)) (a:=bA n a) (m:=m+1) (by omega)
 have b2:=ia (n:=n) (f:=fun i=>.int .i64 (z i)) (a:=bA n a) (m:=m+1) (by omega)
 have hS:=vh h hp
 unfold qw lR mW CI at*
 obtain⟨J,hJ⟩:∃J,J=jv n (fun i=>.int .i64 (z i)) a m:=⟨_,rfl⟩
 have hJ2:cS n (fun i=>.int .i64 (z i)) (bA n a) (m+1)=(J:Int):=by rw[hJ];unfold jv;omega
 rw[←hJ]at*
 have hJ3:J<1000:=by omega
 obtain⟨S,hSd⟩:∃S,S=oH n (fun i=>.int .i64 (z i)) p (pA n (fun i=>.int .i64 (z i)) a):=⟨_,rfl⟩
 have h00:S 0=pA n (fun i=>.int .i64 (z i)) a:=by rw[hSd];rfl
 have hS1:∀j,S (j+1)=rU n (fun i=>.int .i64 (z i)) p j (S j):=fun j=>by rw[hSd];rfl
 rw[←hSd]at hS ⊢
 clear hSd hJ
 obtain⟨t0,ht0⟩:∃t0:Rat,t0=((cS n (fun i=>.int .i64 (z i)) a 4-2:Int):Rat):=⟨_,rfl⟩
 unfold pA at h00
 rw[←ht0]at h00
 have hs0:Sz t0 64:=by have:=(hS 0).1.sz (by omega);rw[h00]at this;exact this
 refine aq.jE hT BZ hm [1,1,1,0,1] (i:=0) (y:=part xE [1,1,1,0,1,0,0]) (z:=we) (by kernel_rfl) (by kernel_rfl) (by kernel_rfl) MO.dst hk (f1:=[]) (f2:=[18]) 60 pX 3
  (fun j:Nat=>D3 p m (match j with
   |0=>.nil
   |_+1=>.own 2 3 0 j) j) (fun j=>match j with
   |0=>[(1,tO t0),(0,kz n z (bA n a))]
   |_+1=>mw n z (bA n a) t0 j (fun _=>t0)) (fun j=>j≤p+1) (fun j=>j=p+1) (fun j=>p+1-j) (fun _=>False) ⟨_,W9,?_⟩ (fun j hj=>?_) (fun j hj=>?_) (fun _ _ h=>h.elim)
 ·simp only[aa.all,ax]
  refine⟨⟨h,by omega,by omega,by omega,by omega,by omega,by omega⟩,0,by omega,[(0,0),(1,20481)],rfl,rfl,rfl,aF rfl rfl (.inr ⟨rfl,?_⟩) (aF rfl rfl (aE rfl rfl) trivial)⟩
  rw[←ht0]
  exact ew rfl hs0
 ·cases j with
  |zero=>
   refine⟨_,ag5,?_⟩
   simp only[aa.all,ax,decide_eq_true_eq,decide_eq_false_iff_not]
   refine⟨fun _=>⟨by omega,by omega,1,by omega,by dsimp only;omega,[(0,0),(1,1),(2,24579)],rfl,rfl,rfl,bB rfl rfl rfl (fun i hi=>?_) (aF rfl rfl (aE rfl rfl) (aF rfl rfl (aE rfl rfl) trivial))⟩,fun h=>by omega⟩
   have:i=0:=by omega
   subst this
   exact aE rfl rfl
  |succ j=>
   refine⟨_,agH,?_⟩
   simp only[aa.all,ax,decide_eq_true_eq,decide_eq_false_iff_not]
   refine⟨fun _=>⟨by omega,by omega,j+2,by omega,by dsimp only;omega,[(0,0),(1,1),(2,24579)],rfl,rfl,rfl,bB rfl rfl rfl (fun i hi=>HQ (by funext i;unfold kJ;split<;>rfl) hs0 hi) (aF rfl rfl (aE rfl rfl) (aF rfl rfl (aE rfl rfl) trivial))⟩,
    fun _=>⟨rfl,j+1,by omega,[(0,0),(1,1),(2,2)],rfl,rfl,rfl,bB rfl rfl rfl (fun i hi=>aE rfl rfl) (aF rfl rfl (aE rfl rfl) (aF rfl rfl (aE rfl rfl) trivial))⟩⟩
 subst hj
 refine aq.jE hT BZ hm [0,1] (i:=2) (y:=part we [0,1,0,0]) (z:=tu) (by kernel_rfl) (by kernel_rfl) (by kernel_rfl) (by kernel_rfl) hk (f1:=[]) (f2:=[30,38,43,53]) 60 zc 3
  (fun j:Nat=>qE p (p+1+j) ((J-j:Nat):Int)) (fun j=>mw n z (S j).a (S j).t (p+1+j) (S j).k) (fun j=>j≤J) (fun j=>j=J) (fun j=>J-j) (fun _=>False) ⟨_,aei,?_⟩ (fun j hj=>?_) (fun j hj=>?_) (fun _ _ h=>h.elim)
 ·simp only[aa.all,ax]
  rw[hJ2]
  refine⟨⟨by omega,h.next,by omega,by omega⟩,0,by omega,[(0,0),(1,1),(2,2)],rfl,rfl,rfl,?_⟩
  dsimp only
  rw[h00]
  exact bB rfl rfl rfl (fun i hi=>aE rfl rfl) (aF rfl rfl (aE rfl rfl) (aF rfl rfl (aE rfl rfl) trivial))
 ·refine⟨_,Ur,?_⟩
  have hj1:=hS1 j
  obtain⟨hg,hd⟩:=hS j
  have hs1:∀{j},j<2000→Sz (S j).t 64:=fun hj=>(hS _).1.sz (by omega)
  have hsj:=hs1 (j:=j) (by omega)
  have hsj1:=hs1 (j:=j+1) (by omega)
  have e1:(((p+1+j:Nat):Int)-(p:Int)).toNat+0=j+1:=by omega
  simp only[aa.all,ax,decide_eq_true_eq,decide_eq_false_iff_not,beq_iff_eq,beq_eq_false_iff_ne,e1,cond_false]
  have v3:=fun a=>And.intro (gX (n:=n) (f:=fun i=>.int .i64 (z i)) (a:=a) (m:=3) (by omega)) (ia (n:=n) (f:=fun i=>.int .i64 (z i)) (a:=a) (m:=3) (by omega))
  have v2:=fun a=>And.intro (gX (n:=n) (f:=fun i=>.int .i64 (z i)) (a:=a) (m:=2) (by omega)) (ia (n:=n) (f:=fun i=>.int .i64 (z i)) (a:=a) (m:=2) (by omega))
  have q1:=v3 (S j).a
  have q2:=v3 (bA n (S j).a)
  have q3:=v2 (bA n (S j).a)
  have q4:=v2 (bA n (bA n (S j).a))
  refine⟨fun hi=>?_,fun hi=>⟨rfl,j,by omega,[(0,0),(1,1),(2,2)],rfl,rfl,rfl,bB rfl rfl rfl (fun i hi=>aE rfl rfl) (aF rfl rfl (aE rfl rfl) (aF rfl rfl (aE rfl rfl) trivial))⟩⟩
  have hlt:j<J:=by omega
  have fin:∀(key:Nat) (t:Rat) (s s2:Nat) (b:Int) (g:Nat→AV),S (j+1)=⟨kJ (S j).k (p+1+j) t,t,b⟩→g 0=.rat t s2→(gR 3 [(0,0),(1,1),(2,key)])=true→(key==1)=false→(key==0)=false→
    Round [0] (fun j=>qE p (p+1+j) ((J-j:Nat):Int)) (fun j=>mw n z (S j).a (S j).t (p+1+j) (S j).k) 3 (fun j=>j≤J) (fun j=>j=J) (fun j=>J-j) 2 (fun _=>False) j normal
     ([ptr 0 0 2 0 [],int i64 p,ptr 1 0 3 0 [],own key 3 0 (p+1+j+1),int i64 (((J-j:Nat):Int)-1)],[(key,⟨true,true,3,p+1+j+1,fun i=>if i<p+1+j then .rat ((S j).k i) 64 else nth [.rat t s] (.rat 0 1) (i-(p+1+j)+0)⟩),(1,⟨false,true,3,1,g⟩),(0,kz n z b)]):=by
   intro key t s s2 b g e1 e2 e3 hk1 hk0
   rw[e1]at hsj1
   refine⟨j+1,by omega,by dsimp only;omega,[(0,0),(1,1),(2,key)],by rw[e3];rfl,by rw[YX hlt];rfl,rfl,?_⟩
   dsimp only
   rw[e1]
   exact bB rfl tM rfl (fun i hi=>HQ rfl hsj1 hi) (aF rfl ((Hj hk1).trans rfl) (.inr ⟨by rw[e2];rfl,by rw[e2];exact ew rfl hsj1⟩) (aF rfl ((Hj hk0).trans rfl) (aE rfl rfl) trivial))
  refine⟨fun hl=>?_,fun hl=>⟨fun hc=>?_,fun hc=>?_⟩⟩
  all_goals (repeat' with_reducible first|refine And.intro ?_ ?_|intro _)
  all_goals first|omega|exact hd|exact hd.next|exact hd.next.next|skip
  all_goals try exact absurd ‹true=false› (by decide)
  ·refine fin 147459 _ _ _ _ _ ?_ rfl rfl rfl rfl
   rw[hj1];unfold rU rS
   have hj0:j=0:=by omega
   rw[if_pos (.inl hj0),if_pos hj0]
  ·refine fin 147459 _ _ _ _ _ ?_ rfl rfl rfl rfl
   rw[hj1];unfold rU rS
   have hj0:j≠0:=by omega
   rw[if_pos (.inr (.inl hc)),if_neg hj0]
  ·refine fin 147459 _ _ _ _ _ ?_ rfl rfl rfl rfl
   rw[hj1];unfold rU rS
   have hj0:j≠0:=by omega
   rename_i hk
   rw[if_pos (.inr (.inr hk)),if_neg hj0]
  ·refine fin 106499 _ _ _ _ _ ?_ rfl rfl rfl rfl
   rw[hj1];unfold rU rS
   have hj0:j≠0:=by omega
   rename_i hk
   rw[if_neg (by simp only[hj0,hk,or_false,false_or];omega),if_neg hj0]
 subst hj
 have hs1:Sz ((S j).t+1) 64:=by
  obtain⟨z,e,h1,h2⟩:=(hS j).1.M0 (p+1+j)
  unfold lP at e
  rw[if_neg (by omega)]at e
  rw[e];exact JS (by omega) (by omega)
 refine aq.jE hT BZ hm [1,0,1] (i:=4) (y:=part tu [1,0,1,0,0]) (z:=part tu [1,1]) (by kernel_rfl) (by kernel_rfl) (by kernel_rfl) (by kernel_rfl) hk (f1:=[]) (f2:=[72]) 60 vM 3
  (fun i:Nat=>qE p (p+1+j+i) i) (fun i=>mw n z (S j).a ((S j).t+1) (p+1+j+i) (lP p j (S j).k (S j).t)) (fun i=>i≤p+1) (fun i=>i=p+1) (fun i=>p+1-i) (fun _=>False) ⟨_,adt,?_⟩ (fun i hi=>?_) (fun i hi=>?_) (fun _ _ h=>h.elim)
 ·simp only[aa.all,ax]
  refine⟨⟨by omega,by omega,by omega,by omega,by decide,by omega⟩,0,by omega,[(0,0),(1,1),(2,2)],rfl,rfl,rfl,bB rfl rfl rfl (fun i hi=>?_) (aF rfl rfl (.inr ⟨rfl,ew rfl hs1⟩) (aF rfl rfl (aE rfl rfl) trivial))⟩
  refine aE rfl ?_
  unfold lP
  rw[if_pos (by omega)]
 ·refine⟨_,acG,?_⟩
  simp only[aa.all,ax,decide_eq_true_eq,decide_eq_false_iff_not]
  refine⟨fun _=>⟨by omega,by omega,i+1,by omega,by dsimp only;omega,[(0,0),(1,1),(2,24579)],rfl,rfl,rfl,bB rfl rfl rfl (fun i hi=>HQ ?_ hs1 hi) (aF rfl rfl (aE rfl rfl) (aF rfl rfl (aE rfl rfl) trivial))⟩,
   fun _=>⟨rfl,i,by omega,[(0,0),(1,1),(2,2)],rfl,rfl,rfl,bB rfl rfl rfl (fun i hi=>aE rfl rfl) (aF rfl rfl (aE rfl rfl) (aF rfl rfl (aE rfl rfl) trivial))⟩⟩
  funext x
  unfold kJ lP
  split
  ·rename_i hx;rw[if_neg (by omega)]
  ·split<;>rfl
 ·subst hi
  refine aq.jK (aD.K4 hT BZ hm 60 ajn (by kernel_rfl) ⟨?_,_,rfl,rfl,nO rfl rfl⟩)
  exact lH (by omega) fun _ _=>rfl
def Gq (n:Nat) (f:Nat→AV) (a:Int) (l:List AV):Option (AV×Int×List Prop):=match l with
 |[.int .i64 p,.int .i64 m]=>some (bq (lR n f a p.toNat m.toNat) (mW n f a p.toNat m.toNat) 64,qw n f a p.toNat m.toNat,[1≤p,p<1000,0≤m,m<1000])
 |_=>none
theorem U2:∀K args pre r,iy Gq K args pre=some r→aA P vY K args pre r:=by
 refine s6 fun {k n z a l v b q o} K hg ho hd hq=>?_
 unfold Gq at hg
 split at hg
 ·rename_i p m
  simp only[Option.some.injEq,Prod.mk.injEq]at hg
  obtain⟨rfl,rfl,rfl⟩:=hg
  obtain⟨h1,h2,h3,h4⟩:=hq
  have h4:m<1000:=h4
  have:=aiL (k:=k) (p:=p.toNat) (m:=m.toNat) ho hd (by omega) (by omega) (by omega) K
  rw[Int.toNat_of_nonneg (by omega),Int.toNat_of_nonneg h3]at this
  exact this
 ·simp at hg
end Go.Am.B

/- brepkernelmade: Number. -/
namespace Go.Am.B
open Go Go.Am.N AV
end Go.Am.B

/- law09: made, at. -/
namespace Go.Am.B
open Go Go.Am.N AV aa ak IntKind
end Go.Am.B

/- ref02.Text of a few numbers; law09.awake. -/
namespace Go.Am.B
open Go Go.Am.N AV aa ak IntKind
def tV:aS:=[sG,(tv,Gt)]
theorem af7:aW P tV:=mT (aH Lh bp)
theorem Kn.congr {n p:Nat} {k k':Nat→Rat} (h:Kn n p k) (e:∀i,i<n→k i=k' i):Kn n p k':=by
 have hp:=h.p1
 have hl:=h.len
 refine⟨h.p1,h.len,fun i hi=>?_,fun i hi=>?_,fun i h1 h2=>?_,fun i h1 h2=>?_⟩
 ·rw[←e i (by omega),←e (i+1) hi];exact h.sorted i hi
 ·rw[←e i (by omega),←e 0 (by omega)];exact h.first i hi
 ·rw[←e i h2,←e (n-1) (by omega)];exact h.last i h1 h2
 ·rw[←e i (by omega),←e (i+p) (by omega)];exact h.mult i h1 h2
theorem VH {f:Nat→Rat} (h:∀i,i<6→f i=lP 2 0 (fun _=>((0:Int):Rat)) ((0:Int):Rat) i):Kn 6 2 f:=
 ((KG.start (p:=2) (by omega) (z:=0) (by omega) (by omega)).done:Kn (2*2+2+0) 2 _).congr fun i hi=>(h i hi).symm
end Go.Am.B

/- shapes, vector, ref14: by the evaluator; law14.awake. -/
namespace Go.Am.B
open Go Go.Am.N AV aa ak IntKind
end Go.Am.B

/- law10.awake. -/
namespace Go.Am.B
open Go Go.Am.N AV aa ak IntKind
theorem afm:aP P xI xT (au xT):=aQ abI (by kernel_rfl) (by kernel_rfl) (by kernel_rfl)
def IS:Spec:=bE fun l=>match l with
 |[.mag 2]=>some (aG (.str [50]) [])
 |[.mag 3]=>some (aG (.str [51]) [])
 |[.mag 4]=>some (aG (.str [52]) [])
 |[.mag 5]=>some (aG (.str [53]) [])
 |_=>none
def zJ:aS:=[sG,(wu,IS)]
def JJ:Spec:=bE fun l=>match l with
 |[.rat q _]=>match decide (q=3/5),decide (q=4/5),decide (q=3/2)with
  |true,_,_=>some (aG (.str [51,47,53]) [])
  |false,true,_=>some (aG (.str [52,47,53]) [])
  |false,false,true=>some (aG (.str [51,47,50]) [])
  |_,_,_=>none
 |_=>none
noncomputable def Px:aS:=sG::(Da,Mo)::(oT,PL)::(Co,Mt)::(Ov,kX T (sG::nL) [] 200 KZ)::(oR,uZ)::(yQ,JJ)::nL
theorem ajA:bC T tV [] 60 jN (au jN) ⟨aN 0 [.mag 2],[],0⟩=
  let c1:Int:=(↑(1:Nat):Int);some (ag [nl 2<2^40,(0:Int)<(1000000000:Int),(1000000000:Int)<(2:Int)^32] (ag [(10:Int)≠(0:Int),(0:Nat)<1∧1*((1:Nat)+1)*2≤2^47] (ag [(10:Int)≠(0:Int)] (ag [(0:Int)≤c1∧c1≤c1∧c1≤(2:Int)^47∧c1*c1≤(2:Int)^47] (leaf ret [str [UInt8.ofNat (u8.wrap (u32.wrap ((48:Int)+(↑((2:Nat)%Int.toNat (1000000000:Int)):Int).tmod (10:Int)))).toNat]]))))):=by kernel_rfl
theorem XS:bC T tV [] 60 jN (au jN) ⟨aN 0 [.mag 3],[],0⟩=
  let c1:Int:=(↑(1:Nat):Int);some (ag [nl 3<2^40,(0:Int)<(1000000000:Int),(1000000000:Int)<(2:Int)^32] (ag [(10:Int)≠(0:Int),(0:Nat)<1∧1*((1:Nat)+1)*2≤2^47] (ag [(10:Int)≠(0:Int)] (ag [(0:Int)≤c1∧c1≤c1∧c1≤(2:Int)^47∧c1*c1≤(2:Int)^47] (leaf ret [str [UInt8.ofNat (u8.wrap (u32.wrap ((48:Int)+(↑((3:Nat)%Int.toNat (1000000000:Int)):Int).tmod (10:Int)))).toNat]]))))):=by kernel_rfl
theorem Wo:bC T tV [] 60 jN (au jN) ⟨aN 0 [.mag 4],[],0⟩=
  let c1:Int:=(↑(1:Nat):Int);some (ag [nl 4<2^40,(0:Int)<(1000000000:Int),(1000000000:Int)<(2:Int)^32] (ag [(10:Int)≠(0:Int),(0:Nat)<1∧1*((1:Nat)+1)*2≤2^47] (ag [(10:Int)≠(0:Int)] (ag [(0:Int)≤c1∧c1≤c1∧c1≤(2:Int)^47∧c1*c1≤(2:Int)^47] (leaf ret [str [UInt8.ofNat (u8.wrap (u32.wrap ((48:Int)+(↑((4:Nat)%Int.toNat (1000000000:Int)):Int).tmod (10:Int)))).toNat]]))))):=by kernel_rfl
theorem Xp:bC T tV [] 60 jN (au jN) ⟨aN 0 [.mag 5],[],0⟩=
  let c1:Int:=(↑(1:Nat):Int);some (ag [nl 5<2^40,(0:Int)<(1000000000:Int),(1000000000:Int)<(2:Int)^32] (ag [(10:Int)≠(0:Int),(0:Nat)<1∧1*((1:Nat)+1)*2≤2^47] (ag [(10:Int)≠(0:Int)] (ag [(0:Int)≤c1∧c1≤c1∧c1≤(2:Int)^47∧c1*c1≤(2:Int)^47] (leaf ret [str [UInt8.ofNat (u8.wrap (u32.wrap ((48:Int)+(↑((5:Nat)%Int.toNat (1000000000:Int)):Int).tmod (10:Int)))).toNat]]))))):=by kernel_rfl
theorem adV:bC T zJ [] 60 lC (au lC) ⟨aN 0 [.agg [.bool false,.mag 3,.mag 5]],[],0⟩=
  some (leaf ret [str [(51:UInt8),(47:UInt8),(53:UInt8)]]):=by kernel_rfl
theorem SN:bC T zJ [] 60 lC (au lC) ⟨aN 0 [.agg [.bool false,.mag 4,.mag 5]],[],0⟩=
  some (leaf ret [str [(52:UInt8),(47:UInt8),(53:UInt8)]]):=by kernel_rfl
theorem akm:bC T zJ [] 60 lC (au lC) ⟨aN 0 [.agg [.bool false,.mag 3,.mag 2]],[],0⟩=
  some (leaf ret [str [(51:UInt8),(47:UInt8),(50:UInt8)]]):=by kernel_rfl
theorem RL:bC T Px [100024,100028,100032,100038,100044,100050] 200 xT (au xT) ⟨aN 0 [],[],0⟩=
  let c10:Rat:=(↑(1:Int):Rat)/(↑(2:Int):Rat);let c9:Int:=(2:Int)^63;let c8:List UInt8:=[(47:UInt8),(53:UInt8)];let c6:AV:=agg [AV.bool (decide ((0:Rat)<0)),mag (↑(nat_lit 0):Int).natAbs,mag (if 1=1 then 0 else 1)];let c5:AV:=rat 0 1;let c4:AV:=rat (↑(1:Int):Rat) (Max.max 1 (bu (Int.natAbs (1:Int))));let c7:AV:=agg [agg [c5,c5,c5],c5];let c3:List AV:=[agg [agg [c4,c5,c5],c4],agg [agg [c4,c4,c5],c4],agg [agg [c6,c4,c5],rat (↑(2:Int):Rat) (Max.max 1 (bu (Int.natAbs (2:Int))))]];let c2:List AV:=[c6,c6,c6,c4,c4,c4];let c1:Cu:=Cu.mk (2:Int) 6 (fun i↦aO (nth c2 c5 (i+0))) 3 fun i↦fI (nth c3 c7 (i+0));some (ag [(0:Nat)<1] (ag [-c9≤(1:Int),(1:Int)<c9,-c9≤(2:Int),(2:Int)<c9] (ag [bK (fun i↦nth c2 c5 (i+0)) 6 sJ,fj (fun i↦nth c3 c7 (i+0)) 3 sJ,(64:Nat)≤sK,dU c1] (ag [bK (fun i↦nth c2 c5 (i+0)) 6 2000,fj (fun i↦nth c3 c7 (i+0)) 3 2000,(64:Nat)≤2000,dU c1] (ag [bK (fun i↦nth c2 c5 (i+0)) 6 2048,fj (fun i↦nth c3 c7 (i+0)) 3 2048,dU c1,∀(i:Nat),i<3→0<(fI (nth c3 c7 (i+0))).d,((0:Int)==(0:Int))=true,(bif true then eU 6 (fun i↦aO (nth c2 c5 (i+0))) c10==(0:Int)else false)=true,(bif true then cw c1 c10==(0:Int)else false)=true,(bif true then(51:UInt8)::c8==(51:UInt8)::c8 else false)=true,(bif true then(52:UInt8)::c8==(52:UInt8)::c8 else false)=true,(bif true then(↑((6:Nat)+1-Int.toNat (2:Int)-1):Int)==(4:Int)else false)=true] (leaf ret [AV.bool true])))))):=by kernel_rfl
theorem ZJ:∀K args pre r,IS K args pre=some r→aA P wu K args pre r:=by
 refine bX fun K args r hk hs _=>?_
 have fin:∀{N:Nat} {t:aa (List AV)} {l:List UInt8},bC T tV [] 60 jN (au jN) ⟨aN 0 [.mag N],[],0⟩=some t→(t.all fun _ us=>dI us (.str l))→aA P wu K [.mag N] [] (aG (.str l) []):=fun h1 h2=>
  bJ (r:=aG _ []) hT af7 hm VG rfl (of_decide_eq_true (by kernel_rfl)) rfl 60 h1 (fun _=>h2) K []
 split at hs<;>simp only[Option.some.injEq,reduceCtorEq]at hs
 all_goals subst hs
 ·exact fin ajA (by simp only[aa.all,ax];exact⟨by decide,by decide,by decide,by decide,.refl _⟩)
 ·exact fin XS (by simp only[aa.all,ax];exact⟨by decide,by decide,by decide,by decide,.refl _⟩)
 ·exact fin Wo (by simp only[aa.all,ax];exact⟨by decide,by decide,by decide,by decide,.refl _⟩)
 ·exact fin Xp (by simp only[aa.all,ax];exact⟨by decide,by decide,by decide,by decide,.refl _⟩)
theorem VX:aW P zJ:=mT (aH ZJ bp)
theorem ah5:∀K args pre r,JJ K args pre=some r→aA P yQ K args pre r:=by
 refine bX fun K args r hk hs _=>?_
 have fin:∀{q:Rat} {n a b:Nat} {t:aa (List AV)} {l:List UInt8},kids (.rat q n)=[.bool false,.mag a,.mag b]→bC T zJ [] 60 lC (au lC) ⟨aN 0 [.agg [.bool false,.mag a,.mag b]],[],0⟩=some t→(t.all fun _ us=>dI us (.str l))→aA P yQ K [.rat q n] [] (aG (.str l) []):=fun h0 h1 h2=>
  fO (bJ (r:=aG _ []) hT VX hm aga rfl (of_decide_eq_true (by kernel_rfl)) rfl 60 h1 (fun _=>h2) K []) rfl (show eC [_] [_]from⟨by rw[←h0];exact P8,trivial⟩) []
 split at hs
 ·rename_i q n
  split at hs
  all_goals simp only[Option.some.injEq,reduceCtorEq]at hs
  all_goals subst hs
  ·obtain rfl:q=3/5:=of_decide_eq_true ‹_›
   exact fin (by kernel_rfl) adV (.refl _)
  ·obtain rfl:q=4/5:=of_decide_eq_true ‹decide (q=4/5)=true›
   exact fin (by kernel_rfl) SN (.refl _)
  ·obtain rfl:q=3/2:=of_decide_eq_true ‹decide (q=3/2)=true›
   exact fin (by kernel_rfl) akm (.refl _)
 ·simp at hs
theorem aeT:aW P Px:=mT (aH Tg (aH ad4 (aH Ro (aH (mE hT (mT oG) hm (aQ aji (by kernel_rfl) (by kernel_rfl) (by kernel_rfl)) _ _) (aH DU (aH ah5 oG))))))
theorem abl (K:Nat):aA P xI K [] [] (aG (.bool true) []):=by
 refine bJ (r:=aG (.bool true) []) hT aeT hm afm rfl (of_decide_eq_true (by kernel_rfl)) rfl 200 RL (fun _=>?_) K []
 have hR:∀s,4≤s→bK (fun i=>nth [.agg [AV.bool (decide ((0:Rat)<0)),mag (↑(nat_lit 0):Int).natAbs,mag (if 1=1 then 0 else 1)],.agg [AV.bool (decide ((0:Rat)<0)),mag (↑(nat_lit 0):Int).natAbs,mag (if 1=1 then 0 else 1)],.agg [AV.bool (decide ((0:Rat)<0)),mag (↑(nat_lit 0):Int).natAbs,mag (if 1=1 then 0 else 1)],.rat (↑(1:Int):Rat) (Max.max 1 (bu (Int.natAbs (1:Int)))),.rat (↑(1:Int):Rat) (Max.max 1 (bu (Int.natAbs (1:Int)))),.rat (↑(1:Int):Rat) (Max.max 1 (bu (Int.natAbs (1:Int))))] (.rat 0 1) (i+0)) 6 s:=fun s hs i hi=>by
  obtain⟨s,rfl⟩:∃s',s=s'+1:=⟨s-1,by omega⟩
  match i,hi with
  |0,_|1,_|2,_=>exact lf
  |3,_|4,_|5,_=>exact fe (Nat.le_trans (by decide) hs)
 simp only[aa.all,ax]
 (repeat' with_reducible first|refine And.intro ?_ ?_)
 all_goals first|omega|decide|exact hR _ (by decide)|skip
 all_goals first|decide+kernel|exact .refl _|skip
 all_goals first|refine⟨VH fun i hi=>?_,by decide,by decide,by decide,by decide⟩|intro i hi
 all_goals first
  |match i,hi with
   |0,_|1,_|2,_|3,_|4,_|5,_=>decide+kernel
  |match i,hi with
   |0,_|1,_|2,_=>decide+kernel
  |skip
 all_goals match i,hi with
  |0,_|1,_=>exact cB ⟨cB ⟨fe (by decide),fe (by decide),fe (by decide),trivial⟩,fe (by decide),trivial⟩
  |2,_=>exact cB ⟨cB ⟨lf,fe (by decide),fe (by decide),trivial⟩,fe (by decide),trivial⟩
def JH:Spec:=bE fun l=>match l with
 |[]=>some (aG (.bool true) [])
 |_=>none
theorem afp:∀K args pre r,JH K args pre=some r→aA P xI K args pre r:=by
 refine bX fun K args r hk hs _=>?_
 split at hs
 ·simp only[Option.some.injEq]at hs
  subst hs
  exact fun need=>abl K need
 ·simp at hs
end Go.Am.B

/- surface: transposed, alongU. -/
namespace Go.Am.B
open Go Go.Am.N AV aa ak IntKind
end Go.Am.B

/- ref12.Check. -/
namespace Go.Am.B
open Go Go.Am.N AV aa ak IntKind
structure zo (s:Sf):Prop where
 ku:Kn s.a s.u.toNat s.ku
 kv:Kn s.b s.v.toNat s.kv
 u0:0≤s.u
 u6:s.u≤6
 v0:0≤s.v
 v6:s.v≤6
 a:s.a≤s.u.toNat+41
 b:s.b≤s.v.toNat+41
 n:(s.n:Int)=(s.a:Int)-s.u-1
 m:(s.m:Int)=(s.b:Int)-s.v-1
 w:∀i j,i<s.n→j<s.m→0<(s.f i j).d
end Go.Am.B

/- surface: closures over rows, rectangular, sound. -/
namespace Go.Am.B
open Go Go.Am.N AV aa ak IntKind
end Go.Am.B

/- surface: iso, Eval, IsoU. -/
namespace Go.Am.B
open Go Go.Am.N AV aa ak IntKind
end Go.Am.B
