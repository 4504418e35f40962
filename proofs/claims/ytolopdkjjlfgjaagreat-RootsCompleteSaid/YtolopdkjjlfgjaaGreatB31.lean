/- ref02: Add, Sub, Mul, Cmp, Make, Frac, Int. -/
import Derived.Test.YtolopdkjjlfgjaaGreatB30
set_option linter.unusedVariables false
namespace Go.Am.B
open Go Go.Am.N AV Proofs.Tryz
theorem Q4:bu 92 f92:=bz func92
theorem Ul:bu 53 f53:=bz func53
theorem aek:bu 90 f90:=bz func90
theorem Ze:bu 27 f27:=bz func27
theorem PI:bu 103 f103:=bz func103
theorem Qp:bu 46 f46:=bz func46
theorem Zn:bu 23 f23:=bz func23
def su:bB:=[(86,Ov),(85,Dl),(146,Nb),(147,LS),(84,wG),(145,Ib),(24,Oy),(52,zJ),(82,MH)]
def MZ:Spec:=b7 fun l=>match l with
 |[.int .i64 x,.int .i64 y]=>some (aM (.tuple [.rat ((x:Rat)/(y:Rat)) 64,.int .i64 (if y=0 then 3 else 0)]) [-2^63<=x,x<2^63,-2^63<=y,y<2^63])
 |_=>none
def Lu:Spec:=b7 fun l=>match l with
 |[.rat q n,.rat r m]=>some (aM (.rat (q+r) (n+m+1)) [n<2^41,m<2^41])
 |_=>none
def B0:bB:=[(92,Lu),(52,zJ),(103,MZ)]
theorem u9:bT P su:=aN aaN (aN Oa (aN YM (aN Wz (aN Bv (aN aaG (aN acq (aN C1 (aN WL ct))))))))
theorem S1 {q r:Rat} {n m:Nat}:cq T su [15,20,41,52] 60 f92 (aG f92) ⟨aV 0 [.rat q n,.rat r m],[],0⟩=
  let c10:Bool:=decide (r<0);let c9:Nat:=2^38;let c8:Nat:=q.den*r.den;let c7:Bool:=decide (q<0);let c6:Nat:=2^39;let c5:Nat:=2^40;let c3:Nat:=q.num.natAbs*r.den;let c2:Nat:=r.num.natAbs*q.den;let c1:Prop:=0<1;let c4:List Prop:=[nl c8<c9,c8≠0,c1];some (af.aj [c1] (af.fork ((↑(nl q.num.natAbs):Int)==0) (af.aj [c1,c1] (af.aj [c1] (af.leaf ak.ret [rat r m]))) (af.aj [c1] (af.fork ((↑(nl r.num.natAbs):Int)==0) (af.aj [c1,c1] (af.aj [c1] (af.leaf ak.ret [rat q n]))) (af.aj [c1,c1,nl q.num.natAbs<c6,nl r.den<c6,c1,c1,nl r.num.natAbs<c6,nl q.den<c6] (af.aj [c1,c1,nl q.den<c6,nl r.den<c6] (af.aj [c1,c1] (af.fork (c7==c10) (af.aj (c1::(nl c3<c5)::(nl c2<c5)::(nl (c3+c2)<c9)::c4) (af.aj [c1] (af.leaf ak.ret [rat (sQ c7 (c3+c2) c8) (dK (sQ c7 (c3+c2) c8))]))) (af.aj [nl c3<c5,nl c2<c5] (af.fork (decide (dr c3 c2<0)) (af.aj [nl c2<c5,nl c3<c5] (af.aj (c1::(nl (c2-c3)<c9)::c4) (af.aj [c1] (af.leaf ak.ret [rat (sQ c10 (c2-c3) c8) (dK (sQ c10 (c2-c3) c8))])))) (af.aj [nl c3<c5,nl c2<c5] (af.aj (c1::(nl (c3-c2)<c9)::c4) (af.aj [c1] (af.leaf ak.ret [rat (sQ c7 (c3-c2) c8) (dK (sQ c7 (c3-c2) c8))])))))))))))))):=ag
theorem RD {q r:Rat} {n m:Nat}:cq T su [] 60 f90 (aG f90) ⟨aV 0 [.rat q n,.rat r m],[],0⟩=
  let c4:Nat:=q.num.natAbs*r.num.natAbs;let c3:Nat:=2^39;let c1:Prop:=0<1;let c2:Rat:=sQ (decide (q<0)!=decide (r<0)) c4 (q.den*r.den);some (af.aj [c1,c1,c1,c1,nl q.num.natAbs<c3,nl r.num.natAbs<c3,c1,c1,nl q.den<c3,nl r.den<c3,nl c4<2^38,nl (q.den*r.den)<2^38,q.den*r.den≠0,c1] (af.aj [c1] (af.leaf ak.ret [rat c2 (dK c2)]))):=ag
theorem YB {q r:Rat} {n m:Nat}:cq T su [14,17,30] 60 f27 (aG f27) ⟨aV 0 [.rat q n,.rat r m],[],0⟩=
  let c3:Int:=dr (q.num.natAbs*r.den) (r.num.natAbs*q.den);let c2:Nat:=2^39;let c1:Prop:=0<1;some (af.aj [c1,c1] (af.fork (bC q !=bC r) (af.fork (decide (bC q<bC r)) (af.leaf ak.ret [int .i64 (-1:Int)]) (af.leaf ak.ret [int .i64 (1:Int)])) (af.aj [c1,c1,nl q.num.natAbs<c2,nl r.den<c2,c1,c1,nl r.num.natAbs<c2,nl q.den<c2,nl (q.num.natAbs*r.den)<2^40,nl (r.num.natAbs*q.den)<2^40] (af.aj [c1] (af.fork (decide (q<0)) (af.leaf ak.ret [int .i64 (IntKind.i64.wrap ((0:Int)-c3))]) (af.leaf ak.ret [int .i64 c3])))))):=ag
theorem abS {x y:Int}:cq T su [11] 60 f103 (aG f103) ⟨aV 0 [.int .i64 x,.int .i64 y],[],0⟩=
  let c3:List Prop:=[(0:Nat)<1];let c2:Int:=(2:Int)^63;let c1:Rat:=sQ (decide (x<0)!=decide (y<0)) x.natAbs y.natAbs;some (af.fork (y==0) (af.aj c3 (af.aj c3 (af.leaf ak.ret [agg [AV.bool false,mag 0,mag 0],int .i64 (3:Int)]))) (af.aj [-c2<=x,x<c2] (af.aj [-c2<=y,y<c2] (af.aj ((nl x.natAbs<2^38)::(nl y.natAbs<2^38)::(y.natAbs≠0)::c3) (af.aj c3 (af.leaf ak.ret [rat c1 (dK c1),int .i64 (0:Int)])))))):=ag
theorem ad4 {x:Int}:cq T su [] 60 f23 (aG f23) ⟨aV 0 [.int .i64 x],[],0⟩=
  some (af.aj [-(2:Int)^63<=x,x<2^63] (af.aj [(0:Nat)<1] (af.aj [(0:Nat)<1] (af.leaf ak.ret [agg [AV.bool (decide (x<0)),mag x.natAbs,mag 0]])))):=ag
theorem acj {q r:Rat} {n m:Nat}:cq T B0 [] 60 f53 (aG f53) ⟨aV 0 [.rat q n,.rat r m],[],0⟩=
  let c1:Prop:=0<1;some (af.aj [c1,c1,n<2^41,m<2^41,c1] (af.aj [c1] (af.leaf ak.ret [rat (q+-r) (n+m+1)]))):=ag
theorem WZ {x y:Int}:cq T B0 [] 60 f46 (aG f46) ⟨aV 0 [.int .i64 x,.int .i64 y],[],0⟩=
  let c2:Prop:=0<1;let c1:Int:=(2:Int)^63;some (af.aj [-c1<=x,x<c1,-c1<=y,y<c1,c2] (af.aj [c2,c2] (af.aj [c2] (af.leaf ak.ret [rat ((↑x:Rat)/(↑y:Rat)) 64])))):=ag
theorem gz {N n:Nat} (h:N<2^n) (hn:n<2^42):nl N<2^38:=by
 have h1:N<2^(32*(n/32+1)):=Nat.lt_of_lt_of_le h (Nat.pow_le_pow_right aa aa)
 have:=ec.2 h1
 omega
section ops
variable {q r:Rat} {n m:Nat}
theorem ow {a b n m:Nat} (ha:a<2^n) (hb:b<2^m):a*b<2^(n+m):=by rw[Nat.pow_add];exact Nat.mul_lt_mul'' ha hb
theorem IU (hn:n<2^41) (hm':m<2^41) (K:Nat):aQ P 92 K [.rat q n,.rat r m] [] (aM (.rat (q+r) (n+m+1)) []):=by
 refine lM fun⟨hq,hr,_⟩=>?_
 have hq:Sz q n:=hq
 have hr:Sz r m:=hr
 have d1:=q.den_nz
 have d2:=r.den_nz
 have hz:=hq.add hr
 have a1:nl q.num.natAbs<2^38:=gz hq.1 aa
 have a2:nl q.den<2^38:=gz hq.2 aa
 have b1:nl r.num.natAbs<2^38:=gz hr.1 aa
 have b2:nl r.den<2^38:=gz hr.2 aa
 have x1:=ow hq.1 hr.2
 have x2:=ow hr.1 hq.2
 have m1:nl (q.num.natAbs*r.den)<2^38:=gz x1 aa
 have m2:nl (r.num.natAbs*q.den)<2^38:=gz x2 aa
 have m3:nl (q.den*r.den)<2^38:=gz (ow hq.2 hr.2) aa
 have m4:nl (q.num.natAbs*r.den+r.num.natAbs*q.den)<2^38:=gz (n:=n+m+1) (by rw[Nat.pow_succ];rw[Nat.add_comm m n]at x2;omega) aa
 have hd0:q.den*r.den≠0:=Nat.mul_ne_zero d1 d2
 have hv:q+r=sQ (decide (q<0)) (q.num.natAbs*r.den) (q.den*r.den)+sQ (decide (r<0)) (r.num.natAbs*q.den) (q.den*r.den):=by
  have:=ER q r (decide (r<0))
  rw[lG r]at this
  exact this
 refine cA hT u9 hm Q4 rfl bp rfl 60 S1 (fun _=>?_) K []
 generalize q.num.natAbs*r.den=X at*
 generalize r.num.natAbs*q.den=Y at*
 generalize q.den*r.den=D at*
 simp only[af.all,aA,beq_iff_eq,beq_eq_false_iff_ne,ne_eq,bK,bO,BH]
 have m5:nl (Y-X)<2^38:=Nat.lt_of_le_of_lt (iS aa) m2
 have m6:nl (X-Y)<2^38:=Nat.lt_of_le_of_lt (iS aa) m1
 refine⟨aa,fun hb=>⟨⟨aa,aa⟩,aa,fj ?_ hz⟩,fun hb=>⟨aa,fun hb2=>⟨⟨aa,aa⟩,aa,fj ?_ hz⟩,fun hb2=>⟨⟨aa,aa,aa,aa,aa,aa,aa,aa⟩,⟨aa,aa,aa,aa⟩,⟨aa,aa⟩,
  fun hs=>⟨⟨aa,aa,aa,m4,m3,hd0,aa⟩,aa,fj ?_ hz⟩,fun hs=>⟨⟨aa,aa⟩,fun hl=>⟨⟨aa,aa⟩,⟨aa,m5,m3,hd0,aa⟩,aa,fj ?_ hz⟩,fun hl=>⟨⟨aa,aa⟩,⟨aa,m6,m3,hd0,aa⟩,aa,fj ?_ hz⟩⟩⟩⟩⟩
 ·have h0:q=0:=oU.1 (kO.1 aa)
  rw[h0,Rat.zero_add]
 ·have h0:r=0:=oU.1 (kO.1 aa)
  rw[h0,Rat.add_zero]
 ·rw[hv,hs,CH hd0]
 ·rw[hv,DW hd0 hs aa]
 ·rw[hv,DI hd0 hs aa]
theorem Sd (hn:n<2^41) (hm':m<2^41) (K:Nat):aQ P 90 K [.rat q n,.rat r m] [] (aM (.rat (q*r) (n+m)) []):=by
 refine lM fun⟨hq,hr,_⟩=>?_
 have hq:Sz q n:=hq
 have hr:Sz r m:=hr
 have d1:=q.den_nz
 have d2:=r.den_nz
 have a1:nl q.num.natAbs<2^38:=gz hq.1 aa
 have a2:nl q.den<2^38:=gz hq.2 aa
 have b1:nl r.num.natAbs<2^38:=gz hr.1 aa
 have b2:nl r.den<2^38:=gz hr.2 aa
 have m1:nl (q.num.natAbs*r.num.natAbs)<2^38:=gz (ow hq.1 hr.1) aa
 have m3:nl (q.den*r.den)<2^38:=gz (ow hq.2 hr.2) aa
 have hv:sQ (decide (q<0)!=decide (r<0)) (q.num.natAbs*r.num.natAbs) (q.den*r.den)=q*r:=by rw[<-C9,lG,lG]
 refine cA hT u9 hm aek rfl bp rfl 60 RD (fun _=>?_) K []
 simp only[af.all,aA]
 exact⟨⟨aa,aa,aa,aa,aa,aa,aa,aa,aa,aa,m1,m3,Nat.mul_ne_zero d1 d2,aa⟩,aa,fj hv (hq.mul hr)⟩
theorem ab8 (hn:n<2^41) (hm':m<2^41) (K:Nat):aQ P 27 K [.rat q n,.rat r m] [] (aM (.int .i64 (iw q r)) []):=by
 refine lM fun⟨hq,hr,_⟩=>?_
 have hq:Sz q n:=hq
 have hr:Sz r m:=hr
 have a1:nl q.num.natAbs<2^38:=gz hq.1 aa
 have a2:nl q.den<2^38:=gz hq.2 aa
 have b1:nl r.num.natAbs<2^38:=gz hr.1 aa
 have b2:nl r.den<2^38:=gz hr.2 aa
 have m1:nl (q.num.natAbs*r.den)<2^38:=gz (ow hq.1 hr.2) aa
 have m2:nl (r.num.natAbs*q.den)<2^38:=gz (ow hr.1 hq.2) aa
 refine cA hT u9 hm Ze rfl bp rfl 60 YB (fun _=>?_) K []
 simp only[af.all,aA,bne_iff_ne,ne_eq,bne_eq_false_iff_eq]
 refine⟨⟨aa,aa⟩,fun hs=>⟨fun hl=>bV ?_,fun hl=>bV ?_⟩,fun hs=>⟨⟨aa,aa,aa,aa,aa,aa,aa,aa,aa,aa⟩,aa,fun hc=>bV ?_,fun hc=>bV ?_⟩⟩
 ·rw[Bn hs,if_pos (of_decide_eq_true hl)]
 ·rw[Bn hs,if_neg (of_decide_eq_false hl)]
 ·rw[oq hs,if_pos (of_decide_eq_true hc),zw]
 ·rw[oq hs,if_neg (of_decide_eq_false hc)]
end ops
theorem Kz {x y:Int} (hy:y≠0):sQ (decide (x<0)!=decide (y<0)) x.natAbs y.natAbs=(x:Rat)/(y:Rat):=by
 have h:=Fq (x:Rat) (y:Rat) (by simpa using hy)
 have c:∀{z:Int},decide ((z:Rat)<0)=decide (z<0):=fun {z}=>by rw[decide_eq_decide,jw,Rat.num_intCast]
 rw[c,c,Rat.num_intCast,Rat.num_intCast,Rat.den_intCast,Rat.den_intCast,Nat.mul_one,Nat.one_mul]at h
 exact h
theorem L9 {x y:Int} (h1:-2^63<=x) (h2:x<2^63) (h3:-2^63<=y) (h4:y<2^63) (hy:y≠0):Sz ((x:Rat)/(y:Rat)) 64:=by
 rw[<-Kz hy];exact Eo aa aa aa
theorem OJ {x y:Int} (h1:-2^63<=x) (h2:x<2^63) (h3:-2^63<=y) (h4:y<2^63) (K:Nat):aQ P 103 K [.int .i64 x,.int .i64 y] [] (aM (.tuple [.rat ((x:Rat)/(y:Rat)) 64,.int .i64 (if y=0 then 3 else 0)]) []):=by
 refine cA hT u9 hm PI rfl bp rfl 60 abS (fun _=>?_) K []
 simp only[af.all,aA,beq_iff_eq,beq_eq_false_iff_ne,ne_eq]
 refine⟨fun hb=>⟨aa,aa,?_,bV (by rw[if_pos hb]),trivial⟩,fun hb=>⟨⟨h1,h2⟩,⟨h3,h4⟩,⟨gz (n:=64) aa aa,gz (n:=64) aa aa,aa,aa⟩,aa,fj (Kz hb) (L9 h1 h2 h3 h4 hb),bV (by rw[if_neg hb]),trivial⟩⟩
 rw[hb,show((x:Rat)/((0:Int):Rat))=0 by rw[Rat.intCast_zero,Rat.div_def,Rat.inv_zero,Rat.mul_zero]]
 exact oH
theorem XD {n:Int} (h1:-2^63<=n) (h2:n<2^63) (K:Nat):aQ P 23 K [.int .i64 n] [] (aM (.rat (n:Rat) (max 1 (bP n.natAbs))) []):=by
 refine cA hT u9 hm Zn rfl bp rfl 60 ad4 (fun _=>?_) K []
 simp only[af.all,aA]
 refine⟨⟨h1,h2⟩,aa,aa,rB Dx ?_ (by rw[Rat.num_intCast]) (by rw[Rat.den_intCast,if_pos rfl])⟩
 rw[decide_eq_decide,jw,Rat.num_intCast]
theorem RN:bA P MZ 103:=by
 refine cP fun K args r hk hs _=>?_
 split at hs
 ·simp only[ax]at hs
  subst hs
  exact fun need=>OJ need.1 need.2.1 need.2.2.1 need.2.2.2 K trivial
 ·simp at hs
theorem ZO:bA P Lu 92:=by
 refine cP fun K args r hk hs _=>?_
 split at hs
 ·simp only[ax]at hs
  subst hs
  exact fun need=>IU need.1 need.2 K trivial
 ·simp at hs
theorem Jh:bT P B0:=aN ZO (aN C1 (aN RN ct))
theorem UH {q r:Rat} {n m:Nat} (hn:n<2^41) (hm':m<2^41) (K:Nat):aQ P 53 K [.rat q n,.rat r m] [] (aM (.rat (q-r) (n+m+1)) []):=by
 refine cA hT Jh hm Ul rfl bp rfl 60 acj (fun _=>?_) K []
 simp only[af.all,aA]
 exact⟨⟨aa,aa,hn,hm',aa⟩,aa,eO (by rw[Rat.sub_eq_add_neg])⟩
theorem Sq {x y:Int} (h1:-2^63<=x) (h2:x<2^63) (h3:-2^63<=y) (h4:y<2^63) (K:Nat):aQ P 46 K [.int .i64 x,.int .i64 y] [] (aM (.rat ((x:Rat)/(y:Rat)) 64) []):=by
 refine cA hT Jh hm Qp rfl bp rfl 60 WZ (fun _=>?_) K []
 simp only[af.all,aA]
 exact⟨⟨h1,h2,h3,h4,aa⟩,⟨aa,aa⟩,aa,.refl _⟩
def BX:Spec:=b7 fun l=>match l with
 |[.int .i64 n]=>some (aM (.rat (n:Rat) (max 1 (bP n.natAbs))) [-2^63<=n,n<2^63])
 |_=>none
theorem Nx:bA P BX 23:=by
 refine cP fun K args r hk hs _=>?_
 split at hs
 ·simp only[ax]at hs
  subst hs
  exact fun need=>XD need.1 need.2 K trivial
 ·simp at hs
def BQ:Spec:=b7 fun l=>match l with
 |[.int .i64 x,.int .i64 y]=>some (aM (.rat ((x:Rat)/(y:Rat)) 64) [-2^63<=x,x<2^63,-2^63<=y,y<2^63])
 |_=>none
theorem D4:bA P BQ 46:=by
 refine cP fun K args r hk hs _=>?_
 split at hs
 ·simp only[ax]at hs
  subst hs
  exact fun need=>Sq need.1 need.2.1 need.2.2.1 need.2.2.2 K trivial
 ·simp at hs
end Go.Am.B
