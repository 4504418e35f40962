/- ref02: Add, Sub, Mul, Cmp, Make, Frac, Int. -/
import Derived.Test.YtolopdkjjlfgjaaGreatB30
set_option linter.unusedVariables false
namespace Go.Am.B
open Go Go.Am.N AV Proofs.Tryz
theorem agQ:br 92 f92:=bu func92
theorem SX:br 53 f53:=bu func53
theorem afE:br 90 f90:=bu func90
theorem Q4:br 27 f27:=bu func27
theorem Rc:br 103 f103:=bu func103
theorem SO:br 46 f46:=bu func46
theorem Vs:br 23 f23:=bu func23
def r8:bz:=[(86,NZ),(85,Hf),(146,Kl),(147,NJ),(84,zS),(145,OD),(24,Ls),(52,Ac),(82,LN)]
def JQ:Spec:=cw fun l=>match l with
 |[.int .i64 x,.int .i64 y]=>some (aM (.tuple [.rat ((x:Rat)/(y:Rat)) 64,.int .i64 (if y=0 then 3 else 0)]) [-2^63<=x,x<2^63,-2^63<=y,y<2^63])
 |_=>none
def My:Spec:=cw fun l=>match l with
 |[.rat q n,.rat r m]=>some (aM (.rat (q+r) (n+m+1)) [n<2^41,m<2^41])
 |_=>none
def E2:bz:=[(92,My),(52,Ac),(103,JQ)]
theorem vG:bU P r8:=aL Q9 (aL KT (aL ae8 (aL Tk (aL CL (aL X4 (aL Vc (aL BT (aL ZS cG))))))))
theorem adT {q r:Rat} {n m:Nat}:cB T r8 [15,20,41,52] 60 f92 (aI f92) ⟨aU 0 [.rat q n,.rat r m],[],0⟩=
  let c10:Bool:=decide (r<0);let c9:Nat:=2^38;let c8:Nat:=q.den*r.den;let c7:Bool:=decide (q<0);let c6:Nat:=2^39;let c5:Nat:=2^40;let c3:Nat:=q.num.natAbs*r.den;let c2:Nat:=r.num.natAbs*q.den;let c1:Prop:=0<1;let c4:List Prop:=[nl c8<c9,c8≠0,c1];some (af.aj [c1] (af.fork ((↑(nl q.num.natAbs):Int)==0) (af.aj [c1,c1] (af.aj [c1] (af.leaf aq.ret [rat r m]))) (af.aj [c1] (af.fork ((↑(nl r.num.natAbs):Int)==0) (af.aj [c1,c1] (af.aj [c1] (af.leaf aq.ret [rat q n]))) (af.aj [c1,c1,nl q.num.natAbs<c6,nl r.den<c6,c1,c1,nl r.num.natAbs<c6,nl q.den<c6] (af.aj [c1,c1,nl q.den<c6,nl r.den<c6] (af.aj [c1,c1] (af.fork (c7==c10) (af.aj (c1::(nl c3<c5)::(nl c2<c5)::(nl (c3+c2)<c9)::c4) (af.aj [c1] (af.leaf aq.ret [rat (sQ c7 (c3+c2) c8) (dS (sQ c7 (c3+c2) c8))]))) (af.aj [nl c3<c5,nl c2<c5] (af.fork (decide (dJ c3 c2<0)) (af.aj [nl c2<c5,nl c3<c5] (af.aj (c1::(nl (c2-c3)<c9)::c4) (af.aj [c1] (af.leaf aq.ret [rat (sQ c10 (c2-c3) c8) (dS (sQ c10 (c2-c3) c8))])))) (af.aj [nl c3<c5,nl c2<c5] (af.aj (c1::(nl (c3-c2)<c9)::c4) (af.aj [c1] (af.leaf aq.ret [rat (sQ c7 (c3-c2) c8) (dS (sQ c7 (c3-c2) c8))])))))))))))))):=ah
theorem RF {q r:Rat} {n m:Nat}:cB T r8 [] 60 f90 (aI f90) ⟨aU 0 [.rat q n,.rat r m],[],0⟩=
  let c4:Nat:=q.num.natAbs*r.num.natAbs;let c3:Nat:=2^39;let c1:Prop:=0<1;let c2:Rat:=sQ (decide (q<0)!=decide (r<0)) c4 (q.den*r.den);some (af.aj [c1,c1,c1,c1,nl q.num.natAbs<c3,nl r.num.natAbs<c3,c1,c1,nl q.den<c3,nl r.den<c3,nl c4<2^38,nl (q.den*r.den)<2^38,q.den*r.den≠0,c1] (af.aj [c1] (af.leaf aq.ret [rat c2 (dS c2)]))):=ah
theorem abA {q r:Rat} {n m:Nat}:cB T r8 [14,17,30] 60 f27 (aI f27) ⟨aU 0 [.rat q n,.rat r m],[],0⟩=
  let c3:Int:=dJ (q.num.natAbs*r.den) (r.num.natAbs*q.den);let c2:Nat:=2^39;let c1:Prop:=0<1;some (af.aj [c1,c1] (af.fork (bN q !=bN r) (af.fork (decide (bN q<bN r)) (af.leaf aq.ret [int .i64 (-1:Int)]) (af.leaf aq.ret [int .i64 (1:Int)])) (af.aj [c1,c1,nl q.num.natAbs<c2,nl r.den<c2,c1,c1,nl r.num.natAbs<c2,nl q.den<c2,nl (q.num.natAbs*r.den)<2^40,nl (r.num.natAbs*q.den)<2^40] (af.aj [c1] (af.fork (decide (q<0)) (af.leaf aq.ret [int .i64 (IntKind.i64.wrap ((0:Int)-c3))]) (af.leaf aq.ret [int .i64 c3])))))):=ah
theorem adm {x y:Int}:cB T r8 [11] 60 f103 (aI f103) ⟨aU 0 [.int .i64 x,.int .i64 y],[],0⟩=
  let c3:List Prop:=[(0:Nat)<1];let c2:Int:=(2:Int)^63;let c1:Rat:=sQ (decide (x<0)!=decide (y<0)) x.natAbs y.natAbs;some (af.fork (y==0) (af.aj c3 (af.aj c3 (af.leaf aq.ret [agg [AV.bool false,mag 0,mag 0],int .i64 (3:Int)]))) (af.aj [-c2<=x,x<c2] (af.aj [-c2<=y,y<c2] (af.aj ((nl x.natAbs<2^38)::(nl y.natAbs<2^38)::(y.natAbs≠0)::c3) (af.aj c3 (af.leaf aq.ret [rat c1 (dS c1),int .i64 (0:Int)])))))):=ah
theorem ahP {x:Int}:cB T r8 [] 60 f23 (aI f23) ⟨aU 0 [.int .i64 x],[],0⟩=
  some (af.aj [-(2:Int)^63<=x,x<2^63] (af.aj [(0:Nat)<1] (af.aj [(0:Nat)<1] (af.leaf aq.ret [agg [AV.bool (decide (x<0)),mag x.natAbs,mag 0]])))):=ah
theorem SZ {q r:Rat} {n m:Nat}:cB T E2 [] 60 f53 (aI f53) ⟨aU 0 [.rat q n,.rat r m],[],0⟩=
  let c1:Prop:=0<1;some (af.aj [c1,c1,n<2^41,m<2^41,c1] (af.aj [c1] (af.leaf aq.ret [rat (q+-r) (n+m+1)]))):=ah
theorem aes {x y:Int}:cB T E2 [] 60 f46 (aI f46) ⟨aU 0 [.int .i64 x,.int .i64 y],[],0⟩=
  let c2:Prop:=0<1;let c1:Int:=(2:Int)^63;some (af.aj [-c1<=x,x<c1,-c1<=y,y<c1,c2] (af.aj [c2,c2] (af.aj [c2] (af.leaf aq.ret [rat ((↑x:Rat)/(↑y:Rat)) 64])))):=ah
theorem gF {N n:Nat} (h:N<2^n) (hn:n<2^42):nl N<2^38:=by
 have h1:N<2^(32*(n/32+1)):=Nat.lt_of_lt_of_le h (Nat.pow_le_pow_right aa aa)
 have:=eo.2 h1
 omega
section ops
variable {q r:Rat} {n m:Nat}
theorem qc {a b n m:Nat} (ha:a<2^n) (hb:b<2^m):a*b<2^(n+m):=by rw[Nat.pow_add];exact Nat.mul_lt_mul'' ha hb
theorem Pg (hn:n<2^41) (hm':m<2^41) (K:Nat):aS P 92 K [.rat q n,.rat r m] [] (aM (.rat (q+r) (n+m+1)) []):=by
 refine lQ fun⟨hq,hr,_⟩=>?_
 have hq:Sz q n:=hq
 have hr:Sz r m:=hr
 have d1:=q.den_nz
 have d2:=r.den_nz
 have hz:=hq.add hr
 have a1:nl q.num.natAbs<2^38:=gF hq.1 aa
 have a2:nl q.den<2^38:=gF hq.2 aa
 have b1:nl r.num.natAbs<2^38:=gF hr.1 aa
 have b2:nl r.den<2^38:=gF hr.2 aa
 have x1:=qc hq.1 hr.2
 have x2:=qc hr.1 hq.2
 have m1:nl (q.num.natAbs*r.den)<2^38:=gF x1 aa
 have m2:nl (r.num.natAbs*q.den)<2^38:=gF x2 aa
 have m3:nl (q.den*r.den)<2^38:=gF (qc hq.2 hr.2) aa
 have m4:nl (q.num.natAbs*r.den+r.num.natAbs*q.den)<2^38:=gF (n:=n+m+1) (by rw[Nat.pow_succ];rw[Nat.add_comm m n]at x2;omega) aa
 have hd0:q.den*r.den≠0:=Nat.mul_ne_zero d1 d2
 have hv:q+r=sQ (decide (q<0)) (q.num.natAbs*r.den) (q.den*r.den)+sQ (decide (r<0)) (r.num.natAbs*q.den) (q.den*r.den):=by
  have:=Hy q r (decide (r<0))
  rw[l7 r]at this
  exact this
 refine cF hT vG hm agQ rfl aZ rfl 60 adT (fun _=>?_) K []
 generalize q.num.natAbs*r.den=X at*
 generalize r.num.natAbs*q.den=Y at*
 generalize q.den*r.den=D at*
 simp only[af.all,az,beq_iff_eq,beq_eq_false_iff_ne,ne_eq,bD,bI,Cv]
 have m5:nl (Y-X)<2^38:=Nat.lt_of_le_of_lt (jd aa) m2
 have m6:nl (X-Y)<2^38:=Nat.lt_of_le_of_lt (jd aa) m1
 refine⟨aa,fun hb=>⟨⟨aa,aa⟩,aa,dY ?_ hz⟩,fun hb=>⟨aa,fun hb2=>⟨⟨aa,aa⟩,aa,dY ?_ hz⟩,fun hb2=>⟨⟨aa,aa,aa,aa,aa,aa,aa,aa⟩,⟨aa,aa,aa,aa⟩,⟨aa,aa⟩,
  fun hs=>⟨⟨aa,aa,aa,m4,m3,hd0,aa⟩,aa,dY ?_ hz⟩,fun hs=>⟨⟨aa,aa⟩,fun hl=>⟨⟨aa,aa⟩,⟨aa,m5,m3,hd0,aa⟩,aa,dY ?_ hz⟩,fun hl=>⟨⟨aa,aa⟩,⟨aa,m6,m3,hd0,aa⟩,aa,dY ?_ hz⟩⟩⟩⟩⟩
 ·have h0:q=0:=pV.1 (lK.1 aa)
  rw[h0,Rat.zero_add]
 ·have h0:r=0:=pV.1 (lK.1 aa)
  rw[h0,Rat.add_zero]
 ·rw[hv,hs,Dm hd0]
 ·rw[hv,DJ hd0 hs aa]
 ·rw[hv,Hu hd0 hs aa]
theorem Xv (hn:n<2^41) (hm':m<2^41) (K:Nat):aS P 90 K [.rat q n,.rat r m] [] (aM (.rat (q*r) (n+m)) []):=by
 refine lQ fun⟨hq,hr,_⟩=>?_
 have hq:Sz q n:=hq
 have hr:Sz r m:=hr
 have d1:=q.den_nz
 have d2:=r.den_nz
 have a1:nl q.num.natAbs<2^38:=gF hq.1 aa
 have a2:nl q.den<2^38:=gF hq.2 aa
 have b1:nl r.num.natAbs<2^38:=gF hr.1 aa
 have b2:nl r.den<2^38:=gF hr.2 aa
 have m1:nl (q.num.natAbs*r.num.natAbs)<2^38:=gF (qc hq.1 hr.1) aa
 have m3:nl (q.den*r.den)<2^38:=gF (qc hq.2 hr.2) aa
 have hv:sQ (decide (q<0)!=decide (r<0)) (q.num.natAbs*r.num.natAbs) (q.den*r.den)=q*r:=by rw[<-Ei,l7,l7]
 refine cF hT vG hm afE rfl aZ rfl 60 RF (fun _=>?_) K []
 simp only[af.all,az]
 exact⟨⟨aa,aa,aa,aa,aa,aa,aa,aa,aa,aa,m1,m3,Nat.mul_ne_zero d1 d2,aa⟩,aa,dY hv (hq.mul hr)⟩
theorem SN (hn:n<2^41) (hm':m<2^41) (K:Nat):aS P 27 K [.rat q n,.rat r m] [] (aM (.int .i64 (js q r)) []):=by
 refine lQ fun⟨hq,hr,_⟩=>?_
 have hq:Sz q n:=hq
 have hr:Sz r m:=hr
 have a1:nl q.num.natAbs<2^38:=gF hq.1 aa
 have a2:nl q.den<2^38:=gF hq.2 aa
 have b1:nl r.num.natAbs<2^38:=gF hr.1 aa
 have b2:nl r.den<2^38:=gF hr.2 aa
 have m1:nl (q.num.natAbs*r.den)<2^38:=gF (qc hq.1 hr.2) aa
 have m2:nl (r.num.natAbs*q.den)<2^38:=gF (qc hr.1 hq.2) aa
 refine cF hT vG hm Q4 rfl aZ rfl 60 abA (fun _=>?_) K []
 simp only[af.all,az,bne_iff_ne,ne_eq,bne_eq_false_iff_eq]
 refine⟨⟨aa,aa⟩,fun hs=>⟨fun hl=>cq ?_,fun hl=>cq ?_⟩,fun hs=>⟨⟨aa,aa,aa,aa,aa,aa,aa,aa,aa,aa⟩,aa,fun hc=>cq ?_,fun hc=>cq ?_⟩⟩
 ·rw[Ar hs,if_pos (of_decide_eq_true hl)]
 ·rw[Ar hs,if_neg (of_decide_eq_false hl)]
 ·rw[p9 hs,if_pos (of_decide_eq_true hc),Cz]
 ·rw[p9 hs,if_neg (of_decide_eq_false hc)]
end ops
theorem Kq {x y:Int} (hy:y≠0):sQ (decide (x<0)!=decide (y<0)) x.natAbs y.natAbs=(x:Rat)/(y:Rat):=by
 have h:=HQ (x:Rat) (y:Rat) (by simpa using hy)
 have c:∀{z:Int},decide ((z:Rat)<0)=decide (z<0):=fun {z}=>by rw[decide_eq_decide,jH,Rat.num_intCast]
 rw[c,c,Rat.num_intCast,Rat.num_intCast,Rat.den_intCast,Rat.den_intCast,Nat.mul_one,Nat.one_mul]at h
 exact h
theorem MN {x y:Int} (h1:-2^63<=x) (h2:x<2^63) (h3:-2^63<=y) (h4:y<2^63) (hy:y≠0):Sz ((x:Rat)/(y:Rat)) 64:=by
 rw[<-Kq hy];exact DO aa aa aa
theorem Tp {x y:Int} (h1:-2^63<=x) (h2:x<2^63) (h3:-2^63<=y) (h4:y<2^63) (K:Nat):aS P 103 K [.int .i64 x,.int .i64 y] [] (aM (.tuple [.rat ((x:Rat)/(y:Rat)) 64,.int .i64 (if y=0 then 3 else 0)]) []):=by
 refine cF hT vG hm Rc rfl aZ rfl 60 adm (fun _=>?_) K []
 simp only[af.all,az,beq_iff_eq,beq_eq_false_iff_ne,ne_eq]
 refine⟨fun hb=>⟨aa,aa,?_,cq (by rw[if_pos hb]),trivial⟩,fun hb=>⟨⟨h1,h2⟩,⟨h3,h4⟩,⟨gF (n:=64) aa aa,gF (n:=64) aa aa,aa,aa⟩,aa,dY (Kq hb) (MN h1 h2 h3 h4 hb),cq (by rw[if_neg hb]),trivial⟩⟩
 rw[hb,show((x:Rat)/((0:Int):Rat))=0 by rw[Rat.intCast_zero,Rat.div_def,Rat.inv_zero,Rat.mul_zero]]
 exact pF
theorem af9 {n:Int} (h1:-2^63<=n) (h2:n<2^63) (K:Nat):aS P 23 K [.int .i64 n] [] (aM (.rat (n:Rat) (max 1 (bX n.natAbs))) []):=by
 refine cF hT vG hm Vs rfl aZ rfl 60 ahP (fun _=>?_) K []
 simp only[af.all,az]
 refine⟨⟨h1,h2⟩,aa,aa,tT Hr ?_ (by rw[Rat.num_intCast]) (by rw[Rat.den_intCast,if_pos rfl])⟩
 rw[decide_eq_decide,jH,Rat.num_intCast]
theorem YO:bf P JQ 103:=by
 refine dc fun K args r hk hs _=>?_
 split at hs
 ·simp only[ay]at hs
  subst hs
  exact fun need=>Tp need.1 need.2.1 need.2.2.1 need.2.2.2 K trivial
 ·simp at hs
theorem Ur:bf P My 92:=by
 refine dc fun K args r hk hs _=>?_
 split at hs
 ·simp only[ay]at hs
  subst hs
  exact fun need=>Pg need.1 need.2 K trivial
 ·simp at hs
theorem JV:bU P E2:=aL Ur (aL BT (aL YO cG))
theorem ahA {q r:Rat} {n m:Nat} (hn:n<2^41) (hm':m<2^41) (K:Nat):aS P 53 K [.rat q n,.rat r m] [] (aM (.rat (q-r) (n+m+1)) []):=by
 refine cF hT JV hm SX rfl aZ rfl 60 SZ (fun _=>?_) K []
 simp only[af.all,az]
 exact⟨⟨aa,aa,hn,hm',aa⟩,aa,eU (by rw[Rat.sub_eq_add_neg])⟩
theorem Z9 {x y:Int} (h1:-2^63<=x) (h2:x<2^63) (h3:-2^63<=y) (h4:y<2^63) (K:Nat):aS P 46 K [.int .i64 x,.int .i64 y] [] (aM (.rat ((x:Rat)/(y:Rat)) 64) []):=by
 refine cF hT JV hm SO rfl aZ rfl 60 aes (fun _=>?_) K []
 simp only[af.all,az]
 exact⟨⟨h1,h2,h3,h4,aa⟩,⟨aa,aa⟩,aa,.refl _⟩
def Ek:Spec:=cw fun l=>match l with
 |[.int .i64 n]=>some (aM (.rat (n:Rat) (max 1 (bX n.natAbs))) [-2^63<=n,n<2^63])
 |_=>none
theorem Jj:bf P Ek 23:=by
 refine dc fun K args r hk hs _=>?_
 split at hs
 ·simp only[ay]at hs
  subst hs
  exact fun need=>af9 need.1 need.2 K trivial
 ·simp at hs
def B5:Spec:=cw fun l=>match l with
 |[.int .i64 x,.int .i64 y]=>some (aM (.rat ((x:Rat)/(y:Rat)) 64) [-2^63<=x,x<2^63,-2^63<=y,y<2^63])
 |_=>none
theorem HH:bf P B5 46:=by
 refine dc fun K args r hk hs _=>?_
 split at hs
 ·simp only[ay]at hs
  subst hs
  exact fun need=>Z9 need.1 need.2.1 need.2.2.1 need.2.2.2 K trivial
 ·simp at hs
end Go.Am.B
