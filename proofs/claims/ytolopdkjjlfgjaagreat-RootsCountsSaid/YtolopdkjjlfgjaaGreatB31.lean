/- ref02: Add, Sub, Mul, Cmp, Make, Frac, Int. -/
import Derived.Test.YtolopdkjjlfgjaaGreatB30
set_option linter.unusedVariables false
namespace Go.Am.B
open Go Go.Am.N AV Proofs.Tryz
theorem aau:aZ 92 f92:=bf func92
theorem Zq:aZ 53 f53:=bf func53
theorem Rc:aZ 90 f90:=bf func90
theorem acL:aZ 27 f27:=bf func27
theorem Za:aZ 103 f103:=bf func103
theorem WS:aZ 46 f46:=bf func46
theorem Ov:aZ 23 f23:=bf func23
def qA:bp:=[(86,JY),(85,DJ),(146,Fi),(147,JZ),(84,tC),(145,IK),(24,HP),(52,v5),(82,KI)]
def Ir:Spec:=bR fun l=>match l with
 |[.int .i64 x,.int .i64 y]=>some (aJ (.tuple [.rat ((x:Rat)/(y:Rat)) 64,.int .i64 (if y=0 then 3 else 0)]) [-2^63<=x,x<2^63,-2^63<=y,y<2^63])
 |_=>none
def FB:Spec:=bR fun l=>match l with
 |[.rat q n,.rat r m]=>some (aJ (.rat (q+r) (n+m+1)) [n<2^41,m<2^41])
 |_=>none
def CH:bp:=[(92,FB),(52,v5),(103,Ir)]
theorem ri:bI P qA:=aI abm (aI F8 (aI Se (aI PU (aI yI (aI Rr (aI Ni (aI x8 (aI YR bY))))))))
theorem Tp {q r:Rat} {n m:Nat}:bT T qA [15,20,41,52] 60 f92 (aG f92) ⟨aQ 0 [.rat q n,.rat r m],[],0⟩=
  let c10:Bool:=decide (r<0);let c9:Nat:=2^38;let c8:Nat:=q.den*r.den;let c7:Bool:=decide (q<0);let c6:Nat:=2^39;let c5:Nat:=2^40;let c3:Nat:=q.num.natAbs*r.den;let c2:Nat:=r.num.natAbs*q.den;let c1:Prop:=0<1;let c4:List Prop:=[nl c8<c9,c8≠0,c1];some (af.aj [c1] (af.fork ((↑(nl q.num.natAbs):Int)==0) (af.aj [c1,c1] (af.aj [c1] (af.leaf aq.ret [rat r m]))) (af.aj [c1] (af.fork ((↑(nl r.num.natAbs):Int)==0) (af.aj [c1,c1] (af.aj [c1] (af.leaf aq.ret [rat q n]))) (af.aj [c1,c1,nl q.num.natAbs<c6,nl r.den<c6,c1,c1,nl r.num.natAbs<c6,nl q.den<c6] (af.aj [c1,c1,nl q.den<c6,nl r.den<c6] (af.aj [c1,c1] (af.fork (c7==c10) (af.aj (c1::(nl c3<c5)::(nl c2<c5)::(nl (c3+c2)<c9)::c4) (af.aj [c1] (af.leaf aq.ret [rat (sQ c7 (c3+c2) c8) (dx (sQ c7 (c3+c2) c8))]))) (af.aj [nl c3<c5,nl c2<c5] (af.fork (decide (cW c3 c2<0)) (af.aj [nl c2<c5,nl c3<c5] (af.aj (c1::(nl (c2-c3)<c9)::c4) (af.aj [c1] (af.leaf aq.ret [rat (sQ c10 (c2-c3) c8) (dx (sQ c10 (c2-c3) c8))])))) (af.aj [nl c3<c5,nl c2<c5] (af.aj (c1::(nl (c3-c2)<c9)::c4) (af.aj [c1] (af.leaf aq.ret [rat (sQ c7 (c3-c2) c8) (dx (sQ c7 (c3-c2) c8))])))))))))))))):=ah
theorem abR {q r:Rat} {n m:Nat}:bT T qA [] 60 f90 (aG f90) ⟨aQ 0 [.rat q n,.rat r m],[],0⟩=
  let c4:Nat:=q.num.natAbs*r.num.natAbs;let c3:Nat:=2^39;let c1:Prop:=0<1;let c2:Rat:=sQ (decide (q<0)!=decide (r<0)) c4 (q.den*r.den);some (af.aj [c1,c1,c1,c1,nl q.num.natAbs<c3,nl r.num.natAbs<c3,c1,c1,nl q.den<c3,nl r.den<c3,nl c4<2^38,nl (q.den*r.den)<2^38,q.den*r.den≠0,c1] (af.aj [c1] (af.leaf aq.ret [rat c2 (dx c2)]))):=ah
theorem abJ {q r:Rat} {n m:Nat}:bT T qA [14,17,30] 60 f27 (aG f27) ⟨aQ 0 [.rat q n,.rat r m],[],0⟩=
  let c3:Int:=cW (q.num.natAbs*r.den) (r.num.natAbs*q.den);let c2:Nat:=2^39;let c1:Prop:=0<1;some (af.aj [c1,c1] (af.fork (dm q !=dm r) (af.fork (decide (dm q<dm r)) (af.leaf aq.ret [int .i64 (-1:Int)]) (af.leaf aq.ret [int .i64 (1:Int)])) (af.aj [c1,c1,nl q.num.natAbs<c2,nl r.den<c2,c1,c1,nl r.num.natAbs<c2,nl q.den<c2,nl (q.num.natAbs*r.den)<2^40,nl (r.num.natAbs*q.den)<2^40] (af.aj [c1] (af.fork (decide (q<0)) (af.leaf aq.ret [int .i64 (IntKind.i64.wrap ((0:Int)-c3))]) (af.leaf aq.ret [int .i64 c3])))))):=ah
theorem ZZ {x y:Int}:bT T qA [11] 60 f103 (aG f103) ⟨aQ 0 [.int .i64 x,.int .i64 y],[],0⟩=
  let c3:List Prop:=[(0:Nat)<1];let c2:Int:=(2:Int)^63;let c1:Rat:=sQ (decide (x<0)!=decide (y<0)) x.natAbs y.natAbs;some (af.fork (y==0) (af.aj c3 (af.aj c3 (af.leaf aq.ret [agg [AV.bool false,mag 0,mag 0],int .i64 (3:Int)]))) (af.aj [-c2<=x,x<c2] (af.aj [-c2<=y,y<c2] (af.aj ((nl x.natAbs<2^38)::(nl y.natAbs<2^38)::(y.natAbs≠0)::c3) (af.aj c3 (af.leaf aq.ret [rat c1 (dx c1),int .i64 (0:Int)])))))):=ah
theorem abB {x:Int}:bT T qA [] 60 f23 (aG f23) ⟨aQ 0 [.int .i64 x],[],0⟩=
  some (af.aj [-(2:Int)^63<=x,x<2^63] (af.aj [(0:Nat)<1] (af.aj [(0:Nat)<1] (af.leaf aq.ret [agg [AV.bool (decide (x<0)),mag x.natAbs,mag 0]])))):=ah
theorem Y6 {q r:Rat} {n m:Nat}:bT T CH [] 60 f53 (aG f53) ⟨aQ 0 [.rat q n,.rat r m],[],0⟩=
  let c1:Prop:=0<1;some (af.aj [c1,c1,n<2^41,m<2^41,c1] (af.aj [c1] (af.leaf aq.ret [rat (q+-r) (n+m+1)]))):=ah
theorem Z0 {x y:Int}:bT T CH [] 60 f46 (aG f46) ⟨aQ 0 [.int .i64 x,.int .i64 y],[],0⟩=
  let c2:Prop:=0<1;let c1:Int:=(2:Int)^63;some (af.aj [-c1<=x,x<c1,-c1<=y,y<c1,c2] (af.aj [c2,c2] (af.aj [c2] (af.leaf aq.ret [rat ((↑x:Rat)/(↑y:Rat)) 64])))):=ah
theorem fP {N n:Nat} (h:N<2^n) (hn:n<2^42):nl N<2^38:=by
 have h1:N<2^(32*(n/32+1)):=Nat.lt_of_lt_of_le h (Nat.pow_le_pow_right aa aa)
 have:=dI.2 h1
 omega
section ops
variable {q r:Rat} {n m:Nat}
theorem mI {a b n m:Nat} (ha:a<2^n) (hb:b<2^m):a*b<2^(n+m):=by rw[Nat.pow_add];exact Nat.mul_lt_mul'' ha hb
theorem Et (hn:n<2^41) (hm':m<2^41) (K:Nat):aO P 92 K [.rat q n,.rat r m] [] (aJ (.rat (q+r) (n+m+1)) []):=by
 refine jU fun⟨hq,hr,_⟩=>?_
 have hq:Sz q n:=hq
 have hr:Sz r m:=hr
 have d1:=q.den_nz
 have d2:=r.den_nz
 have hz:=hq.add hr
 have a1:nl q.num.natAbs<2^38:=fP hq.1 aa
 have a2:nl q.den<2^38:=fP hq.2 aa
 have b1:nl r.num.natAbs<2^38:=fP hr.1 aa
 have b2:nl r.den<2^38:=fP hr.2 aa
 have x1:=mI hq.1 hr.2
 have x2:=mI hr.1 hq.2
 have m1:nl (q.num.natAbs*r.den)<2^38:=fP x1 aa
 have m2:nl (r.num.natAbs*q.den)<2^38:=fP x2 aa
 have m3:nl (q.den*r.den)<2^38:=fP (mI hq.2 hr.2) aa
 have m4:nl (q.num.natAbs*r.den+r.num.natAbs*q.den)<2^38:=fP (n:=n+m+1) (by rw[Nat.pow_succ];rw[Nat.add_comm m n]at x2;omega) aa
 have hd0:q.den*r.den≠0:=Nat.mul_ne_zero d1 d2
 have hv:q+r=sQ (decide (q<0)) (q.num.natAbs*r.den) (q.den*r.den)+sQ (decide (r<0)) (r.num.natAbs*q.den) (q.den*r.den):=by
  have:=CQ q r (decide (r<0))
  rw[jR r]at this
  exact this
 refine cj hT ri hm aau rfl aX rfl 60 Tp (fun _=>?_) K []
 generalize q.num.natAbs*r.den=X at*
 generalize r.num.natAbs*q.den=Y at*
 generalize q.den*r.den=D at*
 simp only[af.all,az,beq_iff_eq,beq_eq_false_iff_ne,ne_eq,bz,bB,yE]
 have m5:nl (Y-X)<2^38:=Nat.lt_of_le_of_lt (gY aa) m2
 have m6:nl (X-Y)<2^38:=Nat.lt_of_le_of_lt (gY aa) m1
 refine⟨aa,fun hb=>⟨⟨aa,aa⟩,aa,dF ?_ hz⟩,fun hb=>⟨aa,fun hb2=>⟨⟨aa,aa⟩,aa,dF ?_ hz⟩,fun hb2=>⟨⟨aa,aa,aa,aa,aa,aa,aa,aa⟩,⟨aa,aa,aa,aa⟩,⟨aa,aa⟩,
  fun hs=>⟨⟨aa,aa,aa,m4,m3,hd0,aa⟩,aa,dF ?_ hz⟩,fun hs=>⟨⟨aa,aa⟩,fun hl=>⟨⟨aa,aa⟩,⟨aa,m5,m3,hd0,aa⟩,aa,dF ?_ hz⟩,fun hl=>⟨⟨aa,aa⟩,⟨aa,m6,m3,hd0,aa⟩,aa,dF ?_ hz⟩⟩⟩⟩⟩
 ·have h0:q=0:=nq.1 (jO.1 aa)
  rw[h0,Rat.zero_add]
 ·have h0:r=0:=nq.1 (jO.1 aa)
  rw[h0,Rat.add_zero]
 ·rw[hv,hs,Cw hd0]
 ·rw[hv,Ay hd0 hs aa]
 ·rw[hv,Cc hd0 hs aa]
theorem P3 (hn:n<2^41) (hm':m<2^41) (K:Nat):aO P 90 K [.rat q n,.rat r m] [] (aJ (.rat (q*r) (n+m)) []):=by
 refine jU fun⟨hq,hr,_⟩=>?_
 have hq:Sz q n:=hq
 have hr:Sz r m:=hr
 have d1:=q.den_nz
 have d2:=r.den_nz
 have a1:nl q.num.natAbs<2^38:=fP hq.1 aa
 have a2:nl q.den<2^38:=fP hq.2 aa
 have b1:nl r.num.natAbs<2^38:=fP hr.1 aa
 have b2:nl r.den<2^38:=fP hr.2 aa
 have m1:nl (q.num.natAbs*r.num.natAbs)<2^38:=fP (mI hq.1 hr.1) aa
 have m3:nl (q.den*r.den)<2^38:=fP (mI hq.2 hr.2) aa
 have hv:sQ (decide (q<0)!=decide (r<0)) (q.num.natAbs*r.num.natAbs) (q.den*r.den)=q*r:=by rw[<-Dd,jR,jR]
 refine cj hT ri hm Rc rfl aX rfl 60 abR (fun _=>?_) K []
 simp only[af.all,az]
 exact⟨⟨aa,aa,aa,aa,aa,aa,aa,aa,aa,aa,m1,m3,Nat.mul_ne_zero d1 d2,aa⟩,aa,dF hv (hq.mul hr)⟩
theorem Oz (hn:n<2^41) (hm':m<2^41) (K:Nat):aO P 27 K [.rat q n,.rat r m] [] (aJ (.int .i64 (gj q r)) []):=by
 refine jU fun⟨hq,hr,_⟩=>?_
 have hq:Sz q n:=hq
 have hr:Sz r m:=hr
 have a1:nl q.num.natAbs<2^38:=fP hq.1 aa
 have a2:nl q.den<2^38:=fP hq.2 aa
 have b1:nl r.num.natAbs<2^38:=fP hr.1 aa
 have b2:nl r.den<2^38:=fP hr.2 aa
 have m1:nl (q.num.natAbs*r.den)<2^38:=fP (mI hq.1 hr.2) aa
 have m2:nl (r.num.natAbs*q.den)<2^38:=fP (mI hr.1 hq.2) aa
 refine cj hT ri hm acL rfl aX rfl 60 abJ (fun _=>?_) K []
 simp only[af.all,az,bne_iff_ne,ne_eq,bne_eq_false_iff_eq]
 refine⟨⟨aa,aa⟩,fun hs=>⟨fun hl=>bN ?_,fun hl=>bN ?_⟩,fun hs=>⟨⟨aa,aa,aa,aa,aa,aa,aa,aa,aa,aa⟩,aa,fun hc=>bN ?_,fun hc=>bN ?_⟩⟩
 ·rw[z8 hs,if_pos (of_decide_eq_true hl)]
 ·rw[z8 hs,if_neg (of_decide_eq_false hl)]
 ·rw[ng hs,if_pos (of_decide_eq_true hc),yU]
 ·rw[ng hs,if_neg (of_decide_eq_false hc)]
end ops
theorem Ko {x y:Int} (hy:y≠0):sQ (decide (x<0)!=decide (y<0)) x.natAbs y.natAbs=(x:Rat)/(y:Rat):=by
 have h:=A7 (x:Rat) (y:Rat) (by simpa using hy)
 have c:∀{z:Int},decide ((z:Rat)<0)=decide (z<0):=fun {z}=>by rw[decide_eq_decide,iT,Rat.num_intCast]
 rw[c,c,Rat.num_intCast,Rat.num_intCast,Rat.den_intCast,Rat.den_intCast,Nat.mul_one,Nat.one_mul]at h
 exact h
theorem JQ {x y:Int} (h1:-2^63<=x) (h2:x<2^63) (h3:-2^63<=y) (h4:y<2^63) (hy:y≠0):Sz ((x:Rat)/(y:Rat)) 64:=by
 rw[<-Ko hy];exact B0 aa aa aa
theorem abi {x y:Int} (h1:-2^63<=x) (h2:x<2^63) (h3:-2^63<=y) (h4:y<2^63) (K:Nat):aO P 103 K [.int .i64 x,.int .i64 y] [] (aJ (.tuple [.rat ((x:Rat)/(y:Rat)) 64,.int .i64 (if y=0 then 3 else 0)]) []):=by
 refine cj hT ri hm Za rfl aX rfl 60 ZZ (fun _=>?_) K []
 simp only[af.all,az,beq_iff_eq,beq_eq_false_iff_ne,ne_eq]
 refine⟨fun hb=>⟨aa,aa,?_,bN (by rw[if_pos hb]),trivial⟩,fun hb=>⟨⟨h1,h2⟩,⟨h3,h4⟩,⟨fP (n:=64) aa aa,fP (n:=64) aa aa,aa,aa⟩,aa,dF (Ko hb) (JQ h1 h2 h3 h4 hb),bN (by rw[if_neg hb]),trivial⟩⟩
 rw[hb,show((x:Rat)/((0:Int):Rat))=0 by rw[Rat.intCast_zero,Rat.div_def,Rat.inv_zero,Rat.mul_zero]]
 exact mb
theorem Sv {n:Int} (h1:-2^63<=n) (h2:n<2^63) (K:Nat):aO P 23 K [.int .i64 n] [] (aJ (.rat (n:Rat) (max 1 (bJ n.natAbs))) []):=by
 refine cj hT ri hm Ov rfl aX rfl 60 abB (fun _=>?_) K []
 simp only[af.all,az]
 refine⟨⟨h1,h2⟩,aa,aa,pZ DS ?_ (by rw[Rat.num_intCast]) (by rw[Rat.den_intCast,if_pos rfl])⟩
 rw[decide_eq_decide,iT,Rat.num_intCast]
theorem VF:aY P Ir 103:=by
 refine cD fun K args r hk hs _=>?_
 split at hs
 ·simp only[ay]at hs
  subst hs
  exact fun need=>abi need.1 need.2.1 need.2.2.1 need.2.2.2 K trivial
 ·simp at hs
theorem Qk:aY P FB 92:=by
 refine cD fun K args r hk hs _=>?_
 split at hs
 ·simp only[ay]at hs
  subst hs
  exact fun need=>Et need.1 need.2 K trivial
 ·simp at hs
theorem Jr:bI P CH:=aI Qk (aI x8 (aI VF bY))
theorem Qf {q r:Rat} {n m:Nat} (hn:n<2^41) (hm':m<2^41) (K:Nat):aO P 53 K [.rat q n,.rat r m] [] (aJ (.rat (q-r) (n+m+1)) []):=by
 refine cj hT Jr hm Zq rfl aX rfl 60 Y6 (fun _=>?_) K []
 simp only[af.all,az]
 exact⟨⟨aa,aa,hn,hm',aa⟩,aa,dZ (by rw[Rat.sub_eq_add_neg])⟩
theorem Q3 {x y:Int} (h1:-2^63<=x) (h2:x<2^63) (h3:-2^63<=y) (h4:y<2^63) (K:Nat):aO P 46 K [.int .i64 x,.int .i64 y] [] (aJ (.rat ((x:Rat)/(y:Rat)) 64) []):=by
 refine cj hT Jr hm WS rfl aX rfl 60 Z0 (fun _=>?_) K []
 simp only[af.all,az]
 exact⟨⟨h1,h2,h3,h4,aa⟩,⟨aa,aa⟩,aa,.refl _⟩
def CV:Spec:=bR fun l=>match l with
 |[.int .i64 n]=>some (aJ (.rat (n:Rat) (max 1 (bJ n.natAbs))) [-2^63<=n,n<2^63])
 |_=>none
theorem FI:aY P CV 23:=by
 refine cD fun K args r hk hs _=>?_
 split at hs
 ·simp only[ay]at hs
  subst hs
  exact fun need=>Sv need.1 need.2 K trivial
 ·simp at hs
def yd:Spec:=bR fun l=>match l with
 |[.int .i64 x,.int .i64 y]=>some (aJ (.rat ((x:Rat)/(y:Rat)) 64) [-2^63<=x,x<2^63,-2^63<=y,y<2^63])
 |_=>none
theorem yV:aY P yd 46:=by
 refine cD fun K args r hk hs _=>?_
 split at hs
 ·simp only[ay]at hs
  subst hs
  exact fun need=>Q3 need.1 need.2.1 need.2.2.1 need.2.2.2 K trivial
 ·simp at hs
end Go.Am.B
