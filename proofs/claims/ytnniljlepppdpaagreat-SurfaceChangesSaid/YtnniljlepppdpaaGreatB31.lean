/- ref02: Add, Sub, Mul, Cmp, Make, Frac, Int. -/
import Derived.Test.YtnniljlepppdpaaGreatB30
set_option linter.unusedVariables false
namespace Go.Am.B
open Go Go.Am.N AV
theorem XY:aT P wZ Fw (ay Fw):=aU Proofs.Tryz.func25 ag ag ag
theorem aoW:aT P CM Dl (ay Dl):=aU Proofs.Tryz.func23 ag ag ag
theorem ajf:aT P BH Eh (ay Eh):=aU Proofs.Tryz.func78 ag ag ag
theorem WK:aT P EP BM (ay BM):=aU Proofs.Tryz.func19 ag ag ag
theorem aaL:aT P Co Gc (ay Gc):=aU Proofs.Tryz.func178 ag ag ag
theorem ahp:aT P pC Cz (ay Cz):=aU Proofs.Tryz.func73 ag ag ag
theorem Yw:aT P qd F1 (ay F1):=aU Proofs.Tryz.func21 ag ag ag
def sL:bf:=[(BB,QZ),(A4,Kb),(FC,OZ),(FG,P6),(sI,x7),(E2,UI),(u5,Pp),(AK,Lq),(DW,MY)]
def PO:Spec:=bY fun l=>match l with
 |[.int .i64 x,.int .i64 y]=>some (aJ (.tuple [.rat ((x:Rat)/(y:Rat)) 64,.int .i64 (if y=0 then 3 else 0)]) [-2^63<=x,x<2^63,-2^63<=y,y<2^63])
 |_=>none
def QY:Spec:=bY fun l=>match l with
 |[.rat q n,.rat r m]=>some (aJ (.rat (q+r) (n+m+1)) [n<2^41,m<2^41])
 |_=>none
def H7:bf:=[(wZ,QY),(AK,Lq),(Co,PO)]
theorem xj:bu P sL:=aI amt (aI R4 (aI Xn (aI ab3 (aI DX (aI Yl (aI anB (aI Sj (aI adE bz))))))))
theorem XR {q r:Rat} {n m:Nat}:bU T sL [15,20,41,52] 60 Fw (ay Fw) ⟨aP 0 [.rat q n,.rat r m],[],0⟩=
  let c10:Bool:=decide (r<0);let c9:Nat:=2^38;let c8:Nat:=q.den*r.den;let c7:Bool:=decide (q<0);let c6:Nat:=2^39;let c5:Nat:=2^40;let c3:Nat:=q.num.natAbs*r.den;let c2:Nat:=r.num.natAbs*q.den;let c1:Prop:=0<1;let c4:List Prop:=[nl c8<c9,c8≠0,c1];some (ah.aj [c1] (ah.fork ((↑(nl q.num.natAbs):Int)==0) (ah.aj [c1,c1] (ah.aj [c1] (ah.leaf ax.ret [rat r m]))) (ah.aj [c1] (ah.fork ((↑(nl r.num.natAbs):Int)==0) (ah.aj [c1,c1] (ah.aj [c1] (ah.leaf ax.ret [rat q n]))) (ah.aj [c1,c1,nl q.num.natAbs<c6,nl r.den<c6,c1,c1,nl r.num.natAbs<c6,nl q.den<c6] (ah.aj [c1,c1,nl q.den<c6,nl r.den<c6] (ah.aj [c1,c1] (ah.fork (c7==c10) (ah.aj (c1::(nl c3<c5)::(nl c2<c5)::(nl (c3+c2)<c9)::c4) (ah.aj [c1] (ah.leaf ax.ret [rat (sQ c7 (c3+c2) c8) (cZ (sQ c7 (c3+c2) c8))]))) (ah.aj [nl c3<c5,nl c2<c5] (ah.fork (decide (dh c3 c2<0)) (ah.aj [nl c2<c5,nl c3<c5] (ah.aj (c1::(nl (c2-c3)<c9)::c4) (ah.aj [c1] (ah.leaf ax.ret [rat (sQ c10 (c2-c3) c8) (cZ (sQ c10 (c2-c3) c8))])))) (ah.aj [nl c3<c5,nl c2<c5] (ah.aj (c1::(nl (c3-c2)<c9)::c4) (ah.aj [c1] (ah.leaf ax.ret [rat (sQ c7 (c3-c2) c8) (cZ (sQ c7 (c3-c2) c8))])))))))))))))):=ag
theorem aek {q r:Rat} {n m:Nat}:bU T sL [] 60 Eh (ay Eh) ⟨aP 0 [.rat q n,.rat r m],[],0⟩=
  let c4:Nat:=q.num.natAbs*r.num.natAbs;let c3:Nat:=2^39;let c1:Prop:=0<1;let c2:Rat:=sQ (decide (q<0)!=decide (r<0)) c4 (q.den*r.den);some (ah.aj [c1,c1,c1,c1,nl q.num.natAbs<c3,nl r.num.natAbs<c3,c1,c1,nl q.den<c3,nl r.den<c3,nl c4<2^38,nl (q.den*r.den)<2^38,q.den*r.den≠0,c1] (ah.aj [c1] (ah.leaf ax.ret [rat c2 (cZ c2)]))):=ag
theorem acU {q r:Rat} {n m:Nat}:bU T sL [14,17,30] 60 BM (ay BM) ⟨aP 0 [.rat q n,.rat r m],[],0⟩=
  let c3:Int:=dh (q.num.natAbs*r.den) (r.num.natAbs*q.den);let c2:Nat:=2^39;let c1:Prop:=0<1;some (ah.aj [c1,c1] (ah.fork (fD q !=fD r) (ah.fork (decide (fD q<fD r)) (ah.leaf ax.ret [int .i64 (-1:Int)]) (ah.leaf ax.ret [int .i64 (1:Int)])) (ah.aj [c1,c1,nl q.num.natAbs<c2,nl r.den<c2,c1,c1,nl r.num.natAbs<c2,nl q.den<c2,nl (q.num.natAbs*r.den)<2^40,nl (r.num.natAbs*q.den)<2^40] (ah.aj [c1] (ah.fork (decide (q<0)) (ah.leaf ax.ret [int .i64 (IntKind.i64.wrap ((0:Int)-c3))]) (ah.leaf ax.ret [int .i64 c3])))))):=ag
theorem ae8 {x y:Int}:bU T sL [11] 60 Gc (ay Gc) ⟨aP 0 [.int .i64 x,.int .i64 y],[],0⟩=
  let c3:List Prop:=[(0:Nat)<1];let c2:Int:=(2:Int)^63;let c1:Rat:=sQ (decide (x<0)!=decide (y<0)) x.natAbs y.natAbs;some (ah.fork (y==0) (ah.aj c3 (ah.aj c3 (ah.leaf ax.ret [agg [AV.bool false,mag 0,mag 0],int .i64 (3:Int)]))) (ah.aj [-c2<=x,x<c2] (ah.aj [-c2<=y,y<c2] (ah.aj ((nl x.natAbs<2^38)::(nl y.natAbs<2^38)::(y.natAbs≠0)::c3) (ah.aj c3 (ah.leaf ax.ret [rat c1 (cZ c1),int .i64 (0:Int)])))))):=ag
theorem aiz {x:Int}:bU T sL [] 60 F1 (ay F1) ⟨aP 0 [.int .i64 x],[],0⟩=
  some (ah.aj [-(2:Int)^63<=x,x<2^63] (ah.aj [(0:Nat)<1] (ah.aj [(0:Nat)<1] (ah.leaf ax.ret [agg [AV.bool (decide (x<0)),mag x.natAbs,mag 0]])))):=ag
theorem WD {q r:Rat} {n m:Nat}:bU T H7 [] 60 Dl (ay Dl) ⟨aP 0 [.rat q n,.rat r m],[],0⟩=
  let c1:Prop:=0<1;some (ah.aj [c1,c1,n<2^41,m<2^41,c1] (ah.aj [c1] (ah.leaf ax.ret [rat (q+-r) (n+m+1)]))):=ag
theorem aj3 {x y:Int}:bU T H7 [] 60 Cz (ay Cz) ⟨aP 0 [.int .i64 x,.int .i64 y],[],0⟩=
  let c2:Prop:=0<1;let c1:Int:=(2:Int)^63;some (ah.aj [-c1<=x,x<c1,-c1<=y,y<c1,c2] (ah.aj [c2,c2] (ah.aj [c2] (ah.leaf ax.ret [rat ((↑x:Rat)/(↑y:Rat)) 64])))):=ag
theorem gi {N n:Nat} (h:N<2^n) (hn:n<2^42):nl N<2^38:=by
 have h1:N<2^(32*(n/32+1)):=Nat.lt_of_lt_of_le h (Nat.pow_le_pow_right aa aa)
 have:=dF.2 h1
 omega
section ops
variable {q r:Rat} {n m:Nat}
theorem o8 {a b n m:Nat} (ha:a<2^n) (hb:b<2^m):a*b<2^(n+m):=by rw[Nat.pow_add];exact Nat.mul_lt_mul'' ha hb
theorem HG (hn:n<2^41) (hm':m<2^41) (K:Nat):aQ P wZ K [.rat q n,.rat r m] [] (aJ (.rat (q+r) (n+m+1)) []):=by
 refine jV fun⟨hq,hr,_⟩=>?_
 have hq:Sz q n:=hq
 have hr:Sz r m:=hr
 have d1:=q.den_nz
 have d2:=r.den_nz
 have hz:=hq.add hr
 have a1:nl q.num.natAbs<2^38:=gi hq.1 aa
 have a2:nl q.den<2^38:=gi hq.2 aa
 have b1:nl r.num.natAbs<2^38:=gi hr.1 aa
 have b2:nl r.den<2^38:=gi hr.2 aa
 have x1:=o8 hq.1 hr.2
 have x2:=o8 hr.1 hq.2
 have m1:nl (q.num.natAbs*r.den)<2^38:=gi x1 aa
 have m2:nl (r.num.natAbs*q.den)<2^38:=gi x2 aa
 have m3:nl (q.den*r.den)<2^38:=gi (o8 hq.2 hr.2) aa
 have m4:nl (q.num.natAbs*r.den+r.num.natAbs*q.den)<2^38:=gi (n:=n+m+1) (by rw[Nat.pow_succ];rw[Nat.add_comm m n]at x2;omega) aa
 have hd0:q.den*r.den≠0:=Nat.mul_ne_zero d1 d2
 have hv:q+r=sQ (decide (q<0)) (q.num.natAbs*r.den) (q.den*r.den)+sQ (decide (r<0)) (r.num.natAbs*q.den) (q.den*r.den):=by
  have:=LC q r (decide (r<0))
  rw[lN r]at this
  exact this
 refine bZ hT xj hm XY rfl aX rfl 60 XR (fun _=>?_) K []
 generalize q.num.natAbs*r.den=X at*
 generalize r.num.natAbs*q.den=Y at*
 generalize q.den*r.den=D at*
 simp only[ah.all,aA,beq_iff_eq,beq_eq_false_iff_ne,ne_eq,bq,bw,Ew]
 have m5:nl (Y-X)<2^38:=Nat.lt_of_le_of_lt (iH aa) m2
 have m6:nl (X-Y)<2^38:=Nat.lt_of_le_of_lt (iH aa) m1
 refine⟨aa,fun hb=>⟨⟨aa,aa⟩,aa,dn ?_ hz⟩,fun hb=>⟨aa,fun hb2=>⟨⟨aa,aa⟩,aa,dn ?_ hz⟩,fun hb2=>⟨⟨aa,aa,aa,aa,aa,aa,aa,aa⟩,⟨aa,aa,aa,aa⟩,⟨aa,aa⟩,
  fun hs=>⟨⟨aa,aa,aa,m4,m3,hd0,aa⟩,aa,dn ?_ hz⟩,fun hs=>⟨⟨aa,aa⟩,fun hl=>⟨⟨aa,aa⟩,⟨aa,m5,m3,hd0,aa⟩,aa,dn ?_ hz⟩,fun hl=>⟨⟨aa,aa⟩,⟨aa,m6,m3,hd0,aa⟩,aa,dn ?_ hz⟩⟩⟩⟩⟩
 ·have h0:q=0:=oc.1 (jX.1 aa)
  rw[h0,Rat.zero_add]
 ·have h0:r=0:=oc.1 (jX.1 aa)
  rw[h0,Rat.add_zero]
 ·rw[hv,hs,HN hd0]
 ·rw[hv,JE hd0 hs aa]
 ·rw[hv,LP hd0 hs aa]
theorem Sa (hn:n<2^41) (hm':m<2^41) (K:Nat):aQ P BH K [.rat q n,.rat r m] [] (aJ (.rat (q*r) (n+m)) []):=by
 refine jV fun⟨hq,hr,_⟩=>?_
 have hq:Sz q n:=hq
 have hr:Sz r m:=hr
 have d1:=q.den_nz
 have d2:=r.den_nz
 have a1:nl q.num.natAbs<2^38:=gi hq.1 aa
 have a2:nl q.den<2^38:=gi hq.2 aa
 have b1:nl r.num.natAbs<2^38:=gi hr.1 aa
 have b2:nl r.den<2^38:=gi hr.2 aa
 have m1:nl (q.num.natAbs*r.num.natAbs)<2^38:=gi (o8 hq.1 hr.1) aa
 have m3:nl (q.den*r.den)<2^38:=gi (o8 hq.2 hr.2) aa
 have hv:sQ (decide (q<0)!=decide (r<0)) (q.num.natAbs*r.num.natAbs) (q.den*r.den)=q*r:=by rw[<-Mp,lN,lN]
 refine bZ hT xj hm ajf rfl aX rfl 60 aek (fun _=>?_) K []
 simp only[ah.all,aA]
 exact⟨⟨aa,aa,aa,aa,aa,aa,aa,aa,aa,aa,m1,m3,Nat.mul_ne_zero d1 d2,aa⟩,aa,dn hv (hq.mul hr)⟩
theorem OM (hn:n<2^41) (hm':m<2^41) (K:Nat):aQ P EP K [.rat q n,.rat r m] [] (aJ (.int .i64 (eV q r)) []):=by
 refine jV fun⟨hq,hr,_⟩=>?_
 have hq:Sz q n:=hq
 have hr:Sz r m:=hr
 have a1:nl q.num.natAbs<2^38:=gi hq.1 aa
 have a2:nl q.den<2^38:=gi hq.2 aa
 have b1:nl r.num.natAbs<2^38:=gi hr.1 aa
 have b2:nl r.den<2^38:=gi hr.2 aa
 have m1:nl (q.num.natAbs*r.den)<2^38:=gi (o8 hq.1 hr.2) aa
 have m2:nl (r.num.natAbs*q.den)<2^38:=gi (o8 hr.1 hq.2) aa
 refine bZ hT xj hm WK rfl aX rfl 60 acU (fun _=>?_) K []
 simp only[ah.all,aA,bne_iff_ne,ne_eq,bne_eq_false_iff_eq]
 refine⟨⟨aa,aa⟩,fun hs=>⟨fun hl=>bK ?_,fun hl=>bK ?_⟩,fun hs=>⟨⟨aa,aa,aa,aa,aa,aa,aa,aa,aa,aa⟩,aa,fun hc=>bK ?_,fun hc=>bK ?_⟩⟩
 ·rw[Fi hs,if_pos (of_decide_eq_true hl)]
 ·rw[Fi hs,if_neg (of_decide_eq_false hl)]
 ·rw[pK hs,if_pos (of_decide_eq_true hc),C2]
 ·rw[pK hs,if_neg (of_decide_eq_false hc)]
end ops
theorem DO {x y:Int} (hy:y≠0):sQ (decide (x<0)!=decide (y<0)) x.natAbs y.natAbs=(x:Rat)/(y:Rat):=by
 have h:=Ll (x:Rat) (y:Rat) (by simpa using hy)
 have c:∀{z:Int},decide ((z:Rat)<0)=decide (z<0):=fun {z}=>by rw[decide_eq_decide,js,Rat.num_intCast]
 rw[c,c,Rat.num_intCast,Rat.num_intCast,Rat.den_intCast,Rat.den_intCast,Nat.mul_one,Nat.one_mul]at h
 exact h
theorem JS {x y:Int} (h1:-2^63<=x) (h2:x<2^63) (h3:-2^63<=y) (h4:y<2^63) (hy:y≠0):Sz ((x:Rat)/(y:Rat)) 64:=by
 rw[<-DO hy];exact Fy aa aa aa
theorem akj {x y:Int} (h1:-2^63<=x) (h2:x<2^63) (h3:-2^63<=y) (h4:y<2^63) (K:Nat):aQ P Co K [.int .i64 x,.int .i64 y] [] (aJ (.tuple [.rat ((x:Rat)/(y:Rat)) 64,.int .i64 (if y=0 then 3 else 0)]) []):=by
 refine bZ hT xj hm aaL rfl aX rfl 60 ae8 (fun _=>?_) K []
 simp only[ah.all,aA,beq_iff_eq,beq_eq_false_iff_ne,ne_eq]
 refine⟨fun hb=>⟨aa,aa,?_,bK (by rw[if_pos hb]),trivial⟩,fun hb=>⟨⟨h1,h2⟩,⟨h3,h4⟩,⟨gi (n:=64) aa aa,gi (n:=64) aa aa,aa,aa⟩,aa,dn (DO hb) (JS h1 h2 h3 h4 hb),bK (by rw[if_neg hb]),trivial⟩⟩
 rw[hb,show((x:Rat)/((0:Int):Rat))=0 by rw[Rat.intCast_zero,Rat.div_def,Rat.inv_zero,Rat.mul_zero]]
 exact kG
theorem Rb {n:Int} (h1:-2^63<=n) (h2:n<2^63) (K:Nat):aQ P qd K [.int .i64 n] [] (aJ (.rat (n:Rat) (max 1 (bQ n.natAbs))) []):=by
 refine bZ hT xj hm Yw rfl aX rfl 60 aiz (fun _=>?_) K []
 simp only[ah.all,aA]
 refine⟨⟨h1,h2⟩,aa,aa,tH Hz ?_ (by rw[Rat.num_intCast]) (by rw[Rat.den_intCast,if_pos rfl])⟩
 rw[decide_eq_decide,js,Rat.num_intCast]
theorem ajw:aW P PO Co:=by
 refine cJ fun K args r hk hs _=>?_
 split at hs
 ·simp only[az]at hs
  subst hs
  exact fun need=>akj need.1 need.2.1 need.2.2.1 need.2.2.2 K trivial
 ·simp at hs
theorem akz:aW P QY wZ:=by
 refine cJ fun K args r hk hs _=>?_
 split at hs
 ·simp only[az]at hs
  subst hs
  exact fun need=>HG need.1 need.2 K trivial
 ·simp at hs
theorem Rs:bu P H7:=aI akz (aI Sj (aI ajw bz))
theorem N5 {q r:Rat} {n m:Nat} (hn:n<2^41) (hm':m<2^41) (K:Nat):aQ P CM K [.rat q n,.rat r m] [] (aJ (.rat (q-r) (n+m+1)) []):=by
 refine bZ hT Rs hm aoW rfl aX rfl 60 WD (fun _=>?_) K []
 simp only[ah.all,aA]
 exact⟨⟨aa,aa,hn,hm',aa⟩,aa,dO (by rw[Rat.sub_eq_add_neg])⟩
theorem Zu {x y:Int} (h1:-2^63<=x) (h2:x<2^63) (h3:-2^63<=y) (h4:y<2^63) (K:Nat):aQ P pC K [.int .i64 x,.int .i64 y] [] (aJ (.rat ((x:Rat)/(y:Rat)) 64) []):=by
 refine bZ hT Rs hm ahp rfl aX rfl 60 aj3 (fun _=>?_) K []
 simp only[ah.all,aA]
 exact⟨⟨h1,h2,h3,h4,aa⟩,⟨aa,aa⟩,aa,.refl _⟩
def yL:Spec:=bY fun l=>match l with
 |[.int .i64 n]=>some (aJ (.rat (n:Rat) (max 1 (bQ n.natAbs))) [-2^63<=n,n<2^63])
 |_=>none
theorem Cw:aW P yL qd:=by
 refine cJ fun K args r hk hs _=>?_
 split at hs
 ·simp only[az]at hs
  subst hs
  exact fun need=>Rb need.1 need.2 K trivial
 ·simp at hs
def rT:Spec:=bY fun l=>match l with
 |[.int .i64 x,.int .i64 y]=>some (aJ (.rat ((x:Rat)/(y:Rat)) 64) [-2^63<=x,x<2^63,-2^63<=y,y<2^63])
 |_=>none
theorem vp:aW P rT pC:=by
 refine cJ fun K args r hk hs _=>?_
 split at hs
 ·simp only[az]at hs
  subst hs
  exact fun need=>Zu need.1 need.2.1 need.2.2.1 need.2.2.2 K trivial
 ·simp at hs
end Go.Am.B
