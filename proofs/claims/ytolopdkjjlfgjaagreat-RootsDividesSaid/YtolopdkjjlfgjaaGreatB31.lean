/- ref02: Add, Sub, Mul, Cmp, Make, Frac, Int. -/
import Derived.Test.YtolopdkjjlfgjaaGreatB30
set_option linter.unusedVariables false
namespace Go.Am.B
open Go Go.Am.N AV Proofs.Tryz
theorem abL:aX 92 f92:=aZ func92
theorem Tb:aX 53 f53:=aZ func53
theorem abk:aX 90 f90:=aZ func90
theorem ZT:aX 27 f27:=aZ func27
theorem PL:aX 103 f103:=aZ func103
theorem R7:aX 46 f46:=aZ func46
theorem Ve:aX 23 f23:=aZ func23
def ql:bh:=[(86,My),(85,BP),(146,JT),(147,LS),(84,vF),(145,JX),(24,L4),(52,wD),(82,KM)]
def J1:Spec:=bU fun l=>match l with
 |[.int .i64 x,.int .i64 y]=>some (aK (.tuple [.rat ((x:Rat)/(y:Rat)) 64,.int .i64 (if y=0 then 3 else 0)]) [-2^63<=x,x<2^63,-2^63<=y,y<2^63])
 |_=>none
def KH:Spec:=bU fun l=>match l with
 |[.rat q n,.rat r m]=>some (aK (.rat (q+r) (n+m+1)) [n<2^41,m<2^41])
 |_=>none
def Dl:bh:=[(92,KH),(52,wD),(103,J1)]
theorem sY:bI P ql:=aL aaT (aL Ll (aL abj (aL WN (aL z8 (aL XV (aL VE (aL zk (aL Ya b9))))))))
theorem SJ {q r:Rat} {n m:Nat}:bR T ql [15,20,41,52] 60 f92 (aH f92) ⟨aT 0 [.rat q n,.rat r m],[],0⟩=
  let c10:Bool:=decide (r<0);let c9:Nat:=2^38;let c8:Nat:=q.den*r.den;let c7:Bool:=decide (q<0);let c6:Nat:=2^39;let c5:Nat:=2^40;let c3:Nat:=q.num.natAbs*r.den;let c2:Nat:=r.num.natAbs*q.den;let c1:Prop:=0<1;let c4:List Prop:=[nl c8<c9,c8≠0,c1];some (af.aj [c1] (af.fork ((↑(nl q.num.natAbs):Int)==0) (af.aj [c1,c1] (af.aj [c1] (af.leaf aq.ret [rat r m]))) (af.aj [c1] (af.fork ((↑(nl r.num.natAbs):Int)==0) (af.aj [c1,c1] (af.aj [c1] (af.leaf aq.ret [rat q n]))) (af.aj [c1,c1,nl q.num.natAbs<c6,nl r.den<c6,c1,c1,nl r.num.natAbs<c6,nl q.den<c6] (af.aj [c1,c1,nl q.den<c6,nl r.den<c6] (af.aj [c1,c1] (af.fork (c7==c10) (af.aj (c1::(nl c3<c5)::(nl c2<c5)::(nl (c3+c2)<c9)::c4) (af.aj [c1] (af.leaf aq.ret [rat (sQ c7 (c3+c2) c8) (dB (sQ c7 (c3+c2) c8))]))) (af.aj [nl c3<c5,nl c2<c5] (af.fork (decide (de c3 c2<0)) (af.aj [nl c2<c5,nl c3<c5] (af.aj (c1::(nl (c2-c3)<c9)::c4) (af.aj [c1] (af.leaf aq.ret [rat (sQ c10 (c2-c3) c8) (dB (sQ c10 (c2-c3) c8))])))) (af.aj [nl c3<c5,nl c2<c5] (af.aj (c1::(nl (c3-c2)<c9)::c4) (af.aj [c1] (af.leaf aq.ret [rat (sQ c7 (c3-c2) c8) (dB (sQ c7 (c3-c2) c8))])))))))))))))):=ah
theorem WD {q r:Rat} {n m:Nat}:bR T ql [] 60 f90 (aH f90) ⟨aT 0 [.rat q n,.rat r m],[],0⟩=
  let c4:Nat:=q.num.natAbs*r.num.natAbs;let c3:Nat:=2^39;let c1:Prop:=0<1;let c2:Rat:=sQ (decide (q<0)!=decide (r<0)) c4 (q.den*r.den);some (af.aj [c1,c1,c1,c1,nl q.num.natAbs<c3,nl r.num.natAbs<c3,c1,c1,nl q.den<c3,nl r.den<c3,nl c4<2^38,nl (q.den*r.den)<2^38,q.den*r.den≠0,c1] (af.aj [c1] (af.leaf aq.ret [rat c2 (dB c2)]))):=ah
theorem Rk {q r:Rat} {n m:Nat}:bR T ql [14,17,30] 60 f27 (aH f27) ⟨aT 0 [.rat q n,.rat r m],[],0⟩=
  let c3:Int:=de (q.num.natAbs*r.den) (r.num.natAbs*q.den);let c2:Nat:=2^39;let c1:Prop:=0<1;some (af.aj [c1,c1] (af.fork (dn q !=dn r) (af.fork (decide (dn q<dn r)) (af.leaf aq.ret [int .i64 (-1:Int)]) (af.leaf aq.ret [int .i64 (1:Int)])) (af.aj [c1,c1,nl q.num.natAbs<c2,nl r.den<c2,c1,c1,nl r.num.natAbs<c2,nl q.den<c2,nl (q.num.natAbs*r.den)<2^40,nl (r.num.natAbs*q.den)<2^40] (af.aj [c1] (af.fork (decide (q<0)) (af.leaf aq.ret [int .i64 (IntKind.i64.wrap ((0:Int)-c3))]) (af.leaf aq.ret [int .i64 c3])))))):=ah
theorem QJ {x y:Int}:bR T ql [11] 60 f103 (aH f103) ⟨aT 0 [.int .i64 x,.int .i64 y],[],0⟩=
  let c3:List Prop:=[(0:Nat)<1];let c2:Int:=(2:Int)^63;let c1:Rat:=sQ (decide (x<0)!=decide (y<0)) x.natAbs y.natAbs;some (af.fork (y==0) (af.aj c3 (af.aj c3 (af.leaf aq.ret [agg [AV.bool false,mag 0,mag 0],int .i64 (3:Int)]))) (af.aj [-c2<=x,x<c2] (af.aj [-c2<=y,y<c2] (af.aj ((nl x.natAbs<2^38)::(nl y.natAbs<2^38)::(y.natAbs≠0)::c3) (af.aj c3 (af.leaf aq.ret [rat c1 (dB c1),int .i64 (0:Int)])))))):=ah
theorem aaG {x:Int}:bR T ql [] 60 f23 (aH f23) ⟨aT 0 [.int .i64 x],[],0⟩=
  some (af.aj [-(2:Int)^63<=x,x<2^63] (af.aj [(0:Nat)<1] (af.aj [(0:Nat)<1] (af.leaf aq.ret [agg [AV.bool (decide (x<0)),mag x.natAbs,mag 0]])))):=ah
theorem NM {q r:Rat} {n m:Nat}:bR T Dl [] 60 f53 (aH f53) ⟨aT 0 [.rat q n,.rat r m],[],0⟩=
  let c1:Prop:=0<1;some (af.aj [c1,c1,n<2^41,m<2^41,c1] (af.aj [c1] (af.leaf aq.ret [rat (q+-r) (n+m+1)]))):=ah
theorem Q1 {x y:Int}:bR T Dl [] 60 f46 (aH f46) ⟨aT 0 [.int .i64 x,.int .i64 y],[],0⟩=
  let c2:Prop:=0<1;let c1:Int:=(2:Int)^63;some (af.aj [-c1<=x,x<c1,-c1<=y,y<c1,c2] (af.aj [c2,c2] (af.aj [c2] (af.leaf aq.ret [rat ((↑x:Rat)/(↑y:Rat)) 64])))):=ah
theorem fQ {N n:Nat} (h:N<2^n) (hn:n<2^42):nl N<2^38:=by
 have h1:N<2^(32*(n/32+1)):=Nat.lt_of_lt_of_le h (Nat.pow_le_pow_right aa aa)
 have:=dJ.2 h1
 omega
section ops
variable {q r:Rat} {n m:Nat}
theorem nW {a b n m:Nat} (ha:a<2^n) (hb:b<2^m):a*b<2^(n+m):=by rw[Nat.pow_add];exact Nat.mul_lt_mul'' ha hb
theorem G9 (hn:n<2^41) (hm':m<2^41) (K:Nat):aP P 92 K [.rat q n,.rat r m] [] (aK (.rat (q+r) (n+m+1)) []):=by
 refine kg fun⟨hq,hr,_⟩=>?_
 have hq:Sz q n:=hq
 have hr:Sz r m:=hr
 have d1:=q.den_nz
 have d2:=r.den_nz
 have hz:=hq.add hr
 have a1:nl q.num.natAbs<2^38:=fQ hq.1 aa
 have a2:nl q.den<2^38:=fQ hq.2 aa
 have b1:nl r.num.natAbs<2^38:=fQ hr.1 aa
 have b2:nl r.den<2^38:=fQ hr.2 aa
 have x1:=nW hq.1 hr.2
 have x2:=nW hr.1 hq.2
 have m1:nl (q.num.natAbs*r.den)<2^38:=fQ x1 aa
 have m2:nl (r.num.natAbs*q.den)<2^38:=fQ x2 aa
 have m3:nl (q.den*r.den)<2^38:=fQ (nW hq.2 hr.2) aa
 have m4:nl (q.num.natAbs*r.den+r.num.natAbs*q.den)<2^38:=fQ (n:=n+m+1) (by rw[Nat.pow_succ];rw[Nat.add_comm m n]at x2;omega) aa
 have hd0:q.den*r.den≠0:=Nat.mul_ne_zero d1 d2
 have hv:q+r=sQ (decide (q<0)) (q.num.natAbs*r.den) (q.den*r.den)+sQ (decide (r<0)) (r.num.natAbs*q.den) (q.den*r.den):=by
  have:=Ex q r (decide (r<0))
  rw[ki r]at this
  exact this
 refine bZ hT sY hm abL rfl aW rfl 60 SJ (fun _=>?_) K []
 generalize q.num.natAbs*r.den=X at*
 generalize r.num.natAbs*q.den=Y at*
 generalize q.den*r.den=D at*
 simp only[af.all,aA,beq_iff_eq,beq_eq_false_iff_ne,ne_eq,bw,bB,zu]
 have m5:nl (Y-X)<2^38:=Nat.lt_of_le_of_lt (gW aa) m2
 have m6:nl (X-Y)<2^38:=Nat.lt_of_le_of_lt (gW aa) m1
 refine⟨aa,fun hb=>⟨⟨aa,aa⟩,aa,dK ?_ hz⟩,fun hb=>⟨aa,fun hb2=>⟨⟨aa,aa⟩,aa,dK ?_ hz⟩,fun hb2=>⟨⟨aa,aa,aa,aa,aa,aa,aa,aa⟩,⟨aa,aa,aa,aa⟩,⟨aa,aa⟩,
  fun hs=>⟨⟨aa,aa,aa,m4,m3,hd0,aa⟩,aa,dK ?_ hz⟩,fun hs=>⟨⟨aa,aa⟩,fun hl=>⟨⟨aa,aa⟩,⟨aa,m5,m3,hd0,aa⟩,aa,dK ?_ hz⟩,fun hl=>⟨⟨aa,aa⟩,⟨aa,m6,m3,hd0,aa⟩,aa,dK ?_ hz⟩⟩⟩⟩⟩
 ·have h0:q=0:=nN.1 (jE.1 aa)
  rw[h0,Rat.zero_add]
 ·have h0:r=0:=nN.1 (jE.1 aa)
  rw[h0,Rat.add_zero]
 ·rw[hv,hs,CY hd0]
 ·rw[hv,Db hd0 hs aa]
 ·rw[hv,DV hd0 hs aa]
theorem adK (hn:n<2^41) (hm':m<2^41) (K:Nat):aP P 90 K [.rat q n,.rat r m] [] (aK (.rat (q*r) (n+m)) []):=by
 refine kg fun⟨hq,hr,_⟩=>?_
 have hq:Sz q n:=hq
 have hr:Sz r m:=hr
 have d1:=q.den_nz
 have d2:=r.den_nz
 have a1:nl q.num.natAbs<2^38:=fQ hq.1 aa
 have a2:nl q.den<2^38:=fQ hq.2 aa
 have b1:nl r.num.natAbs<2^38:=fQ hr.1 aa
 have b2:nl r.den<2^38:=fQ hr.2 aa
 have m1:nl (q.num.natAbs*r.num.natAbs)<2^38:=fQ (nW hq.1 hr.1) aa
 have m3:nl (q.den*r.den)<2^38:=fQ (nW hq.2 hr.2) aa
 have hv:sQ (decide (q<0)!=decide (r<0)) (q.num.natAbs*r.num.natAbs) (q.den*r.den)=q*r:=by rw[<-CS,ki,ki]
 refine bZ hT sY hm abk rfl aW rfl 60 WD (fun _=>?_) K []
 simp only[af.all,aA]
 exact⟨⟨aa,aa,aa,aa,aa,aa,aa,aa,aa,aa,m1,m3,Nat.mul_ne_zero d1 d2,aa⟩,aa,dK hv (hq.mul hr)⟩
theorem SC (hn:n<2^41) (hm':m<2^41) (K:Nat):aP P 27 K [.rat q n,.rat r m] [] (aK (.int .i64 (iy q r)) []):=by
 refine kg fun⟨hq,hr,_⟩=>?_
 have hq:Sz q n:=hq
 have hr:Sz r m:=hr
 have a1:nl q.num.natAbs<2^38:=fQ hq.1 aa
 have a2:nl q.den<2^38:=fQ hq.2 aa
 have b1:nl r.num.natAbs<2^38:=fQ hr.1 aa
 have b2:nl r.den<2^38:=fQ hr.2 aa
 have m1:nl (q.num.natAbs*r.den)<2^38:=fQ (nW hq.1 hr.2) aa
 have m2:nl (r.num.natAbs*q.den)<2^38:=fQ (nW hr.1 hq.2) aa
 refine bZ hT sY hm ZT rfl aW rfl 60 Rk (fun _=>?_) K []
 simp only[af.all,aA,bne_iff_ne,ne_eq,bne_eq_false_iff_eq]
 refine⟨⟨aa,aa⟩,fun hs=>⟨fun hl=>bN ?_,fun hl=>bN ?_⟩,fun hs=>⟨⟨aa,aa,aa,aa,aa,aa,aa,aa,aa,aa⟩,aa,fun hc=>bN ?_,fun hc=>bN ?_⟩⟩
 ·rw[yR hs,if_pos (of_decide_eq_true hl)]
 ·rw[yR hs,if_neg (of_decide_eq_false hl)]
 ·rw[oe hs,if_pos (of_decide_eq_true hc),zQ]
 ·rw[oe hs,if_neg (of_decide_eq_false hc)]
end ops
theorem Ke {x y:Int} (hy:y≠0):sQ (decide (x<0)!=decide (y<0)) x.natAbs y.natAbs=(x:Rat)/(y:Rat):=by
 have h:=Bl (x:Rat) (y:Rat) (by simpa using hy)
 have c:∀{z:Int},decide ((z:Rat)<0)=decide (z<0):=fun {z}=>by rw[decide_eq_decide,iW,Rat.num_intCast]
 rw[c,c,Rat.num_intCast,Rat.num_intCast,Rat.den_intCast,Rat.den_intCast,Nat.mul_one,Nat.one_mul]at h
 exact h
theorem FI {x y:Int} (h1:-2^63<=x) (h2:x<2^63) (h3:-2^63<=y) (h4:y<2^63) (hy:y≠0):Sz ((x:Rat)/(y:Rat)) 64:=by
 rw[<-Ke hy];exact Eo aa aa aa
theorem Vk {x y:Int} (h1:-2^63<=x) (h2:x<2^63) (h3:-2^63<=y) (h4:y<2^63) (K:Nat):aP P 103 K [.int .i64 x,.int .i64 y] [] (aK (.tuple [.rat ((x:Rat)/(y:Rat)) 64,.int .i64 (if y=0 then 3 else 0)]) []):=by
 refine bZ hT sY hm PL rfl aW rfl 60 QJ (fun _=>?_) K []
 simp only[af.all,aA,beq_iff_eq,beq_eq_false_iff_ne,ne_eq]
 refine⟨fun hb=>⟨aa,aa,?_,bN (by rw[if_pos hb]),trivial⟩,fun hb=>⟨⟨h1,h2⟩,⟨h3,h4⟩,⟨fQ (n:=64) aa aa,fQ (n:=64) aa aa,aa,aa⟩,aa,dK (Ke hb) (FI h1 h2 h3 h4 hb),bN (by rw[if_neg hb]),trivial⟩⟩
 rw[hb,show((x:Rat)/((0:Int):Rat))=0 by rw[Rat.intCast_zero,Rat.div_def,Rat.inv_zero,Rat.mul_zero]]
 exact lV
theorem aeG {n:Int} (h1:-2^63<=n) (h2:n<2^63) (K:Nat):aP P 23 K [.int .i64 n] [] (aK (.rat (n:Rat) (max 1 (bK n.natAbs))) []):=by
 refine bZ hT sY hm Ve rfl aW rfl 60 aaG (fun _=>?_) K []
 simp only[af.all,aA]
 refine⟨⟨h1,h2⟩,aa,aa,qX BZ ?_ (by rw[Rat.num_intCast]) (by rw[Rat.den_intCast,if_pos rfl])⟩
 rw[decide_eq_decide,iW,Rat.num_intCast]
theorem Qk:bf P J1 103:=by
 refine cJ fun K args r hk hs _=>?_
 split at hs
 ·simp only[ay]at hs
  subst hs
  exact fun need=>Vk need.1 need.2.1 need.2.2.1 need.2.2.2 K trivial
 ·simp at hs
theorem aa4:bf P KH 92:=by
 refine cJ fun K args r hk hs _=>?_
 split at hs
 ·simp only[ay]at hs
  subst hs
  exact fun need=>G9 need.1 need.2 K trivial
 ·simp at hs
theorem KZ:bI P Dl:=aL aa4 (aL zk (aL Qk b9))
theorem Pd {q r:Rat} {n m:Nat} (hn:n<2^41) (hm':m<2^41) (K:Nat):aP P 53 K [.rat q n,.rat r m] [] (aK (.rat (q-r) (n+m+1)) []):=by
 refine bZ hT KZ hm Tb rfl aW rfl 60 NM (fun _=>?_) K []
 simp only[af.all,aA]
 exact⟨⟨aa,aa,hn,hm',aa⟩,aa,ef (by rw[Rat.sub_eq_add_neg])⟩
theorem Xm {x y:Int} (h1:-2^63<=x) (h2:x<2^63) (h3:-2^63<=y) (h4:y<2^63) (K:Nat):aP P 46 K [.int .i64 x,.int .i64 y] [] (aK (.rat ((x:Rat)/(y:Rat)) 64) []):=by
 refine bZ hT KZ hm R7 rfl aW rfl 60 Q1 (fun _=>?_) K []
 simp only[af.all,aA]
 exact⟨⟨h1,h2,h3,h4,aa⟩,⟨aa,aa⟩,aa,.refl _⟩
def Ef:Spec:=bU fun l=>match l with
 |[.int .i64 n]=>some (aK (.rat (n:Rat) (max 1 (bK n.natAbs))) [-2^63<=n,n<2^63])
 |_=>none
theorem Ii:bf P Ef 23:=by
 refine cJ fun K args r hk hs _=>?_
 split at hs
 ·simp only[ay]at hs
  subst hs
  exact fun need=>aeG need.1 need.2 K trivial
 ·simp at hs
def yd:Spec:=bU fun l=>match l with
 |[.int .i64 x,.int .i64 y]=>some (aK (.rat ((x:Rat)/(y:Rat)) 64) [-2^63<=x,x<2^63,-2^63<=y,y<2^63])
 |_=>none
theorem CK:bf P yd 46:=by
 refine cJ fun K args r hk hs _=>?_
 split at hs
 ·simp only[ay]at hs
  subst hs
  exact fun need=>Xm need.1 need.2.1 need.2.2.1 need.2.2.2 K trivial
 ·simp at hs
end Go.Am.B
